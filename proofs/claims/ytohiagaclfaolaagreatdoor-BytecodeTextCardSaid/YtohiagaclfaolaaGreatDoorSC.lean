import Derived.Shelf.Strings.Builder1
import Derived.Shelf.Strings.Builder2
import Derived.Shelf.Strings.OnBuilder
import Derived.Shelf.Strings.BuilderF
import Derived.Shelf.Strings.BuilderK
import Derived.Shelf.Utf8.RuneCount
import Derived.Shelf.Strings.Builder2Cap
import Derived.Shelf.Strconv.Atoi
import Derived.Shelf.Strconv.Itoa0
import Derived.Shelf.Strconv.Itoa1
import Derived.Shelf.LaysM
import Derived.Shelf.Strconv.Itoa2
import Derived.Shelf.Strconv.Itoa3
import Derived.Shelf.Strconv.AtoiErrFast
import Derived.Shelf.Strconv.ParseIntEmpty
import Derived.Shelf.Strconv.AtoiFail
import Derived.Shelf.Strconv.Clone
import Derived.Shelf.Strconv.SyntaxError
import Derived.Shelf.LaysC
import Derived.Shelf.Strconv.ToError
import Derived.Shelf.Strconv.AtoiErr
import Derived.Shelf.Strconv.ErrVar
import Derived.Shelf.Strconv.Lower
import Derived.Shelf.Strconv.ParseUint10
import Derived.Shelf.Strconv.ParseUint10Empty
import Derived.Shelf.Strconv.ParseUint10Any
import Derived.Shelf.Strconv.ParseInt10
import Derived.Shelf.Strconv.AtoiLong
import Derived.Shelf.Strconv.AtoiInnerAll
import Derived.Shelf.Strconv.RangeError
import Derived.Shelf.Strconv.ToErrorRange
import Derived.Shelf.Strconv.AtoiAll
import Derived.Shelf.Strconv.ErrVarAll
import Derived.Shelf.Strconv.ParseUintEmpty
import Derived.Shelf.Strconv.ParseUint10b64
import Derived.Shelf.Strings.Search1
import Derived.Shelf.Strings.Search2
import Derived.Shelf.Strings.Search3
import Derived.Shelf.Strings.Cut
import Derived.Shelf.Strings.Count
import Derived.Shelf.Strings.Shaped
import Derived.Shelf.Unicode.DecodeSlow
import Derived.Test.YtohiagaclfaolaaGreatDoorProg
import Derived.Test.YtohiagaclfaolaaGreatDoorSB
import Derived.Test.YtohiagaclfaolaaGreatDoorSA
import Derived.Lib.AtoiAll
import Derived.Lib.ItoaNum
import Derived.Lib.ItoaLen
import Derived.Tactics
import Derived.Tactics2
import Derived.Defers
import Derived.Recover
import Derived.Laws.Pointers
import Derived.Lib.FrozenHead
import Derived.WalkKit

set_option linter.all false

namespace Go.Proofs
open Go.Shelf
def Tryz.lays156_ren:Go.Shelf.Ren:=⟨fun|156=>82|165=>104|166=>47|169=>49|240=>80|241=>115|276=>102|277=>127|n=>n,fun|31=>117|9=>9|3=>3|4=>4|0=>0|20=>20|72=>80|76=>83|70=>78|37=>27|75=>82|127=>119|164=>140|5=>5|80=>86|n=>n,fun|n=>n⟩
theorem Tryz.lays156:Go.Proofs.Lays.n156 Tryz.prog Tryz.lays156_ren:={
  mixed:=by kernel_rfl
  f156:=Tryz.func82.trans (congrArg some (by kernel_rfl))
  f165:=Tryz.func104.trans (congrArg some (by kernel_rfl))
  f166:=Tryz.func47.trans (congrArg some (by kernel_rfl))
  f169:=Tryz.func49.trans (congrArg some (by kernel_rfl))
  f240:=Tryz.func80.trans (congrArg some (by kernel_rfl))
  f241:=Tryz.func115.trans (congrArg some (by kernel_rfl))
  f276:=Tryz.func102.trans (congrArg some (by kernel_rfl))
  f277:=Tryz.func127.trans (congrArg some (by kernel_rfl))
  t0:=Tryz.underlying0
  a0:=Tryz.isAgg0
  z0:=Tryz.sizeOf0
  v0:=Tryz.zeroValue0
  t3:=Tryz.underlying3
  a3:=Tryz.isAgg3
  z3:=Tryz.sizeOf3
  v3:=Tryz.zeroValue3
  t4:=Tryz.underlying4
  a4:=Tryz.isAgg4
  z4:=Tryz.sizeOf4
  v4:=Tryz.zeroValue4
  t9:=Tryz.underlying9
  a9:=Tryz.isAgg9
  z9:=Tryz.sizeOf9
  v9:=Tryz.zeroValue9
  t20:=Tryz.underlying20
  a20:=Tryz.isAgg20
  z20:=Tryz.sizeOf20
  v20:=Tryz.zeroValue20
  t31:=Tryz.underlying117
  a31:=Tryz.isAgg117
  z31:=Tryz.sizeOf117
  v31:=Tryz.zeroValue117
  t37:=Tryz.underlying27
  a37:=Tryz.isAgg27
  z37:=Tryz.sizeOf27
  v37:=Tryz.zeroValue27
  t70:=Tryz.underlying78
  a70:=Tryz.isAgg78
  z70:=Tryz.sizeOf78
  v70:=Tryz.zeroValue78
  t72:=Tryz.underlying80
  a72:=Tryz.isAgg80
  z72:=Tryz.sizeOf80
  v72:=Tryz.zeroValue80
  t75:=Tryz.underlying82
  a75:=Tryz.isAgg82
  z75:=Tryz.sizeOf82
  v75:=Tryz.zeroValue82
  t76:=Tryz.underlying83
  a76:=Tryz.isAgg83
  z76:=Tryz.sizeOf83
  v76:=Tryz.zeroValue83
  t127:=Tryz.underlying119
  a127:=Tryz.isAgg119
  z127:=Tryz.sizeOf119
  v127:=Tryz.zeroValue119
  t164:=Tryz.underlying140
  a164:=Tryz.isAgg140
  z164:=Tryz.sizeOf140
  v164:=Tryz.zeroValue140}
theorem Tryz.Builder_Extra_156:Builder.Extra Tryz.prog Tryz.lays156_ren:={
  sizeBuilder:=by kernel_rfl
  liesBuilder:=by kernel_rfl
  t5:=Tryz.underlying5
  a5:=Tryz.isAgg5
  z5:=Tryz.sizeOf5
  v5:=Tryz.zeroValue5
  infoByte:=by kernel_rfl
  cellsByte:=by kernel_rfl
  sizeByte:=by kernel_rfl
  neB5:=by decide}
open Go.RowKit in
theorem Tryz.strings_Join_none (a:Option Addr) (c:Nat) (sep:ByteArray) (w:World):
    Calls Tryz.prog 82 #[.slice a 0 c,.string sep] w fun e w'=>e= .returned (.string ⟨#[]⟩)∧w'=w:=Any.strings_Join_none Tryz.lays156 Tryz.Builder_Extra_156 a c sep w
open Go.RowKit in
theorem Tryz.strings_Join (bk o c:Nat) (xs:List ByteArray) (sep:ByteArray) (w:World) (hcells:∀ (j:Nat) x,xs[j]? =some x→w.cell? ⟨bk,o+j,none⟩=some (.string x)) (hbk:bk<w.heap.size) (hN:xs.length≤140737488355328) (hcap:xs.length≤c) (hlen:(Lib.join (xs.map (·.data.toList)) sep.data.toList).length≤140737488355328):
    Calls Tryz.prog 82 #[.slice (some ⟨bk,o,none⟩) xs.length c,.string sep] w fun e w'=>e= .returned (.string ⟨(Lib.join (xs.map (·.data.toList)) sep.data.toList).toArray⟩)∧Below w.heap.size w w':=Any.strings_Join Tryz.lays156 Tryz.Builder_Extra_156 bk o c xs sep w hcells hbk hN hcap hlen
def Tryz.laysM171_ren:Go.Shelf.Ren:=⟨fun|171=>81|243=>103|246=>114|283=>123|284=>124|285=>125|286=>126|129=>137|317=>136|318=>138|319=>139|320=>140|337=>150|338=>151|n=>n,fun|3=>3|9=>9|2=>2|4=>4|171=>161|0=>0|53=>95|37=>27|5=>5|173=>163|212=>172|51=>166|20=>20|213=>173|46=>131|232=>192|233=>193|n=>n,fun|17=>1|18=>4|19=>5|n=>n⟩
theorem Tryz.laysM171:Go.Proofs.LaysM.n171 Tryz.prog Tryz.laysM171_ren:={
  mixed:=by kernel_rfl
  f129:=Tryz.func137.trans (congrArg some (by kernel_rfl))
  f171:=Tryz.func81.trans (congrArg some (by kernel_rfl))
  f243:=Tryz.func103.trans (congrArg some (by kernel_rfl))
  f246:=Tryz.func114.trans (congrArg some (by kernel_rfl))
  f283:=Tryz.func123.trans (congrArg some (by kernel_rfl))
  f284:=Tryz.func124.trans (congrArg some (by kernel_rfl))
  f285:=Tryz.func125.trans (congrArg some (by kernel_rfl))
  f286:=Tryz.func126.trans (congrArg some (by kernel_rfl))
  f317:=Tryz.func136.trans (congrArg some (by kernel_rfl))
  f318:=Tryz.func138.trans (congrArg some (by kernel_rfl))
  f319:=Tryz.func139.trans (congrArg some (by kernel_rfl))
  f320:=Tryz.func140.trans (congrArg some (by kernel_rfl))
  f337:=Tryz.func150.trans (congrArg some (by kernel_rfl))
  f338:=Tryz.func151.trans (congrArg some (by kernel_rfl))
  t0:=Tryz.underlying0
  a0:=Tryz.isAgg0
  z0:=Tryz.sizeOf0
  v0:=Tryz.zeroValue0
  t2:=Tryz.underlying2
  a2:=Tryz.isAgg2
  z2:=Tryz.sizeOf2
  v2:=Tryz.zeroValue2
  t3:=Tryz.underlying3
  a3:=Tryz.isAgg3
  z3:=Tryz.sizeOf3
  v3:=Tryz.zeroValue3
  t4:=Tryz.underlying4
  a4:=Tryz.isAgg4
  z4:=Tryz.sizeOf4
  v4:=Tryz.zeroValue4
  t5:=Tryz.underlying5
  a5:=Tryz.isAgg5
  z5:=Tryz.sizeOf5
  v5:=Tryz.zeroValue5
  t9:=Tryz.underlying9
  a9:=Tryz.isAgg9
  z9:=Tryz.sizeOf9
  v9:=Tryz.zeroValue9
  t20:=Tryz.underlying20
  a20:=Tryz.isAgg20
  z20:=Tryz.sizeOf20
  v20:=Tryz.zeroValue20
  t37:=Tryz.underlying27
  a37:=Tryz.isAgg27
  z37:=Tryz.sizeOf27
  v37:=Tryz.zeroValue27
  t46:=Tryz.underlying131
  a46:=Tryz.isAgg131
  z46:=Tryz.sizeOf131
  v46:=Tryz.zeroValue131
  t51:=Tryz.underlying166
  a51:=Tryz.isAgg166
  z51:=Tryz.sizeOf166
  v51:=Tryz.zeroValue166
  t53:=Tryz.underlying95
  a53:=Tryz.isAgg95
  z53:=Tryz.sizeOf95
  v53:=Tryz.zeroValue95
  t171:=Tryz.underlying161
  a171:=Tryz.isAgg161
  z171:=Tryz.sizeOf161
  v171:=Tryz.zeroValue161
  t173:=Tryz.underlying163
  a173:=Tryz.isAgg163
  z173:=Tryz.sizeOf163
  v173:=Tryz.zeroValue163
  t212:=Tryz.underlying172
  a212:=Tryz.isAgg172
  z212:=Tryz.sizeOf172
  v212:=Tryz.zeroValue172
  t213:=Tryz.underlying173
  a213:=Tryz.isAgg173
  z213:=Tryz.sizeOf173
  t232:=Tryz.underlying192
  a232:=Tryz.isAgg192
  z232:=Tryz.sizeOf192
  v232:=Tryz.zeroValue192
  t233:=Tryz.underlying193
  a233:=Tryz.isAgg193
  z233:=Tryz.sizeOf193
  v233:=Tryz.zeroValue193
  g17:=by kernel_rfl
  g18:=by kernel_rfl
  g19:=by kernel_rfl
  i0:=by kernel_rfl
  i2:=by kernel_rfl
  i3:=by kernel_rfl
  i4:=by kernel_rfl
  i5:=by kernel_rfl
  i9:=by kernel_rfl
  i20:=by kernel_rfl
  i37:=by kernel_rfl
  i46:=by kernel_rfl
  i51:=by kernel_rfl
  i53:=by kernel_rfl
  i171:=by kernel_rfl
  i173:=by kernel_rfl
  i212:=by kernel_rfl
  i232:=by kernel_rfl
  i233:=by kernel_rfl
  m17:=by kernel_rfl
  m18:=by kernel_rfl
  m19:=by kernel_rfl}
open Go.RowKit Go.Sort Go.Lib in
theorem Tryz.strconv_Itoa (n:Int) (h0: -9223372036854775808≤n) (h1:n≤9223372036854775807) (w:World) (htab:Lib.TabIs Tryz.prog w "internal/strconv.uint64pow10" .u64 Lib.pow10Tab):
    Calls Tryz.prog 81 #[.int .i64 n] w fun e w'=>e= .returned (.string ⟨(Lib.itoa n).toArray⟩)∧∃ k os,w'=grow (w.drewN k) os:=Any.strconv_Itoa Tryz.laysM171 n h0 h1 w htab
def Tryz.laysC172_ren:Go.Shelf.Ren:=⟨fun|172=>121|244=>133|245=>134|247=>144|279=>145|280=>146|281=>147|282=>148|287=>153|316=>154|171=>81|205=>155|321=>156|322=>157|243=>103|246=>114|283=>123|284=>124|285=>125|286=>126|129=>137|317=>136|318=>138|319=>139|320=>140|337=>150|338=>151|n=>n,fun|9=>9|3=>3|75=>82|76=>83|4=>4|5=>5|167=>178|37=>27|0=>0|85=>179|2=>2|168=>181|53=>95|175=>186|46=>131|210=>190|127=>119|145=>201|143=>199|21=>21|171=>161|173=>163|212=>172|51=>166|20=>20|213=>173|232=>192|233=>193|80=>86|n=>n,fun|15=>2|16=>3|17=>1|18=>4|19=>5|n=>n⟩
theorem Tryz.laysC172:Go.Proofs.LaysC.n172 Tryz.prog Tryz.laysC172_ren:={
  mixed:=by kernel_rfl
  f129:=Tryz.func137.trans (congrArg some (by kernel_rfl))
  f171:=Tryz.func81.trans (congrArg some (by kernel_rfl))
  f172:=Tryz.func121.trans (congrArg some (by kernel_rfl))
  f205:=Tryz.func155.trans (congrArg some (by kernel_rfl))
  f243:=Tryz.func103.trans (congrArg some (by kernel_rfl))
  f244:=Tryz.func133.trans (congrArg some (by kernel_rfl))
  f245:=Tryz.func134.trans (congrArg some (by kernel_rfl))
  f246:=Tryz.func114.trans (congrArg some (by kernel_rfl))
  f247:=Tryz.func144.trans (congrArg some (by kernel_rfl))
  f279:=Tryz.func145.trans (congrArg some (by kernel_rfl))
  f280:=Tryz.func146.trans (congrArg some (by kernel_rfl))
  f281:=Tryz.func147.trans (congrArg some (by kernel_rfl))
  f282:=Tryz.func148.trans (congrArg some (by kernel_rfl))
  f283:=Tryz.func123.trans (congrArg some (by kernel_rfl))
  f284:=Tryz.func124.trans (congrArg some (by kernel_rfl))
  f285:=Tryz.func125.trans (congrArg some (by kernel_rfl))
  f286:=Tryz.func126.trans (congrArg some (by kernel_rfl))
  f287:=Tryz.func153.trans (congrArg some (by kernel_rfl))
  f316:=Tryz.func154.trans (congrArg some (by kernel_rfl))
  f317:=Tryz.func136.trans (congrArg some (by kernel_rfl))
  f318:=Tryz.func138.trans (congrArg some (by kernel_rfl))
  f319:=Tryz.func139.trans (congrArg some (by kernel_rfl))
  f320:=Tryz.func140.trans (congrArg some (by kernel_rfl))
  f321:=Tryz.func156.trans (congrArg some (by kernel_rfl))
  f322:=Tryz.func157.trans (congrArg some (by kernel_rfl))
  f337:=Tryz.func150.trans (congrArg some (by kernel_rfl))
  f338:=Tryz.func151.trans (congrArg some (by kernel_rfl))
  t0:=Tryz.underlying0
  a0:=Tryz.isAgg0
  z0:=Tryz.sizeOf0
  v0:=Tryz.zeroValue0
  t2:=Tryz.underlying2
  a2:=Tryz.isAgg2
  z2:=Tryz.sizeOf2
  v2:=Tryz.zeroValue2
  t3:=Tryz.underlying3
  a3:=Tryz.isAgg3
  z3:=Tryz.sizeOf3
  v3:=Tryz.zeroValue3
  t4:=Tryz.underlying4
  a4:=Tryz.isAgg4
  z4:=Tryz.sizeOf4
  v4:=Tryz.zeroValue4
  t5:=Tryz.underlying5
  a5:=Tryz.isAgg5
  z5:=Tryz.sizeOf5
  v5:=Tryz.zeroValue5
  t9:=Tryz.underlying9
  a9:=Tryz.isAgg9
  z9:=Tryz.sizeOf9
  v9:=Tryz.zeroValue9
  t20:=Tryz.underlying20
  a20:=Tryz.isAgg20
  z20:=Tryz.sizeOf20
  v20:=Tryz.zeroValue20
  t21:=Tryz.underlying21
  a21:=Tryz.isAgg21
  z21:=Tryz.sizeOf21
  v21:=Tryz.zeroValue21
  t37:=Tryz.underlying27
  a37:=Tryz.isAgg27
  z37:=Tryz.sizeOf27
  v37:=Tryz.zeroValue27
  t46:=Tryz.underlying131
  a46:=Tryz.isAgg131
  z46:=Tryz.sizeOf131
  v46:=Tryz.zeroValue131
  t51:=Tryz.underlying166
  a51:=Tryz.isAgg166
  z51:=Tryz.sizeOf166
  v51:=Tryz.zeroValue166
  t53:=Tryz.underlying95
  a53:=Tryz.isAgg95
  z53:=Tryz.sizeOf95
  v53:=Tryz.zeroValue95
  t75:=Tryz.underlying82
  a75:=Tryz.isAgg82
  z75:=Tryz.sizeOf82
  v75:=Tryz.zeroValue82
  t76:=Tryz.underlying83
  a76:=Tryz.isAgg83
  z76:=Tryz.sizeOf83
  v76:=Tryz.zeroValue83
  t85:=Tryz.underlying179
  a85:=Tryz.isAgg179
  z85:=Tryz.sizeOf179
  v85:=Tryz.zeroValue179
  t127:=Tryz.underlying119
  a127:=Tryz.isAgg119
  z127:=Tryz.sizeOf119
  v127:=Tryz.zeroValue119
  t143:=Tryz.underlying199
  a143:=Tryz.isAgg199
  z143:=Tryz.sizeOf199
  v143:=Tryz.zeroValue199
  t145:=Tryz.underlying201
  a145:=Tryz.isAgg201
  z145:=Tryz.sizeOf201
  v145:=Tryz.zeroValue201
  t167:=Tryz.underlying178
  a167:=Tryz.isAgg178
  z167:=Tryz.sizeOf178
  v167:=Tryz.zeroValue178
  t168:=Tryz.underlying181
  a168:=Tryz.isAgg181
  z168:=Tryz.sizeOf181
  v168:=Tryz.zeroValue181
  t171:=Tryz.underlying161
  a171:=Tryz.isAgg161
  z171:=Tryz.sizeOf161
  v171:=Tryz.zeroValue161
  t173:=Tryz.underlying163
  a173:=Tryz.isAgg163
  z173:=Tryz.sizeOf163
  v173:=Tryz.zeroValue163
  t175:=Tryz.underlying186
  a175:=Tryz.isAgg186
  z175:=Tryz.sizeOf186
  v175:=Tryz.zeroValue186
  t210:=Tryz.underlying190
  a210:=Tryz.isAgg190
  z210:=Tryz.sizeOf190
  v210:=Tryz.zeroValue190
  t212:=Tryz.underlying172
  a212:=Tryz.isAgg172
  z212:=Tryz.sizeOf172
  v212:=Tryz.zeroValue172
  t213:=Tryz.underlying173
  a213:=Tryz.isAgg173
  z213:=Tryz.sizeOf173
  t232:=Tryz.underlying192
  a232:=Tryz.isAgg192
  z232:=Tryz.sizeOf192
  v232:=Tryz.zeroValue192
  t233:=Tryz.underlying193
  a233:=Tryz.isAgg193
  z233:=Tryz.sizeOf193
  v233:=Tryz.zeroValue193
  g15:=by kernel_rfl
  g16:=by kernel_rfl
  g17:=by kernel_rfl
  g18:=by kernel_rfl
  g19:=by kernel_rfl
  t80:=Tryz.underlying86
  a80:=Tryz.isAgg86
  z80:=Tryz.sizeOf86
  v80:=Tryz.zeroValue86
  i0:=by kernel_rfl
  i2:=by kernel_rfl
  i3:=by kernel_rfl
  i4:=by kernel_rfl
  i5:=by kernel_rfl
  i9:=by kernel_rfl
  i20:=by kernel_rfl
  i21:=by kernel_rfl
  i37:=by kernel_rfl
  i46:=by kernel_rfl
  i51:=by kernel_rfl
  i53:=by kernel_rfl
  i75:=by kernel_rfl
  i76:=by kernel_rfl
  i80:=by kernel_rfl
  i85:=by kernel_rfl
  i127:=by kernel_rfl
  i143:=by kernel_rfl
  i145:=by kernel_rfl
  i167:=by kernel_rfl
  i168:=by kernel_rfl
  i171:=by kernel_rfl
  i173:=by kernel_rfl
  i175:=by kernel_rfl
  i210:=by kernel_rfl
  i212:=by kernel_rfl
  i232:=by kernel_rfl
  i233:=by kernel_rfl
  m15:=by kernel_rfl
  m16:=by kernel_rfl
  m17:=by kernel_rfl
  m18:=by kernel_rfl
  m19:=by kernel_rfl
  c0:=by kernel_rfl
  c2:=by kernel_rfl
  c3:=by kernel_rfl
  c4:=by kernel_rfl
  c5:=by kernel_rfl
  c9:=by kernel_rfl
  c20:=by kernel_rfl
  c21:=by kernel_rfl
  c37:=by kernel_rfl
  c46:=by kernel_rfl
  c51:=by kernel_rfl
  c53:=by kernel_rfl
  c75:=by kernel_rfl
  c76:=by kernel_rfl
  c80:=by kernel_rfl
  c85:=by kernel_rfl
  c127:=by kernel_rfl
  c143:=by kernel_rfl
  c145:=by kernel_rfl
  c167:=by kernel_rfl
  c168:=by kernel_rfl
  c171:=by kernel_rfl
  c173:=by kernel_rfl
  c175:=by kernel_rfl
  c210:=by kernel_rfl
  c212:=by kernel_rfl
  c213:=by kernel_rfl
  c232:=by kernel_rfl
  c233:=by kernel_rfl}
open Go.RowKit in
theorem Tryz.strconv_Atoi_ok (s:ByteArray) (hmax:s.size≤9223372036854775806) (v:Int) (h:Lib.atoiAll s.data.toList= .ok v) (w:World):
    Calls Tryz.prog 121 #[.string s] w fun e w'=>e= .returned (.tuple #[.int .i64 v,.nilIface])∧(w'=w∨∃ t,w'=Lib.bytesWorld w 5 t):=Any.strconv_Atoi_ok Tryz.laysC172 s hmax v h w
end Go.Proofs

namespace Go.Proofs.YtohiagaclfaolaaGreatDoor.Tx
open Go.Proofs.YtohiagaclfaolaaGreatDoor
open Go Go.Fw
set_option maxRecDepth 20000
theorem pc_below {P:Program} {f:FuncId} {args:List AV} {v:Value} (h:∀ (C:Nat→Nat→Option Value) (w:World) (vs:List Value),RL C args vs→(∀ k o u,C k o=some u→w.cell? ⟨k,o,none⟩=some u)→Calls P f vs.toArray w fun e w'=>e= .returned v∧RowKit.Below w.heap.size w w'):PC P f args (.lit v):=by
  intro C w vs hl hin
  refine (h C w vs hl hin.1).mono ?_
  rintro e w' ⟨rfl,hb⟩
  have hm:=More.of_below hb
  exact ⟨v,C,rfl,CLe.refl _,.lit _,⟨fun k o u hu=>hm.cell (hin.1 k o u hu),hin.2.up hm.block⟩,hm,fun _ _ _=>rfl⟩
theorem lit1 {C:Nat→Nat→Option Value} {a:Value} {vs:List Value} (h:RL C [.lit a] vs):vs=[a]:=by
  obtain ⟨h1,h2⟩:=h
  match vs,h1 with
  |[x],_=>have h:=h2 0 (by simp);simp only [List.getD_cons_zero] at h;cases h;rfl
theorem below_refl (w:World):RowKit.Below w.heap.size w w:=More.below (More.refl w)
theorem join_pc {xs:List (List UInt8)} {sep:List UInt8} (hx:xs.length≤1000000) (hl:(Lib.join xs sep).length≤1000000):PC Tryz.prog 82 [.sl false 1 (txs xs),.lit (.string (bs sep))] (.lit (.string (bs (Lib.join xs sep)))):=by
  refine pc_below fun C w vs hv hin=>?_
  obtain ⟨h1,h2⟩:=hv
  match vs,h1 with
  |[a,b],_=>
   have ha:RC C (.sl false 1 (txs xs)) a:=h2 0 (by simp)
   have hb:RC C (.lit (.string (bs sep))) b:=h2 1 (by simp)
   have eb:b= .string (bs sep):=by
     generalize b=b at hb
     cases hb;rfl
   subst eb
   generalize hX:txs xs=X at ha
   cases ha with
   |nil full sz p=>
    have:xs=[]:=by
      cases xs with
      |nil=>rfl
      |cons x l=>cases hX
    subst this
    refine (Tryz.strings_Join_none p 0 (bs sep) w).mono ?_
    rintro e w' ⟨rfl,rfl⟩
    exact ⟨rfl,below_refl w'⟩
   |sl full sz X b off cap f hc hm hf hw hC h1' hR=>
    subst hX
    have hfl:flat (txs xs)=txs xs:=flat_lits (fun w=> .string (bs w)) xs
    have hlen:(txs xs).length=xs.length:=txs_length xs
    rw [hfl,hlen] at hC hR h1'
    have hcell:∀ (j:Nat) (x:ByteArray),(xs.map bs)[j]? =some x→w.cell? ⟨b,off+j,none⟩=some (.string x):=fun j x hj=>by
      have hj2:j<xs.length:=by have:=(List.getElem?_eq_some_iff.1 hj).1;simpa using this
      have hr:=hR j hj2
      have e:(txs xs).getD j .top= .lit (.string x):=by
        simp only [List.getElem?_map] at hj
        simp only [txs,List.getD_eq_getElem?_getD,List.getElem?_map]
        cases hq:xs[j]? with
        |none=>rw [hq] at hj;cases hj
        |some y=>rw [hq] at hj;cases hj;rfl
      rw [e] at hr
      have hv:f j= .string x:=by
        generalize f j=v at hr
        cases hr;rfl
      rw [hin _ _ _ (hC j hj2),hv]
    by_cases h0:xs.length=0
    ·have hx0:xs=[]:=List.length_eq_zero_iff.1 h0
     subst hx0
     refine (Tryz.strings_Join_none _ cap (bs sep) w).mono ?_
     rintro e w' ⟨rfl,rfl⟩
     exact ⟨rfl,below_refl w'⟩
    ·have hb:b<w.heap.size:=by
       have h:=hC 0 (by omega)
       exact World.block_lt_of_cell? w _ (hin _ _ _ h)
     have hmap:(xs.map bs).map (fun x:ByteArray=>x.data.toList)=xs:=by simp [List.map_map,Function.comp_def,data_bs]
     have hj:=Tryz.strings_Join b off cap (xs.map bs) (bs sep) w hcell hb (by rw [List.length_map];omega) (by rw [List.length_map,←hlen];exact hc) (by rw [hmap,data_bs];omega)
     rw [hmap,data_bs,List.length_map,←hlen] at hj
     exact hj.mono fun e w' h=>h
end Go.Proofs.YtohiagaclfaolaaGreatDoor.Tx

namespace Go.Proofs.YtohiagaclfaolaaGreatDoor.Tx
open Go.Proofs.YtohiagaclfaolaaGreatDoor
open Go Go.Fw
set_option maxRecDepth 20000
theorem txs_hd (w:List UInt8) (l:List (List UInt8)):(txs (w::l)).getD 0 (.lit (.string (bs [])))= .lit (.string (bs w)):=rfl
noncomputable def Z1:Env:=envJ (P:=Tryz.prog) jkT zer (fun _=>false) (fun _=>false) [] []
theorem Z1_ok:EnvOk Tryz.prog Z1:=envJOk zer_ok
theorem named_ec {b0:AObj} {n:ByteArray} {a b c:AV} {fl:Bool} {w:List UInt8} {ws:List (List UInt8)} {b2:AObj} {k:AV→List AObj→Prop} (hs:(AV.agg [.lit (.string n),a,b,c]).solid=true)
    (hc:(AV.agg [.lit (.string n),a,b,c]).cells=[.lit (.string n),a,b,c])
    (hk:k (.lit (.bool (eqS n (bs w)))) [b0,.box 117 [.sl fl 1 (txs (w::ws))],b2]):
    EC Tryz.prog 109 [.agg [.lit (.string n),a,b,c],.ref 1 0] [b0,.box 117 [.sl fl 1 (txs (w::ws))],b2] k:=by
  refine ec_fin fun hbd=>?_
  refine ecR Z1_ok (kp109) Tryz.func109 [.tmp 3] (h:=fun KF=>?_)
  unfold Z1
  repeat' (first
   |(with_reducible first|refine nx ?_|refine t_seq fun K=>?_|refine t_br (fun hc=>?_) fun hc=>?_|refine t_bx ?_|apply And.intro|intro vr)
   |((with_reducible first|refine ny ?_|refine t_dwh (h:=fun K KL=>?_));intros;simp only [go_sem,kp109,geff,hs,hc,txs_hd,txs_length,List.length_cons,yes]))
  all_goals try exact nd
  all_goals (refine nl ?_;simp only [go_sem,finE])
  exact ⟨_,_,rfl,LeA.refl _,hbd,hk⟩
end Go.Proofs.YtohiagaclfaolaaGreatDoor.Tx

namespace Go.Proofs.YtohiagaclfaolaaGreatDoor.Tx
open Go.Proofs.YtohiagaclfaolaaGreatDoor
open Go Go.Fw
set_option maxRecDepth 20000
structure FormsC (cs:List AV) (nm:Nat→ByteArray) (A C:Nat→AV) (B:Nat→Bool):Prop where
  hA:∀ i,i<16→(∃ p,A i= .sl true 1 p)∨A i= .lit (.slice none 0 0)
  hC:∀ i,i<16→(∃ p,C i= .sl true 1 p)∨C i= .lit (.slice none 0 0)
  len:cs.length=64
  at_:∀ i,i<16→(cs.drop (i*4)).take 4=[.lit (.string (nm i)),A i,.lit (.bool (B i)),C i]
  sol:∀ i,i<16→(AV.agg [.lit (.string (nm i)),A i,.lit (.bool (B i)),C i]).solid=true
  cel:∀ i,i<16→(AV.agg [.lit (.string (nm i)),A i,.lit (.bool (B i)),C i]).cells=[.lit (.string (nm i)),A i,.lit (.bool (B i)),C i]
noncomputable def ecn109:ECon Tryz.prog where
  f:=109
  c:=fun args σ k=>match args,σ with
   |[.agg [.lit (.string n),a,b,c],.ref 1 0],[b0,.box 117 [.sl fl 1 l],b2]=>match l with
    |.lit (.string w)::l'=>∃ ws,l'=txs ws∧(AV.agg [.lit (.string n),a,b,c]).solid=true∧(AV.agg [.lit (.string n),a,b,c]).cells=[.lit (.string n),a,b,c]∧k (.lit (.bool (eqS n w))) [b0,.box 117 [.sl fl 1 l],b2]
    |_=>False
   |_,_=>False
  ok:=by
   intro args σ k h
   split at h
   ·split at h
    ·rename_i w l'
     obtain ⟨ws,rfl,h1,h2,h3⟩:=h
     obtain ⟨w,rfl⟩:=bs_ex w
     exact named_ec (ws:=ws) h1 h2 h3
    ·exact h.elim
   ·exact h.elim
  fk:=fk109
theorem ecn109_f:ecn109.f=109:=rfl
theorem ecn109_c {n:ByteArray} {a b c:AV} {fl:Bool} {b0 b2:AObj} {w:List UInt8} {ws:List (List UInt8)} {k:AV→List AObj→Prop}:ecn109.c [.agg [.lit (.string n),a,b,c],.ref 1 0] [b0,.box 117 [.sl fl 1 (txs (w::ws))],b2] k=
    (∃ us,txs ws=txs us∧(AV.agg [.lit (.string n),a,b,c]).solid=true∧(AV.agg [.lit (.string n),a,b,c]).cells=[.lit (.string n),a,b,c]∧k (.lit (.bool (eqS n (bs w)))) [b0,.box 117 [.sl fl 1 (txs (w::ws))],b2]):=rfl
theorem ex_txs {ws:List (List UInt8)} {p q r:Prop}:(∃ us,txs ws=txs us∧p∧q∧r)=(p∧q∧r):=by
  apply propext
  exact ⟨fun ⟨_,_,h⟩=>h,fun h=>⟨ws,rfl,h⟩⟩
theorem ex_txs1 {ws:List (List UInt8)} {p:Prop}:(∃ us,txs ws=txs us∧p)=p:=by
  apply propext
  exact ⟨fun ⟨_,_,h⟩=>h,fun h=>⟨ws,rfl,h⟩⟩
attribute [go_sem] ecn109_f ecn109_c ex_txs ex_txs1
noncomputable def Z2:Env:=envJ (P:=Tryz.prog) jkT zer (fun _=>false) (fun _=>false) [] [ecn109]
theorem Z2_ok:EnvOk Tryz.prog Z2:=envJOk zer_ok
def idxF (nm:Nat→ByteArray) (w:List UInt8):Nat→Nat→Int
  |0,_=> -1
  |f+1,i=>if eqS (nm i) (bs w)=true then (i:Int) else idxF nm w f (i+1)
set_option maxHeartbeats 1000000 in
theorem idxf_ec {cs:List AV} {nm:Nat→ByteArray} {A C:Nat→AV} {B:Nat→Bool} (hf:FormsC cs nm A C B) {b0:AObj} {fl:Bool} {w:List UInt8} {ws:List (List UInt8)} {t:TypeId} {k:AV→List AObj→Prop}
    (hk:k (.lit (.int .i64 (idxF nm w 16 0))) [b0,.box 117 [.sl fl 1 (txs (w::ws))],.box t cs]):
    EC Tryz.prog 108 [.bsl 2 16,.fn (.func 109) [] [.ref 1 0]] [b0,.box 117 [.sl fl 1 (txs (w::ws))],.box t cs] k:=by
  generalize hR:idxF nm w 16 0=R at hk
  have h64:=hf.len
  refine ecR Z2_ok (kp108) Tryz.func108 [.tmp 4] (h:=fun KF=>?_)
  unfold Z2
  repeat' (first
   |(with_reducible first|refine nx ?_|refine t_seq fun K=>?_|refine t_br (fun hc=>?_) fun hc=>?_|refine t_bx ?_|apply And.intro|intro vr)
   |((with_reducible first|refine ny ?_|refine t_dwh (h:=fun K KL=>?_));intros;simp only [go_sem,kp108,geff]))
  all_goals try exact nd
  refine t_loopF (ι:={i:Nat // i≤16∧idxF nm w (16 - i) i=R}) (fun i=>[(8,.lit (.int .i64 i.1))]) (fun i=>[b0,.box 117 [.sl fl 1 (txs (w::ws))],.box t cs]) (fun i=>16 - i.1) ⟨0,by omega,hR⟩ ?_ ?_
  ·exact lf
  rintro ⟨i,hi,hF⟩ K0
  rcases Nat.lt_or_ge i 16 with hc|hc
  ·have g3:decide ((i:Int)<((16:Nat):Int))=true:=decide_eq_true (by omega)
   have g4:i*4+4≤cs.length:=by omega
   have ha:=hf.at_ i hc
   have hs:=hf.sol i hc
   have hl:=hf.cel i hc
   rw [show 16 - i=(15 - i)+1 by omega,idxF] at hF
   have hlt:(i:Int)<16:=by omega
   generalize B i=bi at ha hs hl
   rcases hf.hA i hc with ⟨p,e1⟩|e1<;>rcases hf.hC i hc with ⟨q,e2⟩|e2
   all_goals
     rw [e1,e2] at ha hs hl
     cases h4:eqS (nm i) (bs w) with
     |true=>
      rw [if_pos h4] at hF
      repeat' (first
       |(with_reducible first|refine nx ?_|refine t_seq fun K=>?_|refine t_br (fun hc=>?_) fun hc=>?_|refine t_bx ?_|apply And.intro|intro vr)
       |((with_reducible first|refine ny ?_|refine t_dwh (h:=fun K KL=>?_));intros;simp only [go_sem,kp108,geff,g3,hlt,g4,ha,hs,hl,h4,Int.toNat_natCast,yes]))
      all_goals try exact nd
      all_goals (refine nl ?_;simp only [go_sem])
      rw [hF];exact hk
     |false=>
      rw [if_neg (by rw [h4];decide)] at hF
      repeat' (first
       |(with_reducible first|refine nx ?_|refine t_seq fun K=>?_|refine t_br (fun hc=>?_) fun hc=>?_|refine t_bx ?_|apply And.intro|intro vr)
       |((with_reducible first|refine ny ?_|refine t_dwh (h:=fun K KL=>?_));intros;simp only [go_sem,kp108,geff,g3,hlt,g4,ha,hs,hl,h4,Int.toNat_natCast,yes]))
      all_goals try exact nd
      exact ⟨⟨i+1,by omega,by rw [←hF];congr 1;omega⟩,wf,lf⟩
  ·have g3:decide ((i:Int)<((16:Nat):Int))=false:=decide_eq_false (by omega)
   rw [show 16 - i=0 by omega,idxF] at hF
   repeat' (first
    |(with_reducible first|refine nx ?_|refine t_seq fun K=>?_|refine t_br (fun hc=>?_) fun hc=>?_|refine t_bx ?_|apply And.intro|intro vr)
    |((with_reducible first|refine ny ?_|refine t_dwh (h:=fun K KL=>?_));intros;simp only [go_sem,kp108,geff,g3]))
   all_goals try exact nd
   all_goals (refine nl ?_;simp only [go_sem])
   rw [hF];exact hk
end Go.Proofs.YtohiagaclfaolaaGreatDoor.Tx

namespace Go.Proofs.YtohiagaclfaolaaGreatDoor.Tx
open Go
def decN (acc:Nat):List UInt8→Option Nat
  |[]=>some acc
  |c::r=>if 48≤c.toNat∧c.toNat≤57 then decN (acc*10+(c.toNat - 48)) r else none
theorem decN_app:∀ (l:List UInt8) (acc:Nat) (c:UInt8),decN acc (l++[c])=(decN acc l).bind fun n=>if 48≤c.toNat∧c.toNat≤57 then some (n*10+(c.toNat - 48)) else none
  |[],acc,c=>by simp [decN]
  |b::l,acc,c=>by
   simp only [List.cons_append,decN]
   split
   ·exact decN_app l _ c
   ·rfl
theorem dig_toNat {d:Nat} (h:d<10):(UInt8.ofNat (48+d)).toNat=48+d:=by
  have:=UInt8.toNat_ofNat' (n:=48+d)
  omega
theorem decN_digits (u:Nat):decN 0 (Lib.decDigits u)=some u:=by
  induction u using Nat.strongRecOn with
  |_ u ih=>
   by_cases h:u<10
   ·rw [Lib.decDigits,dif_pos h]
    have hd:=dig_toNat h
    simp only [decN,hd]
    rw [if_pos (by omega)]
    congr 1;omega
   ·rw [Lib.decDigits,dif_neg h,decN_app,ih (u / 10) (by omega)]
    have hd:=dig_toNat (show u % 10<10 by omega)
    simp only [Option.bind_some,hd]
    rw [if_pos (by omega)]
    congr 1;omega
theorem digits_mem (u:Nat):∀ c∈Lib.decDigits u,48≤c.toNat∧c.toNat≤57:=by
  induction u using Nat.strongRecOn with
  |_ u ih=>
   by_cases h:u<10
   ·rw [Lib.decDigits,dif_pos h]
    intro c hc
    simp only [List.mem_singleton] at hc
    subst hc
    rw [dig_toNat h];omega
   ·rw [Lib.decDigits,dif_neg h]
    intro c hc
    rcases List.mem_append.1 hc with hc|hc
    ·exact ih (u / 10) (by omega) c hc
    ·simp only [List.mem_singleton] at hc
     subst hc
     rw [dig_toNat (by omega)];omega
theorem digits_ne (u:Nat):Lib.decDigits u≠[]:=by
  rw [Lib.decDigits];split<;>simp
theorem parse10:∀ (l:List UInt8) (acc u:Nat),decN acc l=some u→u<18446744073709551616→Lib.parseUint10 acc l= .ok u∧acc≤u
  |[],acc,u,h,_=>by cases h;exact ⟨rfl,Nat.le_refl _⟩
  |c::r,acc,u,h,hu=>by
   simp only [decN] at h
   split at h
   ·rename_i hc
    obtain ⟨h1,h2⟩:=parse10 r _ u h hu
    refine ⟨?_,by omega⟩
    simp only [Lib.parseUint10]
    rw [if_pos hc,if_neg (by omega),if_neg (by omega)]
    exact h1
   ·cases h
theorem digits_head {u:Nat} {c:UInt8} {r:List UInt8} (h:Lib.decDigits u=c::r):48≤c.toNat∧c.toNat≤57:=digits_mem u c (by rw [h];exact List.mem_cons_self ..)
theorem atoi_itoa {n:Int} (h0: -9223372036854775808≤n) (h1:n≤9223372036854775807):Lib.atoiAll (Lib.itoa n)= .ok n:=by
  have hp:=(parse10 _ 0 _ (decN_digits n.natAbs) (by omega)).1
  by_cases h:n<0
  ·have e:Lib.itoa n=45::Lib.decDigits n.natAbs:=by unfold Lib.itoa;rw [if_pos h]
   have h45:(45:UInt8).toNat=45:=rfl
   rw [e]
   simp only [Lib.atoiAll,Lib.parseMag,h45,or_true,if_true]
   rw [if_neg (digits_ne _),hp]
   simp only [not_true_eq_false,false_and,if_false,true_and]
   rw [if_neg (by omega)]
   congr 1;omega
  ·have e:Lib.itoa n=Lib.decDigits n.natAbs:=by unfold Lib.itoa;rw [if_neg h];congr 1;omega
   rw [e]
   cases hd:Lib.decDigits n.natAbs with
   |nil=>exact absurd hd (digits_ne _)
   |cons c r=>
    have hc:=digits_head hd
    have n45: ¬ c.toNat=45:=by omega
    have n43: ¬ c.toNat=43:=by omega
    rw [hd] at hp
    simp only [Lib.atoiAll,Lib.parseMag,n45,n43,or_self,if_false]
    rw [if_neg (by simp),hp]
    simp only [not_false_eq_true,true_and,false_and,if_false]
    rw [if_neg (by omega)]
    congr 1;omega
theorem itoa_mem {n:Int}:∀ c∈Lib.itoa n,c=45∨(48≤c.toNat∧c.toNat≤57):=by
  intro c hc
  unfold Lib.itoa at hc
  split at hc
  ·rcases List.mem_cons.1 hc with h|h
   ·exact .inl h
   ·exact .inr (digits_mem _ c h)
  ·exact .inr (digits_mem _ c hc)
theorem itoa_not {n:Int} {x:UInt8} (h: ¬ (x=45∨(48≤x.toNat∧x.toNat≤57))):x ∉ Lib.itoa n:=fun hm=>h (itoa_mem x hm)
def numS (s:List UInt8):Int:=
  let t:=if s.head? =some 45 then s.tail else s
  let sg:Int:=if s.head? =some 45 then -1 else 1
  if t.length>14 then 0 else match decN 0 t with
   |some n=>sg*n
   |none=>0
theorem digits_len:∀ (k u:Nat),u<10 ^ (k+1)→(Lib.decDigits u).length≤k+1
  |0,u,h=>by rw [Lib.decDigits,dif_pos (by simpa using h)];simp
  |k+1,u,h=>by
   rw [Lib.decDigits]
   split
   ·simp
   ·rw [List.length_append,List.length_singleton]
    have:=digits_len k (u / 10) (by rw [Nat.pow_succ] at h;omega)
    omega
theorem num_itoa {n:Int} (h0: -100000000000000<n) (h1:n<100000000000000):numS (Lib.itoa n)=n:=by
  have hl:=digits_len 13 n.natAbs (by omega)
  by_cases h:n<0
  ·have e:Lib.itoa n=45::Lib.decDigits n.natAbs:=by unfold Lib.itoa;rw [if_pos h]
   rw [e]
   simp only [numS,List.head?_cons,if_true,List.tail_cons]
   rw [if_neg (by omega),decN_digits]
   simp only;omega
  ·have e:Lib.itoa n=Lib.decDigits n.natAbs:=by unfold Lib.itoa;rw [if_neg h];congr 1;omega
   rw [e]
   have hh:(Lib.decDigits n.natAbs).head? ≠some 45:=by
     cases hd:Lib.decDigits n.natAbs with
     |nil=>simp
     |cons c r=>
      have hc:=digits_head hd
      intro hx
      simp only [List.head?_cons,Option.some.injEq] at hx
      subst hx
      exact absurd hc.1 (by decide)
   simp only [numS,if_neg hh]
   rw [if_neg (by omega),decN_digits]
   simp only;omega
end Go.Proofs.YtohiagaclfaolaaGreatDoor.Tx

namespace Go.Proofs.YtohiagaclfaolaaGreatDoor.Tx
open Go.Proofs.YtohiagaclfaolaaGreatDoor
open Go Go.Fw Go.RowKit
set_option maxRecDepth 20000
theorem rc_lit {C:Nat→Nat→Option Value} {a v:Value} (h:RC C (.lit a) v):v=a:=by
  generalize hz:AV.lit a=z at h
  cases h<;>first|(cases hz;rfl)|cases hz
theorem pc_belowT {f:FuncId} {args:List AV} {v:Value} (h:∀ (C:Nat→Nat→Option Value) (w:World) (vs:List Value),RL C args vs→inW C w→Calls Tryz.prog f vs.toArray w fun e w'=>e= .returned v∧RowKit.Below w.heap.size w w'):PC Tryz.prog f args (.lit v):=by
  intro C w vs hl hin
  refine (h C w vs hl hin).mono ?_
  rintro e w' ⟨rfl,hb⟩
  have hm:=More.of_below hb
  exact ⟨v,C,rfl,CLe.refl _,.lit _,⟨fun k o u hu=>hm.cell (hin.1 k o u hu),hin.2.up hm.block⟩,hm,fun _ _ _=>rfl⟩
theorem tabs_in {C:Nat→Nat→Option Value} {w:World} (h:inW C w):Tabs w:=h.2
theorem below_grow (w:World) (k:Nat) (os:Array Obj):RowKit.Below w.heap.size w (Go.Sort.grow (w.drewN k) os):=
  ⟨rfl,rfl,rfl,by simp [Go.Sort.grow,World.drewN],fun j hj=>by simp only [Go.Sort.grow,World.drewN];rw [Array.getElem?_append_left hj]⟩
theorem itoa_all {n:Int} (h0: -9223372036854775808≤n) (h1:n≤9223372036854775807):PC Tryz.prog 81 [.lit (.int .i64 n)] (.lit (.string (bs (Lib.itoa n)))):=by
  refine pc_belowT fun C w vs hv hin=>?_
  rw [lit1 hv]
  refine (Tryz.strconv_Itoa n h0 h1 w (tabs_in hin).pow).mono ?_
  rintro e w' ⟨rfl,k,os,rfl⟩
  exact ⟨rfl,below_grow w k os⟩
theorem lit_calls {f:FuncId} {args:List Value} {r:Value} (h:PC Tryz.prog f (args.map .lit) (.lit r)) (w:World) (hT:TbIn w):Calls Tryz.prog f args.toArray w fun e w'=>e= .returned r∧RowKit.Below w.heap.size w w':=by
  refine (h (fun _ _=>none) w args ⟨by simp,fun i hi=>?_⟩ ⟨(fun _ _ _ h=>by cases h),hT⟩).mono ?_
  ·have hi':i<args.length:=by simpa using hi
   rw [List.getD_eq_getElem?_getD,List.getD_eq_getElem?_getD,List.getElem?_map,List.getElem?_eq_getElem hi']
   exact .lit _
  ·rintro e w' ⟨v,C',rfl,_,h2,_,h4,_⟩
   rw [rc_lit h2];exact ⟨rfl,h4.below⟩
theorem atoi_bad {l:List UInt8} (hl:l.length≤1000000) (h:∀ n,Lib.atoiAll l≠ .ok n) (w:World) (hT:Tabs w):
    Calls Tryz.prog 121 #[.string (bs l)] w fun e w'=>(∃ n t v,e= .returned (.tuple #[.int .i64 n,.iface t v]))∧RowKit.Below w.heap.size w w':=by
  have hs:(bs l).size≤281474976710656:=by rw [bs_size];omega
  have hd:(bs l).data.toList=l:=data_bs l
  cases hq:Lib.atoiAll l with
  |ok n=>exact absurd hq (h n)
  |_=>
   first
     |(obtain ⟨t,p,hv⟩:=hT.syn
       refine (Any.strconv_Atoi_syntax_var Tryz.laysC172 (bs l) hs (by rw [hd];exact hq) t p w hv).mono ?_
       rintro e w' ⟨N,rfl,_,_,hb⟩
       exact ⟨⟨_,_,_,rfl⟩,hb⟩)
     |(obtain ⟨t,p,hv⟩:=hT.rng
       refine (Any.strconv_Atoi_range_var Tryz.laysC172 (bs l) hs (by rw [hd];exact hq) t p w hv).mono ?_
       rintro e w' ⟨N,rfl,_,_,hb⟩
       exact ⟨⟨_,_,_,rfl⟩,hb⟩)
theorem atoi_ok {l:List UInt8} {n:Int} (hl:l.length≤1000000) (h:Lib.atoiAll l= .ok n):PC Tryz.prog 121 [.lit (.string (bs l))] (.lit (.tuple #[.int .i64 n,.nilIface])):=by
  refine pc_belowT fun C w vs hv hin=>?_
  rw [lit1 hv]
  have hd:(bs l).data.toList=l:=data_bs l
  refine (Tryz.strconv_Atoi_ok (bs l) (by rw [bs_size];omega) n (by rw [hd];exact h) w).mono ?_
  rintro e w' ⟨rfl,rfl|⟨t,rfl⟩⟩
  ·exact ⟨rfl,below_refl _⟩
  ·exact ⟨rfl,rfl,rfl,rfl,by rw [Lib.bytesWorld_size];omega,fun j hj=>Lib.bytesWorld_at_old w 5 t j hj⟩
theorem tabs_up {w w':World} (h:Tabs w) (hb:RowKit.Below w.heap.size w w'):Tabs w':=TB.up w w' hb.block h
def wrongV:Value:= .iface 123 (.agg #[])
theorem below_trans2 {a b c:World} (h:Below a.heap.size a b) (k:Below b.heap.size b c):Below a.heap.size a c:=((More.of_below h).trans (More.of_below k)).below
theorem trim_le {l:List UInt8} {n:Nat} (hl:l.length≤n):(trimP [114] l).length≤n:=by
  unfold trimP
  split
  ·rw [List.length_drop];omega
  ·exact hl
def int? (t:List UInt8):Option Int:=match Lib.atoiAll (trimP [114] t) with
  |.ok n=>some n
  |_=>none
theorem int_some {l:List UInt8} {n:Int} (h:int? l=some n):Lib.atoiAll (trimP [114] l)= .ok n:=by
  unfold int? at h
  split at h
  ·cases h;assumption
  ·cases h
theorem int_none {l:List UInt8} (h:int? l=none) (n:Int):Lib.atoiAll (trimP [114] l)≠ .ok n:=by
  intro e
  unfold int? at h
  rw [e] at h;cases h
theorem integer_bad {l:List UInt8} (hl:l.length≤1000000) (h:int? l=none) (w:World) (hT:Tabs w):
    Calls Tryz.prog 110 #[.string (bs l)] w fun e w'=>e= .panicked [{v:=wrongV,recovered:=false}]∧RowKit.Below w.heap.size w w':=by
  have h1:=lit_calls (args:=[.string (bs l),.string (bs [114])]) (trim_pc (l:=l) (m:=[114]) (by decide)) w hT
  go_enter Tryz.func110,Tryz.ntmps110
  go_wp2_with (go_at_call 122;refine h1.mono ?_)
  rintro e w1 ⟨rfl,b1⟩
  go_wp2_with (go_at_call 121;refine (atoi_bad (trim_le hl) (int_none h) w1 (tabs_up hT b1)).mono ?_)
  rintro e w2 ⟨⟨n,t,v,rfl⟩,b2⟩
  go_wp2
  simp [Instr.panic,Oper.upon,Exit.then]
  exact ⟨rfl,rfl,below_trans2 b1 b2⟩
theorem integer_ok {l:List UInt8} {n:Int} (hl:l.length≤1000000) (h:int? l=some n) (w:World) (hT:Tabs w):
    Calls Tryz.prog 110 #[.string (bs l)] w fun e w'=>e= .returned (.int .i64 n)∧RowKit.Below w.heap.size w w':=by
  have h1:=lit_calls (args:=[.string (bs l),.string (bs [114])]) (trim_pc (l:=l) (m:=[114]) (by decide)) w hT
  go_enter Tryz.func110,Tryz.ntmps110
  go_wp2_with (go_at_call 122;refine h1.mono ?_)
  rintro e w1 ⟨rfl,b1⟩
  have h2:=lit_calls (args:=[.string (bs (trimP [114] l))]) (atoi_ok (trim_le hl) (int_some h)) w1 (tabs_up hT b1)
  go_wp2_with (go_at_call 121;refine h2.mono ?_)
  rintro e w2 ⟨rfl,b2⟩
  go_wp2
  go_ret
  exact ⟨rfl,below_trans2 b1 b2⟩
theorem r_lit {G:Gh} {a v:Value} (h:R G (.lit a) v):v=a:=by
  generalize hz:AV.lit a=z at h
  cases h with
  |clo x v h=>subst hz;exact rc_lit h
  |_=>cases hz
theorem rlg_lits {G:Gh} {args:List Value} {vs:List Value} (h:RLG G (args.map .lit) vs):vs=args:=by
  obtain ⟨h1,h2⟩:=h
  refine List.ext_getElem (by simpa using h1) fun i hi hj=>?_
  have:=h2 i (by simpa using hj)
  rw [List.getD_eq_getElem?_getD,List.getD_eq_getElem?_getD,List.getElem?_map,List.getElem?_eq_getElem hj,List.getElem?_eq_getElem hi] at this
  exact r_lit this
theorem xec_panic {X:AV→List AObj→Prop} {f:FuncId} {args:List Value} {pv:Value} {σ:List AObj} {k:AV→List AObj→Prop}
    (h:∀ w:World,Tabs w→Calls Tryz.prog f args.toArray w fun e w'=>e= .panicked [{v:=pv,recovered:=false}]∧RowKit.Below w.heap.size w w') (hX:X (.lit pv) σ):XEC Tryz.prog X f (args.map .lit) σ k:=by
  intro cx G w vs hpx hr hl
  rw [rlg_lits hl]
  refine (h w (tabs_in hr.inW)).mono ?_
  rintro e w' ⟨rfl,hb⟩
  exact ⟨pv,G,σ,.lit pv,rfl,Gh.le.refl G,hr.more (More.of_below hb),.clo _ _ (.lit _),by rw [hpx];exact hX⟩
theorem xec_ret {X:AV→List AObj→Prop} {f:FuncId} {args:List Value} {v:Value} {σ:List AObj} {k:AV→List AObj→Prop}
    (h:∀ w:World,Tabs w→Calls Tryz.prog f args.toArray w fun e w'=>e= .returned v∧RowKit.Below w.heap.size w w') (hk:k (.lit v) σ):XEC Tryz.prog X f (args.map .lit) σ k:=by
  intro cx G w vs hpx hr hl
  rw [rlg_lits hl]
  refine (h w (tabs_in hr.inW)).mono ?_
  rintro e w' ⟨rfl,hb⟩
  exact ⟨G,σ,.lit v,Gh.le.refl G,hr.more (More.of_below hb),.clo _ _ (.lit _),hk⟩
def intX (X:AV→List AObj→Prop) (s:List UInt8) (σ:List AObj) (k:AV→List AObj→Prop):Prop:=match int? s with
  |some n=>k (.lit (.int .i64 n)) σ
  |none=>X (.lit wrongV) σ
noncomputable def xcon110 (X:AV→List AObj→Prop):XCon Tryz.prog X where
  f:=110
  c:=fun args σ k=>match args with
   |[.lit (.string s)]=>(ul s).length≤1000000∧intX X (ul s) σ k
   |_=>False
  ok:=by
   intro args σ k h
   split at h
   ·rename_i s
    obtain ⟨l,rfl⟩:=bs_ex s
    rw [ul_bs] at h
    obtain ⟨hl,h⟩:=h
    unfold intX at h
    split at h
    ·rename_i n hn
     exact xec_ret (args:=[.string (bs l)]) (fun w hT=>integer_ok hl hn w hT) h
    ·rename_i hn
     exact xec_panic (args:=[.string (bs l)]) (fun w hT=>integer_bad hl hn w hT) h
   ·exact h.elim
  fk:=fk110
theorem xcon110_f {X:AV→List AObj→Prop}:(xcon110 X).f=110:=rfl
theorem xcon110_c {X:AV→List AObj→Prop} {l:List UInt8} {σ:List AObj} {k:AV→List AObj→Prop}:(xcon110 X).c [.lit (.string (bs l))] σ k=(l.length≤1000000∧intX X l σ k):=by
  show ((ul (bs l)).length≤1000000∧intX X (ul (bs l)) σ k)=_
  rw [ul_bs]
end Go.Proofs.YtohiagaclfaolaaGreatDoor.Tx

namespace Go.Proofs.YtohiagaclfaolaaGreatDoor.Tx
open Go.Proofs.YtohiagaclfaolaaGreatDoor
open Go Go.Fw Bm
set_option maxRecDepth 20000
def opW (k n:Int):List UInt8:=(if k=0 then [114] else [])++Lib.itoa n
def opI (x:Ins) (i:Nat):Int:=[x.a,x.b,x.c,x.d].getD i 0
def headW (x:Ins):List (List UInt8):=ul (namL x.code)::(if x.code=5 then [ul x.prim] else [])
def restW (x:Ins) (j:Nat):List (List UInt8):=(List.range j).map fun i=>opW ((kndS x).getD i 0) (opI x i)
def wordsB (x:Ins):List (List UInt8):=headW x++restW x (kndS x).length
def lineB (x:Ins):List UInt8:=Lib.join (wordsB x) [32]
theorem restW_succ (x:Ins) (i:Nat):restW x i++[opW ((kndS x).getD i 0) (opI x i)]=restW x (i+1):=by simp [restW,List.range_succ]
theorem bs_ul (s:ByteArray):bs (ul s)=s:=bs_data s
noncomputable def con81:PCon Tryz.prog where
  f:=81
  c:=fun
   |[.lit (.int .i64 n)]=>some (inI64 n,.lit (.string (bs (Lib.itoa n))))
   |_=>none
  ok:=by
   intro args p r hc hp
   split at hc
   ·cases hc
    exact itoa_all hp.1 hp.2
   ·cases hc
  fk:=fk81
theorem con81_f:con81.f=81:=rfl
theorem con81_c {n:Int}:con81.c [.lit (.int .i64 n)]=some (inI64 n,.lit (.string (bs (Lib.itoa n)))):=rfl
def unT:List AV→Option (List (List UInt8))
  |[]=>some []
  |.lit (.string s)::l=>(unT l).map fun m=>ul s::m
  |_::_=>none
theorem unT_txs:∀ l:List (List UInt8),unT (txs l)=some l
  |[]=>rfl
  |w::l=>by
   show (unT (txs l)).map (fun m=>ul (bs w)::m)=_
   rw [unT_txs l,ul_bs];rfl
theorem unT_inv:∀ {xs:List AV} {l:List (List UInt8)},unT xs=some l→xs=txs l
  |[],l,h=>by cases h;rfl
  |.lit (.string s)::xs,l,h=>by
   simp only [unT,Option.map_eq_some_iff] at h
   obtain ⟨m,h1,rfl⟩:=h
   rw [unT_inv h1]
   simp [txs,bs_ul]
noncomputable def con82:PCon Tryz.prog where
  f:=82
  c:=fun
   |[.sl _ 1 xs,.lit (.string sep)]=>match unT xs with
    |some l=>some (l.length≤1000000∧(Lib.join l (ul sep)).length≤1000000,.lit (.string (bs (Lib.join l (ul sep)))))
    |none=>none
   |_=>none
  ok:=by
   intro args p r hc hp
   split at hc
   ·rename_i xs sep
    split at hc
    ·rename_i l hl
     cases hc
     rw [unT_inv hl]
     have h:=join_pc (xs:=l) (sep:=ul sep) hp.1 hp.2
     rw [bs_ul] at h
     exact PC.weak h ⟨LeA.full _ _ _,LeA.refl _,trivial⟩
    ·cases hc
   ·cases hc
  fk:=fk82
theorem con82_f:con82.f=82:=rfl
theorem con82_c {b:Bool} {l:List (List UInt8)} {sep:List UInt8}:con82.c [.sl b 1 (txs l),.lit (.string (bs sep))]=some (l.length≤1000000∧(Lib.join l sep).length≤1000000,.lit (.string (bs (Lib.join l sep)))):=by
  show (match unT (txs l) with
    |some l=>some (l.length≤1000000∧(Lib.join l (ul (bs sep))).length≤1000000,AV.lit (.string (bs (Lib.join l (ul (bs sep))))))
    |none=>none)=_
  rw [unT_txs,ul_bs]
theorem con82_c32 {b:Bool} {l:List (List UInt8)}:con82.c [.sl b 1 (txs l),.lit (.string (bs [32]))]=some (l.length≤1000000∧(Lib.join l [32]).length≤1000000,.lit (.string (bs (Lib.join l [32])))):=con82_c
theorem r_bs (l:List UInt8):(⟨#[114]⟩:ByteArray)++bs l=bs (114::l):=by rw [show (⟨#[114]⟩:ByteArray)=bs [114] from rfl,bs_app];rfl
theorem itoa_len {n:Int} (h0: -9223372036854775808≤n) (h1:n≤9223372036854775807):(Lib.itoa n).length≤21:=Lib.itoa_length_le n h0 h1
theorem txs_app1 (l:List (List UInt8)) (w:List UInt8):txs l++txs [w]=txs (l++[w]):=by simp [txs]
attribute [go_sem] con82_c32 con81_f con81_c con82_f con82_c con76_f con76_c con77_f con77_c
noncomputable def Y0:Env:=envJ (P:=Tryz.prog) jkV zer (fun _=>false) (fun _=>false) [con76,con77,con81,con82] []
theorem Y0_ok:EnvOk Tryz.prog Y0:=envJOk zer_ok
structure Sm (x:Ins):Prop where
  len:(kndS x).length≤4
  n:∀ i,i<4→inI64 (opI x i)
  line:(lineB x).length≤1000000
set_option maxHeartbeats 8000000 in
theorem line_pc {x:Ins} (h:Sm x):PC Tryz.prog 48 [opV x] (.lit (.string (bs (lineB x)))):=by
  obtain ⟨hl4,hn,hll⟩:=h
  have hsu:=restW_succ x
  have hR:Lib.join (headW x++restW x (kndS x).length) [32]=lineB x:=rfl
  have hW:(headW x++restW x (kndS x).length).length≤1000000:=by
    have h1:(headW x).length≤2:=by unfold headW;split<;>simp
    have h2:(restW x (kndS x).length).length=(kndS x).length:=by simp [restW]
    rw [List.length_append];omega
  have h0:=hn 0 (by omega)
  have h1:=hn 1 (by omega)
  have h2:=hn 2 (by omega)
  have h3:=hn 3 (by omega)
  have hop:∀ i,opI x i=[x.a,x.b,x.c,x.d].getD i 0:=fun _=>rfl
  have hh:headW x=ul (namL x.code)::(if x.code=5 then [ul x.prim] else []):=rfl
  obtain ⟨k,p,a,b,c,d⟩:=x
  simp only at hh hop
  have hS:shpV ⟨k,p,a,b,c,d⟩= .tup [.agg [.lit (.string (namL k)),.sl false 1 (ints .i64 (kndS ⟨k,p,a,b,c,d⟩)),.lit (.bool (wrtB k)),.sl false 1 (ints .i64 (redS ⟨k,p,a,b,c,d⟩))],.lit (.bool (shpOk ⟨k,p,a,b,c,d⟩))]:=rfl
  simp only [opV]
  generalize headW ⟨k,p,a,b,c,d⟩=hw at*
  generalize hG:restW ⟨k,p,a,b,c,d⟩=rW at*
  have hr0:rW 0=[]:=by rw [←hG];rfl
  generalize opI ⟨k,p,a,b,c,d⟩=oI at*
  generalize kndS ⟨k,p,a,b,c,d⟩=L at*
  generalize redS ⟨k,p,a,b,c,d⟩=M at*
  generalize shpOk ⟨k,p,a,b,c,d⟩=ok at*
  generalize lineB ⟨k,p,a,b,c,d⟩=LB at*
  generalize hN:ul (namL k)=N at*
  have hrl:∀ i,(rW i).length=i:=fun i=>by rw [←hG];simp [restW]
  have hnm:namL k=bs N:=by rw [←hN,bs_ul]
  obtain ⟨q,rfl⟩:=bs_ex p
  rw [ul_bs] at hh
  have hLl:(ints .i64 L).length=L.length:=ints_length _ _
  have hc0:hw=N::(if k=5 then [q] else []):=hh
  cases hk5:(k==5) with
  |true=>
   have hq5:hw=[N,q]:=by rw [hc0,if_pos (by simpa using hk5)]
   have hwl:hw.length≤2:=by rw [hq5];simp
   refine pcR Y0_ok (kp48) Tryz.func48 [.tmp 2] (h:=fun KF=>?_)
   unfold Y0
   have htx:txs [N]++txs [q]=txs (hw++rW 0):=by rw [txs_app1,hr0,hq5,List.append_nil];rfl
   repeat' (first
    |(with_reducible first|refine nx ?_|refine t_seq fun K=>?_|refine t_br (fun hc=>?_) fun hc=>?_|refine t_bx ?_|apply And.intro|intro vr)
    |((with_reducible first|refine ny ?_|refine t_dwh (h:=fun K KL=>?_));intros;simp only [go_sem,kp48,geff,htx,hS,hnm,hk5,List.cons_append,List.nil_append,yes]))
   all_goals try exact nd
   refine t_loopF (ι:={q:Nat×Nat // q.1≤L.length}) (fun i=>[(28,.lit (.int .i64 (i.1.1:Int))),(5,.arr 2 i.1.2)]) (fun i=>[.box 50 [.lit (.int .i64 k),.lit (.string (bs q)),.lit (.int .i64 a),.lit (.int .i64 b),.lit (.int .i64 c),.lit (.int .i64 d)],.box 111 [.lit (.string (bs N)),.sl false 1 (ints .i64 L),.lit (.bool (wrtB k)),.sl false 1 (ints .i64 M)],.arr 9 1 (txs (hw++rW i.1.1)) i.1.2 false]) (fun i=>L.length - i.1.1) ⟨(0,0),by simp⟩ ?_ ?_
   ·exact lf
   rintro ⟨⟨i,v⟩,hi⟩ K0
   simp only at hi
   rcases Nat.lt_or_ge i L.length with hc|hc
   ·rcases (show i=0∨i=1∨i=2∨i=3 by omega) with rfl|rfl|rfl|rfl
    ·have hi0:((((0:Nat):Int)):Int)=0:=rfl
     have g1:decide ((0:Int)<(L.length:Int))=true:=decide_eq_true (by omega)
     have hs:=hsu 0
     have ho:oI 0=a:=hop 0
     rw [ho] at hs h0
     have hil:=itoa_len h0.1 h0.2
     have hrl0:=hrl 0
     cases g2:(L.getD 0 0==0) with
     |true=>
      rw [opW,if_pos (by simpa using g2)] at hs
      have hap:txs (hw++rW 0)++txs [(114::Lib.itoa a)]=txs (hw++rW 1):=by rw [txs_app1,List.append_assoc];exact congrArg (fun z=>txs (hw++z)) hs
      repeat' (first
       |(with_reducible first|refine nx ?_|refine t_seq fun K=>?_|refine t_br (fun hc=>?_) fun hc=>?_|refine t_bx ?_|apply And.intro|intro vr)
       |((with_reducible first|refine ny ?_|refine t_dwh (h:=fun K KL=>?_));intros;simp only [go_sem,kp48,geff,hi0,g1,g2,hap,r_bs,yes]))
      all_goals try exact nd
      exact ⟨⟨(1,v+1),by simp only;omega⟩,wf,lf⟩
     |false=>
      rw [opW,if_neg (by simpa using g2)] at hs
      have hap:txs (hw++rW 0)++txs [(Lib.itoa a)]=txs (hw++rW 1):=by rw [txs_app1,List.append_assoc];exact congrArg (fun z=>txs (hw++z)) hs
      repeat' (first
       |(with_reducible first|refine nx ?_|refine t_seq fun K=>?_|refine t_br (fun hc=>?_) fun hc=>?_|refine t_bx ?_|apply And.intro|intro vr)
       |((with_reducible first|refine ny ?_|refine t_dwh (h:=fun K KL=>?_));intros;simp only [go_sem,kp48,geff,hi0,g1,g2,hap,r_bs,yes]))
      all_goals try exact nd
      exact ⟨⟨(1,v+1),by simp only;omega⟩,wf,lf⟩
    ·have hi0:((((1:Nat):Int)):Int)=1:=rfl
     have g1:decide ((1:Int)<(L.length:Int))=true:=decide_eq_true (by omega)
     have hs:=hsu 1
     have ho:oI 1=b:=hop 1
     rw [ho] at hs h1
     have hil:=itoa_len h1.1 h1.2
     have hrl1:=hrl 1
     cases g2:(L.getD 1 0==0) with
     |true=>
      rw [opW,if_pos (by simpa using g2)] at hs
      have hap:txs (hw++rW 1)++txs [(114::Lib.itoa b)]=txs (hw++rW 2):=by rw [txs_app1,List.append_assoc];exact congrArg (fun z=>txs (hw++z)) hs
      repeat' (first
       |(with_reducible first|refine nx ?_|refine t_seq fun K=>?_|refine t_br (fun hc=>?_) fun hc=>?_|refine t_bx ?_|apply And.intro|intro vr)
       |((with_reducible first|refine ny ?_|refine t_dwh (h:=fun K KL=>?_));intros;simp only [go_sem,kp48,geff,hi0,g1,g2,hap,r_bs,yes]))
      all_goals try exact nd
      exact ⟨⟨(2,v+1),by simp only;omega⟩,wf,lf⟩
     |false=>
      rw [opW,if_neg (by simpa using g2)] at hs
      have hap:txs (hw++rW 1)++txs [(Lib.itoa b)]=txs (hw++rW 2):=by rw [txs_app1,List.append_assoc];exact congrArg (fun z=>txs (hw++z)) hs
      repeat' (first
       |(with_reducible first|refine nx ?_|refine t_seq fun K=>?_|refine t_br (fun hc=>?_) fun hc=>?_|refine t_bx ?_|apply And.intro|intro vr)
       |((with_reducible first|refine ny ?_|refine t_dwh (h:=fun K KL=>?_));intros;simp only [go_sem,kp48,geff,hi0,g1,g2,hap,r_bs,yes]))
      all_goals try exact nd
      exact ⟨⟨(2,v+1),by simp only;omega⟩,wf,lf⟩
    ·have hi0:((((2:Nat):Int)):Int)=2:=rfl
     have g1:decide ((2:Int)<(L.length:Int))=true:=decide_eq_true (by omega)
     have hs:=hsu 2
     have ho:oI 2=c:=hop 2
     rw [ho] at hs h2
     have hil:=itoa_len h2.1 h2.2
     have hrl2:=hrl 2
     cases g2:(L.getD 2 0==0) with
     |true=>
      rw [opW,if_pos (by simpa using g2)] at hs
      have hap:txs (hw++rW 2)++txs [(114::Lib.itoa c)]=txs (hw++rW 3):=by rw [txs_app1,List.append_assoc];exact congrArg (fun z=>txs (hw++z)) hs
      repeat' (first
       |(with_reducible first|refine nx ?_|refine t_seq fun K=>?_|refine t_br (fun hc=>?_) fun hc=>?_|refine t_bx ?_|apply And.intro|intro vr)
       |((with_reducible first|refine ny ?_|refine t_dwh (h:=fun K KL=>?_));intros;simp only [go_sem,kp48,geff,hi0,g1,g2,hap,r_bs,yes]))
      all_goals try exact nd
      exact ⟨⟨(3,v+1),by simp only;omega⟩,wf,lf⟩
     |false=>
      rw [opW,if_neg (by simpa using g2)] at hs
      have hap:txs (hw++rW 2)++txs [(Lib.itoa c)]=txs (hw++rW 3):=by rw [txs_app1,List.append_assoc];exact congrArg (fun z=>txs (hw++z)) hs
      repeat' (first
       |(with_reducible first|refine nx ?_|refine t_seq fun K=>?_|refine t_br (fun hc=>?_) fun hc=>?_|refine t_bx ?_|apply And.intro|intro vr)
       |((with_reducible first|refine ny ?_|refine t_dwh (h:=fun K KL=>?_));intros;simp only [go_sem,kp48,geff,hi0,g1,g2,hap,r_bs,yes]))
      all_goals try exact nd
      exact ⟨⟨(3,v+1),by simp only;omega⟩,wf,lf⟩
    ·have hi0:((((3:Nat):Int)):Int)=3:=rfl
     have g1:decide ((3:Int)<(L.length:Int))=true:=decide_eq_true (by omega)
     have hs:=hsu 3
     have ho:oI 3=d:=hop 3
     rw [ho] at hs h3
     have hil:=itoa_len h3.1 h3.2
     have hrl3:=hrl 3
     cases g2:(L.getD 3 0==0) with
     |true=>
      rw [opW,if_pos (by simpa using g2)] at hs
      have hap:txs (hw++rW 3)++txs [(114::Lib.itoa d)]=txs (hw++rW 4):=by rw [txs_app1,List.append_assoc];exact congrArg (fun z=>txs (hw++z)) hs
      repeat' (first
       |(with_reducible first|refine nx ?_|refine t_seq fun K=>?_|refine t_br (fun hc=>?_) fun hc=>?_|refine t_bx ?_|apply And.intro|intro vr)
       |((with_reducible first|refine ny ?_|refine t_dwh (h:=fun K KL=>?_));intros;simp only [go_sem,kp48,geff,hi0,g1,g2,hap,r_bs,yes]))
      all_goals try exact nd
      exact ⟨⟨(4,v+1),by simp only;omega⟩,wf,lf⟩
     |false=>
      rw [opW,if_neg (by simpa using g2)] at hs
      have hap:txs (hw++rW 3)++txs [(Lib.itoa d)]=txs (hw++rW 4):=by rw [txs_app1,List.append_assoc];exact congrArg (fun z=>txs (hw++z)) hs
      repeat' (first
       |(with_reducible first|refine nx ?_|refine t_seq fun K=>?_|refine t_br (fun hc=>?_) fun hc=>?_|refine t_bx ?_|apply And.intro|intro vr)
       |((with_reducible first|refine ny ?_|refine t_dwh (h:=fun K KL=>?_));intros;simp only [go_sem,kp48,geff,hi0,g1,g2,hap,r_bs,yes]))
      all_goals try exact nd
      exact ⟨⟨(4,v+1),by simp only;omega⟩,wf,lf⟩
   ·have hiL:i=L.length:=by omega
    subst hiL
    have g1:decide ((L.length:Int)<(L.length:Int))=false:=decide_eq_false (by omega)
    subst hR
    repeat' (first
     |(with_reducible first|refine nx ?_|refine t_seq fun K=>?_|refine t_br (fun hc=>?_) fun hc=>?_|refine t_bx ?_|apply And.intro|intro vr)
     |((with_reducible first|refine ny ?_|refine t_dwh (h:=fun K KL=>?_));intros;simp only [go_sem,kp48,geff,g1]))
    all_goals try exact nd
    all_goals (refine nl ?_;simp only [go_sem])
    exact LeA.refl _
  |false=>
   have hq5:hw=[N]:=by rw [hc0,if_neg (by simpa using hk5)]
   have hwl:hw.length≤2:=by rw [hq5];simp
   refine pcR Y0_ok (kp48) Tryz.func48 [.tmp 2] (h:=fun KF=>?_)
   unfold Y0
   repeat' (first
    |(with_reducible first|refine nx ?_|refine t_seq fun K=>?_|refine t_br (fun hc=>?_) fun hc=>?_|refine t_bx ?_|apply And.intro|intro vr)
    |((with_reducible first|refine ny ?_|refine t_dwh (h:=fun K KL=>?_));intros;simp only [go_sem,kp48,geff,hS,hnm,hk5,List.cons_append,List.nil_append,yes]))
   all_goals try exact nd
   refine t_loopF (ι:=Option {q:Nat×Nat // q.1≤L.length}) (fun o=>match o with|none=>[(28,.lit (.int .i64 0)),(5,.sl true 1 (txs [N]))]|some i=>[(28,.lit (.int .i64 (i.1.1:Int))),(5,.arr 2 i.1.2)]) (fun o=>match o with|none=>[.box 50 [.lit (.int .i64 k),.lit (.string (bs q)),.lit (.int .i64 a),.lit (.int .i64 b),.lit (.int .i64 c),.lit (.int .i64 d)],.box 111 [.lit (.string (bs N)),.sl false 1 (ints .i64 L),.lit (.bool (wrtB k)),.sl false 1 (ints .i64 M)]]|some i=>[.box 50 [.lit (.int .i64 k),.lit (.string (bs q)),.lit (.int .i64 a),.lit (.int .i64 b),.lit (.int .i64 c),.lit (.int .i64 d)],.box 111 [.lit (.string (bs N)),.sl false 1 (ints .i64 L),.lit (.bool (wrtB k)),.sl false 1 (ints .i64 M)],.arr 9 1 (txs (hw++rW i.1.1)) i.1.2 false]) (fun o=>match o with|none=>L.length+1|some i=>L.length - i.1.1) none ?_ ?_
   ·simp only [updL_nil,updL_cons,delF_top,delF_upd,Nat.reduceEqDiff,reduceIte]
    refine Le.frameS (by first|rfl|(simp only [go_sem];try rfl)) ?_
    repeat' (first|exact leF_top _|exact (fun _=>LeR.refl _)|(with_reducible refine leF_sl ?_ ?_)|(refine leF_upd ?_ ?_))
    all_goals (first|exact LeR.top _|exact LeR.refl _|(refine LeR.of_eq ?_;(try simp only [go_sem]);try rfl)|((try simp only [go_sem]);try rfl))
   rintro (_|⟨⟨i,v⟩,hi⟩) K0
   ·simp only [updL_nil,updL_cons] at K0 ⊢
    rcases Nat.lt_or_ge 0 L.length with hc|hc
    ·have hi0:((((0:Nat):Int)):Int)=0:=rfl
     have g1:decide ((0:Int)<(L.length:Int))=true:=decide_eq_true (by omega)
     have hs:=hsu 0
     have ho:oI 0=a:=hop 0
     rw [ho] at hs h0
     have hil:=itoa_len h0.1 h0.2
     have hrl0:=hrl 0
     cases g2:(L.getD 0 0==0) with
     |true=>
      rw [opW,if_pos (by simpa using g2)] at hs
      have hap:txs [N]++txs [(114::Lib.itoa a)]=txs (hw++rW 1):=by rw [txs_app1];rw [hr0] at hs;rw [hq5,←hs];rfl
      repeat' (first
       |(with_reducible first|refine nx ?_|refine t_seq fun K=>?_|refine t_br (fun hc=>?_) fun hc=>?_|refine t_bx ?_|apply And.intro|intro vr)
       |((with_reducible first|refine ny ?_|refine t_dwh (h:=fun K KL=>?_));intros;simp only [go_sem,kp48,geff,hi0,g1,g2,hap,r_bs,yes]))
      all_goals try exact nd
      exact ⟨(some ⟨(1,0),by simp only;omega⟩),wf,lf⟩
     |false=>
      rw [opW,if_neg (by simpa using g2)] at hs
      have hap:txs [N]++txs [(Lib.itoa a)]=txs (hw++rW 1):=by rw [txs_app1];rw [hr0] at hs;rw [hq5,←hs];rfl
      repeat' (first
       |(with_reducible first|refine nx ?_|refine t_seq fun K=>?_|refine t_br (fun hc=>?_) fun hc=>?_|refine t_bx ?_|apply And.intro|intro vr)
       |((with_reducible first|refine ny ?_|refine t_dwh (h:=fun K KL=>?_));intros;simp only [go_sem,kp48,geff,hi0,g1,g2,hap,r_bs,yes]))
      all_goals try exact nd
      exact ⟨(some ⟨(1,0),by simp only;omega⟩),wf,lf⟩
    ·have g1:decide ((0:Int)<(L.length:Int))=false:=decide_eq_false (by omega)
     have h00:L.length=0:=by omega
     rw [h00,hr0,hq5,List.append_nil] at hW hR
     subst hR
     repeat' (first
      |(with_reducible first|refine nx ?_|refine t_seq fun K=>?_|refine t_br (fun hc=>?_) fun hc=>?_|refine t_bx ?_|apply And.intro|intro vr)
      |((with_reducible first|refine ny ?_|refine t_dwh (h:=fun K KL=>?_));intros;simp only [go_sem,kp48,geff,g1]))
     all_goals try exact nd
     all_goals (refine nl ?_;simp only [go_sem])
     exact LeA.refl _
   simp only at hi
   rcases Nat.lt_or_ge i L.length with hc|hc
   ·rcases (show i=0∨i=1∨i=2∨i=3 by omega) with rfl|rfl|rfl|rfl
    ·have hi0:((((0:Nat):Int)):Int)=0:=rfl
     have g1:decide ((0:Int)<(L.length:Int))=true:=decide_eq_true (by omega)
     have hs:=hsu 0
     have ho:oI 0=a:=hop 0
     rw [ho] at hs h0
     have hil:=itoa_len h0.1 h0.2
     have hrl0:=hrl 0
     cases g2:(L.getD 0 0==0) with
     |true=>
      rw [opW,if_pos (by simpa using g2)] at hs
      have hap:txs (hw++rW 0)++txs [(114::Lib.itoa a)]=txs (hw++rW 1):=by rw [txs_app1,List.append_assoc];exact congrArg (fun z=>txs (hw++z)) hs
      repeat' (first
       |(with_reducible first|refine nx ?_|refine t_seq fun K=>?_|refine t_br (fun hc=>?_) fun hc=>?_|refine t_bx ?_|apply And.intro|intro vr)
       |((with_reducible first|refine ny ?_|refine t_dwh (h:=fun K KL=>?_));intros;simp only [go_sem,kp48,geff,hi0,g1,g2,hap,r_bs,yes]))
      all_goals try exact nd
      exact ⟨(some ⟨(1,v+1),by simp only;omega⟩),wf,lf⟩
     |false=>
      rw [opW,if_neg (by simpa using g2)] at hs
      have hap:txs (hw++rW 0)++txs [(Lib.itoa a)]=txs (hw++rW 1):=by rw [txs_app1,List.append_assoc];exact congrArg (fun z=>txs (hw++z)) hs
      repeat' (first
       |(with_reducible first|refine nx ?_|refine t_seq fun K=>?_|refine t_br (fun hc=>?_) fun hc=>?_|refine t_bx ?_|apply And.intro|intro vr)
       |((with_reducible first|refine ny ?_|refine t_dwh (h:=fun K KL=>?_));intros;simp only [go_sem,kp48,geff,hi0,g1,g2,hap,r_bs,yes]))
      all_goals try exact nd
      exact ⟨(some ⟨(1,v+1),by simp only;omega⟩),wf,lf⟩
    ·have hi0:((((1:Nat):Int)):Int)=1:=rfl
     have g1:decide ((1:Int)<(L.length:Int))=true:=decide_eq_true (by omega)
     have hs:=hsu 1
     have ho:oI 1=b:=hop 1
     rw [ho] at hs h1
     have hil:=itoa_len h1.1 h1.2
     have hrl1:=hrl 1
     cases g2:(L.getD 1 0==0) with
     |true=>
      rw [opW,if_pos (by simpa using g2)] at hs
      have hap:txs (hw++rW 1)++txs [(114::Lib.itoa b)]=txs (hw++rW 2):=by rw [txs_app1,List.append_assoc];exact congrArg (fun z=>txs (hw++z)) hs
      repeat' (first
       |(with_reducible first|refine nx ?_|refine t_seq fun K=>?_|refine t_br (fun hc=>?_) fun hc=>?_|refine t_bx ?_|apply And.intro|intro vr)
       |((with_reducible first|refine ny ?_|refine t_dwh (h:=fun K KL=>?_));intros;simp only [go_sem,kp48,geff,hi0,g1,g2,hap,r_bs,yes]))
      all_goals try exact nd
      exact ⟨(some ⟨(2,v+1),by simp only;omega⟩),wf,lf⟩
     |false=>
      rw [opW,if_neg (by simpa using g2)] at hs
      have hap:txs (hw++rW 1)++txs [(Lib.itoa b)]=txs (hw++rW 2):=by rw [txs_app1,List.append_assoc];exact congrArg (fun z=>txs (hw++z)) hs
      repeat' (first
       |(with_reducible first|refine nx ?_|refine t_seq fun K=>?_|refine t_br (fun hc=>?_) fun hc=>?_|refine t_bx ?_|apply And.intro|intro vr)
       |((with_reducible first|refine ny ?_|refine t_dwh (h:=fun K KL=>?_));intros;simp only [go_sem,kp48,geff,hi0,g1,g2,hap,r_bs,yes]))
      all_goals try exact nd
      exact ⟨(some ⟨(2,v+1),by simp only;omega⟩),wf,lf⟩
    ·have hi0:((((2:Nat):Int)):Int)=2:=rfl
     have g1:decide ((2:Int)<(L.length:Int))=true:=decide_eq_true (by omega)
     have hs:=hsu 2
     have ho:oI 2=c:=hop 2
     rw [ho] at hs h2
     have hil:=itoa_len h2.1 h2.2
     have hrl2:=hrl 2
     cases g2:(L.getD 2 0==0) with
     |true=>
      rw [opW,if_pos (by simpa using g2)] at hs
      have hap:txs (hw++rW 2)++txs [(114::Lib.itoa c)]=txs (hw++rW 3):=by rw [txs_app1,List.append_assoc];exact congrArg (fun z=>txs (hw++z)) hs
      repeat' (first
       |(with_reducible first|refine nx ?_|refine t_seq fun K=>?_|refine t_br (fun hc=>?_) fun hc=>?_|refine t_bx ?_|apply And.intro|intro vr)
       |((with_reducible first|refine ny ?_|refine t_dwh (h:=fun K KL=>?_));intros;simp only [go_sem,kp48,geff,hi0,g1,g2,hap,r_bs,yes]))
      all_goals try exact nd
      exact ⟨(some ⟨(3,v+1),by simp only;omega⟩),wf,lf⟩
     |false=>
      rw [opW,if_neg (by simpa using g2)] at hs
      have hap:txs (hw++rW 2)++txs [(Lib.itoa c)]=txs (hw++rW 3):=by rw [txs_app1,List.append_assoc];exact congrArg (fun z=>txs (hw++z)) hs
      repeat' (first
       |(with_reducible first|refine nx ?_|refine t_seq fun K=>?_|refine t_br (fun hc=>?_) fun hc=>?_|refine t_bx ?_|apply And.intro|intro vr)
       |((with_reducible first|refine ny ?_|refine t_dwh (h:=fun K KL=>?_));intros;simp only [go_sem,kp48,geff,hi0,g1,g2,hap,r_bs,yes]))
      all_goals try exact nd
      exact ⟨(some ⟨(3,v+1),by simp only;omega⟩),wf,lf⟩
    ·have hi0:((((3:Nat):Int)):Int)=3:=rfl
     have g1:decide ((3:Int)<(L.length:Int))=true:=decide_eq_true (by omega)
     have hs:=hsu 3
     have ho:oI 3=d:=hop 3
     rw [ho] at hs h3
     have hil:=itoa_len h3.1 h3.2
     have hrl3:=hrl 3
     cases g2:(L.getD 3 0==0) with
     |true=>
      rw [opW,if_pos (by simpa using g2)] at hs
      have hap:txs (hw++rW 3)++txs [(114::Lib.itoa d)]=txs (hw++rW 4):=by rw [txs_app1,List.append_assoc];exact congrArg (fun z=>txs (hw++z)) hs
      repeat' (first
       |(with_reducible first|refine nx ?_|refine t_seq fun K=>?_|refine t_br (fun hc=>?_) fun hc=>?_|refine t_bx ?_|apply And.intro|intro vr)
       |((with_reducible first|refine ny ?_|refine t_dwh (h:=fun K KL=>?_));intros;simp only [go_sem,kp48,geff,hi0,g1,g2,hap,r_bs,yes]))
      all_goals try exact nd
      exact ⟨(some ⟨(4,v+1),by simp only;omega⟩),wf,lf⟩
     |false=>
      rw [opW,if_neg (by simpa using g2)] at hs
      have hap:txs (hw++rW 3)++txs [(Lib.itoa d)]=txs (hw++rW 4):=by rw [txs_app1,List.append_assoc];exact congrArg (fun z=>txs (hw++z)) hs
      repeat' (first
       |(with_reducible first|refine nx ?_|refine t_seq fun K=>?_|refine t_br (fun hc=>?_) fun hc=>?_|refine t_bx ?_|apply And.intro|intro vr)
       |((with_reducible first|refine ny ?_|refine t_dwh (h:=fun K KL=>?_));intros;simp only [go_sem,kp48,geff,hi0,g1,g2,hap,r_bs,yes]))
      all_goals try exact nd
      exact ⟨(some ⟨(4,v+1),by simp only;omega⟩),wf,lf⟩
   ·have hiL:i=L.length:=by omega
    subst hiL
    have g1:decide ((L.length:Int)<(L.length:Int))=false:=decide_eq_false (by omega)
    subst hR
    repeat' (first
     |(with_reducible first|refine nx ?_|refine t_seq fun K=>?_|refine t_br (fun hc=>?_) fun hc=>?_|refine t_bx ?_|apply And.intro|intro vr)
     |((with_reducible first|refine ny ?_|refine t_dwh (h:=fun K KL=>?_));intros;simp only [go_sem,kp48,geff,g1]))
    all_goals try exact nd
    all_goals (refine nl ?_;simp only [go_sem])
    exact LeA.refl _
end Go.Proofs.YtohiagaclfaolaaGreatDoor.Tx

namespace Go.Proofs.YtohiagaclfaolaaGreatDoor.Tx
open Go.Proofs.YtohiagaclfaolaaGreatDoor
open Go Go.Fw Bm
set_option maxRecDepth 20000
def fCs:List AV:=formsV.cells
theorem formsV_fCs:formsV= .agg fCs:=rfl
theorem fCs_len:fCs.length=64:=rfl
theorem fCs_scal:fCs.all scal0=false:=rfl
theorem fCs_solid:(AV.agg fCs).solid=true:=rfl
theorem fCs_cells:(AV.agg fCs).cells=fCs:=rfl
noncomputable def fcA (i:Nat):AV:=fCs.getD (i*4+1) .top
noncomputable def fcC (i:Nat):AV:=fCs.getD (i*4+3) .top
def fcB (i:Nat):Bool:=match fCs.getD (i*4+2) .top with|.lit (.bool b)=>b|_=>false
def nmB (i:Nat):ByteArray:=match fCs.getD (i*4) .top with|.lit (.string s)=>s|_=>⟨#[]⟩
theorem ex16 {p:Nat→Prop} (h:p 0∧p 1∧p 2∧p 3∧p 4∧p 5∧p 6∧p 7∧p 8∧p 9∧p 10∧p 11∧p 12∧p 13∧p 14∧p 15):∀ i,i<16→p i:=by
  intro i hi
  obtain ⟨h0,h1,h2,h3,h4,h5,h6,h7,h8,h9,h10,h11,h12,h13,h14,h15⟩:=h
  rcases (show i=0∨i=1∨i=2∨i=3∨i=4∨i=5∨i=6∨i=7∨i=8∨i=9∨i=10∨i=11∨i=12∨i=13∨i=14∨i=15 by omega) with rfl|rfl|rfl|rfl|rfl|rfl|rfl|rfl|rfl|rfl|rfl|rfl|rfl|rfl|rfl|rfl<;>assumption
theorem forms_ok:FormsC fCs nmB fcA fcC fcB where
  hA:=ex16 ⟨.inl ⟨_,rfl⟩,.inl ⟨_,rfl⟩,.inl ⟨_,rfl⟩,.inl ⟨_,rfl⟩,.inl ⟨_,rfl⟩,.inl ⟨_,rfl⟩,.inl ⟨_,rfl⟩,.inl ⟨_,rfl⟩,.inl ⟨_,rfl⟩,.inl ⟨_,rfl⟩,.inl ⟨_,rfl⟩,.inl ⟨_,rfl⟩,.inr rfl,.inr rfl,.inl ⟨_,rfl⟩,.inr rfl⟩
  hC:=ex16 ⟨.inl ⟨_,rfl⟩,.inr rfl,.inl ⟨_,rfl⟩,.inl ⟨_,rfl⟩,.inl ⟨_,rfl⟩,.inr rfl,.inl ⟨_,rfl⟩,.inl ⟨_,rfl⟩,.inr rfl,.inl ⟨_,rfl⟩,.inl ⟨_,rfl⟩,.inl ⟨_,rfl⟩,.inr rfl,.inr rfl,.inl ⟨_,rfl⟩,.inr rfl⟩
  len:=rfl
  at_:=ex16 ⟨rfl,rfl,rfl,rfl,rfl,rfl,rfl,rfl,rfl,rfl,rfl,rfl,rfl,rfl,rfl,rfl⟩
  sol:=ex16 ⟨rfl,rfl,rfl,rfl,rfl,rfl,rfl,rfl,rfl,rfl,rfl,rfl,rfl,rfl,rfl,rfl⟩
  cel:=ex16 ⟨rfl,rfl,rfl,rfl,rfl,rfl,rfl,rfl,rfl,rfl,rfl,rfl,rfl,rfl,rfl,rfl⟩
theorem forms_pcC:PC Tryz.prog 100 [] (.agg fCs):=by rw [←formsV_fCs];exact forms_pc
noncomputable def con22C:PCon Tryz.prog where
  f:=100
  c:=fun
   |[]=>some (True,.agg fCs)
   |_=>none
  ok:=by
   intro args p r hc hp
   split at hc
   ·cases hc;exact forms_pcC
   ·cases hc
  fk:=fk100
theorem con22C_f:con22C.f=100:=rfl
theorem con22C_c:con22C.c []=some (True,.agg fCs):=rfl
theorem setRange_zero:∀ {ys xs:List AV} (pre:List AV),xs.length=ys.length→setRange (pre++xs) pre.length ys=pre++ys
  |[],[],_,_=>rfl
  |y::ys,x::xs,pre,h=>by
   simp only [setRange]
   have e1:(pre++x::xs).set pre.length y=(pre++[y])++xs:=by simp [List.set_append]
   have e2:pre.length+1=(pre++[y]).length:=by simp
   rw [e1,e2,setRange_zero (pre++[y]) (by simpa using h),List.append_assoc];rfl
theorem setRange_f {xs:List AV} (h:xs.length=64):setRange xs 0 fCs=fCs:=by
  have:=setRange_zero (ys:=fCs) (xs:=xs) [] (by rw [h,fCs_len])
  simpa using this
noncomputable def zC:List AV:=(zer 136).cells
theorem z53:zer 136= .agg zC:=rfl
theorem zC_len:zC.length=64:=rfl
theorem zC_set:setRange zC 0 fCs=fCs:=setRange_f rfl
attribute [go_sem] con22C_f con22C_c fCs_len fCs_scal fCs_solid fCs_cells zC_len zC_set
noncomputable def ecn108:ECon Tryz.prog where
  f:=108
  c:=fun args σ k=>match args,σ with
   |[.bsl 2 16,.fn (.func 109) [] [.ref 1 0]],[b0,.box 117 [.sl fl 1 l],.box 136 cs]=>match l with
    |.lit (.string w)::l'=>∃ ws,l'=txs ws∧cs=fCs∧k (.lit (.int .i64 (idxF nmB (ul w) 16 0))) [b0,.box 117 [.sl fl 1 l],.box 136 cs]
    |_=>False
   |_,_=>False
  ok:=by
   intro args σ k h
   split at h
   ·split at h
    ·rename_i w l'
     obtain ⟨ws,rfl,rfl,h3⟩:=h
     obtain ⟨w,rfl⟩:=bs_ex w
     rw [ul_bs] at h3
     exact idxf_ec (w:=w) (ws:=ws) forms_ok h3
    ·exact h.elim
   ·exact h.elim
  fk:=fk108
theorem ecn108_f:ecn108.f=108:=rfl
theorem ecn108_c {fl:Bool} {b0:AObj} {w:List UInt8} {ws:List (List UInt8)} {k:AV→List AObj→Prop}:ecn108.c [.bsl 2 16,.fn (.func 109) [] [.ref 1 0]] [b0,.box 117 [.sl fl 1 (txs (w::ws))],.box 136 fCs] k=
    k (.lit (.int .i64 (idxF nmB w 16 0))) [b0,.box 117 [.sl fl 1 (txs (w::ws))],.box 136 fCs]:=by
  show (∃ us,txs ws=txs us∧fCs=fCs∧k (.lit (.int .i64 (idxF nmB (ul (bs w)) 16 0))) [b0,.box 117 [.sl fl 1 (txs (w::ws))],.box 136 fCs])=_
  rw [ul_bs]
  apply propext
  exact ⟨fun ⟨_,_,_,h⟩=>h,fun h=>⟨ws,rfl,rfl,h⟩⟩
attribute [go_sem] ecn108_f ecn108_c
noncomputable def con48:PCon Tryz.prog where
  f:=48
  c:=fun
   |[x]=>match opOf x with
    |some x=>some (Sm x,.lit (.string (bs (lineB x))))
    |none=>none
   |_=>none
  ok:=by
   intro args p r hc hp
   split at hc
   ·split at hc
    ·rename_i x hx
     cases hc
     rw [opOf_inv hx]
     exact line_pc hp
    ·cases hc
   ·cases hc
  fk:=fk48
theorem con48_f:con48.f=48:=rfl
theorem con48_c {x:AV}:con48.c [x]=match opOf x with
      |some x=>some (Sm x,.lit (.string (bs (lineB x))))
      |none=>none:=rfl
attribute [go_sem] con48_f con48_c
theorem refs4 {a b c d e f g h:Nat}:refsOk 0 [(0,.ref a b),(1,.ref c d),(2,.ref e f),(3,.ref g h)]=true:=rfl
theorem ie1 {α:Type} {x:α} {l:List α}:(x::l).isEmpty=false:=rfl
attribute [go_sem] refs4 ie1
end Go.Proofs.YtohiagaclfaolaaGreatDoor.Tx

namespace Go.Proofs.YtohiagaclfaolaaGreatDoor.Tx
open Go.Proofs.YtohiagaclfaolaaGreatDoor
open Go Go.Fw Bm
set_option maxRecDepth 20000
structure RtI (x:Ins) (f:List Bool):Prop where
  form:formS x=some f
  len:f.length=(kndS x).length
  len4:f.length≤4
  code:1≤x.code∧x.code≤15
  prim:x.code=5∨ul x.prim=[]
  prim5:x.code=5→32 ∉ ul x.prim∧10 ∉ ul x.prim∧(ul x.prim).length≤20
  zero:∀ i,i<4→f.length≤i→opI x i=0
  bnd:∀ i,i<4→ -1099511627776≤opI x i∧opI x i≤1099511627776
  knd:∀ i,i<f.length→(f.getD i false=true ↔ (kndS x).getD i 0=0)
theorem prims_ok:∀ r∈El.rowsL,32 ∉ ul r.op∧10 ∉ ul r.op∧(ul r.op).length≤20∧r.ps.length≤3:=by decide+kernel
theorem types_ok {p:ByteArray} {r:El.Rw} (h:El.typesS p=some r):32 ∉ ul p∧10 ∉ ul p∧(ul p).length≤20∧r.ps.length≤3:=by
  unfold El.typesS at h
  have h1:=List.find?_some h
  have h2:=List.mem_of_find?_eq_some h
  have e:r.op.data.toList=p.data.toList:=by simpa [eqS] using h1
  have:=prims_ok r h2
  unfold ul at*
  rw [e] at this
  exact this
theorem opr_ge {f:List Bool} {i:Nat} {n:Int} (h:oprOk f 200 i n=true) (hi:f.length≤i):n=0:=by
  unfold oprOk at h
  rw [if_pos hi] at h
  exact of_decide_eq_true h
theorem opr_reg {f:List Bool} {i:Nat} {n:Int} (h:oprOk f 200 i n=true) (hi:i<f.length) (hf:f.getD i false=true):0≤n∧n<200:=by
  unfold oprOk at h
  rw [if_neg (by omega),if_pos hf] at h
  exact of_decide_eq_true h
theorem right_rti {x:Ins} (h:rightS x 200=true):∃ f,RtI x f:=by
  unfold rightS at h
  cases hf:formS x with
  |none=>rw [hf] at h;cases h
  |some f=>
   rw [hf] at h
   simp only [Bool.and_eq_true,Bool.or_eq_true,decide_eq_true_eq] at h
   obtain ⟨⟨hp,⟨⟨ha,hb⟩,hc⟩,hd⟩,hr⟩:=h
   obtain ⟨k,p,a,b,c,d⟩:=x
   simp only at hp ha hb hc hd
   have hcode:k=1∨k=2∨k=3∨k=4∨k=5∨k=6∨k=7∨k=8∨k=9∨k=10∨k=11∨k=12∨k=13∨k=14∨k=15:=by
     unfold formS at hf
     simp only at hf
     repeat (first|omega|(split at hf)|cases hf)
   have four:∀ {p:Nat→Prop},p 0→p 1→p 2→p 3→∀ i,i<4→p i:=by
     intro p h0 h1 h2 h3 i hi
     rcases (show i=0∨i=1∨i=2∨i=3 by omega) with rfl|rfl|rfl|rfl<;>assumption
   have bz:∀ {i:Nat} {n:Int},oprOk f 200 i n=true→f.length≤i∨(i<f.length∧f.getD i false=true)→ -1099511627776≤n∧n≤1099511627776:=by
     intro i n h1 h2
     rcases h2 with h2|⟨h2,h3⟩
     ·have:=opr_ge h1 h2;omega
     ·have:=opr_reg h1 h2 h3;omega
   have zz:∀ i,i<4→f.length≤i→opI ⟨k,p,a,b,c,d⟩ i=0:=four (fun h=>opr_ge ha h) (fun h=>opr_ge hb h) (fun h=>opr_ge hc h) (fun h=>opr_ge hd h)
   by_cases h5:k=5
   ·subst h5
    have hf':(El.typesS p).map (fun r=>List.replicate (1+r.ps.length) true)=some f:=hf
    cases ht:El.typesS p with
    |none=>rw [ht] at hf';cases hf'
    |some r=>
     rw [ht] at hf'
     cases hf'
     obtain ⟨t1,t2,t3,t4⟩:=types_ok ht
     have hk:kndS ⟨5,p,a,b,c,d⟩=0::List.replicate r.ps.length 0:=by simp [kndS,ht]
     have hrep:∀ i,i<1+r.ps.length→(List.replicate (1+r.ps.length) true).getD i false=true:=fun i hi=>by
       rw [List.getD_eq_getElem?_getD,List.getElem?_replicate,if_pos hi];rfl
     have two:∀ i,(List.replicate (1+r.ps.length) true).length≤i∨(i<(List.replicate (1+r.ps.length) true).length∧(List.replicate (1+r.ps.length) true).getD i false=true):=fun i=>by
       rcases Nat.lt_or_ge i (1+r.ps.length) with h1|h1
       ·exact .inr ⟨by simpa using h1,hrep i h1⟩
       ·exact .inl (by simpa using h1)
     refine ⟨_,hf,by rw [hk];simp;omega,by simp;omega,by simp,.inl rfl,fun _=>⟨t1,t2,t3⟩,zz,four (bz ha (two 0)) (bz hb (two 1)) (bz hc (two 2)) (bz hd (two 3)),fun i hi=>?_⟩
     have hi':i<1+r.ps.length:=by simpa using hi
     rw [hrep i hi',hk]
     have:(0::List.replicate r.ps.length (0:Int)).getD i 0=0:=by
       cases i with
       |zero=>rfl
       |succ i=>rw [List.getD_cons_succ,List.getD_eq_getElem?_getD,List.getElem?_replicate];split<;>rfl
     rw [this];simp
   ·have hpn:ul p=[]:=by rcases hp with e|e;exact absurd e h5;exact e
    have key:∀ i,i<4→ -1099511627776≤opI ⟨k,p,a,b,c,d⟩ i∧opI ⟨k,p,a,b,c,d⟩ i≤1099511627776:=by
      rcases hcode with rfl|rfl|rfl|rfl|rfl|rfl|rfl|rfl|rfl|rfl|rfl|rfl|rfl|rfl|rfl
      all_goals first|exact absurd rfl h5|skip
      all_goals
        cases hf
        simp only [restOk,maxC,maxA,decide_eq_true_eq] at hr
        simp only [Int.reduceEq,if_true,if_false,decide_eq_true_eq] at hr
      all_goals
        refine four ?_ ?_ ?_ ?_
      all_goals first
        |exact bz ha (.inl (by decide))
        |exact bz hb (.inl (by decide))
        |exact bz hc (.inl (by decide))
        |exact bz hd (.inl (by decide))
        |exact bz ha (.inr ⟨by decide,rfl⟩)
        |exact bz hb (.inr ⟨by decide,rfl⟩)
        |exact bz hc (.inr ⟨by decide,rfl⟩)
        |exact bz hd (.inr ⟨by decide,rfl⟩)
        |(simp only [opI,List.getD_cons_zero,List.getD_cons_succ];omega)
        |(have hr':=of_decide_eq_true hr;simp only [opI,List.getD_cons_zero,List.getD_cons_succ];omega)
    refine ⟨f,hf,?_,?_,by simp only;omega,.inr hpn,fun e=>absurd e h5,zz,key,?_⟩
    all_goals
      rcases hcode with rfl|rfl|rfl|rfl|rfl|rfl|rfl|rfl|rfl|rfl|rfl|rfl|rfl|rfl|rfl
    all_goals first|exact absurd rfl h5|skip
    all_goals cases hf
    all_goals first|rfl|decide|skip
    all_goals
      intro i hi
      simp only [List.length_cons,List.length_nil] at hi
      try (rcases (show i=0∨i=1∨i=2∨i=3 by omega) with rfl|rfl|rfl|rfl)
    all_goals first|omega|exact ⟨fun _=>rfl,fun _=>rfl⟩|exact ⟨fun h=>(by cases h),fun h=>(by simp [kndS,kndL] at h)⟩
theorem split_join {c:UInt8}:∀ {l:List (List UInt8)},l≠[]→(∀ w∈l,c ∉ w)→splitW c (Lib.join l [c])=l
  |[],h,_=>absurd rfl h
  |[w],_,h=>by rw [Lib.join_one];exact splitW_one (h w (by simp))
  |w::v::r,_,h=>by
   have e:Lib.join (w::v::r) [c]=w++c::Lib.join (v::r) [c]:=by simp [Lib.join,List.intercalate,List.intersperse]
   rw [e,splitW_app (h w (by simp)),split_join (l:=v::r) (by simp) (fun u hu=>h u (by simp only [List.mem_cons] at hu ⊢;exact .inr hu))]
theorem join_mem {c b:UInt8}:∀ {l:List (List UInt8)},b∈Lib.join l [c]→b=c∨∃ w∈l,b∈w
  |[],h=>by cases h
  |[w],h=>by rw [Lib.join_one] at h;exact .inr ⟨w,by simp,h⟩
  |w::v::r,h=>by
   have e:Lib.join (w::v::r) [c]=w++c::Lib.join (v::r) [c]:=by simp [Lib.join,List.intercalate,List.intersperse]
   rw [e] at h
   rcases List.mem_append.1 h with h|h
   ·exact .inr ⟨w,by simp,h⟩
   ·rcases List.mem_cons.1 h with h|h
    ·exact .inl h
    ·rcases join_mem (l:=v::r) h with h|⟨u,hu,hb⟩
     ·exact .inl h
     ·exact .inr ⟨u,by simp only [List.mem_cons] at hu ⊢;exact .inr hu,hb⟩
theorem join_len {c:UInt8}:∀ {l:List (List UInt8)} {m:Nat},(∀ w∈l,w.length≤m)→(Lib.join l [c]).length≤l.length*(m+1)
  |[],m,_=>by simp [Lib.join]
  |[w],m,h=>by rw [Lib.join_one];have:=h w (by simp);simp;omega
  |w::v::r,m,h=>by
   have e:Lib.join (w::v::r) [c]=w++c::Lib.join (v::r) [c]:=by simp [Lib.join,List.intercalate,List.intersperse]
   have h1:=h w (by simp)
   have h2:=join_len (c:=c) (l:=v::r) (m:=m) fun u hu=>h u (by simp only [List.mem_cons] at hu ⊢;exact .inr hu)
   rw [e,List.length_append,List.length_cons,List.length_cons (a:=w),Nat.succ_mul]
   omega
theorem names_ok:∀ k:Fin 15,32 ∉ ul (namL ((k.val:Int)+1))∧10 ∉ ul (namL ((k.val:Int)+1))∧(ul (namL ((k.val:Int)+1))).length≤20∧idxF nmB (ul (namL ((k.val:Int)+1))) 16 0=(k.val:Int)+1:=by decide+kernel
theorem name_ok {k:Int} (h:1≤k∧k≤15):32 ∉ ul (namL k)∧10 ∉ ul (namL k)∧(ul (namL k)).length≤20∧idxF nmB (ul (namL k)) 16 0=k:=by
  have:=names_ok ⟨(k - 1).toNat,by omega⟩
  simp only at this
  rw [show (((k - 1).toNat:Nat):Int)+1=k by omega] at this
  exact this
theorem opW_not {k n:Int} {x:UInt8} (h: ¬ (x=45∨(48≤x.toNat∧x.toNat≤57))) (h2:x≠114):x ∉ opW k n:=by
  unfold opW
  intro hm
  rcases List.mem_append.1 hm with hm|hm
  ·split at hm
   ·simp at hm;exact h2 hm
   ·cases hm
  ·exact itoa_not h hm
theorem opW_len {k n:Int} (h: -1099511627776≤n∧n≤1099511627776):(opW k n).length≤22:=by
  have:=Lib.itoa_length_le n (by omega) (by omega)
  unfold opW
  rw [List.length_append]
  split<;>simp<;>omega
theorem words_ok {x:Ins} {f:List Bool} (h:RtI x f):∀ w∈wordsB x,32 ∉ w∧10 ∉ w∧w.length≤22:=by
  intro w hw
  unfold wordsB headW at hw
  rcases List.mem_append.1 hw with hw|hw
  ·rcases List.mem_cons.1 hw with rfl|hw
   ·have:=name_ok h.code;exact ⟨this.1,this.2.1,by omega⟩
   ·split at hw
    ·rename_i h5
     simp only [List.mem_singleton] at hw
     subst hw
     have:=h.prim5 h5;exact ⟨this.1,this.2.1,by omega⟩
    ·cases hw
  ·simp only [restW,List.mem_map,List.mem_range] at hw
   obtain ⟨i,hi,rfl⟩:=hw
   exact ⟨opW_not (by decide) (by decide),opW_not (by decide) (by decide),opW_len (h.bnd i (by have:=h.len;have:=h.len4;omega))⟩
theorem words_ne (x:Ins):wordsB x≠[]:=by simp [wordsB,headW]
theorem line_split {x:Ins} {f:List Bool} (h:RtI x f):splitW 32 (lineB x)=wordsB x:=split_join (words_ne x) fun w hw=>(words_ok h w hw).1
theorem line_no10 {x:Ins} {f:List Bool} (h:RtI x f):10 ∉ lineB x:=fun hm=>by
  rcases join_mem hm with h1|⟨w,hw,hb⟩
  ·exact absurd h1 (by decide)
  ·exact (words_ok h w hw).2.1 hb
theorem words_len {x:Ins} {f:List Bool} (h:RtI x f):(wordsB x).length≤6:=by
  have h1:(headW x).length≤2:=by unfold headW;split<;>simp
  have h2:(restW x (kndS x).length).length=(kndS x).length:=by simp [restW]
  have:=h.len;have:=h.len4
  unfold wordsB
  rw [List.length_append];omega
theorem line_len {x:Ins} {f:List Bool} (h:RtI x f):(lineB x).length≤138:=by
  have:=join_len (c:=32) (l:=wordsB x) (m:=22) fun w hw=>(words_ok h w hw).2.2
  have:=words_len h
  unfold lineB
  omega
def nums:List (List UInt8)→Option (List Int)
  |[]=>some []
  |t::r=>match int? t with
   |none=>none
   |some n=>(nums r).map (n:: ·)
def mkI (k:Int) (p:List UInt8) (l:List Int):Ins:=⟨k,bs p,l.getD 0 0,l.getD 1 0,l.getD 2 0,l.getD 3 0⟩
def accS (x:Ins) (s:List UInt8):Option Ins:=if rightS x 200=true∧lineB x=s then some x else none
def hdP (k:Int) (ws:List (List UInt8)):List UInt8:=if k=5 then ws.headD [] else []
def tlP (k:Int) (ws:List (List UInt8)):List (List UInt8):=if k=5 then ws.tail else ws
def preadW (s:List UInt8):List (List UInt8)→Option Ins
  |[]=>none
  |w::ws=>if idxF nmB w 16 0<1 then none else if (tlP (idxF nmB w 16 0) ws).length>4 then none else match nums (tlP (idxF nmB w 16 0) ws) with
    |none=>none
    |some l=>accS (mkI (idxF nmB w 16 0) (hdP (idxF nmB w 16 0) ws) l) s
def preadS (s:List UInt8):Option Ins:=preadW s (splitW 32 s)
theorem acc_inv {x y:Ins} {s:List UInt8} (h:accS x s=some y):rightS y 200=true∧lineB y=s:=by
  unfold accS at h
  split at h
  ·cases h;assumption
  ·cases h
theorem pread_inv {s:List UInt8} {x:Ins} (h:preadS s=some x):rightS x 200=true∧lineB x=s:=by
  unfold preadS at h
  cases hw:splitW 32 s with
  |nil=>rw [hw] at h;cases h
  |cons w ws=>
   rw [hw] at h
   simp only [preadW] at h
   split at h
   ·cases h
   ·split at h
    ·cases h
    ·split at h
     ·cases h
     ·exact acc_inv h
theorem trim_r (l:List UInt8):trimP [114] (114::l)=l:=by simp [trimP,List.isPrefixOf]
theorem trim_no {l:List UInt8} (h:114 ∉ l):trimP [114] l=l:=by
  unfold trimP
  rw [if_neg]
  intro hp
  cases l with
  |nil=>simp [List.isPrefixOf] at hp
  |cons c r=>
   have:=(List.isPrefixOf_iff_prefix.1 hp)
   obtain ⟨t,ht⟩:=this
   simp only [List.cons_append,List.nil_append,List.cons.injEq] at ht
   exact h (by rw [←ht.1];exact List.mem_cons_self ..)
theorem trim_opW {k n:Int}:trimP [114] (opW k n)=Lib.itoa n:=by
  unfold opW
  split
  ·exact trim_r _
  ·rw [List.nil_append];exact trim_no (itoa_not (by decide))
theorem int_opW {k n:Int} (h: -1099511627776≤n∧n≤1099511627776):int? (opW k n)=some n:=by
  unfold int?
  rw [trim_opW,atoi_itoa (by omega) (by omega)]
theorem nums_map {α:Type} (g:α→List UInt8) (v:α→Int):∀ l:List α,(∀ i∈l,int? (g i)=some (v i))→nums (l.map g)=some (l.map v)
  |[],_=>rfl
  |i::l,h=>by
   simp only [List.map_cons,nums]
   rw [h i (by simp),nums_map g v l fun j hj=>h j (by simp [hj])]
   rfl
theorem range_get {f:Nat→Int} {n i:Nat}:((List.range n).map f).getD i 0=if i<n then f i else 0:=by
  rw [List.getD_eq_getElem?_getD,List.getElem?_map]
  split
  ·rename_i h;rw [List.getElem?_range h];rfl
  ·rename_i h;rw [List.getElem?_eq_none (by simpa using h)];rfl
theorem mk_ops {x:Ins} {f:List Bool} (h:RtI x f):mkI x.code (ul x.prim) ((List.range (kndS x).length).map (opI x))=x:=by
  have e:∀ i,i<4→((List.range (kndS x).length).map (opI x)).getD i 0=opI x i:=fun i hi=>by
    rw [range_get]
    split
    ·rfl
    ·exact (h.zero i hi (by rw [h.len];omega)).symm
  unfold mkI
  rw [e 0 (by omega),e 1 (by omega),e 2 (by omega),e 3 (by omega),bs_ul]
  rfl
theorem hd_tl {x:Ins} {f:List Bool} (h:RtI x f):∃ ws,wordsB x=ul (namL x.code)::ws∧hdP x.code ws=ul x.prim∧tlP x.code ws=restW x (kndS x).length:=by
  unfold wordsB headW
  by_cases h5:x.code=5
  ·exact ⟨ul x.prim::restW x (kndS x).length,by rw [if_pos h5];rfl,by simp [hdP,h5],by simp [tlP,h5]⟩
  ·exact ⟨restW x (kndS x).length,by rw [if_neg h5];rfl,by rw [hdP,if_neg h5];exact (h.prim.resolve_left h5).symm,by rw [tlP,if_neg h5]⟩
theorem pread_line {x:Ins} (hr:rightS x 200=true):preadS (lineB x)=some x:=by
  obtain ⟨f,h⟩:=right_rti hr
  obtain ⟨ws,h1,h2,h3⟩:=hd_tl h
  have hn:=name_ok h.code
  unfold preadS
  rw [line_split h,h1]
  simp only [preadW]
  rw [hn.2.2.2,if_neg (by have:=h.code;omega),h3,if_neg (by have:=h.len;have:=h.len4;simp [restW];omega)]
  have hnm:nums (restW x (kndS x).length)=some ((List.range (kndS x).length).map (opI x)):=nums_map _ _ _ fun i hi=>int_opW (h.bnd i (by have:=h.len;have:=h.len4;simp at hi;omega))
  rw [hnm,h2]
  simp only
  rw [mk_ops h,accS,if_pos ⟨hr,rfl⟩]
def rcode (w:List UInt8):Int:=if idxF nmB w 16 0<1 then 0 else idxF nmB w 16 0
def rnums (f:List Bool) (ws:List (List UInt8)):List Int:=(List.range f.length).map fun i=>numS (if f.getD i false=true then (ws.getD i []).tail else ws.getD i [])
def rreadW (s:List UInt8):List (List UInt8)→Option Ins
  |[]=>none
  |w::ws=>match formS (mkI (rcode w) (hdP (rcode w) ws) []) with
   |none=>none
   |some f=>if (tlP (rcode w) ws).length≠f.length then none else accS (mkI (rcode w) (hdP (rcode w) ws) (rnums f (tlP (rcode w) ws))) s
def rreadS (s:List UInt8):Option Ins:=rreadW s (splitW 32 s)
theorem rread_inv {s:List UInt8} {x:Ins} (h:rreadS s=some x):rightS x 200=true∧lineB x=s:=by
  unfold rreadS at h
  cases hw:splitW 32 s with
  |nil=>rw [hw] at h;cases h
  |cons w ws=>
   rw [hw] at h
   simp only [rreadW] at h
   split at h
   ·cases h
   ·split at h
    ·cases h
    ·exact acc_inv h
theorem form_mk (x:Ins) (l:List Int):formS (mkI x.code (ul x.prim) l)=formS x:=by
  unfold mkI;rw [bs_ul];rfl
theorem num_opW {k n:Int} {b:Bool} (h: -1099511627776≤n∧n≤1099511627776) (hb:b=true ↔ k=0):numS (if b=true then (opW k n).tail else opW k n)=n:=by
  by_cases h0:k=0
  ·rw [if_pos (hb.2 h0),opW,if_pos h0]
   exact num_itoa (by omega) (by omega)
  ·rw [if_neg (fun e=>h0 (hb.1 e)),opW,if_neg h0,List.nil_append]
   exact num_itoa (by omega) (by omega)
theorem rread_line {x:Ins} (hr:rightS x 200=true):rreadS (lineB x)=some x:=by
  obtain ⟨f,h⟩:=right_rti hr
  obtain ⟨ws,h1,h2,h3⟩:=hd_tl h
  have hn:=name_ok h.code
  have hc:rcode (ul (namL x.code))=x.code:=by unfold rcode;rw [hn.2.2.2,if_neg (by have:=h.code;omega)]
  have hrl:(restW x (kndS x).length).length=(kndS x).length:=by simp [restW]
  unfold rreadS
  rw [line_split h,h1]
  simp only [rreadW]
  rw [hc,h2,h3,form_mk,h.form]
  simp only
  rw [if_neg (by rw [hrl];have:=h.len;omega)]
  have hnm:rnums f (restW x (kndS x).length)=(List.range (kndS x).length).map (opI x):=by
    unfold rnums
    rw [h.len]
    refine List.map_congr_left fun i hi=>?_
    have hi':i<(kndS x).length:=by simpa using hi
    have hg:(restW x (kndS x).length).getD i []=opW ((kndS x).getD i 0) (opI x i):=by simp [restW,List.getD_eq_getElem?_getD,hi']
    rw [hg]
    exact num_opW (h.bnd i (by have:=h.len;have:=h.len4;omega)) (h.knd i (by rw [h.len];exact hi'))
  rw [hnm,mk_ops h,accS,if_pos ⟨hr,rfl⟩]
theorem read_eq (s:List UInt8):rreadS s=preadS s:=by
  cases hp:preadS s with
  |some x=>
   obtain ⟨h1,h2⟩:=pread_inv hp
   rw [←h2];exact rread_line h1
  |none=>
   cases hq:rreadS s with
   |none=>rfl
   |some x=>
    obtain ⟨h1,h2⟩:=rread_inv hq
    rw [←h2,pread_line h1] at hp;cases hp
def parseG:Nat→List UInt8→List Ins→List Ins×Int×Int
  |0,_,_=>([],0,0)
  |n+1,s,acc=>if s=[] then (acc,0,0) else match cutS 10 s with
   |none=>([],acc.length,6)
   |some (a,b)=>match preadS a with
    |none=>([],acc.length,6)
    |some x=>parseG n b (acc++[x])
def parseS (s:List UInt8):List Ins×Int×Int:=parseG (s.length+1) s []
def textB (l:List Ins):List UInt8:=l.flatMap fun x=>lineB x++[10]
theorem cut_line {a b:List UInt8} (h:(10:UInt8) ∉ a):cutS 10 (a++10::b)=some (a,b):=by
  induction a with
  |nil=>simp [cutS]
  |cons x a ih=>
   simp only [List.mem_cons,not_or] at h
   simp only [List.cons_append,cutS]
   rw [if_neg (fun e=>h.1 e.symm),ih h.2];rfl
theorem parse_text:∀ (l:List Ins) (n:Nat) (acc:List Ins),(∀ x∈l,rightS x 200=true)→(textB l).length<n→parseG n (textB l) acc=(acc++l,0,0)
  |[],n+1,acc,_,_=>by simp [parseG,textB]
  |x::l,n+1,acc,h,hn=>by
   obtain ⟨f,hx⟩:=right_rti (h x (by simp))
   have e:textB (x::l)=lineB x++10::textB l:=by simp [textB]
   have hne:lineB x++10::textB l≠[]:=by simp
   rw [e] at hn ⊢
   simp only [List.length_append,List.length_cons] at hn
   simp only [parseG]
   rw [if_neg hne,cut_line (line_no10 hx)]
   simp only
   rw [pread_line (h x (by simp))]
   simp only
   rw [parse_text l n (acc++[x]) (fun y hy=>h y (by simp [hy])) (by omega)]
   simp
theorem text_parse:∀ (n:Nat) (s:List UInt8) (acc ops:List Ins) (i:Int),parseG n s acc=(ops,i,0)→s.length<n→∃ l,ops=acc++l∧textB l=s∧i=0∧(∀ x∈l,rightS x 200=true)∧l.length≤s.length
  |n+1,s,acc,ops,i,h,hn=>by
   simp only [parseG] at h
   split at h
   ·rename_i hs
    simp only [Prod.mk.injEq] at h
    exact ⟨[],by simp [h.1],by simp [textB,hs],h.2.1.symm,by simp,by simp⟩
   ·split at h
    ·simp only [Prod.mk.injEq] at h;exact absurd h.2.2 (by decide)
    ·rename_i a b hc
     split at h
     ·simp only [Prod.mk.injEq] at h;exact absurd h.2.2 (by decide)
     ·rename_i x hx
      obtain ⟨_,hs,_⟩:=cutS_some hc
      obtain ⟨r1,r2⟩:=pread_inv hx
      have hl:s.length=a.length+(b.length+1):=by rw [hs];simp
      obtain ⟨l,h1,h2,h3,h4,h5⟩:=text_parse n b (acc++[x]) ops i h (by omega)
      refine ⟨x::l,by rw [h1];simp,?_,h3,?_,?_⟩
      ·have e:textB (x::l)=lineB x++10::textB l:=by simp [textB]
       rw [e,h2,r2,hs]
      ·intro y hy
       rcases List.mem_cons.1 hy with rfl|hy
       ·exact r1
       ·exact h4 y hy
      ·rw [List.length_cons];omega
end Go.Proofs.YtohiagaclfaolaaGreatDoor.Tx

namespace Go.Proofs.YtohiagaclfaolaaGreatDoor.Tx
open Go.Proofs.YtohiagaclfaolaaGreatDoor
open Go Go.Fw Bm
set_option maxRecDepth 20000
theorem xecR {P:Program} {E:Env} (hE:EnvOk P E) {f:FuncId} {fn:Func} {c:Code} (keep:Nat→List Nat) (hfn:P.funcs[f]? =some fn) (rs:List ResultVar) {args:List AV} {σ:List AObj} {k:AV→List AObj→Prop} (hm:P.follows .mixedOrders=true:=by exact mixed) (hb:fn.body=some c:=by exact rfl)
    (hrs:fn.results.toList=rs:=by kernel_rfl) (hd:dstOk fn.ntmps c=true:=by kernel_rfl) (hargs:args.length≤fn.ntmps:=by exact Nat.le_of_ble_eq_true rfl)
    (h:∀ K:QT (endQ P rs k),awp P E keep σ.length c K.k ⟨initF 0 args,σ⟩):XEC P E.px f args σ k:=by
  subst hrs
  exact xec_of hE hm keep hfn hb hd hargs (t_name h)
def rdX (s:List UInt8):AV→List AObj→Prop:=fun x _=>preadS s=none∧x= .lit wrongV
theorem intX_s {X:AV→List AObj→Prop} {l:List UInt8} {n:Int} {σ:List AObj} {k:AV→List AObj→Prop} (h:int? l=some n):intX X l σ k=k (.lit (.int .i64 n)) σ:=by unfold intX;rw [h]
theorem intX_n {X:AV→List AObj→Prop} {l:List UInt8} {σ:List AObj} {k:AV→List AObj→Prop} (h:int? l=none):intX X l σ k=X (.lit wrongV) σ:=by unfold intX;rw [h]
attribute [go_sem] xcon110_f xcon110_c
noncomputable def zer2 (t:TypeId):AV:=if t=123 then .agg [] else zer t
theorem zer2_ok:∀ t v,zeroT Tryz.prog t=some v→RC (fun _ _=>none) (zer2 t) v:=by
  intro t v h
  unfold zer2
  split
  ·rename_i e
   subst e
   rw [show zeroT Tryz.prog 123=some (.agg #[]) by kernel_rfl] at h
   cases h
   exact RC.agg [] [] rfl (fun i hi=>absurd hi (Nat.not_lt_zero i)) fun i hi=>absurd hi (Nat.not_lt_zero i)
  ·exact zer_ok t v h
theorem zer2_3:zer2 3=zer 3:=rfl
theorem zer2_4:zer2 4=zer 4:=rfl
theorem zer2_9:zer2 9=zer 9:=rfl
theorem zer2_50:zer2 50=zer 50:=rfl
theorem zer2_117:zer2 117=zer 117:=rfl
theorem zer2_123:zer2 123= .agg []:=rfl
theorem zer2_136:zer2 136=zer 136:=rfl
theorem zer2_149:zer2 149=zer 149:=rfl
theorem und123:Tryz.prog.underlying 123=some (.struct #[]):=by kernel_rfl
attribute [go_sem] zer2_3 zer2_4 zer2_9 zer2_50 zer2_117 zer2_123 zer2_136 zer2_149 und123
noncomputable def Y8 (s:List UInt8):Env:=envX (P:=Tryz.prog) (rdX s) [xcon110 (rdX s)] (envJ (P:=Tryz.prog) jkV zer2 (fun d=>d==46) (fun _=>false) [con107,con22C,con45,con48] [ecn108])
theorem Y8_ok (s:List UInt8):EnvOk Tryz.prog (Y8 s):=envXOk (envJOk zer2_ok)
theorem nums_no:∀ {l:List (List UInt8)} {i:Nat},i<l.length→int? (l.getD i [])=none→nums l=none
  |t::l,0,_,h=>by simp only [nums];rw [show int? t=none from h]
  |t::l,i+1,hi,h=>by
   simp only [nums]
   rw [nums_no (l:=l) (i:=i) (by simpa using hi) h]
   cases int? t<;>rfl
theorem nums_yes:∀ {l:List (List UInt8)} {v:Nat→Int},(∀ i,i<l.length→int? (l.getD i [])=some (v i))→nums l=some ((List.range l.length).map v)
  |[],_,_=>rfl
  |t::l,v,h=>by
   simp only [nums]
   rw [show int? t=some (v 0) from h 0 (by simp),nums_yes (l:=l) (v:=fun i=>v (i+1)) fun i hi=>h (i+1) (by simpa using hi)]
   simp only [Option.map_some,List.length_cons,List.range_succ_eq_map,List.map_cons,List.map_map]
   rfl
def oc (oI:Nat→Int) (i j:Nat):Int:=if j<i then oI j else 0
theorem splitW_le {c:UInt8}:∀ {l:List UInt8} {i:Nat},((splitW c l).getD i []).length≤l.length
  |[],i=>by cases i<;>simp [splitW]
  |b::l,i=>by
   have ih:∀ i,((splitW c l).getD i []).length≤l.length:=fun i=>splitW_le
   simp only [splitW]
   split
   ·cases i with
    |zero=>simp
    |succ i=>have:=ih i;simp only [List.getD_cons_succ,List.length_cons];omega
   ·cases hq:splitW c l with
    |nil=>cases i<;>simp
    |cons w ws=>
     rw [hq] at ih
     cases i with
     |zero=>have:=ih 0;simp only [List.getD_cons_zero,List.length_cons] at this ⊢;omega
     |succ i=>have:=ih (i+1);simp only [List.getD_cons_succ,List.length_cons] at this ⊢;omega
theorem txs_hd0 (w:List UInt8) (l:List (List UInt8)):List.getD (txs (w::l)) 0 (.lit (.string (bs [])))= .lit (.string (bs w)):=rfl
theorem sm_right {x:Ins} (h:rightS x 200=true):Sm x:=by
  obtain ⟨f,h⟩:=right_rti h
  exact ⟨by have:=h.len;have:=h.len4;omega,fun i hi=>by have:=h.bnd i hi;exact ⟨by omega,by omega⟩,by have:=line_len h;omega⟩
attribute [go_sem] con107_f con107_c
set_option maxHeartbeats 16000000 in
theorem read_xec {s:List UInt8} (hs:s.length≤100000):XEC Tryz.prog (rdX s) 89 [.lit (.string (bs s))] [] fun y _=>∃ x,preadS s=some x∧y=opV x:=by
  obtain ⟨N,R0,hsp⟩:∃ N R0,splitW 32 s=N::R0:=by
    cases h:splitW 32 s with
    |nil=>exact absurd h (splitW_ne 32 s)
    |cons a b=>exact ⟨a,b,rfl⟩
  have hsl:=splitW_len (c:=32) s
  have hcl:s.count 32≤s.length:=List.count_le_length
  have hln:∀ i,(R0.getD i []).length≤100000:=fun i=>by
    have:= @splitW_le 32 s (i+1)
    rw [hsp,List.getD_cons_succ] at this
    omega
  rw [hsp,List.length_cons] at hsl
  have hP:preadS s=preadW s (N::R0):=by unfold preadS;rw [hsp]
  simp only [preadW] at hP
  generalize hix:idxF nmB N 16 0=k at hP
  have htk:∀ (A:List UInt8) (B:List (List UInt8)),List.take (B.length+1) (txs (A::B))=txs (A::B):=fun A B=>by rw [←List.length_cons (a:=A),←txs_length];exact take_all _
  have hdr:∀ (A:List UInt8) (B:List (List UInt8)),List.drop 1 (txs (A::B))=txs B:=fun _ _=>rfl
  by_cases hk1:k<1
  ·rw [if_pos hk1] at hP
   have g1:decide (k<1)=true:=decide_eq_true hk1
   refine xecR (Y8_ok s) (kp89) Tryz.func89 [.cell 2 50] (h:=fun KF=>?_)
   unfold Y8
   repeat' (first
    |(with_reducible first|refine nx ?_|refine t_seq fun K=>?_|refine t_br (fun hc=>?_) fun hc=>?_|refine t_bx ?_|apply And.intro|intro vr)|exact kpd
    |((with_reducible first|refine ny ?_|refine t_kLF ?_ ?_|refine t_drawE (id:=9) (fun i=>i==0) [(0,1),(1,1),(2,1),(3,1),(4,1),(5,1),(6,0),(7,1)] (by kernel_rfl) fun K=>?_|refine t_dwh (h:=fun K KL=>?_));intros;simp only [go_sem,kp89,geff,z53,hsp,hix,g1,hdr,htk,txs_length,List.length_cons,yes]))
   all_goals try exact nd
   all_goals first|exact ⟨hP,rfl⟩|exact ⟨trivial,hP,rfl⟩
  rw [if_neg hk1] at hP
  have g1:decide (k<1)=false:=decide_eq_false hk1
  by_cases hk:k=5
  ·subst hk
   clear hk1
   have hk5:((5:Int)==5)=true:=rfl
   cases R0 with
   |nil=>
    have gz:decide ((0:Int)>0)=false:=by decide
    have htk2:List.take (0+1) (txs [N])=txs [N]:=rfl
    have htk3:List.take 1 (txs [N])=txs [N]:=rfl
    have hP':preadS s=accS ⟨5,bs [],0,0,0,0⟩ s:=hP
    clear hP
    have g4:decide ((0:Int)>4)=false:=by decide
    have g2:decide ((0:Int)<0)=false:=by decide
    unfold accS at hP'
    refine xecR (Y8_ok s) (kp89) Tryz.func89 [.cell 2 50] (h:=fun KF=>?_)
    unfold Y8
    repeat' (first
     |(with_reducible first|refine nx ?_|refine t_seq fun K=>?_|refine t_br (fun hc=>?_) fun hc=>?_|refine t_bx ?_|apply And.intro|intro vr)|exact kpd
     |((with_reducible first|refine ny ?_|refine t_kLF ?_ ?_|refine t_drawE (id:=9) (fun i=>i==0) [(0,1),(1,1),(2,1),(3,1),(4,1),(5,1),(6,0),(7,1)] (by kernel_rfl) fun K=>?_|refine t_dwh (h:=fun K KL=>?_));intros;simp only [go_sem,kp89,geff,z53,hsp,hix,hk5,g1,g4,hdr,gz,htk2,htk3,txs_length,List.length_cons,List.length_nil,yes]))
    all_goals try exact nd
    refine t_loopF (ι:=Unit) (fun _=>[(51,.lit (.int .i64 0))]) (fun _=>[.box 50 [.lit (.int .i64 0),.lit (.string (bs [])),.lit (.int .i64 0),.lit (.int .i64 0),.lit (.int .i64 0),.lit (.int .i64 0)],.box 117 [.sl false 1 (txs [N])],.box 136 fCs,.box 50 [.lit (.int .i64 5),.lit (.string (bs [])),.lit (.int .i64 0),.lit (.int .i64 0),.lit (.int .i64 0),.lit (.int .i64 0)],.box 149 [.ref 3 2,.ref 3 3,.ref 3 4,.ref 3 5]]) (fun _=>0) () ?_ ?_
    ·exact lf
    rintro ⟨⟩ K0
    cases hri:rightS ⟨5,bs [],0,0,0,0⟩ 200 with
    |false=>
     rw [hri,if_neg (by simp)] at hP'
     repeat' (first
      |(with_reducible first|refine nx ?_|refine t_seq fun K=>?_|refine t_br (fun hc=>?_) fun hc=>?_|refine t_bx ?_|apply And.intro|intro vr)|exact kpd
      |((with_reducible first|refine ny ?_|refine t_kLF ?_ ?_|refine t_drawE (id:=9) (fun i=>i==0) [(0,1),(1,1),(2,1),(3,1),(4,1),(5,1),(6,0),(7,1)] (by kernel_rfl) fun K=>?_|refine t_dwh (h:=fun K KL=>?_));intros;simp only [go_sem,kp89,geff,g2,hri,yes]))
     all_goals try exact nd
     all_goals first|exact ⟨hP',rfl⟩|exact ⟨trivial,hP',rfl⟩
    |true=>
     have hsm:=sm_right hri
     by_cases hln3:lineB ⟨5,bs [],0,0,0,0⟩=s
     ·rw [if_pos ⟨hri,hln3⟩] at hP'
      have g5:(s==s)=true:=by simp
      have hre:∃ x,preadS s=some x∧AV.agg [.lit (.int .i64 5),.lit (.string (bs [])),.lit (.int .i64 0),.lit (.int .i64 0),.lit (.int .i64 0),.lit (.int .i64 0)]=opV x:=⟨_,hP',rfl⟩
      repeat' (first
       |(with_reducible first|refine nx ?_|refine t_seq fun K=>?_|refine t_br (fun hc=>?_) fun hc=>?_|refine t_bx ?_|apply And.intro|intro vr)|exact kpd
       |((with_reducible first|refine ny ?_|refine t_kLF ?_ ?_|refine t_drawE (id:=9) (fun i=>i==0) [(0,1),(1,1),(2,1),(3,1),(4,1),(5,1),(6,0),(7,1)] (by kernel_rfl) fun K=>?_|refine t_dwh (h:=fun K KL=>?_));intros;simp only [go_sem,kp89,geff,g2,hri,hln3,g5,yes]))
      all_goals try exact nd
      all_goals (refine end_ret rfl ?_)
      all_goals exact hre
     ·rw [if_neg (fun h=>hln3 h.2)] at hP'
      have g5:(lineB ⟨5,bs [],0,0,0,0⟩==s)=false:=by simpa using hln3
      repeat' (first
       |(with_reducible first|refine nx ?_|refine t_seq fun K=>?_|refine t_br (fun hc=>?_) fun hc=>?_|refine t_bx ?_|apply And.intro|intro vr)|exact kpd
       |((with_reducible first|refine ny ?_|refine t_kLF ?_ ?_|refine t_drawE (id:=9) (fun i=>i==0) [(0,1),(1,1),(2,1),(3,1),(4,1),(5,1),(6,0),(7,1)] (by kernel_rfl) fun K=>?_|refine t_dwh (h:=fun K KL=>?_));intros;simp only [go_sem,kp89,geff,g2,hri,g5,yes]))
      all_goals try exact nd
      all_goals first|exact ⟨hP',rfl⟩|exact ⟨trivial,hP',rfl⟩
   |cons q R1=>
    have gz:decide (((R1.length+1:Nat):Int)>0)=true:=decide_eq_true (by omega)
    have htk2:List.take (R1.length+1+1) (txs (N::q::R1))=txs (N::q::R1):=htk N (q::R1)
    have htk3:List.take (R1.length+1) (txs (q::R1))=txs (q::R1):=htk q R1
    have gy:decide ((0:Int)<((R1.length+1:Nat):Int))=true:=decide_eq_true (by omega)
    have gx:(0:Int)<((R1.length+1:Nat):Int):=by omega
    rw [show tlP 5 (q::R1)=R1 from rfl,show hdP 5 (q::R1)=q from rfl] at hP
    by_cases hc4:(R1).length>4
    ·rw [if_pos hc4] at hP
     have g4:decide (((R1).length:Int)>4)=true:=decide_eq_true (by omega)
     refine xecR (Y8_ok s) (kp89) Tryz.func89 [.cell 2 50] (h:=fun KF=>?_)
     unfold Y8
     repeat' (first
      |(with_reducible first|refine nx ?_|refine t_seq fun K=>?_|refine t_br (fun hc=>?_) fun hc=>?_|refine t_bx ?_|apply And.intro|intro vr)|exact kpd
      |((with_reducible first|refine ny ?_|refine t_kLF ?_ ?_|refine t_drawE (id:=9) (fun i=>i==0) [(0,1),(1,1),(2,1),(3,1),(4,1),(5,1),(6,0),(7,1)] (by kernel_rfl) fun K=>?_|refine t_dwh (h:=fun K KL=>?_));intros;simp only [go_sem,kp89,geff,z53,hsp,hix,hk5,g1,g4,hdr,htk,gz,gy,txs_hd0,htk2,htk3,txs_length,List.length_cons,yes]))
     all_goals try exact nd
     all_goals first|exact ⟨hP,rfl⟩|exact ⟨trivial,hP,rfl⟩
    rw [if_neg hc4] at hP
    have g4:decide (((R1).length:Int)>4)=false:=decide_eq_false (by omega)
    have hlr:∀ i,((R1).getD i []).length≤100000:=fun i=>hln (i+1)
    have hln2:(R1).length≤100001:=by rw [List.length_cons] at hsl;omega
    obtain ⟨R,hRR⟩:∃ R,R=R1:=⟨_,rfl⟩
    subst hRR
    refine xecR (Y8_ok s) (kp89) Tryz.func89 [.cell 2 50] (h:=fun KF=>?_)
    unfold Y8
    repeat' (first
     |(with_reducible first|refine nx ?_|refine t_seq fun K=>?_|refine t_br (fun hc=>?_) fun hc=>?_|refine t_bx ?_|apply And.intro|intro vr)|exact kpd
     |((with_reducible first|refine ny ?_|refine t_kLF ?_ ?_|refine t_drawE (id:=9) (fun i=>i==0) [(0,1),(1,1),(2,1),(3,1),(4,1),(5,1),(6,0),(7,1)] (by kernel_rfl) fun K=>?_|refine t_dwh (h:=fun K KL=>?_));intros;simp only [go_sem,kp89,geff,z53,hsp,hix,hk5,g1,g4,hdr,htk,gz,gy,txs_hd0,htk2,htk3,txs_length,List.length_cons,yes]))
    all_goals try exact nd
    refine t_loopF (ι:={q:Nat×(Nat→Int) // q.1≤R.length∧∀ j,j<q.1→int? (R.getD j [])=some (q.2 j)}) (fun i=>[(51,.lit (.int .i64 i.1.1))]) (fun i=>[.box 50 [.lit (.int .i64 0),.lit (.string (bs [])),.lit (.int .i64 0),.lit (.int .i64 0),.lit (.int .i64 0),.lit (.int .i64 0)],.box 117 [.sl false 1 (txs (N::q::R))],.box 136 fCs,.box 50 [.lit (.int .i64 5),.lit (.string (bs q)),.lit (.int .i64 (oc i.1.2 i.1.1 0)),.lit (.int .i64 (oc i.1.2 i.1.1 1)),.lit (.int .i64 (oc i.1.2 i.1.1 2)),.lit (.int .i64 (oc i.1.2 i.1.1 3))],.box 149 [.ref 3 2,.ref 3 3,.ref 3 4,.ref 3 5]]) (fun i=>R.length - i.1.1) ⟨(0,fun _=>0),by omega,fun j hj=>absurd hj (by simp)⟩ ?_ ?_
    ·exact lf
    rintro ⟨⟨i,v⟩,hi,hv⟩ K0
    simp only at hi hv
    have hdx:∀ i,List.getD (txs R) i (.lit (.string (bs [])))= .lit (.string (bs (R.getD i []))):=fun i=>txs_getJ R i
    rcases Nat.lt_or_ge i R.length with hc|hc
    ·have hil:=hlr i
     cases hn1:int? (R.getD i []) with
     |none=>
      rw [nums_no hc hn1] at hP
      rcases (show i=0∨i=1∨i=2∨i=3 by omega) with rfl|rfl|rfl|rfl
      ·have hi0:((((0:Nat):Int)):Int)=0:=rfl
       have g2:decide ((0:Int)<(R.length:Int))=true:=decide_eq_true (by omega)
       have g3:(0:Int)<(R.length:Int):=by omega
       repeat' (first
        |(with_reducible first|refine nx ?_|refine t_seq fun K=>?_|refine t_br (fun hc=>?_) fun hc=>?_|refine t_bx ?_|apply And.intro|intro vr)|exact kpd
        |((with_reducible first|refine ny ?_|refine t_kLF ?_ ?_|refine t_drawE (id:=9) (fun i=>i==0) [(0,1),(1,1),(2,1),(3,1),(4,1),(5,1),(6,0),(7,1)] (by kernel_rfl) fun K=>?_|refine t_dwh (h:=fun K KL=>?_));intros;simp only [go_sem,kp89,geff,hi0,g2,intX_n hn1,yes]))
       all_goals try exact nd
       all_goals first|exact ⟨hP,rfl⟩|exact ⟨trivial,hP,rfl⟩
      ·have hi0:((((1:Nat):Int)):Int)=1:=rfl
       have g2:decide ((1:Int)<(R.length:Int))=true:=decide_eq_true (by omega)
       have g3:(1:Int)<(R.length:Int):=by omega
       repeat' (first
        |(with_reducible first|refine nx ?_|refine t_seq fun K=>?_|refine t_br (fun hc=>?_) fun hc=>?_|refine t_bx ?_|apply And.intro|intro vr)|exact kpd
        |((with_reducible first|refine ny ?_|refine t_kLF ?_ ?_|refine t_drawE (id:=9) (fun i=>i==0) [(0,1),(1,1),(2,1),(3,1),(4,1),(5,1),(6,0),(7,1)] (by kernel_rfl) fun K=>?_|refine t_dwh (h:=fun K KL=>?_));intros;simp only [go_sem,kp89,geff,hi0,g2,intX_n hn1,yes]))
       all_goals try exact nd
       all_goals first|exact ⟨hP,rfl⟩|exact ⟨trivial,hP,rfl⟩
      ·have hi0:((((2:Nat):Int)):Int)=2:=rfl
       have g2:decide ((2:Int)<(R.length:Int))=true:=decide_eq_true (by omega)
       have g3:(2:Int)<(R.length:Int):=by omega
       repeat' (first
        |(with_reducible first|refine nx ?_|refine t_seq fun K=>?_|refine t_br (fun hc=>?_) fun hc=>?_|refine t_bx ?_|apply And.intro|intro vr)|exact kpd
        |((with_reducible first|refine ny ?_|refine t_kLF ?_ ?_|refine t_drawE (id:=9) (fun i=>i==0) [(0,1),(1,1),(2,1),(3,1),(4,1),(5,1),(6,0),(7,1)] (by kernel_rfl) fun K=>?_|refine t_dwh (h:=fun K KL=>?_));intros;simp only [go_sem,kp89,geff,hi0,g2,intX_n hn1,yes]))
       all_goals try exact nd
       all_goals first|exact ⟨hP,rfl⟩|exact ⟨trivial,hP,rfl⟩
      ·have hi0:((((3:Nat):Int)):Int)=3:=rfl
       have g2:decide ((3:Int)<(R.length:Int))=true:=decide_eq_true (by omega)
       have g3:(3:Int)<(R.length:Int):=by omega
       repeat' (first
        |(with_reducible first|refine nx ?_|refine t_seq fun K=>?_|refine t_br (fun hc=>?_) fun hc=>?_|refine t_bx ?_|apply And.intro|intro vr)|exact kpd
        |((with_reducible first|refine ny ?_|refine t_kLF ?_ ?_|refine t_drawE (id:=9) (fun i=>i==0) [(0,1),(1,1),(2,1),(3,1),(4,1),(5,1),(6,0),(7,1)] (by kernel_rfl) fun K=>?_|refine t_dwh (h:=fun K KL=>?_));intros;simp only [go_sem,kp89,geff,hi0,g2,intX_n hn1,yes]))
       all_goals try exact nd
       all_goals first|exact ⟨hP,rfl⟩|exact ⟨trivial,hP,rfl⟩
     |some n=>
      have hv2:∀ j,j<i+1→int? (R.getD j [])=some ((fun j=>if j=i then n else v j) j):=fun j hj=>by
        by_cases e:j=i
        ·subst e;simpa using hn1
        ·simp only [if_neg e];exact hv j (by omega)
      have hoc:∀ j,j≠i→oc (fun j=>if j=i then n else v j) (i+1) j=oc v i j:=fun j hj=>by
        unfold oc;simp only [if_neg hj];by_cases h:j<i
        ·rw [if_pos (by omega),if_pos h]
        ·rw [if_neg (by omega),if_neg h]
      have hoi:oc (fun j=>if j=i then n else v j) (i+1) i=n:=by unfold oc;rw [if_pos (by omega)];simp
      rcases (show i=0∨i=1∨i=2∨i=3 by omega) with rfl|rfl|rfl|rfl
      ·have hi0:((((0:Nat):Int)):Int)=0:=rfl
       have g2:decide ((0:Int)<(R.length:Int))=true:=decide_eq_true (by omega)
       have g3:(0:Int)<(R.length:Int):=by omega
       have o0:=hoi
       have o1:=hoc 1 (by decide)
       have o2:=hoc 2 (by decide)
       have o3:=hoc 3 (by decide)
       generalize hV:(fun j=>if j=0 then n else v j)=V at*
       repeat' (first
        |(with_reducible first|refine nx ?_|refine t_seq fun K=>?_|refine t_br (fun hc=>?_) fun hc=>?_|refine t_bx ?_|apply And.intro|intro vr)|exact kpd
        |((with_reducible first|refine ny ?_|refine t_kLF ?_ ?_|refine t_drawE (id:=9) (fun i=>i==0) [(0,1),(1,1),(2,1),(3,1),(4,1),(5,1),(6,0),(7,1)] (by kernel_rfl) fun K=>?_|refine t_dwh (h:=fun K KL=>?_));intros;simp only [go_sem,kp89,geff,hi0,g2,intX_s hn1,yes]))
       all_goals try exact nd
       refine ⟨⟨(1,V),by simp only;omega,hv2⟩,by simp only;omega,?_⟩
       simp only [o0,o1,o2,o3]
       first|exact lf|(refine Le.frameS (by first|rfl|(simp only [go_sem];try rfl)) ?_;repeat' (first|exact leF_top _|exact (fun _=>LeR.refl _)|(with_reducible refine leF_sl ?_ ?_)|(refine leF_upd ?_ ?_)))<;>(first|exact LeR.top _|exact LeR.refl _|(refine LeR.of_eq ?_;(try simp only [go_sem]);try rfl)|((try simp only [go_sem]);try rfl))
      ·have hi0:((((1:Nat):Int)):Int)=1:=rfl
       have g2:decide ((1:Int)<(R.length:Int))=true:=decide_eq_true (by omega)
       have g3:(1:Int)<(R.length:Int):=by omega
       have o0:=hoc 0 (by decide)
       have o1:=hoi
       have o2:=hoc 2 (by decide)
       have o3:=hoc 3 (by decide)
       generalize hV:(fun j=>if j=1 then n else v j)=V at*
       repeat' (first
        |(with_reducible first|refine nx ?_|refine t_seq fun K=>?_|refine t_br (fun hc=>?_) fun hc=>?_|refine t_bx ?_|apply And.intro|intro vr)|exact kpd
        |((with_reducible first|refine ny ?_|refine t_kLF ?_ ?_|refine t_drawE (id:=9) (fun i=>i==0) [(0,1),(1,1),(2,1),(3,1),(4,1),(5,1),(6,0),(7,1)] (by kernel_rfl) fun K=>?_|refine t_dwh (h:=fun K KL=>?_));intros;simp only [go_sem,kp89,geff,hi0,g2,intX_s hn1,yes]))
       all_goals try exact nd
       refine ⟨⟨(2,V),by simp only;omega,hv2⟩,by simp only;omega,?_⟩
       simp only [o0,o1,o2,o3]
       first|exact lf|(refine Le.frameS (by first|rfl|(simp only [go_sem];try rfl)) ?_;repeat' (first|exact leF_top _|exact (fun _=>LeR.refl _)|(with_reducible refine leF_sl ?_ ?_)|(refine leF_upd ?_ ?_)))<;>(first|exact LeR.top _|exact LeR.refl _|(refine LeR.of_eq ?_;(try simp only [go_sem]);try rfl)|((try simp only [go_sem]);try rfl))
      ·have hi0:((((2:Nat):Int)):Int)=2:=rfl
       have g2:decide ((2:Int)<(R.length:Int))=true:=decide_eq_true (by omega)
       have g3:(2:Int)<(R.length:Int):=by omega
       have o0:=hoc 0 (by decide)
       have o1:=hoc 1 (by decide)
       have o2:=hoi
       have o3:=hoc 3 (by decide)
       generalize hV:(fun j=>if j=2 then n else v j)=V at*
       repeat' (first
        |(with_reducible first|refine nx ?_|refine t_seq fun K=>?_|refine t_br (fun hc=>?_) fun hc=>?_|refine t_bx ?_|apply And.intro|intro vr)|exact kpd
        |((with_reducible first|refine ny ?_|refine t_kLF ?_ ?_|refine t_drawE (id:=9) (fun i=>i==0) [(0,1),(1,1),(2,1),(3,1),(4,1),(5,1),(6,0),(7,1)] (by kernel_rfl) fun K=>?_|refine t_dwh (h:=fun K KL=>?_));intros;simp only [go_sem,kp89,geff,hi0,g2,intX_s hn1,yes]))
       all_goals try exact nd
       refine ⟨⟨(3,V),by simp only;omega,hv2⟩,by simp only;omega,?_⟩
       simp only [o0,o1,o2,o3]
       first|exact lf|(refine Le.frameS (by first|rfl|(simp only [go_sem];try rfl)) ?_;repeat' (first|exact leF_top _|exact (fun _=>LeR.refl _)|(with_reducible refine leF_sl ?_ ?_)|(refine leF_upd ?_ ?_)))<;>(first|exact LeR.top _|exact LeR.refl _|(refine LeR.of_eq ?_;(try simp only [go_sem]);try rfl)|((try simp only [go_sem]);try rfl))
      ·have hi0:((((3:Nat):Int)):Int)=3:=rfl
       have g2:decide ((3:Int)<(R.length:Int))=true:=decide_eq_true (by omega)
       have g3:(3:Int)<(R.length:Int):=by omega
       have o0:=hoc 0 (by decide)
       have o1:=hoc 1 (by decide)
       have o2:=hoc 2 (by decide)
       have o3:=hoi
       generalize hV:(fun j=>if j=3 then n else v j)=V at*
       repeat' (first
        |(with_reducible first|refine nx ?_|refine t_seq fun K=>?_|refine t_br (fun hc=>?_) fun hc=>?_|refine t_bx ?_|apply And.intro|intro vr)|exact kpd
        |((with_reducible first|refine ny ?_|refine t_kLF ?_ ?_|refine t_drawE (id:=9) (fun i=>i==0) [(0,1),(1,1),(2,1),(3,1),(4,1),(5,1),(6,0),(7,1)] (by kernel_rfl) fun K=>?_|refine t_dwh (h:=fun K KL=>?_));intros;simp only [go_sem,kp89,geff,hi0,g2,intX_s hn1,yes]))
       all_goals try exact nd
       refine ⟨⟨(4,V),by simp only;omega,hv2⟩,by simp only;omega,?_⟩
       simp only [o0,o1,o2,o3]
       first|exact lf|(refine Le.frameS (by first|rfl|(simp only [go_sem];try rfl)) ?_;repeat' (first|exact leF_top _|exact (fun _=>LeR.refl _)|(with_reducible refine leF_sl ?_ ?_)|(refine leF_upd ?_ ?_)))<;>(first|exact LeR.top _|exact LeR.refl _|(refine LeR.of_eq ?_;(try simp only [go_sem]);try rfl)|((try simp only [go_sem]);try rfl))
    ·have hiL:i=R.length:=by omega
     subst hiL
     rw [nums_yes (v:=v) hv] at hP
     simp only at hP
     have ho:∀ j,j<4→((List.range R.length).map v).getD j 0=oc v R.length j:=fun j _=>range_get
     have hmk:mkI 5 q ((List.range R.length).map v)=⟨5,bs q,oc v R.length 0,oc v R.length 1,oc v R.length 2,oc v R.length 3⟩:=by unfold mkI;rw [ho 0 (by omega),ho 1 (by omega),ho 2 (by omega),ho 3 (by omega)]
     rw [hmk] at hP
     generalize oc v R.length 0=c0 at*
     generalize oc v R.length 1=c1 at*
     generalize oc v R.length 2=c2 at*
     generalize oc v R.length 3=c3 at*
     have g2:decide ((R.length:Int)<(R.length:Int))=false:=decide_eq_false (by omega)
     unfold accS at hP
     cases hri:rightS ⟨5,bs q,c0,c1,c2,c3⟩ 200 with
     |false=>
      rw [hri,if_neg (by simp)] at hP
      repeat' (first
       |(with_reducible first|refine nx ?_|refine t_seq fun K=>?_|refine t_br (fun hc=>?_) fun hc=>?_|refine t_bx ?_|apply And.intro|intro vr)|exact kpd
       |((with_reducible first|refine ny ?_|refine t_kLF ?_ ?_|refine t_drawE (id:=9) (fun i=>i==0) [(0,1),(1,1),(2,1),(3,1),(4,1),(5,1),(6,0),(7,1)] (by kernel_rfl) fun K=>?_|refine t_dwh (h:=fun K KL=>?_));intros;simp only [go_sem,kp89,geff,g2,hri,yes]))
      all_goals try exact nd
      all_goals first|exact ⟨hP,rfl⟩|exact ⟨trivial,hP,rfl⟩
     |true=>
      have hsm:=sm_right hri
      by_cases hln3:lineB ⟨5,bs q,c0,c1,c2,c3⟩=s
      ·rw [if_pos ⟨hri,hln3⟩] at hP
       have g5:(s==s)=true:=by simp
       have hre:∃ x,preadS s=some x∧AV.agg [.lit (.int .i64 5),.lit (.string (bs q)),.lit (.int .i64 c0),.lit (.int .i64 c1),.lit (.int .i64 c2),.lit (.int .i64 c3)]=opV x:=⟨_,hP,rfl⟩
       repeat' (first
        |(with_reducible first|refine nx ?_|refine t_seq fun K=>?_|refine t_br (fun hc=>?_) fun hc=>?_|refine t_bx ?_|apply And.intro|intro vr)|exact kpd
        |((with_reducible first|refine ny ?_|refine t_kLF ?_ ?_|refine t_drawE (id:=9) (fun i=>i==0) [(0,1),(1,1),(2,1),(3,1),(4,1),(5,1),(6,0),(7,1)] (by kernel_rfl) fun K=>?_|refine t_dwh (h:=fun K KL=>?_));intros;simp only [go_sem,kp89,geff,g2,hri,hln3,g5,yes]))
       all_goals try exact nd
       all_goals (refine end_ret rfl ?_)
       all_goals exact hre
      ·rw [if_neg (fun h=>hln3 h.2)] at hP
       have g5:(lineB ⟨5,bs q,c0,c1,c2,c3⟩==s)=false:=by simpa using hln3
       repeat' (first
        |(with_reducible first|refine nx ?_|refine t_seq fun K=>?_|refine t_br (fun hc=>?_) fun hc=>?_|refine t_bx ?_|apply And.intro|intro vr)|exact kpd
        |((with_reducible first|refine ny ?_|refine t_kLF ?_ ?_|refine t_drawE (id:=9) (fun i=>i==0) [(0,1),(1,1),(2,1),(3,1),(4,1),(5,1),(6,0),(7,1)] (by kernel_rfl) fun K=>?_|refine t_dwh (h:=fun K KL=>?_));intros;simp only [go_sem,kp89,geff,g2,hri,g5,yes]))
       all_goals try exact nd
       all_goals first|exact ⟨hP,rfl⟩|exact ⟨trivial,hP,rfl⟩
  ·have hk5:(k==5)=false:=by simpa using hk
   rw [show tlP k R0=R0 from by rw [tlP,if_neg hk],show hdP k R0=([]:List UInt8) from by rw [hdP,if_neg hk]] at hP
   by_cases hc4:(R0).length>4
   ·rw [if_pos hc4] at hP
    have g4:decide (((R0).length:Int)>4)=true:=decide_eq_true (by omega)
    refine xecR (Y8_ok s) (kp89) Tryz.func89 [.cell 2 50] (h:=fun KF=>?_)
    unfold Y8
    repeat' (first
     |(with_reducible first|refine nx ?_|refine t_seq fun K=>?_|refine t_br (fun hc=>?_) fun hc=>?_|refine t_bx ?_|apply And.intro|intro vr)|exact kpd
     |((with_reducible first|refine ny ?_|refine t_kLF ?_ ?_|refine t_drawE (id:=9) (fun i=>i==0) [(0,1),(1,1),(2,1),(3,1),(4,1),(5,1),(6,0),(7,1)] (by kernel_rfl) fun K=>?_|refine t_dwh (h:=fun K KL=>?_));intros;simp only [go_sem,kp89,geff,z53,hsp,hix,hk5,g1,g4,hdr,htk,txs_length,List.length_cons,yes]))
    all_goals try exact nd
    all_goals first|exact ⟨hP,rfl⟩|exact ⟨trivial,hP,rfl⟩
   rw [if_neg hc4] at hP
   have g4:decide (((R0).length:Int)>4)=false:=decide_eq_false (by omega)
   have hlr:∀ i,((R0).getD i []).length≤100000:=hln
   have hln2:(R0).length≤100001:=by omega
   obtain ⟨R,hRR⟩:∃ R,R=R0:=⟨_,rfl⟩
   subst hRR
   refine xecR (Y8_ok s) (kp89) Tryz.func89 [.cell 2 50] (h:=fun KF=>?_)
   unfold Y8
   repeat' (first
    |(with_reducible first|refine nx ?_|refine t_seq fun K=>?_|refine t_br (fun hc=>?_) fun hc=>?_|refine t_bx ?_|apply And.intro|intro vr)|exact kpd
    |((with_reducible first|refine ny ?_|refine t_kLF ?_ ?_|refine t_drawE (id:=9) (fun i=>i==0) [(0,1),(1,1),(2,1),(3,1),(4,1),(5,1),(6,0),(7,1)] (by kernel_rfl) fun K=>?_|refine t_dwh (h:=fun K KL=>?_));intros;simp only [go_sem,kp89,geff,z53,hsp,hix,hk5,g1,g4,hdr,htk,txs_length,List.length_cons,yes]))
   all_goals try exact nd
   refine t_loopF (ι:={q:Nat×(Nat→Int) // q.1≤R.length∧∀ j,j<q.1→int? (R.getD j [])=some (q.2 j)}) (fun i=>[(51,.lit (.int .i64 i.1.1))]) (fun i=>[.box 50 [.lit (.int .i64 0),.lit (.string (bs [])),.lit (.int .i64 0),.lit (.int .i64 0),.lit (.int .i64 0),.lit (.int .i64 0)],.box 117 [.sl false 1 (txs (N::R))],.box 136 fCs,.box 50 [.lit (.int .i64 k),.lit (.string (bs ([]:List UInt8))),.lit (.int .i64 (oc i.1.2 i.1.1 0)),.lit (.int .i64 (oc i.1.2 i.1.1 1)),.lit (.int .i64 (oc i.1.2 i.1.1 2)),.lit (.int .i64 (oc i.1.2 i.1.1 3))],.box 149 [.ref 3 2,.ref 3 3,.ref 3 4,.ref 3 5]]) (fun i=>R.length - i.1.1) ⟨(0,fun _=>0),by omega,fun j hj=>absurd hj (by simp)⟩ ?_ ?_
   ·exact lf
   rintro ⟨⟨i,v⟩,hi,hv⟩ K0
   simp only at hi hv
   have hdx:∀ i,List.getD (txs R) i (.lit (.string (bs [])))= .lit (.string (bs (R.getD i []))):=fun i=>txs_getJ R i
   rcases Nat.lt_or_ge i R.length with hc|hc
   ·have hil:=hlr i
    cases hn1:int? (R.getD i []) with
    |none=>
     rw [nums_no hc hn1] at hP
     rcases (show i=0∨i=1∨i=2∨i=3 by omega) with rfl|rfl|rfl|rfl
     ·have hi0:((((0:Nat):Int)):Int)=0:=rfl
      have g2:decide ((0:Int)<(R.length:Int))=true:=decide_eq_true (by omega)
      have g3:(0:Int)<(R.length:Int):=by omega
      repeat' (first
       |(with_reducible first|refine nx ?_|refine t_seq fun K=>?_|refine t_br (fun hc=>?_) fun hc=>?_|refine t_bx ?_|apply And.intro|intro vr)|exact kpd
       |((with_reducible first|refine ny ?_|refine t_kLF ?_ ?_|refine t_drawE (id:=9) (fun i=>i==0) [(0,1),(1,1),(2,1),(3,1),(4,1),(5,1),(6,0),(7,1)] (by kernel_rfl) fun K=>?_|refine t_dwh (h:=fun K KL=>?_));intros;simp only [go_sem,kp89,geff,hi0,g2,intX_n hn1,yes]))
      all_goals try exact nd
      all_goals first|exact ⟨hP,rfl⟩|exact ⟨trivial,hP,rfl⟩
     ·have hi0:((((1:Nat):Int)):Int)=1:=rfl
      have g2:decide ((1:Int)<(R.length:Int))=true:=decide_eq_true (by omega)
      have g3:(1:Int)<(R.length:Int):=by omega
      repeat' (first
       |(with_reducible first|refine nx ?_|refine t_seq fun K=>?_|refine t_br (fun hc=>?_) fun hc=>?_|refine t_bx ?_|apply And.intro|intro vr)|exact kpd
       |((with_reducible first|refine ny ?_|refine t_kLF ?_ ?_|refine t_drawE (id:=9) (fun i=>i==0) [(0,1),(1,1),(2,1),(3,1),(4,1),(5,1),(6,0),(7,1)] (by kernel_rfl) fun K=>?_|refine t_dwh (h:=fun K KL=>?_));intros;simp only [go_sem,kp89,geff,hi0,g2,intX_n hn1,yes]))
      all_goals try exact nd
      all_goals first|exact ⟨hP,rfl⟩|exact ⟨trivial,hP,rfl⟩
     ·have hi0:((((2:Nat):Int)):Int)=2:=rfl
      have g2:decide ((2:Int)<(R.length:Int))=true:=decide_eq_true (by omega)
      have g3:(2:Int)<(R.length:Int):=by omega
      repeat' (first
       |(with_reducible first|refine nx ?_|refine t_seq fun K=>?_|refine t_br (fun hc=>?_) fun hc=>?_|refine t_bx ?_|apply And.intro|intro vr)|exact kpd
       |((with_reducible first|refine ny ?_|refine t_kLF ?_ ?_|refine t_drawE (id:=9) (fun i=>i==0) [(0,1),(1,1),(2,1),(3,1),(4,1),(5,1),(6,0),(7,1)] (by kernel_rfl) fun K=>?_|refine t_dwh (h:=fun K KL=>?_));intros;simp only [go_sem,kp89,geff,hi0,g2,intX_n hn1,yes]))
      all_goals try exact nd
      all_goals first|exact ⟨hP,rfl⟩|exact ⟨trivial,hP,rfl⟩
     ·have hi0:((((3:Nat):Int)):Int)=3:=rfl
      have g2:decide ((3:Int)<(R.length:Int))=true:=decide_eq_true (by omega)
      have g3:(3:Int)<(R.length:Int):=by omega
      repeat' (first
       |(with_reducible first|refine nx ?_|refine t_seq fun K=>?_|refine t_br (fun hc=>?_) fun hc=>?_|refine t_bx ?_|apply And.intro|intro vr)|exact kpd
       |((with_reducible first|refine ny ?_|refine t_kLF ?_ ?_|refine t_drawE (id:=9) (fun i=>i==0) [(0,1),(1,1),(2,1),(3,1),(4,1),(5,1),(6,0),(7,1)] (by kernel_rfl) fun K=>?_|refine t_dwh (h:=fun K KL=>?_));intros;simp only [go_sem,kp89,geff,hi0,g2,intX_n hn1,yes]))
      all_goals try exact nd
      all_goals first|exact ⟨hP,rfl⟩|exact ⟨trivial,hP,rfl⟩
    |some n=>
     have hv2:∀ j,j<i+1→int? (R.getD j [])=some ((fun j=>if j=i then n else v j) j):=fun j hj=>by
       by_cases e:j=i
       ·subst e;simpa using hn1
       ·simp only [if_neg e];exact hv j (by omega)
     have hoc:∀ j,j≠i→oc (fun j=>if j=i then n else v j) (i+1) j=oc v i j:=fun j hj=>by
       unfold oc;simp only [if_neg hj];by_cases h:j<i
       ·rw [if_pos (by omega),if_pos h]
       ·rw [if_neg (by omega),if_neg h]
     have hoi:oc (fun j=>if j=i then n else v j) (i+1) i=n:=by unfold oc;rw [if_pos (by omega)];simp
     rcases (show i=0∨i=1∨i=2∨i=3 by omega) with rfl|rfl|rfl|rfl
     ·have hi0:((((0:Nat):Int)):Int)=0:=rfl
      have g2:decide ((0:Int)<(R.length:Int))=true:=decide_eq_true (by omega)
      have g3:(0:Int)<(R.length:Int):=by omega
      have o0:=hoi
      have o1:=hoc 1 (by decide)
      have o2:=hoc 2 (by decide)
      have o3:=hoc 3 (by decide)
      generalize hV:(fun j=>if j=0 then n else v j)=V at*
      repeat' (first
       |(with_reducible first|refine nx ?_|refine t_seq fun K=>?_|refine t_br (fun hc=>?_) fun hc=>?_|refine t_bx ?_|apply And.intro|intro vr)|exact kpd
       |((with_reducible first|refine ny ?_|refine t_kLF ?_ ?_|refine t_drawE (id:=9) (fun i=>i==0) [(0,1),(1,1),(2,1),(3,1),(4,1),(5,1),(6,0),(7,1)] (by kernel_rfl) fun K=>?_|refine t_dwh (h:=fun K KL=>?_));intros;simp only [go_sem,kp89,geff,hi0,g2,intX_s hn1,yes]))
      all_goals try exact nd
      refine ⟨⟨(1,V),by simp only;omega,hv2⟩,by simp only;omega,?_⟩
      simp only [o0,o1,o2,o3]
      first|exact lf|(refine Le.frameS (by first|rfl|(simp only [go_sem];try rfl)) ?_;repeat' (first|exact leF_top _|exact (fun _=>LeR.refl _)|(with_reducible refine leF_sl ?_ ?_)|(refine leF_upd ?_ ?_)))<;>(first|exact LeR.top _|exact LeR.refl _|(refine LeR.of_eq ?_;(try simp only [go_sem]);try rfl)|((try simp only [go_sem]);try rfl))
     ·have hi0:((((1:Nat):Int)):Int)=1:=rfl
      have g2:decide ((1:Int)<(R.length:Int))=true:=decide_eq_true (by omega)
      have g3:(1:Int)<(R.length:Int):=by omega
      have o0:=hoc 0 (by decide)
      have o1:=hoi
      have o2:=hoc 2 (by decide)
      have o3:=hoc 3 (by decide)
      generalize hV:(fun j=>if j=1 then n else v j)=V at*
      repeat' (first
       |(with_reducible first|refine nx ?_|refine t_seq fun K=>?_|refine t_br (fun hc=>?_) fun hc=>?_|refine t_bx ?_|apply And.intro|intro vr)|exact kpd
       |((with_reducible first|refine ny ?_|refine t_kLF ?_ ?_|refine t_drawE (id:=9) (fun i=>i==0) [(0,1),(1,1),(2,1),(3,1),(4,1),(5,1),(6,0),(7,1)] (by kernel_rfl) fun K=>?_|refine t_dwh (h:=fun K KL=>?_));intros;simp only [go_sem,kp89,geff,hi0,g2,intX_s hn1,yes]))
      all_goals try exact nd
      refine ⟨⟨(2,V),by simp only;omega,hv2⟩,by simp only;omega,?_⟩
      simp only [o0,o1,o2,o3]
      first|exact lf|(refine Le.frameS (by first|rfl|(simp only [go_sem];try rfl)) ?_;repeat' (first|exact leF_top _|exact (fun _=>LeR.refl _)|(with_reducible refine leF_sl ?_ ?_)|(refine leF_upd ?_ ?_)))<;>(first|exact LeR.top _|exact LeR.refl _|(refine LeR.of_eq ?_;(try simp only [go_sem]);try rfl)|((try simp only [go_sem]);try rfl))
     ·have hi0:((((2:Nat):Int)):Int)=2:=rfl
      have g2:decide ((2:Int)<(R.length:Int))=true:=decide_eq_true (by omega)
      have g3:(2:Int)<(R.length:Int):=by omega
      have o0:=hoc 0 (by decide)
      have o1:=hoc 1 (by decide)
      have o2:=hoi
      have o3:=hoc 3 (by decide)
      generalize hV:(fun j=>if j=2 then n else v j)=V at*
      repeat' (first
       |(with_reducible first|refine nx ?_|refine t_seq fun K=>?_|refine t_br (fun hc=>?_) fun hc=>?_|refine t_bx ?_|apply And.intro|intro vr)|exact kpd
       |((with_reducible first|refine ny ?_|refine t_kLF ?_ ?_|refine t_drawE (id:=9) (fun i=>i==0) [(0,1),(1,1),(2,1),(3,1),(4,1),(5,1),(6,0),(7,1)] (by kernel_rfl) fun K=>?_|refine t_dwh (h:=fun K KL=>?_));intros;simp only [go_sem,kp89,geff,hi0,g2,intX_s hn1,yes]))
      all_goals try exact nd
      refine ⟨⟨(3,V),by simp only;omega,hv2⟩,by simp only;omega,?_⟩
      simp only [o0,o1,o2,o3]
      first|exact lf|(refine Le.frameS (by first|rfl|(simp only [go_sem];try rfl)) ?_;repeat' (first|exact leF_top _|exact (fun _=>LeR.refl _)|(with_reducible refine leF_sl ?_ ?_)|(refine leF_upd ?_ ?_)))<;>(first|exact LeR.top _|exact LeR.refl _|(refine LeR.of_eq ?_;(try simp only [go_sem]);try rfl)|((try simp only [go_sem]);try rfl))
     ·have hi0:((((3:Nat):Int)):Int)=3:=rfl
      have g2:decide ((3:Int)<(R.length:Int))=true:=decide_eq_true (by omega)
      have g3:(3:Int)<(R.length:Int):=by omega
      have o0:=hoc 0 (by decide)
      have o1:=hoc 1 (by decide)
      have o2:=hoc 2 (by decide)
      have o3:=hoi
      generalize hV:(fun j=>if j=3 then n else v j)=V at*
      repeat' (first
       |(with_reducible first|refine nx ?_|refine t_seq fun K=>?_|refine t_br (fun hc=>?_) fun hc=>?_|refine t_bx ?_|apply And.intro|intro vr)|exact kpd
       |((with_reducible first|refine ny ?_|refine t_kLF ?_ ?_|refine t_drawE (id:=9) (fun i=>i==0) [(0,1),(1,1),(2,1),(3,1),(4,1),(5,1),(6,0),(7,1)] (by kernel_rfl) fun K=>?_|refine t_dwh (h:=fun K KL=>?_));intros;simp only [go_sem,kp89,geff,hi0,g2,intX_s hn1,yes]))
      all_goals try exact nd
      refine ⟨⟨(4,V),by simp only;omega,hv2⟩,by simp only;omega,?_⟩
      simp only [o0,o1,o2,o3]
      first|exact lf|(refine Le.frameS (by first|rfl|(simp only [go_sem];try rfl)) ?_;repeat' (first|exact leF_top _|exact (fun _=>LeR.refl _)|(with_reducible refine leF_sl ?_ ?_)|(refine leF_upd ?_ ?_)))<;>(first|exact LeR.top _|exact LeR.refl _|(refine LeR.of_eq ?_;(try simp only [go_sem]);try rfl)|((try simp only [go_sem]);try rfl))
   ·have hiL:i=R.length:=by omega
    subst hiL
    rw [nums_yes (v:=v) hv] at hP
    simp only at hP
    have ho:∀ j,j<4→((List.range R.length).map v).getD j 0=oc v R.length j:=fun j _=>range_get
    have hmk:mkI k ([]:List UInt8) ((List.range R.length).map v)=⟨k,bs ([]:List UInt8),oc v R.length 0,oc v R.length 1,oc v R.length 2,oc v R.length 3⟩:=by unfold mkI;rw [ho 0 (by omega),ho 1 (by omega),ho 2 (by omega),ho 3 (by omega)]
    rw [hmk] at hP
    generalize oc v R.length 0=c0 at*
    generalize oc v R.length 1=c1 at*
    generalize oc v R.length 2=c2 at*
    generalize oc v R.length 3=c3 at*
    have g2:decide ((R.length:Int)<(R.length:Int))=false:=decide_eq_false (by omega)
    unfold accS at hP
    cases hri:rightS ⟨k,bs ([]:List UInt8),c0,c1,c2,c3⟩ 200 with
    |false=>
     rw [hri,if_neg (by simp)] at hP
     repeat' (first
      |(with_reducible first|refine nx ?_|refine t_seq fun K=>?_|refine t_br (fun hc=>?_) fun hc=>?_|refine t_bx ?_|apply And.intro|intro vr)|exact kpd
      |((with_reducible first|refine ny ?_|refine t_kLF ?_ ?_|refine t_drawE (id:=9) (fun i=>i==0) [(0,1),(1,1),(2,1),(3,1),(4,1),(5,1),(6,0),(7,1)] (by kernel_rfl) fun K=>?_|refine t_dwh (h:=fun K KL=>?_));intros;simp only [go_sem,kp89,geff,g2,hri,yes]))
     all_goals try exact nd
     all_goals first|exact ⟨hP,rfl⟩|exact ⟨trivial,hP,rfl⟩
    |true=>
     have hsm:=sm_right hri
     by_cases hln3:lineB ⟨k,bs ([]:List UInt8),c0,c1,c2,c3⟩=s
     ·rw [if_pos ⟨hri,hln3⟩] at hP
      have g5:(s==s)=true:=by simp
      have hre:∃ x,preadS s=some x∧AV.agg [.lit (.int .i64 k),.lit (.string (bs ([]:List UInt8))),.lit (.int .i64 c0),.lit (.int .i64 c1),.lit (.int .i64 c2),.lit (.int .i64 c3)]=opV x:=⟨_,hP,rfl⟩
      repeat' (first
       |(with_reducible first|refine nx ?_|refine t_seq fun K=>?_|refine t_br (fun hc=>?_) fun hc=>?_|refine t_bx ?_|apply And.intro|intro vr)|exact kpd
       |((with_reducible first|refine ny ?_|refine t_kLF ?_ ?_|refine t_drawE (id:=9) (fun i=>i==0) [(0,1),(1,1),(2,1),(3,1),(4,1),(5,1),(6,0),(7,1)] (by kernel_rfl) fun K=>?_|refine t_dwh (h:=fun K KL=>?_));intros;simp only [go_sem,kp89,geff,g2,hri,hln3,g5,yes]))
      all_goals try exact nd
      all_goals (refine end_ret rfl ?_)
      all_goals exact hre
     ·rw [if_neg (fun h=>hln3 h.2)] at hP
      have g5:(lineB ⟨k,bs ([]:List UInt8),c0,c1,c2,c3⟩==s)=false:=by simpa using hln3
      repeat' (first
       |(with_reducible first|refine nx ?_|refine t_seq fun K=>?_|refine t_br (fun hc=>?_) fun hc=>?_|refine t_bx ?_|apply And.intro|intro vr)|exact kpd
       |((with_reducible first|refine ny ?_|refine t_kLF ?_ ?_|refine t_drawE (id:=9) (fun i=>i==0) [(0,1),(1,1),(2,1),(3,1),(4,1),(5,1),(6,0),(7,1)] (by kernel_rfl) fun K=>?_|refine t_dwh (h:=fun K KL=>?_));intros;simp only [go_sem,kp89,geff,g2,hri,g5,yes]))
      all_goals try exact nd
      all_goals first|exact ⟨hP,rfl⟩|exact ⟨trivial,hP,rfl⟩
end Go.Proofs.YtohiagaclfaolaaGreatDoor.Tx

namespace Go.Proofs.YtohiagaclfaolaaGreatDoor.Tx
open Go.Proofs.YtohiagaclfaolaaGreatDoor
open Go Go.Fw Go.RowKit
set_option maxRecDepth 20000
theorem catch_idle (p q:Addr) (w:World):
    CallsD Tryz.prog 88 #[.pointer (some p),.pointer (some q)] .returning w fun e u' w'=>e= .returned (.tuple #[])∧u'= .returning∧w'=w:=by
  refine callsD_of_wpS Tryz.func88 rfl fun c₀ cs hu=>?_
  apply wpS_seq
  apply wpS_region
  simp [wpOpsS,go_sem,recoverD,hu,Tryz.ntmps88,Exit.thenS]
  apply wpS_seq
  apply wpS_region
  simp [wpOpsS,go_sem,recoverD,hu,Tryz.ntmps88,Exit.thenS]
  refine wpS_cond (t:=false) (by simp [Act.eval,Array.replicate]) ?_
  simp only [Bool.false_eq_true,if_false]
  refine wpS_of_wp (wp_skip ?_)
  cases c₀
  simp_all [bodyPostS,results,Tryz.results34]
theorem alloc2_0 (w:World) (c1 c2:Obj):((w.alloc c1).alloc c2).heap[w.heap.size]? =some c1:=by
  show ((w.heap.push c1).push c2)[w.heap.size]? =_
  rw [Array.getElem?_push,if_neg (by simp),Array.getElem?_push,if_pos rfl]
theorem alloc2_1 (w:World) (c1 c2:Obj):((w.alloc c1).alloc c2).heap[w.heap.size+1]? =some c2:=by
  show ((w.heap.push c1).push c2)[w.heap.size+1]? =_
  rw [Array.getElem?_push,if_pos (by simp)]
theorem alloc2_old (w:World) (c1 c2:Obj) {i:Nat} (h:i<w.heap.size):((w.alloc c1).alloc c2).heap[i]? =w.heap[i]? :=by
  show ((w.heap.push c1).push c2)[i]? =_
  rw [Array.getElem?_push,if_neg (by simp;omega),Array.getElem?_push,if_neg (by omega)]
theorem wpl_store {P:Program} {ops:Array Oper} {Q:Exit→Act→World→Prop} {rest:List Oper} {act:Act} {w w2:World} {t:TypeId} {x y:Operand} {ty:TypeId} {pos:String} {af:Array Edge}
    (h:(Instr.storeAt t (act.eval x) (act.eval y)).run P w= .ok () w2) (hq:wpList P ops Q rest (act.put none undef) w2):
    wpList P ops Q ({dst:=none,op:= .store t x y,type:=ty,pos:=pos,after:=af,guard:=none}::rest) act w:=by
  have e:(execOp act.eval {dst:=none,op:= .store t x y,type:=ty,pos:=pos,after:=af,guard:=none}).run P w= .ok .skip w2:=by
    unfold execOp
    simp only [Sem.run_bind,h,Result.andThen_ok,Sem.run_pure]
  show (if _ then _ else _)
  rw [if_pos (by simp [Region.wanted])]
  left
  unfold Oper.wp
  rw [e]
  exact hq
theorem parsed_calls {s p:ByteArray} {k a b c d:Int} (w:World) (h:∀ w1:World,More w w1→Calls Tryz.prog 89 #[.string s] w1 fun e w'=>e= .returned (.agg #[.int .i64 k,.string p,.int .i64 a,.int .i64 b,.int .i64 c,.int .i64 d])∧Below w1.heap.size w1 w'):
    Calls Tryz.prog 53 #[.string s] w fun e w'=>e= .returned (.tuple #[.agg #[.int .i64 k,.string p,.int .i64 a,.int .i64 b,.int .i64 c,.int .i64 d],.bool true])∧Below w.heap.size w w':=by
  have hmf:∀ (fn:Fn) (first cap:Array Value) (w:World),(Instr.makeFunc fn first cap).run Tryz.prog w= .ok (.func fn first cap) w:=fun _ _ _ _=>rfl
  go_enter_defers Tryz.func53,Tryz.ntmps53
  go_wp2_with fail
  have hm2:More w ((w.alloc (.cells #[.int .i64 0,.string ⟨#[]⟩,.int .i64 0,.int .i64 0,.int .i64 0,.int .i64 0] 50)).alloc (.cells #[.bool false] 4)):=(More.push w _).trans (More.push _ _)
  refine (h _ hm2).mono ?_
  rintro e w' ⟨rfl,hb⟩
  rename_i K0 hK0 K hK
  apply hK
  have hsz:((w.alloc (.cells #[.int .i64 0,.string ⟨#[]⟩,.int .i64 0,.int .i64 0,.int .i64 0,.int .i64 0] 50)).alloc (.cells #[.bool false] 4)).heap.size=w.heap.size+2:=by simp
  have hB:Blk w' w.heap.size #[.int .i64 0,.string ⟨#[]⟩,.int .i64 0,.int .i64 0,.int .i64 0,.int .i64 0] 50:=⟨(0,0),(hb.block _ (by rw [hsz];omega)).trans (alloc2_0 _ _ _),Nat.le_refl _,fun _ _ h=>by simp at h⟩
  have hB2:Blk w' (w.heap.size+1) #[.bool false] 4:=⟨(0,0),(hb.block _ (by rw [hsz];omega)).trans (alloc2_1 _ _ _),Nat.le_refl _,fun _ _ h=>by simp at h⟩
  obtain ⟨w2,k1,k2,k3⟩:=storeAt_run (P:=Tryz.prog) (t:=50) (v:= .agg #[.int .i64 k,.string p,.int .i64 a,.int .i64 b,.int .i64 c,.int .i64 d]) (off:=0) hB (by rw [sz50];omega) (by rw [sz50];rfl) (by rw [sz50];exact Nat.le_refl _) (by intro i hi;simp [Value.cells] at hi;rcases hi with rfl|rfl|rfl|rfl|rfl|rfl<;>rfl)
  have hB2':Blk w2 (w.heap.size+1) #[.bool false] 4:=hB2.of_same (k3.block _ (by omega))
  obtain ⟨w3,l1,l2,l3⟩:=storeAt_run (P:=Tryz.prog) (t:=4) (v:= .bool true) (off:=0) hB2' (by rw [sz4];omega) (by rw [sz4];rfl) (by rw [sz4];exact Nat.le_refl _) (by intro i hi;simp [Value.cells] at hi;subst hi;rfl)
  refine wpl_store (by simpa [Act.eval,Act.put] using k1) ?_
  refine wpl_store (by simpa [Act.eval,Act.put] using l1) ?_
  show K0 _ _
  apply hK0
  refine wp_ret ?_
  show Leaves Tryz.prog Tryz.f53 _ _ _ _ _
  simp only [Act.put]
  refine leaves_cons (f:=88) (args:= #[.pointer (some ⟨w.heap.size,0,none⟩),.pointer (some ⟨w.heap.size+1,0,none⟩)]) (by simp) (by simp [go_sem]) ?_
  refine (catch_idle ⟨w.heap.size,0,none⟩ ⟨w.heap.size+1,0,none⟩ _).mono ?_
  rintro e u' w'' ⟨rfl,rfl,rfl⟩
  simp only [Leaves,settle]
  have hb1:Blk w'' w.heap.size #[.int .i64 k,.string p,.int .i64 a,.int .i64 b,.int .i64 c,.int .i64 d] 50:=Blk.of_same k2 (l3.block _ (by omega))
  have hb2:Blk w'' (w.heap.size+1) #[.bool true] 4:=l2
  have r1:(loadVar 50 ⟨w.heap.size,0,none⟩).run Tryz.prog w''= .ok (.agg #[.int .i64 k,.string p,.int .i64 a,.int .i64 b,.int .i64 c,.int .i64 d]) w'':=by
    have hr:=loadCells_run (P:=Tryz.prog) (w:=w'') w.heap.size 0 6 (fun j=>[Value.int .i64 k,.string p,.int .i64 a,.int .i64 b,.int .i64 c,.int .i64 d].getD j undef) (fun j hj=>by
      rw [Nat.zero_add,hb1.cell j]
      match j,hj with
      |0,_=>rfl
      |1,_=>rfl
      |2,_=>rfl
      |3,_=>rfl
      |4,_=>rfl
      |5,_=>rfl)
    simp [loadVar,aggT_run ag50,run_size Tryz.underlying50,sz50,hr,List.range,List.range.loop]
  have r2:(loadVar 4 ⟨w.heap.size+1,0,none⟩).run Tryz.prog w''= .ok (.bool true) w'':=by
    have h0:w''.cell? ⟨w.heap.size+1,0,none⟩=some (.bool true):=by rw [hb2.cell 0];rfl
    simp [loadVar,aggT_run ag4,h0]
  refine ⟨_,?_,rfl,?_⟩
  ·simp [results,Tryz.results26,asAddr,r1,r2]
  ·refine ⟨?_,?_,?_,?_,fun i hi=>?_⟩
   ·rw [l3.os,k3.os,hb.os];rfl
   ·rw [l3.tape,k3.tape,hb.tape];rfl
   ·rw [l3.output,k3.output,hb.output];rfl
   ·rw [l3.size,k3.size];have:=hb.size;rw [hsz] at this;omega
   ·rw [l3.block _ (by omega),k3.block _ (by omega),hb.block _ (by rw [hsz];omega),alloc2_old _ _ _ hi]
end Go.Proofs.YtohiagaclfaolaaGreatDoor.Tx

namespace Go.Proofs.YtohiagaclfaolaaGreatDoor.Tx
open Go.Proofs.YtohiagaclfaolaaGreatDoor
open Go Go.Fw Go.RowKit Bm
set_option maxRecDepth 20000
def opVal (x:Ins):Value:= .agg #[.int .i64 x.code,.string x.prim,.int .i64 x.a,.int .i64 x.b,.int .i64 x.c,.int .i64 x.d]
theorem r_aggl {G:Gh} {xs:List Value} {v:Value} (h:R G (.agg (xs.map .lit)) v):v= .agg xs.toArray:=by
  generalize hz:AV.agg (xs.map .lit)=z at h
  have key:∀ (T:AV→Value→Prop) (vs:List Value),(∀ a v,T (.lit a) v→v=a)→vs.length=(xs.map AV.lit).length→(∀ i,i<(xs.map AV.lit).length→T ((xs.map AV.lit).getD i .top) (vs.getD i undef))→vs=xs:=by
    intro T vs hT hl hh
    refine List.ext_getElem (by simpa using hl) fun i hi hj=>?_
    have:=hh i (by simpa using hj)
    rw [List.getD_eq_getElem?_getD,List.getD_eq_getElem?_getD,List.getElem?_map,List.getElem?_eq_getElem hj,List.getElem?_eq_getElem hi] at this
    exact hT _ _ this
  cases h with
  |clo x v h=>
   subst hz
   generalize hz:AV.agg (xs.map .lit)=z at h
   cases h with
   |agg ys vs hl h1 hh=>
    cases hz
    rw [key (RC G.C) vs (fun a v h=>rc_lit h) hl hh]
   |_=>cases hz
  |agg ys vs hl h1 hh=>
   cases hz
   rw [key (R G) vs (fun a v h=>r_lit h) hl hh]
  |_=>cases hz
theorem read_calls {s:List UInt8} (hs:s.length≤100000) (w:World) (hT:Tabs w):
    Calls Tryz.prog 89 #[.string (bs s)] w fun e w'=>(match preadS s with
      |some x=>e= .returned (opVal x)
      |none=>e= .panicked [{v:=wrongV,recovered:=false}])∧Below w.heap.size w w':=by
  have h0:Rel {w0:=w,M:=fun _=>False,G0:=⟨fun _ _=>none,0,fun _=>undef,fun _=>0⟩,px:=rdX s,tab:=hT,nm:=fun _ h=>h} ⟨fun _ _=>none,0,fun _=>undef,fun _=>0⟩ [] w:=by
    refine ⟨rfl,?_,?_,?_,fun _ _ _ h=>(by cases h),rfl,rfl,rfl,Nat.le_refl _,fun _ _ _=>rfl,fun _ _ _ _=>rfl,Gh.le.refl _⟩
    ·intro o ob ho;simp at ho
    ·intro o1 o2 ob1 ob2 g ho1;simp at ho1
    ·intro o ob g ho;simp at ho
  refine (read_xec hs _ _ w [.string (bs s)] rfl h0 ⟨rfl,fun i hi=>?_⟩).mono ?_
  ·match i,hi with
   |0,_=>exact .clo _ _ (.lit _)
  ·intro e w' h
   cases e with
   |returned v=>
    obtain ⟨G',σ',x,_,hr,hx,y,hy,rfl⟩:=h
    rw [hy]
    refine ⟨?_,hr.os,hr.tape,hr.output,hr.size,fun k hk=>hr.block k hk (fun h=>h)⟩
    have:=r_aggl (xs:=[.int .i64 y.code,.string y.prim,.int .i64 y.a,.int .i64 y.b,.int .i64 y.c,.int .i64 y.d]) hx
    rw [this];rfl
   |panicked chain=>
    obtain ⟨v,G',σ',x,rfl,_,hr,hx,hp,rfl⟩:=h
    rw [hp]
    refine ⟨?_,hr.os,hr.tape,hr.output,hr.size,fun k hk=>hr.block k hk (fun h=>h)⟩
    rw [r_lit hx]
   |outgrown=>exact h.elim
@[go_sem] theorem assert123 (W : World) (v : Value) : (Instr.typeAssert (.iface 123 v) 20 123 true).run Tryz.prog W = .ok (.tuple #[v, .bool true]) W := by kernel_rfl
set_option maxHeartbeats 4000000 in
theorem catch_wrong {p q:Nat} {w:World} (h1:Blk w p #[.int .i64 0,.string ⟨#[]⟩,.int .i64 0,.int .i64 0,.int .i64 0,.int .i64 0] 50) (h2:Blk w q #[.bool false] 4) (hne:p≠q):
    CallsD Tryz.prog 88 #[.pointer (some ⟨p,0,none⟩),.pointer (some ⟨q,0,none⟩)] (.panicking [{v:= .iface 123 (.agg #[]),recovered:=false}]) w fun e u' w'=>e= .returned (.tuple #[])∧u'= .panicking [{v:= .iface 123 (.agg #[]),recovered:=true}]∧
      Blk w' p #[.int .i64 0,.string ⟨#[]⟩,.int .i64 0,.int .i64 0,.int .i64 0,.int .i64 0] 50∧Blk w' q #[.bool false] 4∧w'.os=w.os∧w'.tape=w.tape∧w'.output=w.output∧w.heap.size≤w'.heap.size∧∀ k,k<w.heap.size→k≠p→k≠q→w'.heap[k]? =w.heap[k]? :=by
  refine callsD_of_wpS Tryz.func88 rfl fun c₀ cs hu=>?_
  apply wpS_seq
  apply wpS_region
  simp [wpOpsS,go_sem,recoverD,hu,Tryz.ntmps88,Exit.thenS]
  apply wpS_of_wp
  refine wp_seq ?_
  generalize hN1:Code.wp Tryz.prog (Code.cond _ _ _) _=N1
  go_wp2_with fail
  subst hN1
  refine wp_cond_true (by simp [Act.eval,Array.replicate]) ?_
  refine wp_seq ?_
  generalize hN2:Code.wp Tryz.prog (Code.region 5 _ _) _=N2
  go_wp2_with fail
  subst hN2
  refine wp_region_lit ?_
  refine wpList_plain rfl fun K3 hK3=>?_
  simp [Oper.wp,go_sem]
  apply hK3
  have hp:=h1.lt
  have hq:=h2.lt
  have old:∀ k,k<w.heap.size→(w.alloc (Obj.cells #[] 123)).heap[k]? =w.heap[k]? :=fun k hk=>by
    show (w.heap.push _)[k]? =_
    rw [Array.getElem?_push,if_neg (by omega)]
  have hsz:(w.alloc (Obj.cells #[] 123)).heap.size=w.heap.size+1:=by simp
  have hB:Blk (w.alloc (Obj.cells #[] 123)) p #[.int .i64 0,.string ⟨#[]⟩,.int .i64 0,.int .i64 0,.int .i64 0,.int .i64 0] 50:=h1.of_same (old p hp)
  have hB2:Blk (w.alloc (Obj.cells #[] 123)) q #[.bool false] 4:=h2.of_same (old q hq)
  obtain ⟨w2,k1,k2,k3⟩:=storeAt_run (P:=Tryz.prog) (t:=50) (v:= .agg #[.int .i64 0,.string ⟨#[]⟩,.int .i64 0,.int .i64 0,.int .i64 0,.int .i64 0]) (off:=0) hB (by rw [sz50];omega) (by rw [sz50];rfl) (by rw [sz50];exact Nat.le_refl _) (by intro i hi;simp [Value.cells] at hi;rcases hi with rfl|rfl|rfl|rfl|rfl|rfl<;>rfl)
  have hB2':Blk w2 q #[.bool false] 4:=hB2.of_same (k3.block _ (Ne.symm hne))
  obtain ⟨w3,l1,l2,l3⟩:=storeAt_run (P:=Tryz.prog) (t:=4) (v:= .bool false) (off:=0) hB2' (by rw [sz4];omega) (by rw [sz4];rfl) (by rw [sz4];exact Nat.le_refl _) (by intro i hi;simp [Value.cells] at hi;subst hi;rfl)
  refine wpl_store (by simpa [Act.eval,Act.put,l0] using k1) ?_
  refine wpl_store (by simpa [Act.eval,Act.put] using l1) ?_
  refine ⟨rfl,_,rfl,.tuple #[],?_,rfl,rfl,?_,l2,?_,?_,?_,?_,?_⟩
  ·simp [results,Tryz.results88]
  ·exact Blk.of_same k2 (l3.block _ hne)
  ·rw [l3.os,k3.os];rfl
  ·rw [l3.tape,k3.tape];rfl
  ·rw [l3.output,k3.output];rfl
  ·rw [l3.size,k3.size,hsz];omega
  ·intro k hk hkp hkq
   rw [l3.block _ hkq,k3.block _ hkp,old k hk]
theorem parsed_bad {s:ByteArray} (w:World) (h:∀ w1:World,More w w1→Calls Tryz.prog 89 #[.string s] w1 fun e w'=>e= .panicked [{v:= .iface 123 (.agg #[]),recovered:=false}]∧Below w1.heap.size w1 w'):
    Calls Tryz.prog 53 #[.string s] w fun e w'=>e= .returned (.tuple #[.agg #[.int .i64 0,.string ⟨#[]⟩,.int .i64 0,.int .i64 0,.int .i64 0,.int .i64 0],.bool false])∧Below w.heap.size w w':=by
  have hmf:∀ (fn:Fn) (first cap:Array Value) (w:World),(Instr.makeFunc fn first cap).run Tryz.prog w= .ok (.func fn first cap) w:=fun _ _ _ _=>rfl
  go_enter_defers Tryz.func53,Tryz.ntmps53
  go_wp2_with fail
  have hm2:More w ((w.alloc (.cells #[.int .i64 0,.string ⟨#[]⟩,.int .i64 0,.int .i64 0,.int .i64 0,.int .i64 0] 50)).alloc (.cells #[.bool false] 4)):=(More.push w _).trans (More.push _ _)
  refine (h _ hm2).mono ?_
  rintro e w' ⟨rfl,hb⟩
  have hsz:((w.alloc (.cells #[.int .i64 0,.string ⟨#[]⟩,.int .i64 0,.int .i64 0,.int .i64 0,.int .i64 0] 50)).alloc (.cells #[.bool false] 4)).heap.size=w.heap.size+2:=by simp
  have hB:Blk w' w.heap.size #[.int .i64 0,.string ⟨#[]⟩,.int .i64 0,.int .i64 0,.int .i64 0,.int .i64 0] 50:=⟨(0,0),(hb.block _ (by rw [hsz];omega)).trans (alloc2_0 _ _ _),Nat.le_refl _,fun _ _ h=>by simp at h⟩
  have hB2:Blk w' (w.heap.size+1) #[.bool false] 4:=⟨(0,0),(hb.block _ (by rw [hsz];omega)).trans (alloc2_1 _ _ _),Nat.le_refl _,fun _ _ h=>by simp at h⟩
  show Leaves Tryz.prog Tryz.f53 _ _ _ _ _
  refine leaves_cons (f:=88) (args:= #[.pointer (some ⟨w.heap.size,0,none⟩),.pointer (some ⟨w.heap.size+1,0,none⟩)]) (by simp) (by simp [go_sem]) ?_
  refine (catch_wrong hB hB2 (by omega)).mono ?_
  rintro e u' w'' ⟨rfl,rfl,hb1,hb2,e1,e2,e3,e4,e5⟩
  simp only [Leaves,settle]
  have r1:(loadVar 50 ⟨w.heap.size,0,none⟩).run Tryz.prog w''= .ok (.agg #[.int .i64 0,.string ⟨#[]⟩,.int .i64 0,.int .i64 0,.int .i64 0,.int .i64 0]) w'':=by
    have hr:=loadCells_run (P:=Tryz.prog) (w:=w'') w.heap.size 0 6 (fun j=>[Value.int .i64 0,.string ⟨#[]⟩,.int .i64 0,.int .i64 0,.int .i64 0,.int .i64 0].getD j undef) (fun j hj=>by
      rw [Nat.zero_add,hb1.cell j]
      match j,hj with
      |0,_=>rfl
      |1,_=>rfl
      |2,_=>rfl
      |3,_=>rfl
      |4,_=>rfl
      |5,_=>rfl)
    simp [loadVar,aggT_run ag50,run_size Tryz.underlying50,sz50,hr,List.range,List.range.loop]
  have r2:(loadVar 4 ⟨w.heap.size+1,0,none⟩).run Tryz.prog w''= .ok (.bool false) w'':=by
    have h0:w''.cell? ⟨w.heap.size+1,0,none⟩=some (.bool false):=by rw [hb2.cell 0];rfl
    simp [loadVar,aggT_run ag4,h0]
  refine ⟨_,?_,rfl,?_⟩
  ·simp [results,Tryz.results53,asAddr,r1,r2]
  ·have hs:=hb.size
   rw [hsz] at hs
   refine ⟨?_,?_,?_,?_,fun i hi=>?_⟩
   ·rw [e1,hb.os];rfl
   ·rw [e2,hb.tape];rfl
   ·rw [e3,hb.output];rfl
   ·omega
   ·rw [e5 i (by omega) (by omega) (by omega),hb.block _ (by rw [hsz];omega),alloc2_old _ _ _ hi]
theorem opsP_rc {C:Nat→Nat→Option Value} (x:Ins) (b:Bool):RC C (.tup [opV x,.lit (.bool b)]) (.tuple #[opVal x,.bool b]):=by
  obtain ⟨k,p,a,b',c,d⟩:=x
  refine RC.tup [opV ⟨k,p,a,b',c,d⟩,.lit (.bool b)] [_,_] rfl fun i hi=>?_
  match i,hi with
  |0,_=>
   refine RC.agg [.lit (.int .i64 k),.lit (.string p),.lit (.int .i64 a),.lit (.int .i64 b'),.lit (.int .i64 c),.lit (.int .i64 d)] [.int .i64 k,.string p,.int .i64 a,.int .i64 b',.int .i64 c,.int .i64 d] rfl (fun i hi=>?_) fun i hi=>?_
   ·match i,hi with
    |0,_=>rfl
    |1,_=>rfl
    |2,_=>rfl
    |3,_=>rfl
    |4,_=>rfl
    |5,_=>rfl
   ·match i,hi with
    |0,_=>exact .lit _
    |1,_=>exact .lit _
    |2,_=>exact .lit _
    |3,_=>exact .lit _
    |4,_=>exact .lit _
    |5,_=>exact .lit _
  |1,_=>exact .lit _
def parV (s:List UInt8):AV:=match preadS s with
  |some x=> .tup [opV x,.lit (.bool true)]
  |none=> .tup [opV nilI,.lit (.bool false)]
theorem parsed_pc {s:List UInt8} (hs:s.length≤100000):PC Tryz.prog 53 [.lit (.string (bs s))] (parV s):=by
  intro C w vs hl hin
  rw [lit1 hl]
  unfold parV
  cases hp:preadS s with
  |some x=>
   refine (parsed_calls (s:=bs s) (p:=x.prim) (k:=x.code) (a:=x.a) (b:=x.b) (c:=x.c) (d:=x.d) w fun w1 hm=>?_).mono ?_
   ·have h:=read_calls hs w1 (tabs_in ⟨fun k o u hu=>hm.cell (hin.1 k o u hu),hin.2.up hm.block⟩)
    rw [hp] at h
    exact h
   ·rintro e w' ⟨rfl,hb⟩
    have hm:=More.of_below hb
    exact ⟨_,C,rfl,CLe.refl _,opsP_rc x true,⟨fun k o u hu=>hm.cell (hin.1 k o u hu),hin.2.up hm.block⟩,hm,fun _ _ _=>rfl⟩
  |none=>
   refine (parsed_bad (s:=bs s) w fun w1 hm=>?_).mono ?_
   ·have h:=read_calls hs w1 (tabs_in ⟨fun k o u hu=>hm.cell (hin.1 k o u hu),hin.2.up hm.block⟩)
    rw [hp] at h
    exact h
   ·rintro e w' ⟨rfl,hb⟩
    have hm:=More.of_below hb
    exact ⟨_,C,rfl,CLe.refl _,opsP_rc nilI false,⟨fun k o u hu=>hm.cell (hin.1 k o u hu),hin.2.up hm.block⟩,hm,fun _ _ _=>rfl⟩
end Go.Proofs.YtohiagaclfaolaaGreatDoor.Tx

namespace Go.Proofs.YtohiagaclfaolaaGreatDoor.Tx
open Go.Proofs.YtohiagaclfaolaaGreatDoor
open Go Go.Fw Bm
set_option maxRecDepth 20000
noncomputable def con53:PCon Tryz.prog where
  f:=53
  c:=fun
   |[.lit (.string s)]=>some ((ul s).length≤100000,parV (ul s))
   |_=>none
  ok:=by
   intro args p r hc hp
   split at hc
   ·rename_i s
    obtain ⟨l,rfl⟩:=bs_ex s
    cases hc;rw [ul_bs] at*;exact parsed_pc hp
   ·cases hc
  fk:=fk53
theorem con53_f:con53.f=53:=rfl
theorem con53_c {l:List UInt8}:con53.c [.lit (.string (bs l))]=some (l.length≤100000,parV l):=by
  show some ((ul (bs l)).length≤100000,parV (ul (bs l)))=_
  rw [ul_bs]
attribute [go_sem] con53_f con53_c
theorem par_some {l:List UInt8} {k a b c d:Int} {p:ByteArray} (h:preadS l=some ⟨k,p,a,b,c,d⟩):parV l= .tup [.agg [.lit (.int .i64 k),.lit (.string p),.lit (.int .i64 a),.lit (.int .i64 b),.lit (.int .i64 c),.lit (.int .i64 d)],.lit (.bool true)]:=by
  unfold parV;rw [h];rfl
theorem par_none {l:List UInt8} (h:preadS l=none):parV l= .tup [.agg [.lit (.int .i64 0),.lit (.string (bs [])),.lit (.int .i64 0),.lit (.int .i64 0),.lit (.int .i64 0),.lit (.int .i64 0)],.lit (.bool false)]:=by
  unfold parV;rw [h];rfl
def parseV (R:List Ins×Int×Int):AV:= .tup [.sl false 6 (opsV R.1),.lit (.int .i64 R.2.1),.lit (.int .i64 R.2.2)]
structure Pz (s:List UInt8) (R:List Ins×Int×Int) where
  rest:List UInt8
  acc:List Ins
  v:Nat
  n:Nat
  hn:rest.length<n
  hl:rest.length+acc.length≤s.length
  hF:parseG n rest acc=R
theorem le_err {R:List Ins×Int×Int} {i:Int} (h:([],i,6)=R):LeA (.tup [.lit (.slice none 0 0),.lit (.int .i64 i),.lit (.int .i64 6)]) (parseV R):=by
  subst h;exact LeA.tup ⟨LeA.nil _ _,LeA.refl _,LeA.refl _,trivial⟩
theorem le_ok {R:List Ins×Int×Int} {l:List Ins} (h:(l,0,0)=R):LeA (.tup [.sl false 6 (opsV l),.lit (.int .i64 0),.lit (.int .i64 0)]) (parseV R):=by
  subst h;exact LeA.refl _
theorem opsV_app1 (l:List Ins) (k a b c d:Int) (p:ByteArray):opsV l++[.agg [.lit (.int .i64 k),.lit (.string p),.lit (.int .i64 a),.lit (.int .i64 b),.lit (.int .i64 c),.lit (.int .i64 d)]]=opsV (l++[⟨k,p,a,b,c,d⟩]):=by simp [opsV,opV]
noncomputable def Y10:Env:=envJ (P:=Tryz.prog) jkV zer (fun _=>false) (fun _=>false) [con52,con53] []
theorem Y10_ok:EnvOk Tryz.prog Y10:=envJOk zer_ok
set_option maxHeartbeats 8000000 in
theorem parse_pc {s:List UInt8} (hs:s.length≤4990):PC Tryz.prog 19 [.lit (.string (bs s))] (parseV (parseS s)):=by
  generalize hR:parseS s=R
  unfold parseS at hR
  refine pcR Y10_ok (kp19) Tryz.func19 [.tmp 2,.tmp 3,.tmp 4] (h:=fun KF=>?_)
  unfold Y10
  repeat' (first
   |(with_reducible first|refine nx ?_|refine t_seq fun K=>?_|refine t_br (fun hc=>?_) fun hc=>?_|refine t_bx ?_|apply And.intro|intro vr)
   |((with_reducible first|refine ny ?_|refine t_dwh (h:=fun K KL=>?_));intros;simp only [go_sem,kp19,geff]))
  all_goals try exact nd
  refine t_loopF (ι:=Pz s R) (fun i=>[(0,.lit (.string (bs i.rest))),(2,.arr 0 i.v)]) (fun i=>[.arr 50 6 (opsV i.acc) i.v false]) (fun i=>i.rest.length) ⟨s,[],0,s.length+1,by omega,by simp,hR⟩ ?_ ?_
  ·refine (le_nil 2 50 6 rfl).trans ?_
   exact lf
  rintro ⟨rest,acc,v,n,hn,hl,hF⟩ K0
  obtain ⟨n,rfl⟩:∃ m,n=m+1:=⟨n - 1,by omega⟩
  have hol:(opsV acc).length=acc.length:=opsV_length acc
  have hq:(((acc.length:Nat):Int)==5000)=false:=by simp;omega
  have hrl:rest.length≤100000:=by omega
  simp only [parseG] at hF
  by_cases hr:rest=[]
  ·subst hr
   rw [if_pos rfl] at hF
   have hn0:(([]:List UInt8)==[])=true:=rfl
   repeat' (first
    |(with_reducible first|refine nx ?_|refine t_seq fun K=>?_|refine t_br (fun hc=>?_) fun hc=>?_|refine t_bx ?_|apply And.intro|intro vr)
    |((with_reducible first|refine ny ?_|refine t_dwh (h:=fun K KL=>?_));intros;simp only [go_sem,kp19,geff,hn0,yes]))
   all_goals try exact nd
   all_goals (refine nl ?_;simp only [go_sem])
   exact le_ok hF
  ·rw [if_neg hr] at hF
   have hn0:(rest==[])=false:=by simpa using hr
   cases hc:cutS 10 rest with
   |none=>
    rw [hc] at hF
    cases hp:preadS rest with
    |none=>
     repeat' (first
      |(with_reducible first|refine nx ?_|refine t_seq fun K=>?_|refine t_br (fun hc=>?_) fun hc=>?_|refine t_bx ?_|apply And.intro|intro vr)
      |((with_reducible first|refine ny ?_|refine t_dwh (h:=fun K KL=>?_));intros;simp only [go_sem,kp19,geff,hn0,hol,hq,cutV_none hc,par_none hp,yes]))
     all_goals try exact nd
     all_goals (refine nl ?_;simp only [go_sem])
     exact le_err hF
    |some x=>
     obtain ⟨k,p,a,b,c,d⟩:=x
     repeat' (first
      |(with_reducible first|refine nx ?_|refine t_seq fun K=>?_|refine t_br (fun hc=>?_) fun hc=>?_|refine t_bx ?_|apply And.intro|intro vr)
      |((with_reducible first|refine ny ?_|refine t_dwh (h:=fun K KL=>?_));intros;simp only [go_sem,kp19,geff,hn0,hol,hq,cutV_none hc,par_some hp,yes]))
     all_goals try exact nd
     all_goals (refine nl ?_;simp only [go_sem])
     exact le_err hF
   |some w=>
    obtain ⟨a0,b0⟩:=w
    rw [hc] at hF
    obtain ⟨_,h2,_⟩:=cutS_some hc
    have hl2:rest.length=a0.length+(b0.length+1):=by rw [h2];simp
    have hal:a0.length≤100000:=by omega
    simp only at hF
    cases hp:preadS a0 with
    |none=>
     rw [hp] at hF
     repeat' (first
      |(with_reducible first|refine nx ?_|refine t_seq fun K=>?_|refine t_br (fun hc=>?_) fun hc=>?_|refine t_bx ?_|apply And.intro|intro vr)
      |((with_reducible first|refine ny ?_|refine t_dwh (h:=fun K KL=>?_));intros;simp only [go_sem,kp19,geff,hn0,hol,hq,cutV_some hc,par_none hp,yes]))
     all_goals try exact nd
     all_goals (refine nl ?_;simp only [go_sem])
     exact le_err hF
    |some x=>
     rw [hp] at hF
     obtain ⟨k,p,a,b,c,d⟩:=x
     have hap:=opsV_app1 acc k a b c d p
     repeat' (first
      |(with_reducible first|refine nx ?_|refine t_seq fun K=>?_|refine t_br (fun hc=>?_) fun hc=>?_|refine t_bx ?_|apply And.intro|intro vr)
      |((with_reducible first|refine ny ?_|refine t_dwh (h:=fun K KL=>?_));intros;simp only [go_sem,kp19,geff,hn0,hol,hq,cutV_some hc,par_some hp,hap,yes]))
     all_goals try exact nd
     refine ⟨⟨b0,acc++[⟨k,p,a,b,c,d⟩],v+1,n,by omega,by rw [List.length_append,List.length_singleton];omega,hF⟩,by simp only;omega,?_⟩
     try simp only [updL_nil,updL_cons,delF_top,delF_upd,Nat.reduceEqDiff,reduceIte]
     refine le_backD (by first|rfl|(simp only [go_sem];try rfl)) (by first|exact Nat.zero_le _|simp) (by first|rfl|simp [lowO,low_lit,low_sl,low_ref,low_arr,low_sub,low_mp]) ?_ ?_
     ·repeat' (first|exact low_top|(refine low_upd rfl ?_))
     repeat' (first|exact leF_top _|exact (fun _=>LeR.refl _)|(with_reducible refine leF_sl ?_ ?_)|(refine leF_upd ?_ ?_))
     all_goals (first|exact LeR.top _|exact LeR.refl _|(refine LeR.of_eq ?_;(try simp only [go_sem]);try rfl)|((try simp only [go_sem]);try rfl))
end Go.Proofs.YtohiagaclfaolaaGreatDoor.Tx

namespace Go.Proofs.YtohiagaclfaolaaGreatDoor.Tx
open Go.Proofs.YtohiagaclfaolaaGreatDoor
open Go Go.Fw Bm
set_option maxRecDepth 20000
def big:Int:=4611686018427387904
noncomputable def con86r (N:Int) (h:∀ m:Int,0≤m→m<N→PC Tryz.prog 86 [.lit (.int .i64 m)] (.lit (.string (bs (Lib.itoa m))))):PCon Tryz.prog where
  f:=86
  c:=fun
   |[.lit (.int .i64 m)]=>some (0≤m∧m<N,.lit (.string (bs (Lib.itoa m))))
   |_=>none
  ok:=by
   intro args p r hc hp
   split at hc
   ·cases hc;exact h _ hp.1 hp.2
   ·cases hc
  fk:=fk86
section
variable {N:Int} {h:∀ m:Int,0≤m→m<N→PC Tryz.prog 86 [.lit (.int .i64 m)] (.lit (.string (bs (Lib.itoa m))))}
theorem con86r_f:(con86r N h).f=86:=rfl
theorem con86r_c {m:Int}:(con86r N h).c [.lit (.int .i64 m)]=some (0≤m∧m<N,.lit (.string (bs (Lib.itoa m)))):=rfl
end
attribute [go_sem] con86r_f con86r_c
noncomputable def Y11 (N:Int) (h:∀ m:Int,0≤m→m<N→PC Tryz.prog 86 [.lit (.int .i64 m)] (.lit (.string (bs (Lib.itoa m))))):Env:=envJ (P:=Tryz.prog) jkV zer (fun _=>false) (fun _=>false) [con86r N h] []
theorem Y11_ok (N:Int) (h:∀ m:Int,0≤m→m<N→PC Tryz.prog 86 [.lit (.int .i64 m)] (.lit (.string (bs (Lib.itoa m))))):EnvOk Tryz.prog (Y11 N h):=envJOk zer_ok
theorem itoa_lt {n:Int} (h0:0≤n) (h1:n<10):Lib.itoa n=[UInt8.ofNat (48+n.toNat)]:=by
  unfold Lib.itoa
  rw [if_neg (by omega),Lib.decDigits,dif_pos (by omega)]
theorem itoa_ge {n q m:Int} (h1: ¬ n<10) (hq:n=10*q+m) (hm:0≤m∧m<10):Lib.itoa n=Lib.itoa q++[UInt8.ofNat (48+m.toNat)]:=by
  unfold Lib.itoa
  rw [if_neg (by omega),if_neg (by omega),Lib.decDigits,dif_neg (by omega)]
  congr 2
  ·congr 1;omega
  ·congr 2;omega
theorem itoa_negI {n:Int} (h:n<0):Lib.itoa n=45::Lib.itoa (-n):=by
  unfold Lib.itoa
  rw [if_pos h,if_neg (by omega)]
  congr 2;omega
theorem dig_bs {m:Int} (h:0≤m∧m<10):bytesOf [48+m]=bs [UInt8.ofNat (48+m.toNat)]:=by
  have e:(48+m).toNat=48+m.toNat:=by omega
  unfold bytesOf bs
  simp only [List.map_cons,List.map_nil,e]
theorem dec_pos (n:Int) (h0:0≤n) (hb:n≤big) (ih:∀ m:Int,0≤m→m<n→PC Tryz.prog 86 [.lit (.int .i64 m)] (.lit (.string (bs (Lib.itoa m))))):PC Tryz.prog 86 [.lit (.int .i64 n)] (.lit (.string (bs (Lib.itoa n)))):=by
  unfold big at hb
  have hm0:=Int.tmod_nonneg (b:=10) h0
  have hm1:=Int.tmod_lt_of_pos n (show (0:Int)<10 by omega)
  have hq:=Int.mul_tdiv_add_tmod n 10
  generalize hmm:n.tmod 10=m at*
  generalize hqq:n.tdiv 10=q at*
  have g1:decide (n<0)=false:=decide_eq_false (by omega)
  have hdb:=dig_bs ⟨hm0,hm1⟩
  have hu8:IntKind.u8.wrap (48+m)=48+m:=by rw [IntKind.wrap_u8];omega
  have hu:u8sOf [AV.lit (.int .u8 (48+m))]=some [48+m]:=rfl
  by_cases h10:n<10
  ·have g2:decide (n<10)=true:=decide_eq_true h10
   have hr:Lib.itoa n=[UInt8.ofNat (48+m.toNat)]:=by rw [itoa_lt h0 h10];congr 3;omega
   refine pcR (Y11_ok n ih) (kp86) Tryz.func86 [.tmp 2] (h:=fun KF=>?_)
   unfold Y11
   repeat' (first
    |(with_reducible first|refine nx ?_|refine t_seq fun K=>?_|refine t_br (fun hc=>?_) fun hc=>?_|refine t_bx ?_|apply And.intro|intro vr)
    |((with_reducible first|refine ny ?_|refine t_dwh (h:=fun K KL=>?_));intros;simp only [go_sem,kp86,geff,g1,g2,hmm,hqq,hu8,hu,hdb]))
   all_goals try exact nd
   all_goals (refine nl ?_;simp only [go_sem])
   exact LeA.of_eq (by rw [hr])
  ·have g2:decide (n<10)=false:=decide_eq_false h10
   have hr:=itoa_ge h10 hq.symm ⟨hm0,hm1⟩
   have hil:=Lib.itoa_length_le q (by omega) (by omega)
   refine pcR (Y11_ok n ih) (kp86) Tryz.func86 [.tmp 2] (h:=fun KF=>?_)
   unfold Y11
   repeat' (first
    |(with_reducible first|refine nx ?_|refine t_seq fun K=>?_|refine t_br (fun hc=>?_) fun hc=>?_|refine t_bx ?_|apply And.intro|intro vr)
    |((with_reducible first|refine ny ?_|refine t_dwh (h:=fun K KL=>?_));intros;simp only [go_sem,kp86,geff,g1,g2,hmm,hqq,hu8,hu,hdb]))
   all_goals try exact nd
   all_goals (refine nl ?_;simp only [go_sem])
   exact LeA.of_eq (by rw [hr])
theorem dec_all:∀ (N:Nat) (n:Int),0≤n→n<N→n≤big→PC Tryz.prog 86 [.lit (.int .i64 n)] (.lit (.string (bs (Lib.itoa n))))
  |0,n,h0,h1,_=>by omega
  |N+1,n,h0,h1,hb=>dec_pos n h0 hb fun m m0 m1=>dec_all N m m0 (by omega) (by omega)
theorem dec_nn {n:Int} (h0:0≤n) (hb:n≤big):PC Tryz.prog 86 [.lit (.int .i64 n)] (.lit (.string (bs (Lib.itoa n)))):=dec_all (n.toNat+1) n h0 (by omega) hb
theorem min_bs (l:List UInt8):(⟨#[45]⟩:ByteArray)++bs l=bs (45::l):=by rw [show (⟨#[45]⟩:ByteArray)=bs [45] from rfl,bs_app];rfl
theorem dec_pc {n:Int} (h: -big≤n∧n≤big):PC Tryz.prog 86 [.lit (.int .i64 n)] (.lit (.string (bs (Lib.itoa n)))):=by
  by_cases h0:0≤n
  ·exact dec_nn h0 h.2
  ·have ih:∀ m:Int,0≤m→m<big+1→PC Tryz.prog 86 [.lit (.int .i64 m)] (.lit (.string (bs (Lib.itoa m)))):=fun m m0 m1=>dec_nn m0 (by omega)
   have g1:decide (n<0)=true:=decide_eq_true (by omega)
   have hr:=itoa_negI (n:=n) (by omega)
   have hz:(0:Int) - n= -n:=by omega
   obtain ⟨hb0,hb1⟩:=h
   have hlt: -n<big+1:=by omega
   have hge:0≤ -n:=by omega
   have hil:=Lib.itoa_length_le (-n) (by omega) (by unfold big at*;omega)
   have h45:(#[45]:Array UInt8).size=1:=rfl
   have hi:inI64 (-n):=by unfold big at*;exact ⟨by omega,by omega⟩
   refine pcR (Y11_ok (big+1) ih) (kp86) Tryz.func86 [.tmp 2] (h:=fun KF=>?_)
   unfold Y11
   repeat' (first
    |(with_reducible first|refine nx ?_|refine t_seq fun K=>?_|refine t_br (fun hc=>?_) fun hc=>?_|refine t_bx ?_|apply And.intro|intro vr)
    |((with_reducible first|refine ny ?_|refine t_dwh (h:=fun K KL=>?_));intros;simp only [go_sem,kp86,geff,g1,hz,min_bs]))
   all_goals try exact nd
   all_goals (refine nl ?_;simp only [go_sem])
   exact LeA.of_eq (by rw [hr])
noncomputable def con86:PCon Tryz.prog where
  f:=86
  c:=fun
   |[.lit (.int .i64 n)]=>some ((-big≤n∧n≤big),.lit (.string (bs (Lib.itoa n))))
   |_=>none
  ok:=by
   intro args p r hc hp
   split at hc
   ·cases hc;exact (dec_pc hp)
   ·cases hc
  fk:=fk86
theorem con86_f:con86.f=86:=rfl
theorem con86_c {n:Int}:con86.c [.lit (.int .i64 n)]=some ((-big≤n∧n≤big),.lit (.string (bs (Lib.itoa n)))):=rfl
attribute [go_sem] con86_f con86_c
end Go.Proofs.YtohiagaclfaolaaGreatDoor.Tx

namespace Go.Proofs.YtohiagaclfaolaaGreatDoor.Tx
open Go.Proofs.YtohiagaclfaolaaGreatDoor
open Go Go.Fw Bm
set_option maxRecDepth 20000
noncomputable def Y12:Env:=envJ (P:=Tryz.prog) jkV zer (fun _=>false) (fun _=>false) [] []
theorem Y12_ok:EnvOk Tryz.prog Y12:=envJOk zer_ok
theorem nb1:(⟨#[99,111,110,115,116]⟩:ByteArray)=bs [99,111,110,115,116]:=rfl
theorem nb2:(⟨#[97,100,100]⟩:ByteArray)=bs [97,100,100]:=rfl
theorem nb3:(⟨#[109,105,110]⟩:ByteArray)=bs [109,105,110]:=rfl
theorem nb4:(⟨#[109,97,120]⟩:ByteArray)=bs [109,97,120]:=rfl
theorem nb5:(⟨#[112,114,105,109]⟩:ByteArray)=bs [112,114,105,109]:=rfl
theorem nb6:(⟨#[108,111,97,100]⟩:ByteArray)=bs [108,111,97,100]:=rfl
theorem nb7:(⟨#[115,116,111,114,101]⟩:ByteArray)=bs [115,116,111,114,101]:=rfl
theorem nb8:(⟨#[109,105,115,115]⟩:ByteArray)=bs [109,105,115,115]:=rfl
theorem nb9:(⟨#[99,104,101,99,107]⟩:ByteArray)=bs [99,104,101,99,107]:=rfl
theorem nb10:(⟨#[102,111,114]⟩:ByteArray)=bs [102,111,114]:=rfl
theorem nb11:(⟨#[105,102]⟩:ByteArray)=bs [105,102]:=rfl
theorem nb12:(⟨#[101,108,115,101]⟩:ByteArray)=bs [101,108,115,101]:=rfl
theorem nb13:(⟨#[101,110,100]⟩:ByteArray)=bs [101,110,100]:=rfl
theorem nb14:(⟨#[119,114,97,112]⟩:ByteArray)=bs [119,114,97,112]:=rfl
theorem nb15:(⟨#[115,107,105,112]⟩:ByteArray)=bs [115,107,105,112]:=rfl
theorem namL_at (k:Nat) (h:k<16):List.getD ([[],[99,111,110,115,116],[97,100,100],[109,105,110],[109,97,120],[112,114,105,109],[108,111,97,100],[115,116,111,114,101],[109,105,115,115],[99,104,101,99,107],[102,111,114],[105,102],[101,108,115,101],[101,110,100],[119,114,97,112],[115,107,105,112]]:List (List UInt8)) k []=ul (namL k):=by
  rcases (show k=0∨k=1∨k=2∨k=3∨k=4∨k=5∨k=6∨k=7∨k=8∨k=9∨k=10∨k=11∨k=12∨k=13∨k=14∨k=15 by omega) with rfl|rfl|rfl|rfl|rfl|rfl|rfl|rfl|rfl|rfl|rfl|rfl|rfl|rfl|rfl|rfl<;>rfl
theorem word_pc {k:Nat} (hk:k<16):PC Tryz.prog 85 [.lit (.int .i64 (k:Int))] (.lit (.string (bs (ul (namL (k:Int)))))):=by
  have hn:=namL_at k hk
  have hk2:(k:Int)<16:=by omega
  refine pcR Y12_ok (kp85) Tryz.func85 [.tmp 2] (h:=fun KF=>?_)
  unfold Y12
  repeat' (first
   |(with_reducible first|refine nx ?_|refine t_seq fun K=>?_|refine t_br (fun hc=>?_) fun hc=>?_|refine t_bx ?_|apply And.intro|intro vr)
   |((with_reducible first|refine ny ?_|refine t_dwh (h:=fun K KL=>?_));intros;simp only [go_sem,kp85,geff,nb1,nb2,nb3,nb4,nb5,nb6,nb7,nb8,nb9,nb10,nb11,nb12,nb13,nb14,nb15,List.set_cons_zero,List.set_cons_succ,hn,Int.toNat_natCast]))
  all_goals try exact nd
  all_goals (refine nl ?_;simp only [go_sem])
  exact LeA.refl _
structure Wd (l:List UInt8) where
  i:Nat
  fr:Nat
  done:List (List UInt8)
  v:Nat
  h:(i≤l.length∧fr≤i∧splitW 32 l=done++splitW 32 (l.drop fr)∧32 ∉ (l.take i).drop fr)∨(i=l.length+1∧fr=l.length+1∧done=splitW 32 l)
theorem bt_eq {l:List UInt8} {i:Nat} {c:UInt8} (h:i<l.length):(bt l i==(c.toNat:Int))=(l.getD i 0==c):=by
  unfold bt
  rw [Bool.eq_iff_iff]
  simp only [beq_iff_eq]
  constructor
  ·intro e;exact UInt8.toNat_inj.1 (by omega)
  ·intro e;rw [e]
theorem drop_at {l:List UInt8} {i:Nat} (h:i<l.length):l.drop i=l.getD i 0::l.drop (i+1):=by
  rw [List.drop_eq_getElem_cons h]
  congr 1
  rw [List.getD_eq_getElem?_getD,List.getElem?_eq_getElem h];rfl
theorem cut_at {l:List UInt8} {i fr:Nat} (h:i≤l.length) (hf:fr≤i):l.drop fr=(l.take i).drop fr++l.drop i:=by
  conv=>lhs;rw [←List.take_append_drop i l]
  rw [List.drop_append_of_le_length (by rw [List.length_take];omega)]
set_option maxHeartbeats 4000000 in
theorem words_pc {l:List UInt8} (hl:l.length≤1000000):PC Tryz.prog 90 [.lit (.string (bs l))] (.sl false 1 (txs (splitW 32 l))):=by
  refine pcR Y12_ok (kp90) Tryz.func90 [.tmp 2] (h:=fun KF=>?_)
  unfold Y12
  repeat' (first
   |(with_reducible first|refine nx ?_|refine t_seq fun K=>?_|refine t_br (fun hc=>?_) fun hc=>?_|refine t_bx ?_|apply And.intro|intro vr)
   |((with_reducible first|refine ny ?_|refine t_dwh (h:=fun K KL=>?_));intros;simp only [go_sem,kp90,geff]))
  all_goals try exact nd
  refine t_loopF (ι:=Wd l) (fun i=>[(5,.lit (.int .i64 i.i)),(4,.lit (.int .i64 i.fr)),(3,.arr 0 i.v)]) (fun i=>[.arr 9 1 (txs i.done) i.v false]) (fun i=>l.length+1 - i.i) ⟨0,0,[],0,.inl ⟨by omega,by omega,rfl,by simp⟩⟩ ?_ ?_
  ·refine (le_nil 3 9 1 rfl).trans ?_
   exact lf
  rintro ⟨i,fr,done,v,h⟩ K0
  rcases h with ⟨h1,h2,h3,h4⟩|⟨rfl,rfl,h3⟩
  ·have k1:decide ((i:Int)≤(l.length:Int))=true:=decide_eq_true (by omega)
   have hdl:done.length≤1000001:=by
     have e:=congrArg List.length h3
     rw [List.length_append,splitW_len] at e
     have:=List.count_le_length (a:=(32:UInt8)) (l:=l)
     omega
   rcases Nat.lt_or_ge i l.length with hc|hc
   ·have k2:((i:Int)==(l.length:Int))=false:=by simp;omega
    have hb:=bt_eq (c:=32) hc
    have h32:(((32:UInt8).toNat:Nat):Int)=32:=rfl
    rw [h32] at hb
    have hd:=cut_at (l:=l) (i:=i) (fr:=fr) (by omega) h2
    rw [drop_at hc] at hd
    cases h5:(l.getD i 0==32) with
    |true=>
     rw [h5] at hb
     have e:l.getD i 0=32:=by simpa using h5
     rw [e] at hd
     have hi1:((i:Int)+1)=((i+1:Nat):Int):=by omega
     repeat' (first
      |(with_reducible first|refine nx ?_|refine t_seq fun K=>?_|refine t_br (fun hc=>?_) fun hc=>?_|refine t_bx ?_|apply And.intro|intro vr)
      |((with_reducible first|refine ny ?_|refine t_dwh (h:=fun K KL=>?_));intros;simp only [go_sem,kp90,geff,k1,k2,hb,txs_app1,Int.toNat_natCast,yes]))
     all_goals try exact nd
     refine ⟨⟨i+1,i+1,done++[(l.take i).drop fr],v+1,.inl ⟨by omega,Nat.le_refl _,?_,by simp⟩⟩,by simp only;omega,?_⟩
     ·rw [h3,hd,splitW_app h4];simp
     first|exact lf|(refine Le.frameS (by first|rfl|(simp only [go_sem];try rfl)) ?_;repeat' (first|exact leF_top _|exact (fun _=>LeR.refl _)|(with_reducible refine leF_sl ?_ ?_)|(refine leF_upd ?_ ?_)))<;>(first|exact LeR.top _|exact LeR.refl _|(refine LeR.of_eq ?_;(try simp only [go_sem]);try rfl)|((try simp only [go_sem]);try rfl))
    |false=>
     rw [h5] at hb
     have e:l.getD i 0≠32:=by simpa using h5
     repeat' (first
      |(with_reducible first|refine nx ?_|refine t_seq fun K=>?_|refine t_br (fun hc=>?_) fun hc=>?_|refine t_bx ?_|apply And.intro|intro vr)
      |((with_reducible first|refine ny ?_|refine t_dwh (h:=fun K KL=>?_));intros;simp only [go_sem,kp90,geff,k1,k2,hb,Int.toNat_natCast,yes]))
     all_goals try exact nd
     refine ⟨⟨i+1,fr,done,v,.inl ⟨by omega,by omega,h3,?_⟩⟩,by simp only;omega,?_⟩
     ·have e2:(l.take (i+1)).drop fr=(l.take i).drop fr++[l.getD i 0]:=by
        rw [List.take_add_one,List.getElem?_eq_getElem hc,List.drop_append_of_le_length (by rw [List.length_take];omega),List.getD_eq_getElem?_getD,List.getElem?_eq_getElem hc];rfl
      rw [e2]
      simp only [List.mem_append,List.mem_singleton,not_or]
      exact ⟨h4,Ne.symm e⟩
     first|exact lf|(refine Le.frameS (by first|rfl|(simp only [go_sem];try rfl)) ?_;repeat' (first|exact leF_top _|exact (fun _=>LeR.refl _)|(with_reducible refine leF_sl ?_ ?_)|(refine leF_upd ?_ ?_)))<;>(first|exact LeR.top _|exact LeR.refl _|(refine LeR.of_eq ?_;(try simp only [go_sem]);try rfl)|((try simp only [go_sem]);try rfl))
   ·have hi:i=l.length:=by omega
    subst hi
    have k2:((l.length:Int)==(l.length:Int))=true:=by simp
    rw [List.take_length] at h4
    repeat' (first
     |(with_reducible first|refine nx ?_|refine t_seq fun K=>?_|refine t_br (fun hc=>?_) fun hc=>?_|refine t_bx ?_|apply And.intro|intro vr)
     |((with_reducible first|refine ny ?_|refine t_dwh (h:=fun K KL=>?_));intros;simp only [go_sem,kp90,geff,k1,k2,txs_app1,Int.toNat_natCast,yes]))
    all_goals try exact nd
    refine ⟨⟨l.length+1,l.length+1,done++[l.drop fr],v+1,.inr ⟨rfl,rfl,?_⟩⟩,by simp only;omega,?_⟩
    ·rw [h3,splitW_one h4]
    first|exact lf|(refine Le.frameS (by first|rfl|(simp only [go_sem];try rfl)) ?_;repeat' (first|exact leF_top _|exact (fun _=>LeR.refl _)|(with_reducible refine leF_sl ?_ ?_)|(refine leF_upd ?_ ?_)))<;>(first|exact LeR.top _|exact LeR.refl _|(refine LeR.of_eq ?_;(try simp only [go_sem]);try rfl)|((try simp only [go_sem]);try rfl))
  ·have k1:decide (((l.length+1:Nat):Int)≤(l.length:Int))=false:=decide_eq_false (by omega)
   subst h3
   repeat' (first
    |(with_reducible first|refine nx ?_|refine t_seq fun K=>?_|refine t_br (fun hc=>?_) fun hc=>?_|refine t_bx ?_|apply And.intro|intro vr)
    |((with_reducible first|refine ny ?_|refine t_dwh (h:=fun K KL=>?_));intros;simp only [go_sem,kp90,geff,k1]))
   all_goals try exact nd
   all_goals (refine nl ?_;simp only [go_sem])
   exact LeA.refl _
end Go.Proofs.YtohiagaclfaolaaGreatDoor.Tx

namespace Go.Proofs.YtohiagaclfaolaaGreatDoor.Tx
open Go.Proofs.YtohiagaclfaolaaGreatDoor
open Go Go.Fw Bm
set_option maxRecDepth 20000
theorem decN_bd:∀ (l:List UInt8) (acc n:Nat),decN acc l=some n→n<(acc+1)*10 ^ l.length
  |[],acc,n,h=>by cases h;simp
  |c::r,acc,n,h=>by
   simp only [decN] at h
   split at h
   ·rename_i hc
    have:=decN_bd r _ n h
    rw [List.length_cons,Nat.pow_succ,Nat.mul_comm (10 ^ r.length) 10,←Nat.mul_assoc]
    refine Nat.lt_of_lt_of_le this (Nat.mul_le_mul_right _ ?_)
    omega
   ·cases h
theorem decN_none:∀ (l:List UInt8) (acc i:Nat),i<l.length→ ¬ (48≤(l.getD i 0).toNat∧(l.getD i 0).toNat≤57)→decN acc l=none
  |c::r,acc,0,_,h=>by
   simp only [decN]
   rw [if_neg (by simpa using h)]
  |c::r,acc,i+1,hi,h=>by
   simp only [decN]
   split
   ·exact decN_none r _ i (by simpa using hi) (by simpa using h)
   ·rfl
theorem decN_step {l:List UInt8} {i n:Nat} (hi:i<l.length) (h:decN 0 (l.take i)=some n) (hc:48≤(l.getD i 0).toNat∧(l.getD i 0).toNat≤57):decN 0 (l.take (i+1))=some (n*10+((l.getD i 0).toNat - 48)):=by
  have e:l.take (i+1)=l.take i++[l.getD i 0]:=by
    rw [List.take_add_one,List.getElem?_eq_getElem hi,List.getD_eq_getElem?_getD,List.getElem?_eq_getElem hi];rfl
  rw [e,decN_app,h]
  simp only [Option.bind_some]
  rw [if_pos hc]
structure Nm (t:List UInt8) where
  i:Nat
  n:Nat
  hi:i≤t.length
  hn:decN 0 (t.take i)=some n
set_option maxHeartbeats 4000000 in
theorem number_tail {t:List UInt8} (h14:t.length≤14) (n:Nat) (i:Nat) (hi:i≤t.length) (h:decN 0 (t.take i)=some n):(n:Int)<100000000000000:=by
  have:=decN_bd _ _ _ h
  rw [List.length_take,Nat.min_eq_left hi] at this
  have h2:10 ^ i≤10 ^ 14:=Nat.pow_le_pow_right (by omega) (by omega)
  omega
def numT (sg:Int) (t:List UInt8):Int:=match decN 0 t with
  |some n=>sg*n
  |none=>0
theorem numS_45 (t:List UInt8):numS (45::t)=if t.length>14 then 0 else numT (-1) t:=rfl
theorem numS_no {l:List UInt8} (h: ¬ l.head? =some 45):numS l=if l.length>14 then 0 else numT 1 l:=by
  simp only [numS,if_neg h];rfl
set_option maxHeartbeats 8000000 in
theorem number_pc {l:List UInt8} (hl:l.length≤1000000):PC Tryz.prog 91 [.lit (.string (bs l))] (.lit (.int .i64 (numS l))):=by
  generalize hR:numS l=R
  cases l with
  |nil=>
   have z1:decide ((0:Int)>0)=false:=by decide
   have z2:decide ((0:Int)>14)=false:=by decide
   have h14:([]:List UInt8).length≤14:=by decide
   rw [numS_no (by simp),if_neg (by decide)] at hR
   unfold numT at hR
   refine pcR Y12_ok (kp91) Tryz.func91 [.tmp 2] (h:=fun KF=>?_)
   unfold Y12
   repeat' (first
    |(with_reducible first|refine nx ?_|refine t_seq fun K=>?_|refine t_br (fun hc=>?_) fun hc=>?_|refine t_bx ?_|apply And.intro|intro vr)
    |((with_reducible first|refine ny ?_|refine t_dwh (h:=fun K KL=>?_));intros;simp only [go_sem,kp91,geff,z1,z2,List.length_nil]))
   all_goals try exact nd
   refine t_loopF (ι:=Unit) (fun i=>[(5,.lit (.int .i64 0)),(4,.lit (.int .i64 0))]) (fun i=>[]) (fun i=>0) () ?_ ?_
   ·exact lf
   rintro ⟨⟩ K0
   have k1:decide ((0:Int)<0)=false:=by decide
   have hR2:(0:Int)=R:=hR
   repeat' (first
    |(with_reducible first|refine nx ?_|refine t_seq fun K=>?_|refine t_br (fun hc=>?_) fun hc=>?_|refine t_bx ?_|apply And.intro|intro vr)
    |((with_reducible first|refine ny ?_|refine t_dwh (h:=fun K KL=>?_));intros;simp only [go_sem,kp91,geff,k1,List.length_nil,yes]))
   all_goals try exact nd
   all_goals (refine nl ?_;simp only [go_sem])
   exact LeA.of_eq (by rw [←hR2])
  |cons c t=>
   have hcl:(c::t).length=t.length+1:=rfl
   rw [hcl] at hl
   have z1:decide (((t.length+1:Nat):Int)>0)=true:=decide_eq_true (by omega)
   have hb0:bt (c::t) 0=((c.toNat:Nat):Int):=rfl
   have z0:(0:Int)<((t.length+1:Nat):Int):=by omega
   by_cases h45:c=45
   ·subst h45
    have hb1:(bt (45::t) 0==45)=true:=rfl
    have hdr:List.drop 1 ((45:UInt8)::t)=t:=rfl
    have htk:List.take (t.length+1) ((45:UInt8)::t)=(45:UInt8)::t:=List.take_length (l:=(45:UInt8)::t)
    rw [numS_45] at hR
    by_cases h14:t.length>14
    ·rw [if_pos h14] at hR
     have z2:decide ((t.length:Int)>14)=true:=decide_eq_true (by omega)
     refine pcR Y12_ok (kp91) Tryz.func91 [.tmp 2] (h:=fun KF=>?_)
     unfold Y12
     repeat' (first
      |(with_reducible first|refine nx ?_|refine t_seq fun K=>?_|refine t_br (fun hc=>?_) fun hc=>?_|refine t_bx ?_|apply And.intro|intro vr)
      |((with_reducible first|refine ny ?_|refine t_dwh (h:=fun K KL=>?_));intros;simp only [go_sem,kp91,geff,z1,z2,hb1,hdr,htk,List.length_cons]))
     all_goals try exact nd
     all_goals (refine nl ?_;simp only [go_sem])
     exact LeA.of_eq (by rw [←hR])
    ·rw [if_neg h14,numT] at hR
     have z2:decide ((t.length:Int)>14)=false:=decide_eq_false (by omega)
     replace h14:t.length≤14:=by omega
     refine pcR Y12_ok (kp91) Tryz.func91 [.tmp 2] (h:=fun KF=>?_)
     unfold Y12
     repeat' (first
      |(with_reducible first|refine nx ?_|refine t_seq fun K=>?_|refine t_br (fun hc=>?_) fun hc=>?_|refine t_bx ?_|apply And.intro|intro vr)
      |((with_reducible first|refine ny ?_|refine t_dwh (h:=fun K KL=>?_));intros;simp only [go_sem,kp91,geff,z1,z2,hb1,hdr,htk,List.length_cons]))
     all_goals try exact nd
     refine t_loopF (ι:=Nm t) (fun i=>[(5,.lit (.int .i64 (i.i:Int))),(4,.lit (.int .i64 (i.n:Int)))]) (fun i=>[]) (fun i=>(t).length - i.i) ⟨0,0,by omega,rfl⟩ ?_ ?_
     ·exact lf
     rintro ⟨i,n,hi,hn⟩ K0
     have hb:=number_tail h14 n i hi hn
     rcases Nat.lt_or_ge i (t).length with hc|hc
     ·have k1:decide ((i:Int)<((t).length:Int))=true:=decide_eq_true (by omega)
      have hbt:bt (t) i=((((t).getD i 0).toNat:Nat):Int):=rfl
      have h256:(((t).getD i 0).toNat)<256:=UInt8.toNat_lt _
      by_cases hd:48≤((t).getD i 0).toNat∧((t).getD i 0).toNat≤57
      ·have k2:decide (bt (t) i<48)=false:=decide_eq_false (by omega)
       have k3:decide (bt (t) i>57)=false:=decide_eq_false (by omega)
       have hst:=decN_step hc hn hd
       have hw:IntKind.u8.wrap (bt (t) i - 48)=bt (t) i - 48:=by rw [IntKind.wrap_u8];omega
       have hw2:IntKind.i64.wrap (bt (t) i - 48)=bt (t) i - 48:=by rw [IntKind.wrap_i64];omega
       have hv:(10:Int)*(n:Int)+(bt (t) i - 48)=((n*10+(((t).getD i 0).toNat - 48):Nat):Int):=by omega
       repeat' (first
        |(with_reducible first|refine nx ?_|refine t_seq fun K=>?_|refine t_br (fun hc=>?_) fun hc=>?_|refine t_bx ?_|apply And.intro|intro vr)
        |((with_reducible first|refine ny ?_|refine t_dwh (h:=fun K KL=>?_));intros;simp only [go_sem,kp91,geff,k1,k2,k3,hw,hw2,Int.toNat_natCast,yes]))
       all_goals try exact nd
       refine ⟨⟨i+1,n*10+(((t).getD i 0).toNat - 48),by omega,hst⟩,by simp only;omega,?_⟩
       simp only [hv]
       first|exact lf|(refine Le.frameS (by first|rfl|(simp only [go_sem];try rfl)) ?_;repeat' (first|exact leF_top _|exact (fun _=>LeR.refl _)|(with_reducible refine leF_sl ?_ ?_)|(refine leF_upd ?_ ?_)))<;>(first|exact LeR.top _|exact LeR.refl _|(refine LeR.of_eq ?_;(try simp only [go_sem]);try rfl)|((try simp only [go_sem]);try rfl))
      ·have hz:=decN_none (t) 0 i hc hd
       rw [hz] at hR
       by_cases h48:((t).getD i 0).toNat<48
       ·have k2:decide (bt (t) i<48)=true:=decide_eq_true (by omega)
        repeat' (first
         |(with_reducible first|refine nx ?_|refine t_seq fun K=>?_|refine t_br (fun hc=>?_) fun hc=>?_|refine t_bx ?_|apply And.intro|intro vr)
         |((with_reducible first|refine ny ?_|refine t_dwh (h:=fun K KL=>?_));intros;simp only [go_sem,kp91,geff,k1,k2,Int.toNat_natCast,yes]))
        all_goals try exact nd
        all_goals (refine nl ?_;simp only [go_sem])
        exact LeA.of_eq (by rw [←hR])
       ·have k2:decide (bt (t) i<48)=false:=decide_eq_false (by omega)
        have k3:decide (bt (t) i>57)=true:=decide_eq_true (by omega)
        repeat' (first
         |(with_reducible first|refine nx ?_|refine t_seq fun K=>?_|refine t_br (fun hc=>?_) fun hc=>?_|refine t_bx ?_|apply And.intro|intro vr)
         |((with_reducible first|refine ny ?_|refine t_dwh (h:=fun K KL=>?_));intros;simp only [go_sem,kp91,geff,k1,k2,k3,Int.toNat_natCast,yes]))
        all_goals try exact nd
        all_goals (refine nl ?_;simp only [go_sem])
        exact LeA.of_eq (by rw [←hR])
     ·have hi2:i=(t).length:=by omega
      subst hi2
      have k1:decide (((t).length:Int)<((t).length:Int))=false:=decide_eq_false (by omega)
      rw [List.take_length] at hn
      rw [hn] at hR
      simp only at hR
      repeat' (first
       |(with_reducible first|refine nx ?_|refine t_seq fun K=>?_|refine t_br (fun hc=>?_) fun hc=>?_|refine t_bx ?_|apply And.intro|intro vr)
       |((with_reducible first|refine ny ?_|refine t_dwh (h:=fun K KL=>?_));intros;simp only [go_sem,kp91,geff,k1,Int.toNat_natCast,yes]))
      all_goals try exact nd
      all_goals (refine nl ?_;simp only [go_sem])
      exact LeA.of_eq (by rw [←hR])
   ·have hb1:(bt (c::t) 0==45)=false:=by
      rw [hb0]
      simp only [beq_eq_false_iff_ne,ne_eq]
      intro e
      exact h45 (UInt8.toNat_inj.1 (by have:(45:UInt8).toNat=45:=rfl;omega))
    have hh: ¬ (c::t).head? =some 45:=by simpa using h45
    rw [numS_no hh] at hR
    generalize hT:c::t=T at*
    have hTl:T.length=t.length+1:=by rw [←hT];rfl
    have z1:decide ((T.length:Int)>0)=true:=decide_eq_true (by omega)
    have z0:(0:Int)<(T.length:Int):=by omega
    by_cases h14:T.length>14
    ·rw [if_pos h14] at hR
     have z2:decide ((T.length:Int)>14)=true:=decide_eq_true (by omega)
     refine pcR Y12_ok (kp91) Tryz.func91 [.tmp 2] (h:=fun KF=>?_)
     unfold Y12
     repeat' (first
      |(with_reducible first|refine nx ?_|refine t_seq fun K=>?_|refine t_br (fun hc=>?_) fun hc=>?_|refine t_bx ?_|apply And.intro|intro vr)
      |((with_reducible first|refine ny ?_|refine t_dwh (h:=fun K KL=>?_));intros;simp only [go_sem,kp91,geff,z1,z2,hb1]))
     all_goals try exact nd
     all_goals (refine nl ?_;simp only [go_sem])
     exact LeA.of_eq (by rw [←hR])
    ·rw [if_neg h14,numT] at hR
     have z2:decide ((T.length:Int)>14)=false:=decide_eq_false (by omega)
     replace h14:T.length≤14:=by omega
     refine pcR Y12_ok (kp91) Tryz.func91 [.tmp 2] (h:=fun KF=>?_)
     unfold Y12
     repeat' (first
      |(with_reducible first|refine nx ?_|refine t_seq fun K=>?_|refine t_br (fun hc=>?_) fun hc=>?_|refine t_bx ?_|apply And.intro|intro vr)
      |((with_reducible first|refine ny ?_|refine t_dwh (h:=fun K KL=>?_));intros;simp only [go_sem,kp91,geff,z1,z2,hb1]))
     all_goals try exact nd
     refine t_loopF (ι:=Nm T) (fun i=>[(5,.lit (.int .i64 (i.i:Int))),(4,.lit (.int .i64 (i.n:Int)))]) (fun i=>[]) (fun i=>(T).length - i.i) ⟨0,0,by omega,rfl⟩ ?_ ?_
     ·exact lf
     rintro ⟨i,n,hi,hn⟩ K0
     have hb:=number_tail h14 n i hi hn
     rcases Nat.lt_or_ge i (T).length with hc|hc
     ·have k1:decide ((i:Int)<((T).length:Int))=true:=decide_eq_true (by omega)
      have hbt:bt (T) i=((((T).getD i 0).toNat:Nat):Int):=rfl
      have h256:(((T).getD i 0).toNat)<256:=UInt8.toNat_lt _
      by_cases hd:48≤((T).getD i 0).toNat∧((T).getD i 0).toNat≤57
      ·have k2:decide (bt (T) i<48)=false:=decide_eq_false (by omega)
       have k3:decide (bt (T) i>57)=false:=decide_eq_false (by omega)
       have hst:=decN_step hc hn hd
       have hw:IntKind.u8.wrap (bt (T) i - 48)=bt (T) i - 48:=by rw [IntKind.wrap_u8];omega
       have hw2:IntKind.i64.wrap (bt (T) i - 48)=bt (T) i - 48:=by rw [IntKind.wrap_i64];omega
       have hv:(10:Int)*(n:Int)+(bt (T) i - 48)=((n*10+(((T).getD i 0).toNat - 48):Nat):Int):=by omega
       repeat' (first
        |(with_reducible first|refine nx ?_|refine t_seq fun K=>?_|refine t_br (fun hc=>?_) fun hc=>?_|refine t_bx ?_|apply And.intro|intro vr)
        |((with_reducible first|refine ny ?_|refine t_dwh (h:=fun K KL=>?_));intros;simp only [go_sem,kp91,geff,k1,k2,k3,hw,hw2,Int.toNat_natCast,yes]))
       all_goals try exact nd
       refine ⟨⟨i+1,n*10+(((T).getD i 0).toNat - 48),by omega,hst⟩,by simp only;omega,?_⟩
       simp only [hv]
       first|exact lf|(refine Le.frameS (by first|rfl|(simp only [go_sem];try rfl)) ?_;repeat' (first|exact leF_top _|exact (fun _=>LeR.refl _)|(with_reducible refine leF_sl ?_ ?_)|(refine leF_upd ?_ ?_)))<;>(first|exact LeR.top _|exact LeR.refl _|(refine LeR.of_eq ?_;(try simp only [go_sem]);try rfl)|((try simp only [go_sem]);try rfl))
      ·have hz:=decN_none (T) 0 i hc hd
       rw [hz] at hR
       by_cases h48:((T).getD i 0).toNat<48
       ·have k2:decide (bt (T) i<48)=true:=decide_eq_true (by omega)
        repeat' (first
         |(with_reducible first|refine nx ?_|refine t_seq fun K=>?_|refine t_br (fun hc=>?_) fun hc=>?_|refine t_bx ?_|apply And.intro|intro vr)
         |((with_reducible first|refine ny ?_|refine t_dwh (h:=fun K KL=>?_));intros;simp only [go_sem,kp91,geff,k1,k2,Int.toNat_natCast,yes]))
        all_goals try exact nd
        all_goals (refine nl ?_;simp only [go_sem])
        exact LeA.of_eq (by rw [←hR])
       ·have k2:decide (bt (T) i<48)=false:=decide_eq_false (by omega)
        have k3:decide (bt (T) i>57)=true:=decide_eq_true (by omega)
        repeat' (first
         |(with_reducible first|refine nx ?_|refine t_seq fun K=>?_|refine t_br (fun hc=>?_) fun hc=>?_|refine t_bx ?_|apply And.intro|intro vr)
         |((with_reducible first|refine ny ?_|refine t_dwh (h:=fun K KL=>?_));intros;simp only [go_sem,kp91,geff,k1,k2,k3,Int.toNat_natCast,yes]))
        all_goals try exact nd
        all_goals (refine nl ?_;simp only [go_sem])
        exact LeA.of_eq (by rw [←hR])
     ·have hi2:i=(T).length:=by omega
      subst hi2
      have k1:decide (((T).length:Int)<((T).length:Int))=false:=decide_eq_false (by omega)
      rw [List.take_length] at hn
      rw [hn] at hR
      simp only at hR
      repeat' (first
       |(with_reducible first|refine nx ?_|refine t_seq fun K=>?_|refine t_br (fun hc=>?_) fun hc=>?_|refine t_bx ?_|apply And.intro|intro vr)
       |((with_reducible first|refine ny ?_|refine t_dwh (h:=fun K KL=>?_));intros;simp only [go_sem,kp91,geff,k1,Int.toNat_natCast,yes]))
      all_goals try exact nd
      all_goals (refine nl ?_;simp only [go_sem])
      exact LeA.of_eq (by rw [←hR])
end Go.Proofs.YtohiagaclfaolaaGreatDoor.Tx

namespace Go.Proofs.YtohiagaclfaolaaGreatDoor.Tx
open Go.Proofs.YtohiagaclfaolaaGreatDoor
open Go Go.Fw Bm
set_option maxRecDepth 20000
def hdL (x:Ins):List UInt8:=ul (namL x.code)++(if x.code=5 then 32::ul x.prim else [])
def jt (x:Ins) (j:Nat):List UInt8:=Lib.joinTail [32] (restW x j)
theorem jt_succ (x:Ins) (j:Nat):jt x (j+1)=jt x j++(32::opW ((kndS x).getD j 0) (opI x j)):=by
  unfold jt
  rw [←restW_succ]
  simp [Lib.joinTail]
theorem line_jt (x:Ins):lineB x=hdL x++jt x (kndS x).length:=by
  unfold lineB wordsB headW hdL jt
  rw [List.cons_append,Lib.join_cons]
  by_cases h:x.code=5
  ·rw [if_pos h,if_pos h];simp [Lib.joinTail]
  ·rw [if_neg h,if_neg h];simp [Lib.joinTail]
theorem jt_len {x:Ins} {f:List Bool} (h:RtI x f):∀ j,j≤4→(jt x j).length≤j*23
  |0,_=>by simp [jt,restW,Lib.joinTail]
  |j+1,hj=>by
   have:=jt_len h j (by omega)
   have h2:=opW_len (k:=(kndS x).getD j 0) (h.bnd j (by omega))
   rw [jt_succ,List.length_append,List.length_cons]
   omega
noncomputable def con85:PCon Tryz.prog where
  f:=85
  c:=fun
   |[.lit (.int .i64 n)]=>some (0≤n∧n<16,.lit (.string (bs (ul (namL n)))))
   |_=>none
  ok:=by
   intro args p r hc hp
   split at hc
   ·rename_i n
    cases hc
    obtain ⟨k,rfl⟩:∃ k:Nat,n=k:=⟨n.toNat,by omega⟩
    exact word_pc (by omega)
   ·cases hc
  fk:=fk85
theorem con85_f:con85.f=85:=rfl
theorem con85_c {n:Int}:con85.c [.lit (.int .i64 n)]=some (0≤n∧n<16,.lit (.string (bs (ul (namL n))))):=rfl
attribute [go_sem] con85_f con85_c con83_f con83_c con84_f con84_c
noncomputable def Y14:Env:=envJ (P:=Tryz.prog) jkV zer (fun _=>false) (fun _=>false) [con83,con84,con85,con86] []
theorem Y14_ok:EnvOk Tryz.prog Y14:=envJOk zer_ok
set_option maxHeartbeats 16000000 in
theorem rline_pc {x:Ins} {f:List Bool} (h:RtI x f):PC Tryz.prog 51 [opV x] (.lit (.string (bs (lineB x)))):=by
  have hF:=h.form
  have hcode:=h.code
  have hfl:=h.len
  have hf4:=h.len4
  have hbn:=h.bnd
  have hkn:=h.knd
  have hjl:=jt_len h
  have hjs:=jt_succ x
  have hnl:=(name_ok h.code).2.2.1
  have hpl:x.code=5→(ul x.prim).length≤20:=fun e=>(h.prim5 e).2.2
  rw [line_jt x,←hfl]
  have hop:∀ i,opI x i=[x.a,x.b,x.c,x.d].getD i 0:=fun _=>rfl
  obtain ⟨k,p,a,b,c,d⟩:=x
  simp only [opV]
  simp only at hcode hop hnl hpl
  have hV:=formV_some hF
  have hsz:=frB_size f
  have hHe:hdL ⟨k,p,a,b,c,d⟩=ul (namL k)++(if k=5 then 32::ul p else []):=rfl
  generalize jt ⟨k,p,a,b,c,d⟩=J at*
  generalize kndS ⟨k,p,a,b,c,d⟩=L at*
  generalize opI ⟨k,p,a,b,c,d⟩=oI at*
  generalize hdL ⟨k,p,a,b,c,d⟩=HH at*
  generalize hN:ul (namL k)=N at*
  obtain ⟨q,rfl⟩:=bs_ex p
  rw [ul_bs] at hHe hpl
  have hJ0:(J 0).length≤0:=hjl 0 (by omega)
  have hJ0':J 0=[]:=List.length_eq_zero_iff.1 (by omega)
  by_cases h5:k=5
  ·subst h5
   have hk5:((5:Int)==5)=true:=rfl
   have hql:=hpl rfl
   have hHl:HH.length≤41:=by rw [hHe,if_pos rfl,List.length_append,List.length_cons];omega
   have hs0:N++32::q=HH++J 0:=by rw [hJ0',hHe,if_pos rfl];simp
   refine pcR Y14_ok (kp51) Tryz.func51 [.tmp 2] (h:=fun KF=>?_)
   unfold Y14
   repeat' (first
    |(with_reducible first|refine nx ?_|refine t_seq fun K=>?_|refine t_br (fun hc=>?_) fun hc=>?_|refine t_bx ?_|apply And.intro|intro vr)
    |((with_reducible first|refine ny ?_|refine t_dwh (h:=fun K KL=>?_));intros;simp only [go_sem,kp51,geff,hk5,hV,hN,hs0,List.length_append,List.length_cons,List.length_nil]))
   all_goals try exact nd
   refine t_loopF (ι:={q:Nat // q≤f.length}) (fun i=>[(7,.lit (.int .i64 (i.1:Int))),(3,.lit (.string (bs (HH++J i.1))))]) (fun i=>[.box 50 [.lit (.int .i64 5),.lit (.string (bs q)),.lit (.int .i64 a),.lit (.int .i64 b),.lit (.int .i64 c),.lit (.int .i64 d)],.box 114 [.lit (.int .i64 a),.lit (.int .i64 b),.lit (.int .i64 c),.lit (.int .i64 d)]]) (fun i=>f.length - i.1) ⟨0,by omega⟩ ?_ ?_
   ·exact lf
   rintro ⟨i,hi⟩ K0
   rcases Nat.lt_or_ge i f.length with hc|hc
   ·have hJi:=hjl i (by omega)
    have hki:=hkn i hc
    have hji:=hjs i
    rcases (show i=0∨i=1∨i=2∨i=3 by omega) with rfl|rfl|rfl|rfl
    ·have h0:((((0:Nat):Int)):Int)=0:=rfl
     have g1:decide ((0:Int)<(f.length:Int))=true:=decide_eq_true (by omega)
     have ho:oI 0=a:=hop 0
     have hb:=hbn 0 (by omega)
     rw [ho] at hji hb
     have hbg: -big≤a∧a≤big:=by unfold big;omega
     have hbg1:=hbg.1
     have hbg2:=hbg.2
     have hil:=Lib.itoa_length_le a (by omega) (by omega)
     cases hr:f.getD 0 false with
     |true=>
      have g2:strAt (frB f) 0=114:=by rw [frB_at f 0 hc,hr];rfl
      have hk0:L.getD 0 0=0:=hki.1 hr
      rw [hk0] at hji
      have hs:HH++J 0++[32]++[114]++Lib.itoa a=HH++J 1:=by rw [hji];simp [opW]
      repeat' (first
       |(with_reducible first|refine nx ?_|refine t_seq fun K=>?_|refine t_br (fun hc=>?_) fun hc=>?_|refine t_bx ?_|apply And.intro|intro vr)
       |((with_reducible first|refine ny ?_|refine t_dwh (h:=fun K KL=>?_));intros;simp only [go_sem,kp51,geff,hsz,h0,g1,g2,hs,List.length_append,List.length_cons,List.length_nil,yes]))
      all_goals try exact nd
      exact ⟨⟨1,by omega⟩,wf,lf⟩
     |false=>
      have g2:strAt (frB f) 0=110:=by rw [frB_at f 0 hc,hr];rfl
      have hk0: ¬ L.getD 0 0=0:=fun e=>by have:=hki.2 e;rw [hr] at this;cases this
      have hs:HH++J 0++[32]++Lib.itoa a=HH++J 1:=by rw [hji,opW,if_neg hk0];simp
      repeat' (first
       |(with_reducible first|refine nx ?_|refine t_seq fun K=>?_|refine t_br (fun hc=>?_) fun hc=>?_|refine t_bx ?_|apply And.intro|intro vr)
       |((with_reducible first|refine ny ?_|refine t_dwh (h:=fun K KL=>?_));intros;simp only [go_sem,kp51,geff,hsz,h0,g1,g2,hs,List.length_append,List.length_cons,List.length_nil,yes]))
      all_goals try exact nd
      exact ⟨⟨1,by omega⟩,wf,lf⟩
    ·have h0:((((1:Nat):Int)):Int)=1:=rfl
     have g1:decide ((1:Int)<(f.length:Int))=true:=decide_eq_true (by omega)
     have ho:oI 1=b:=hop 1
     have hb:=hbn 1 (by omega)
     rw [ho] at hji hb
     have hbg: -big≤b∧b≤big:=by unfold big;omega
     have hbg1:=hbg.1
     have hbg2:=hbg.2
     have hil:=Lib.itoa_length_le b (by omega) (by omega)
     cases hr:f.getD 1 false with
     |true=>
      have g2:strAt (frB f) 1=114:=by rw [frB_at f 1 hc,hr];rfl
      have hk0:L.getD 1 0=0:=hki.1 hr
      rw [hk0] at hji
      have hs:HH++J 1++[32]++[114]++Lib.itoa b=HH++J 2:=by rw [hji];simp [opW]
      repeat' (first
       |(with_reducible first|refine nx ?_|refine t_seq fun K=>?_|refine t_br (fun hc=>?_) fun hc=>?_|refine t_bx ?_|apply And.intro|intro vr)
       |((with_reducible first|refine ny ?_|refine t_dwh (h:=fun K KL=>?_));intros;simp only [go_sem,kp51,geff,hsz,h0,g1,g2,hs,List.length_append,List.length_cons,List.length_nil,yes]))
      all_goals try exact nd
      exact ⟨⟨2,by omega⟩,wf,lf⟩
     |false=>
      have g2:strAt (frB f) 1=110:=by rw [frB_at f 1 hc,hr];rfl
      have hk0: ¬ L.getD 1 0=0:=fun e=>by have:=hki.2 e;rw [hr] at this;cases this
      have hs:HH++J 1++[32]++Lib.itoa b=HH++J 2:=by rw [hji,opW,if_neg hk0];simp
      repeat' (first
       |(with_reducible first|refine nx ?_|refine t_seq fun K=>?_|refine t_br (fun hc=>?_) fun hc=>?_|refine t_bx ?_|apply And.intro|intro vr)
       |((with_reducible first|refine ny ?_|refine t_dwh (h:=fun K KL=>?_));intros;simp only [go_sem,kp51,geff,hsz,h0,g1,g2,hs,List.length_append,List.length_cons,List.length_nil,yes]))
      all_goals try exact nd
      exact ⟨⟨2,by omega⟩,wf,lf⟩
    ·have h0:((((2:Nat):Int)):Int)=2:=rfl
     have g1:decide ((2:Int)<(f.length:Int))=true:=decide_eq_true (by omega)
     have ho:oI 2=c:=hop 2
     have hb:=hbn 2 (by omega)
     rw [ho] at hji hb
     have hbg: -big≤c∧c≤big:=by unfold big;omega
     have hbg1:=hbg.1
     have hbg2:=hbg.2
     have hil:=Lib.itoa_length_le c (by omega) (by omega)
     cases hr:f.getD 2 false with
     |true=>
      have g2:strAt (frB f) 2=114:=by rw [frB_at f 2 hc,hr];rfl
      have hk0:L.getD 2 0=0:=hki.1 hr
      rw [hk0] at hji
      have hs:HH++J 2++[32]++[114]++Lib.itoa c=HH++J 3:=by rw [hji];simp [opW]
      repeat' (first
       |(with_reducible first|refine nx ?_|refine t_seq fun K=>?_|refine t_br (fun hc=>?_) fun hc=>?_|refine t_bx ?_|apply And.intro|intro vr)
       |((with_reducible first|refine ny ?_|refine t_dwh (h:=fun K KL=>?_));intros;simp only [go_sem,kp51,geff,hsz,h0,g1,g2,hs,List.length_append,List.length_cons,List.length_nil,yes]))
      all_goals try exact nd
      exact ⟨⟨3,by omega⟩,wf,lf⟩
     |false=>
      have g2:strAt (frB f) 2=110:=by rw [frB_at f 2 hc,hr];rfl
      have hk0: ¬ L.getD 2 0=0:=fun e=>by have:=hki.2 e;rw [hr] at this;cases this
      have hs:HH++J 2++[32]++Lib.itoa c=HH++J 3:=by rw [hji,opW,if_neg hk0];simp
      repeat' (first
       |(with_reducible first|refine nx ?_|refine t_seq fun K=>?_|refine t_br (fun hc=>?_) fun hc=>?_|refine t_bx ?_|apply And.intro|intro vr)
       |((with_reducible first|refine ny ?_|refine t_dwh (h:=fun K KL=>?_));intros;simp only [go_sem,kp51,geff,hsz,h0,g1,g2,hs,List.length_append,List.length_cons,List.length_nil,yes]))
      all_goals try exact nd
      exact ⟨⟨3,by omega⟩,wf,lf⟩
    ·have h0:((((3:Nat):Int)):Int)=3:=rfl
     have g1:decide ((3:Int)<(f.length:Int))=true:=decide_eq_true (by omega)
     have ho:oI 3=d:=hop 3
     have hb:=hbn 3 (by omega)
     rw [ho] at hji hb
     have hbg: -big≤d∧d≤big:=by unfold big;omega
     have hbg1:=hbg.1
     have hbg2:=hbg.2
     have hil:=Lib.itoa_length_le d (by omega) (by omega)
     cases hr:f.getD 3 false with
     |true=>
      have g2:strAt (frB f) 3=114:=by rw [frB_at f 3 hc,hr];rfl
      have hk0:L.getD 3 0=0:=hki.1 hr
      rw [hk0] at hji
      have hs:HH++J 3++[32]++[114]++Lib.itoa d=HH++J 4:=by rw [hji];simp [opW]
      repeat' (first
       |(with_reducible first|refine nx ?_|refine t_seq fun K=>?_|refine t_br (fun hc=>?_) fun hc=>?_|refine t_bx ?_|apply And.intro|intro vr)
       |((with_reducible first|refine ny ?_|refine t_dwh (h:=fun K KL=>?_));intros;simp only [go_sem,kp51,geff,hsz,h0,g1,g2,hs,List.length_append,List.length_cons,List.length_nil,yes]))
      all_goals try exact nd
      exact ⟨⟨4,by omega⟩,wf,lf⟩
     |false=>
      have g2:strAt (frB f) 3=110:=by rw [frB_at f 3 hc,hr];rfl
      have hk0: ¬ L.getD 3 0=0:=fun e=>by have:=hki.2 e;rw [hr] at this;cases this
      have hs:HH++J 3++[32]++Lib.itoa d=HH++J 4:=by rw [hji,opW,if_neg hk0];simp
      repeat' (first
       |(with_reducible first|refine nx ?_|refine t_seq fun K=>?_|refine t_br (fun hc=>?_) fun hc=>?_|refine t_bx ?_|apply And.intro|intro vr)
       |((with_reducible first|refine ny ?_|refine t_dwh (h:=fun K KL=>?_));intros;simp only [go_sem,kp51,geff,hsz,h0,g1,g2,hs,List.length_append,List.length_cons,List.length_nil,yes]))
      all_goals try exact nd
      exact ⟨⟨4,by omega⟩,wf,lf⟩
   ·have hi2:i=f.length:=by omega
    subst hi2
    have g1:decide ((f.length:Int)<(f.length:Int))=false:=decide_eq_false (by omega)
    repeat' (first
     |(with_reducible first|refine nx ?_|refine t_seq fun K=>?_|refine t_br (fun hc=>?_) fun hc=>?_|refine t_bx ?_|apply And.intro|intro vr)
     |((with_reducible first|refine ny ?_|refine t_dwh (h:=fun K KL=>?_));intros;simp only [go_sem,kp51,geff,hsz,g1]))
    all_goals try exact nd
    all_goals (refine nl ?_;simp only [go_sem])
    exact LeA.refl _
  ·have hk5:(k==5)=false:=by simpa using h5
   have hHl:HH.length≤41:=by rw [hHe,if_neg h5,List.append_nil];omega
   have hs0:N=HH++J 0:=by rw [hJ0',hHe,if_neg h5];simp
   subst hs0
   refine pcR Y14_ok (kp51) Tryz.func51 [.tmp 2] (h:=fun KF=>?_)
   unfold Y14
   repeat' (first
    |(with_reducible first|refine nx ?_|refine t_seq fun K=>?_|refine t_br (fun hc=>?_) fun hc=>?_|refine t_bx ?_|apply And.intro|intro vr)
    |((with_reducible first|refine ny ?_|refine t_dwh (h:=fun K KL=>?_));intros;simp only [go_sem,kp51,geff,hk5,hV,hN,List.length_append,List.length_cons,List.length_nil]))
   all_goals try exact nd
   refine t_loopF (ι:={q:Nat // q≤f.length}) (fun i=>[(7,.lit (.int .i64 (i.1:Int))),(3,.lit (.string (bs (HH++J i.1))))]) (fun i=>[.box 50 [.lit (.int .i64 k),.lit (.string (bs q)),.lit (.int .i64 a),.lit (.int .i64 b),.lit (.int .i64 c),.lit (.int .i64 d)],.box 114 [.lit (.int .i64 a),.lit (.int .i64 b),.lit (.int .i64 c),.lit (.int .i64 d)]]) (fun i=>f.length - i.1) ⟨0,by omega⟩ ?_ ?_
   ·exact lf
   rintro ⟨i,hi⟩ K0
   rcases Nat.lt_or_ge i f.length with hc|hc
   ·have hJi:=hjl i (by omega)
    have hki:=hkn i hc
    have hji:=hjs i
    rcases (show i=0∨i=1∨i=2∨i=3 by omega) with rfl|rfl|rfl|rfl
    ·have h0:((((0:Nat):Int)):Int)=0:=rfl
     have g1:decide ((0:Int)<(f.length:Int))=true:=decide_eq_true (by omega)
     have ho:oI 0=a:=hop 0
     have hb:=hbn 0 (by omega)
     rw [ho] at hji hb
     have hbg: -big≤a∧a≤big:=by unfold big;omega
     have hbg1:=hbg.1
     have hbg2:=hbg.2
     have hil:=Lib.itoa_length_le a (by omega) (by omega)
     cases hr:f.getD 0 false with
     |true=>
      have g2:strAt (frB f) 0=114:=by rw [frB_at f 0 hc,hr];rfl
      have hk0:L.getD 0 0=0:=hki.1 hr
      rw [hk0] at hji
      have hs:HH++J 0++[32]++[114]++Lib.itoa a=HH++J 1:=by rw [hji];simp [opW]
      repeat' (first
       |(with_reducible first|refine nx ?_|refine t_seq fun K=>?_|refine t_br (fun hc=>?_) fun hc=>?_|refine t_bx ?_|apply And.intro|intro vr)
       |((with_reducible first|refine ny ?_|refine t_dwh (h:=fun K KL=>?_));intros;simp only [go_sem,kp51,geff,hsz,h0,g1,g2,hs,List.length_append,List.length_cons,List.length_nil,yes]))
      all_goals try exact nd
      exact ⟨⟨1,by omega⟩,wf,lf⟩
     |false=>
      have g2:strAt (frB f) 0=110:=by rw [frB_at f 0 hc,hr];rfl
      have hk0: ¬ L.getD 0 0=0:=fun e=>by have:=hki.2 e;rw [hr] at this;cases this
      have hs:HH++J 0++[32]++Lib.itoa a=HH++J 1:=by rw [hji,opW,if_neg hk0];simp
      repeat' (first
       |(with_reducible first|refine nx ?_|refine t_seq fun K=>?_|refine t_br (fun hc=>?_) fun hc=>?_|refine t_bx ?_|apply And.intro|intro vr)
       |((with_reducible first|refine ny ?_|refine t_dwh (h:=fun K KL=>?_));intros;simp only [go_sem,kp51,geff,hsz,h0,g1,g2,hs,List.length_append,List.length_cons,List.length_nil,yes]))
      all_goals try exact nd
      exact ⟨⟨1,by omega⟩,wf,lf⟩
    ·have h0:((((1:Nat):Int)):Int)=1:=rfl
     have g1:decide ((1:Int)<(f.length:Int))=true:=decide_eq_true (by omega)
     have ho:oI 1=b:=hop 1
     have hb:=hbn 1 (by omega)
     rw [ho] at hji hb
     have hbg: -big≤b∧b≤big:=by unfold big;omega
     have hbg1:=hbg.1
     have hbg2:=hbg.2
     have hil:=Lib.itoa_length_le b (by omega) (by omega)
     cases hr:f.getD 1 false with
     |true=>
      have g2:strAt (frB f) 1=114:=by rw [frB_at f 1 hc,hr];rfl
      have hk0:L.getD 1 0=0:=hki.1 hr
      rw [hk0] at hji
      have hs:HH++J 1++[32]++[114]++Lib.itoa b=HH++J 2:=by rw [hji];simp [opW]
      repeat' (first
       |(with_reducible first|refine nx ?_|refine t_seq fun K=>?_|refine t_br (fun hc=>?_) fun hc=>?_|refine t_bx ?_|apply And.intro|intro vr)
       |((with_reducible first|refine ny ?_|refine t_dwh (h:=fun K KL=>?_));intros;simp only [go_sem,kp51,geff,hsz,h0,g1,g2,hs,List.length_append,List.length_cons,List.length_nil,yes]))
      all_goals try exact nd
      exact ⟨⟨2,by omega⟩,wf,lf⟩
     |false=>
      have g2:strAt (frB f) 1=110:=by rw [frB_at f 1 hc,hr];rfl
      have hk0: ¬ L.getD 1 0=0:=fun e=>by have:=hki.2 e;rw [hr] at this;cases this
      have hs:HH++J 1++[32]++Lib.itoa b=HH++J 2:=by rw [hji,opW,if_neg hk0];simp
      repeat' (first
       |(with_reducible first|refine nx ?_|refine t_seq fun K=>?_|refine t_br (fun hc=>?_) fun hc=>?_|refine t_bx ?_|apply And.intro|intro vr)
       |((with_reducible first|refine ny ?_|refine t_dwh (h:=fun K KL=>?_));intros;simp only [go_sem,kp51,geff,hsz,h0,g1,g2,hs,List.length_append,List.length_cons,List.length_nil,yes]))
      all_goals try exact nd
      exact ⟨⟨2,by omega⟩,wf,lf⟩
    ·have h0:((((2:Nat):Int)):Int)=2:=rfl
     have g1:decide ((2:Int)<(f.length:Int))=true:=decide_eq_true (by omega)
     have ho:oI 2=c:=hop 2
     have hb:=hbn 2 (by omega)
     rw [ho] at hji hb
     have hbg: -big≤c∧c≤big:=by unfold big;omega
     have hbg1:=hbg.1
     have hbg2:=hbg.2
     have hil:=Lib.itoa_length_le c (by omega) (by omega)
     cases hr:f.getD 2 false with
     |true=>
      have g2:strAt (frB f) 2=114:=by rw [frB_at f 2 hc,hr];rfl
      have hk0:L.getD 2 0=0:=hki.1 hr
      rw [hk0] at hji
      have hs:HH++J 2++[32]++[114]++Lib.itoa c=HH++J 3:=by rw [hji];simp [opW]
      repeat' (first
       |(with_reducible first|refine nx ?_|refine t_seq fun K=>?_|refine t_br (fun hc=>?_) fun hc=>?_|refine t_bx ?_|apply And.intro|intro vr)
       |((with_reducible first|refine ny ?_|refine t_dwh (h:=fun K KL=>?_));intros;simp only [go_sem,kp51,geff,hsz,h0,g1,g2,hs,List.length_append,List.length_cons,List.length_nil,yes]))
      all_goals try exact nd
      exact ⟨⟨3,by omega⟩,wf,lf⟩
     |false=>
      have g2:strAt (frB f) 2=110:=by rw [frB_at f 2 hc,hr];rfl
      have hk0: ¬ L.getD 2 0=0:=fun e=>by have:=hki.2 e;rw [hr] at this;cases this
      have hs:HH++J 2++[32]++Lib.itoa c=HH++J 3:=by rw [hji,opW,if_neg hk0];simp
      repeat' (first
       |(with_reducible first|refine nx ?_|refine t_seq fun K=>?_|refine t_br (fun hc=>?_) fun hc=>?_|refine t_bx ?_|apply And.intro|intro vr)
       |((with_reducible first|refine ny ?_|refine t_dwh (h:=fun K KL=>?_));intros;simp only [go_sem,kp51,geff,hsz,h0,g1,g2,hs,List.length_append,List.length_cons,List.length_nil,yes]))
      all_goals try exact nd
      exact ⟨⟨3,by omega⟩,wf,lf⟩
    ·have h0:((((3:Nat):Int)):Int)=3:=rfl
     have g1:decide ((3:Int)<(f.length:Int))=true:=decide_eq_true (by omega)
     have ho:oI 3=d:=hop 3
     have hb:=hbn 3 (by omega)
     rw [ho] at hji hb
     have hbg: -big≤d∧d≤big:=by unfold big;omega
     have hbg1:=hbg.1
     have hbg2:=hbg.2
     have hil:=Lib.itoa_length_le d (by omega) (by omega)
     cases hr:f.getD 3 false with
     |true=>
      have g2:strAt (frB f) 3=114:=by rw [frB_at f 3 hc,hr];rfl
      have hk0:L.getD 3 0=0:=hki.1 hr
      rw [hk0] at hji
      have hs:HH++J 3++[32]++[114]++Lib.itoa d=HH++J 4:=by rw [hji];simp [opW]
      repeat' (first
       |(with_reducible first|refine nx ?_|refine t_seq fun K=>?_|refine t_br (fun hc=>?_) fun hc=>?_|refine t_bx ?_|apply And.intro|intro vr)
       |((with_reducible first|refine ny ?_|refine t_dwh (h:=fun K KL=>?_));intros;simp only [go_sem,kp51,geff,hsz,h0,g1,g2,hs,List.length_append,List.length_cons,List.length_nil,yes]))
      all_goals try exact nd
      exact ⟨⟨4,by omega⟩,wf,lf⟩
     |false=>
      have g2:strAt (frB f) 3=110:=by rw [frB_at f 3 hc,hr];rfl
      have hk0: ¬ L.getD 3 0=0:=fun e=>by have:=hki.2 e;rw [hr] at this;cases this
      have hs:HH++J 3++[32]++Lib.itoa d=HH++J 4:=by rw [hji,opW,if_neg hk0];simp
      repeat' (first
       |(with_reducible first|refine nx ?_|refine t_seq fun K=>?_|refine t_br (fun hc=>?_) fun hc=>?_|refine t_bx ?_|apply And.intro|intro vr)
       |((with_reducible first|refine ny ?_|refine t_dwh (h:=fun K KL=>?_));intros;simp only [go_sem,kp51,geff,hsz,h0,g1,g2,hs,List.length_append,List.length_cons,List.length_nil,yes]))
      all_goals try exact nd
      exact ⟨⟨4,by omega⟩,wf,lf⟩
   ·have hi2:i=f.length:=by omega
    subst hi2
    have g1:decide ((f.length:Int)<(f.length:Int))=false:=decide_eq_false (by omega)
    repeat' (first
     |(with_reducible first|refine nx ?_|refine t_seq fun K=>?_|refine t_br (fun hc=>?_) fun hc=>?_|refine t_bx ?_|apply And.intro|intro vr)
     |((with_reducible first|refine ny ?_|refine t_dwh (h:=fun K KL=>?_));intros;simp only [go_sem,kp51,geff,hsz,g1]))
    all_goals try exact nd
    all_goals (refine nl ?_;simp only [go_sem])
    exact LeA.refl _
end Go.Proofs.YtohiagaclfaolaaGreatDoor.Tx

namespace Go.Proofs.YtohiagaclfaolaaGreatDoor.Tx
open Go.Proofs.YtohiagaclfaolaaGreatDoor
open Go Go.Fw Bm
set_option maxRecDepth 20000
def lastC (N:List UInt8):Nat→Int
  |0=>0
  |c+1=>if c=0 then 0 else if (ul (namL (c:Int))==N)=true then (c:Int) else lastC N c
theorem idxF_no {nm:Nat→ByteArray} {w:List UInt8}:∀ (f i:Nat),(∀ j,j<i+f→eqS (nm j) (bs w)=false)→idxF nm w f i= -1
  |0,_,_=>rfl
  |f+1,i,h=>by
   rw [idxF,if_neg (by rw [h i (by omega)];decide)]
   exact idxF_no f (i+1) fun j hj=>h j (by omega)
theorem nm_all:∀ j:Fin 16,ul (nmB j.val)=ul (namL (j.val:Int)):=by decide+kernel
theorem last_all:∀ j:Fin 16,lastC (ul (nmB j.val)) 16=rcode (ul (nmB j.val)):=by decide+kernel
theorem lastC_no {N:List UInt8} (h:∀ j:Nat,j<16→ul (namL (j:Int))≠N):∀ c,c≤16→lastC N c=0
  |0,_=>rfl
  |c+1,hc=>by
   rw [lastC]
   split
   ·rfl
   ·rw [if_neg (by simpa using h c (by omega))];exact lastC_no h c (by omega)
theorem code_eq (N:List UInt8):lastC N 16=rcode N:=by
  by_cases h:∃ j:Fin 16,N=ul (nmB j.val)
  ·obtain ⟨j,rfl⟩:=h;exact last_all j
  ·have hn:∀ j,j<16→ul (nmB j)≠N:=fun j hj e=>h ⟨⟨j,hj⟩,e.symm⟩
   rw [lastC_no (fun j hj=>by rw [←nm_all ⟨j,hj⟩];exact hn j hj) 16 (Nat.le_refl _)]
   unfold rcode
   rw [idxF_no 16 0 fun j hj=>?_]
   ·rfl
   ·rw [←bs_ul (nmB j),eqS_bs]
    simpa using hn j (by omega)
def rrW (s:List UInt8) (k:Int) (p:List UInt8) (R:List (List UInt8)):AV:=match formS (mkI k p []) with
    |none=> .tup [opV nilI,.lit (.bool false)]
    |some f=>if R.length≠f.length then .tup [opV nilI,.lit (.bool false)] else
     .tup [opV (mkI k p (rnums f R)),.lit (.bool (rightS (mkI k p (rnums f R)) 200&&(lineB (mkI k p (rnums f R))==s)))]
def rreadV (s:List UInt8):AV:=match splitW 32 s with
  |[]=> .top
  |w::ws=>rrW s (rcode w) (hdP (rcode w) ws) (tlP (rcode w) ws)
theorem rreadV_spec (s:List UInt8):∃ y b,rreadV s= .tup [opV y,.lit (.bool b)]∧(b=true→rreadS s=some y)∧(b=false→rreadS s=none):=by
  unfold rreadV rreadS
  cases h:splitW 32 s with
  |nil=>exact absurd h (splitW_ne 32 s)
  |cons w ws=>
   simp only [rreadW,rrW]
   cases hF:formS (mkI (rcode w) (hdP (rcode w) ws) []) with
   |none=>exact ⟨_,_,rfl,fun h=>(by cases h),fun _=>rfl⟩
   |some f=>
    simp only
    by_cases hl:(tlP (rcode w) ws).length≠f.length
    ·rw [if_pos hl,if_pos hl];exact ⟨_,_,rfl,fun h=>(by cases h),fun _=>rfl⟩
    ·rw [if_neg hl,if_neg hl]
     refine ⟨_,_,rfl,fun h=>?_,fun h=>?_⟩
     ·simp only [Bool.and_eq_true,beq_iff_eq] at h
      unfold accS
      rw [if_pos h]
     ·unfold accS
      rw [if_neg]
      intro hh
      rw [hh.1,hh.2] at h
      simp at h
noncomputable def con90:PCon Tryz.prog where
  f:=90
  c:=fun
   |[.lit (.string s)]=>some ((ul s).length≤1000000,.sl false 1 (txs (splitW 32 (ul s))))
   |_=>none
  ok:=by
   intro args p r hc hp
   split at hc
   ·rename_i s
    obtain ⟨l,rfl⟩:=bs_ex s
    cases hc;rw [ul_bs] at*;exact words_pc hp
   ·cases hc
  fk:=fk90
theorem con90_f:con90.f=90:=rfl
theorem con90_c {l:List UInt8}:con90.c [.lit (.string (bs l))]=some (l.length≤1000000,.sl false 1 (txs (splitW 32 l))):=by
  show some ((ul (bs l)).length≤1000000,AV.sl false 1 (txs (splitW 32 (ul (bs l)))))=_
  rw [ul_bs]
noncomputable def con91:PCon Tryz.prog where
  f:=91
  c:=fun
   |[.lit (.string s)]=>some ((ul s).length≤1000000,.lit (.int .i64 (numS (ul s))))
   |_=>none
  ok:=by
   intro args p r hc hp
   split at hc
   ·rename_i s
    obtain ⟨l,rfl⟩:=bs_ex s
    cases hc;rw [ul_bs] at*;exact number_pc hp
   ·cases hc
  fk:=fk91
theorem con91_f:con91.f=91:=rfl
theorem con91_c {l:List UInt8}:con91.c [.lit (.string (bs l))]=some (l.length≤1000000,.lit (.int .i64 (numS l))):=by
  show some ((ul (bs l)).length≤1000000,AV.lit (.int .i64 (numS (ul (bs l)))))=_
  rw [ul_bs]
noncomputable def con51:PCon Tryz.prog where
  f:=51
  c:=fun
   |[x]=>match opOf x with
    |some x=>some (rightS x 200=true,.lit (.string (bs (lineB x))))
    |none=>none
   |_=>none
  ok:=by
   intro args p r hc hp
   split at hc
   ·split at hc
    ·rename_i x hx
     cases hc
     rw [opOf_inv hx]
     obtain ⟨f,h⟩:=right_rti hp
     exact rline_pc h
    ·cases hc
   ·cases hc
  fk:=fk51
theorem con51_f:con51.f=51:=rfl
theorem con51_c {x:AV}:con51.c [x]=match opOf x with
      |some x=>some (rightS x 200=true,.lit (.string (bs (lineB x))))
      |none=>none:=rfl
attribute [go_sem] con90_f con90_c con91_f con91_c con51_f con51_c con50_f con50_c
noncomputable def Y15:Env:=envJ (P:=Tryz.prog) jkV zer (fun _=>false) (fun _=>false) [con50,con51,con83,con85,con90,con91] []
theorem Y15_ok:EnvOk Tryz.prog Y15:=envJOk zer_ok
theorem rn_at {f:List Bool} {R:List (List UInt8)} {j:Nat}:(rnums f R).getD j 0=oc (fun j=>numS (if f.getD j false=true then (R.getD j []).tail else R.getD j [])) f.length j:=by
  unfold rnums oc;exact range_get
set_option maxHeartbeats 32000000 in
theorem rread_pc {s:List UInt8} (hs:s.length≤100000):PC Tryz.prog 54 [.lit (.string (bs s))] (rreadV s):=by
  obtain ⟨N,R0,hsp⟩:∃ N R0,splitW 32 s=N::R0:=by
    cases h:splitW 32 s with
    |nil=>exact absurd h (splitW_ne 32 s)
    |cons a b=>exact ⟨a,b,rfl⟩
  have hsl:=splitW_len (c:=32) s
  have hcl:s.count 32≤s.length:=List.count_le_length
  have hln:∀ i,(R0.getD i []).length≤100000:=fun i=>by
    have:= @splitW_le 32 s (i+1)
    rw [hsp,List.getD_cons_succ] at this
    omega
  rw [hsp,List.length_cons] at hsl
  have hP:rreadV s=rrW s (rcode N) (hdP (rcode N) R0) (tlP (rcode N) R0):=by unfold rreadV;rw [hsp]
  rw [hP]
  clear hP
  have htk:∀ (A:List UInt8) (B:List (List UInt8)),List.take (B.length+1) (txs (A::B))=txs (A::B):=fun A B=>by rw [←List.length_cons (a:=A),←txs_length];exact take_all _
  have hdr:∀ (A:List UInt8) (B:List (List UInt8)),List.drop 1 (txs (A::B))=txs B:=fun _ _=>rfl
  have hcd:=code_eq N
  generalize hK:rcode N=k at*
  have nil0:opV nilI= .agg [.lit (.int .i64 0),.lit (.string (bs [])),.lit (.int .i64 0),.lit (.int .i64 0),.lit (.int .i64 0),.lit (.int .i64 0)]:=rfl
  by_cases hk:k=5
  ·have hk5:((5:Int)==5)=true:=rfl
   have hcd5:lastC N 16=5:=by rw [hcd,hk]
   clear hcd
   subst hk
   cases R0 with
   |nil=>
    show PC _ _ _ (rrW s 5 [] [])
    generalize hR:rrW s 5 [] []=RES
    have hcd:=hcd5
    have gz:decide ((0:Int)>0)=false:=by decide
    have hlr:∀ i,(([]:List (List UInt8)).getD i []).length≤100000:=fun i=>by simp
    have htk2:List.take (0+1) (txs [N])=txs [N]:=rfl
    have htk3:List.take 1 (txs [N])=txs [N]:=rfl
    refine pcR Y15_ok (kp54) Tryz.func54 [.cell 2 50,.tmp 3] (h:=fun KF=>?_)
    unfold Y15
    repeat' (first
     |(with_reducible first|refine nx ?_|refine t_seq fun K=>?_|refine t_br (fun hc=>?_) fun hc=>?_|refine t_bx ?_|apply And.intro|intro vr)|exact kpd
     |((with_reducible first|refine ny ?_|refine t_kLF ?_ ?_|refine t_drawE (id:=10) (fun i=>i==0) [(0,1),(1,1),(2,1),(3,1),(4,1),(5,1),(6,0),(7,1)] (by kernel_rfl) fun K=>?_|refine t_drawE (id:=22) (fun i=>i==2) [(0,1),(1,1),(2,1),(3,1),(4,1),(5,1),(6,1),(7,1),(8,1),(9,0),(10,1),(11,0),(12,1),(13,0),(14,1),(15,0)] (by kernel_rfl) fun K=>?_|refine t_drawE (id:=23) (fun i=>i==1) [(0,1),(1,1),(2,1),(3,1),(4,1),(5,1),(6,1),(7,1),(8,1),(9,0),(10,1)] (by kernel_rfl) fun K=>?_|refine t_dwh (h:=fun K KL=>?_));intros;simp only [go_sem,kp54,geff,hsp,txs_length,List.length_cons,yes]))
    all_goals try exact nd
    refine t_loopF (ι:={c:Nat // 1≤c∧c≤16}) (fun i=>[(6,.lit (.int .i64 (i.1:Int)))]) (fun i=>[.box 50 [.lit (.int .i64 0),.lit (.string (bs [])),.lit (.int .i64 0),.lit (.int .i64 0),.lit (.int .i64 0),.lit (.int .i64 0)],.box 50 [.lit (.int .i64 (lastC N i.1)),.lit (.string (bs [])),.lit (.int .i64 0),.lit (.int .i64 0),.lit (.int .i64 0),.lit (.int .i64 0)]]) (fun i=>17 - i.1) ⟨1,by omega,by omega⟩ ?_ ?_
    ·exact lf
    rintro ⟨c,hc1,hc2⟩ K0
    rcases Nat.lt_or_ge c 16 with hcc|hcc
    ·have w1:decide ((c:Int)≤15)=true:=decide_eq_true (by omega)
     have w3:(0:Int)<((([]:List (List UInt8)).length+1:Nat):Int):=by omega
     have hlc:lastC N (c+1)=if (ul (namL (c:Int))==N)=true then (c:Int) else lastC N c:=by rw [lastC,if_neg (by omega)]
     cases hcn:(ul (namL (c:Int))==N) with
     |true=>
      rw [if_pos hcn] at hlc
      repeat' (first
       |(with_reducible first|refine nx ?_|refine t_seq fun K=>?_|refine t_br (fun hc=>?_) fun hc=>?_|refine t_bx ?_|apply And.intro|intro vr)|exact kpd
       |((with_reducible first|refine ny ?_|refine t_kLF ?_ ?_|refine t_drawE (id:=10) (fun i=>i==0) [(0,1),(1,1),(2,1),(3,1),(4,1),(5,1),(6,0),(7,1)] (by kernel_rfl) fun K=>?_|refine t_drawE (id:=22) (fun i=>i==2) [(0,1),(1,1),(2,1),(3,1),(4,1),(5,1),(6,1),(7,1),(8,1),(9,0),(10,1),(11,0),(12,1),(13,0),(14,1),(15,0)] (by kernel_rfl) fun K=>?_|refine t_drawE (id:=23) (fun i=>i==1) [(0,1),(1,1),(2,1),(3,1),(4,1),(5,1),(6,1),(7,1),(8,1),(9,0),(10,1)] (by kernel_rfl) fun K=>?_|refine t_dwh (h:=fun K KL=>?_));intros;simp only [go_sem,kp54,geff,w1,hcn,txs_hd0,txs_length,List.length_cons,yes]))
      all_goals try exact nd
      refine ⟨⟨c+1,by omega,by omega⟩,by simp only;omega,?_⟩
      simp only [hlc]
      first|exact lf|(refine Le.frameS (by first|rfl|(simp only [go_sem];try rfl)) ?_;repeat' (first|exact leF_top _|exact (fun _=>LeR.refl _)|(with_reducible refine leF_sl ?_ ?_)|(refine leF_upd ?_ ?_)))<;>(first|exact LeR.top _|exact LeR.refl _|(refine LeR.of_eq ?_;(try simp only [go_sem]);try rfl)|((try simp only [go_sem]);try rfl))
     |false=>
      rw [if_neg (by rw [hcn];decide)] at hlc
      repeat' (first
       |(with_reducible first|refine nx ?_|refine t_seq fun K=>?_|refine t_br (fun hc=>?_) fun hc=>?_|refine t_bx ?_|apply And.intro|intro vr)|exact kpd
       |((with_reducible first|refine ny ?_|refine t_kLF ?_ ?_|refine t_drawE (id:=10) (fun i=>i==0) [(0,1),(1,1),(2,1),(3,1),(4,1),(5,1),(6,0),(7,1)] (by kernel_rfl) fun K=>?_|refine t_drawE (id:=22) (fun i=>i==2) [(0,1),(1,1),(2,1),(3,1),(4,1),(5,1),(6,1),(7,1),(8,1),(9,0),(10,1),(11,0),(12,1),(13,0),(14,1),(15,0)] (by kernel_rfl) fun K=>?_|refine t_drawE (id:=23) (fun i=>i==1) [(0,1),(1,1),(2,1),(3,1),(4,1),(5,1),(6,1),(7,1),(8,1),(9,0),(10,1)] (by kernel_rfl) fun K=>?_|refine t_dwh (h:=fun K KL=>?_));intros;simp only [go_sem,kp54,geff,w1,hcn,txs_hd0,txs_length,List.length_cons,yes]))
      all_goals try exact nd
      refine ⟨⟨c+1,by omega,by omega⟩,by simp only;omega,?_⟩
      simp only [hlc]
      first|exact lf|(refine Le.frameS (by first|rfl|(simp only [go_sem];try rfl)) ?_;repeat' (first|exact leF_top _|exact (fun _=>LeR.refl _)|(with_reducible refine leF_sl ?_ ?_)|(refine leF_upd ?_ ?_)))<;>(first|exact LeR.top _|exact LeR.refl _|(refine LeR.of_eq ?_;(try simp only [go_sem]);try rfl)|((try simp only [go_sem]);try rfl))
    obtain rfl:c=16:=by omega
    have w1:decide (((16:Nat):Int)≤15)=false:=by decide
    cases hF:formS (mkI 5 ([]:List UInt8) []) with
    |none=>
     have hV:formV ⟨5,bs ([]:List UInt8),0,0,0,0⟩=_:=formV_none hF
     repeat' (first
      |(with_reducible first|refine nx ?_|refine t_seq fun K=>?_|refine t_br (fun hc=>?_) fun hc=>?_|refine t_bx ?_|apply And.intro|intro vr)|exact kpd
      |((with_reducible first|refine ny ?_|refine t_kLF ?_ ?_|refine t_drawE (id:=10) (fun i=>i==0) [(0,1),(1,1),(2,1),(3,1),(4,1),(5,1),(6,0),(7,1)] (by kernel_rfl) fun K=>?_|refine t_drawE (id:=22) (fun i=>i==2) [(0,1),(1,1),(2,1),(3,1),(4,1),(5,1),(6,1),(7,1),(8,1),(9,0),(10,1),(11,0),(12,1),(13,0),(14,1),(15,0)] (by kernel_rfl) fun K=>?_|refine t_drawE (id:=23) (fun i=>i==1) [(0,1),(1,1),(2,1),(3,1),(4,1),(5,1),(6,1),(7,1),(8,1),(9,0),(10,1)] (by kernel_rfl) fun K=>?_|refine t_dwh (h:=fun K KL=>?_));intros;simp only [go_sem,kp54,geff,w1,hcd,hk5,hV,gz,htk2,htk3,List.length_nil,hdr,htk,txs_hd0,txs_length,List.length_cons,yes]))
     all_goals try exact nd
     all_goals (refine nl ?_;simp only [go_sem])
     exact LeA.of_eq (by rw [←hR];simp only [rrW,hF];rfl)
    |some f=>
     have hV:formV ⟨5,bs ([]:List UInt8),0,0,0,0⟩=_:=formV_some hF
     have hsz:=frB_size f
     have hf4:=formS_len hF
     by_cases hlen:(([]:List (List UInt8))).length≠f.length
     ·have g4:(((([]:List (List UInt8))).length:Int) !=(f.length:Int))=true:=by rw [bne_iff_ne];omega
      have hl0:f.length≠0:=fun e=>hlen (by rw [e];rfl)
      have g4':((0:Int) !=(f.length:Int))=true:=by rw [bne_iff_ne];omega
      repeat' (first
       |(with_reducible first|refine nx ?_|refine t_seq fun K=>?_|refine t_br (fun hc=>?_) fun hc=>?_|refine t_bx ?_|apply And.intro|intro vr)|exact kpd
       |((with_reducible first|refine ny ?_|refine t_kLF ?_ ?_|refine t_drawE (id:=10) (fun i=>i==0) [(0,1),(1,1),(2,1),(3,1),(4,1),(5,1),(6,0),(7,1)] (by kernel_rfl) fun K=>?_|refine t_drawE (id:=22) (fun i=>i==2) [(0,1),(1,1),(2,1),(3,1),(4,1),(5,1),(6,1),(7,1),(8,1),(9,0),(10,1),(11,0),(12,1),(13,0),(14,1),(15,0)] (by kernel_rfl) fun K=>?_|refine t_drawE (id:=23) (fun i=>i==1) [(0,1),(1,1),(2,1),(3,1),(4,1),(5,1),(6,1),(7,1),(8,1),(9,0),(10,1)] (by kernel_rfl) fun K=>?_|refine t_dwh (h:=fun K KL=>?_));intros;simp only [go_sem,kp54,geff,w1,hcd,hk5,hV,hsz,g4,g4',gz,htk2,htk3,List.length_nil,hdr,htk,txs_hd0,txs_length,List.length_cons,yes]))
      all_goals try exact nd
      all_goals (refine nl ?_;simp only [go_sem])
      exact LeA.of_eq (by rw [←hR];simp only [rrW,hF,if_pos hlen];rfl)
     have hle:(([]:List (List UInt8))).length=f.length:=by omega
     have g4:(((([]:List (List UInt8))).length:Int) !=(f.length:Int))=false:=by rw [bne_eq_false_iff_eq];omega
     have hl0:f.length=0:=by simpa using hle.symm
     have g4':((0:Int) !=(f.length:Int))=false:=by rw [bne_eq_false_iff_eq];omega
     generalize hvv:(fun j=>numS (if f.getD j false=true then ((([]:List (List UInt8))).getD j []).tail else (([]:List (List UInt8))).getD j []))=v
     have hmk:mkI 5 ([]:List UInt8) (rnums f (([]:List (List UInt8))))=⟨5,bs ([]:List UInt8),oc v f.length 0,oc v f.length 1,oc v f.length 2,oc v f.length 3⟩:=by unfold mkI;rw [rn_at,rn_at,rn_at,rn_at,hvv]
     have hR2:AV.tup [opV ⟨5,bs ([]:List UInt8),oc v f.length 0,oc v f.length 1,oc v f.length 2,oc v f.length 3⟩,.lit (.bool (rightS ⟨5,bs ([]:List UInt8),oc v f.length 0,oc v f.length 1,oc v f.length 2,oc v f.length 3⟩ 200&&(lineB ⟨5,bs ([]:List UInt8),oc v f.length 0,oc v f.length 1,oc v f.length 2,oc v f.length 3⟩==s)))]=RES:=by rw [←hR];simp only [rrW,hF,if_neg hlen,hmk]
     clear hmk hR
     repeat' (first
      |(with_reducible first|refine nx ?_|refine t_seq fun K=>?_|refine t_br (fun hc=>?_) fun hc=>?_|refine t_bx ?_|apply And.intro|intro vr)|exact kpd
      |((with_reducible first|refine ny ?_|refine t_kLF ?_ ?_|refine t_drawE (id:=10) (fun i=>i==0) [(0,1),(1,1),(2,1),(3,1),(4,1),(5,1),(6,0),(7,1)] (by kernel_rfl) fun K=>?_|refine t_drawE (id:=22) (fun i=>i==2) [(0,1),(1,1),(2,1),(3,1),(4,1),(5,1),(6,1),(7,1),(8,1),(9,0),(10,1),(11,0),(12,1),(13,0),(14,1),(15,0)] (by kernel_rfl) fun K=>?_|refine t_drawE (id:=23) (fun i=>i==1) [(0,1),(1,1),(2,1),(3,1),(4,1),(5,1),(6,1),(7,1),(8,1),(9,0),(10,1)] (by kernel_rfl) fun K=>?_|refine t_dwh (h:=fun K KL=>?_));intros;simp only [go_sem,kp54,geff,w1,hcd,hk5,hV,hsz,g4,g4',gz,htk2,htk3,List.length_nil,hdr,htk,txs_hd0,txs_length,List.length_cons,yes]))
     all_goals try exact nd
     refine t_loopF (ι:={q:Nat // q≤f.length}) (fun i=>[(10,.lit (.int .i64 (i.1:Int)))]) (fun i=>[.box 50 [.lit (.int .i64 0),.lit (.string (bs [])),.lit (.int .i64 0),.lit (.int .i64 0),.lit (.int .i64 0),.lit (.int .i64 0)],.box 50 [.lit (.int .i64 5),.lit (.string (bs ([]:List UInt8))),.lit (.int .i64 0),.lit (.int .i64 0),.lit (.int .i64 0),.lit (.int .i64 0)],.box 114 [.lit (.int .i64 (oc v i.1 0)),.lit (.int .i64 (oc v i.1 1)),.lit (.int .i64 (oc v i.1 2)),.lit (.int .i64 (oc v i.1 3))]]) (fun i=>f.length - i.1) ⟨0,by omega⟩ ?_ ?_
     ·exact lf
     rintro ⟨i,hi⟩ K1
     have hdx:∀ i,List.getD (txs (([]:List (List UInt8)))) i (.lit (.string (bs [])))= .lit (.string (bs ((([]:List (List UInt8))).getD i []))):=fun i=>txs_getJ _ i
     rcases Nat.lt_or_ge i f.length with hc|hc
     ·exact absurd hc (by omega)
     ·have hiL:i=f.length:=by omega
      subst hiL
      clear hvv
      generalize oc v f.length 0=c0 at*
      generalize oc v f.length 1=c1 at*
      generalize oc v f.length 2=c2 at*
      generalize oc v f.length 3=c3 at*
      have g2:decide ((f.length:Int)<(f.length:Int))=false:=decide_eq_false (by omega)
      cases hri:rightS ⟨5,bs ([]:List UInt8),c0,c1,c2,c3⟩ 200 with
      |false=>
       repeat' (first
        |(with_reducible first|refine nx ?_|refine t_seq fun K=>?_|refine t_br (fun hc=>?_) fun hc=>?_|refine t_bx ?_|apply And.intro|intro vr)|exact kpd
        |((with_reducible first|refine ny ?_|refine t_kLF ?_ ?_|refine t_drawE (id:=10) (fun i=>i==0) [(0,1),(1,1),(2,1),(3,1),(4,1),(5,1),(6,0),(7,1)] (by kernel_rfl) fun K=>?_|refine t_drawE (id:=22) (fun i=>i==2) [(0,1),(1,1),(2,1),(3,1),(4,1),(5,1),(6,1),(7,1),(8,1),(9,0),(10,1),(11,0),(12,1),(13,0),(14,1),(15,0)] (by kernel_rfl) fun K=>?_|refine t_drawE (id:=23) (fun i=>i==1) [(0,1),(1,1),(2,1),(3,1),(4,1),(5,1),(6,1),(7,1),(8,1),(9,0),(10,1)] (by kernel_rfl) fun K=>?_|refine t_dwh (h:=fun K KL=>?_));intros;simp only [go_sem,kp54,geff,hsz,g2,hri,yes]))
       all_goals try exact nd
       all_goals (refine nl ?_;simp only [go_sem])
       exact LeA.of_eq (by rw [←hR2,hri];rfl)
      |true=>
       repeat' (first
        |(with_reducible first|refine nx ?_|refine t_seq fun K=>?_|refine t_br (fun hc=>?_) fun hc=>?_|refine t_bx ?_|apply And.intro|intro vr)|exact kpd
        |((with_reducible first|refine ny ?_|refine t_kLF ?_ ?_|refine t_drawE (id:=10) (fun i=>i==0) [(0,1),(1,1),(2,1),(3,1),(4,1),(5,1),(6,0),(7,1)] (by kernel_rfl) fun K=>?_|refine t_drawE (id:=22) (fun i=>i==2) [(0,1),(1,1),(2,1),(3,1),(4,1),(5,1),(6,1),(7,1),(8,1),(9,0),(10,1),(11,0),(12,1),(13,0),(14,1),(15,0)] (by kernel_rfl) fun K=>?_|refine t_drawE (id:=23) (fun i=>i==1) [(0,1),(1,1),(2,1),(3,1),(4,1),(5,1),(6,1),(7,1),(8,1),(9,0),(10,1)] (by kernel_rfl) fun K=>?_|refine t_dwh (h:=fun K KL=>?_));intros;simp only [go_sem,kp54,geff,hsz,g2,hri,yes]))
       all_goals try exact nd
       all_goals (refine nl ?_;simp only [go_sem])
       exact LeA.of_eq (by rw [←hR2,hri,Bool.true_and];rfl)
   |cons q R1=>
    show PC _ _ _ (rrW s 5 q R1)
    generalize hR:rrW s 5 q R1=RES
    have hcd:=hcd5
    have gz:decide (((R1.length+1:Nat):Int)>0)=true:=decide_eq_true (by omega)
    have htk2:List.take (R1.length+1+1) (txs (N::q::R1))=txs (N::q::R1):=htk N (q::R1)
    have htk3:List.take (R1.length+1) (txs (q::R1))=txs (q::R1):=htk q R1
    have gx:(0:Int)<((R1.length+1:Nat):Int):=by omega
    have hlr:∀ i,(R1.getD i []).length≤100000:=fun i=>hln (i+1)
    refine pcR Y15_ok (kp54) Tryz.func54 [.cell 2 50,.tmp 3] (h:=fun KF=>?_)
    unfold Y15
    repeat' (first
     |(with_reducible first|refine nx ?_|refine t_seq fun K=>?_|refine t_br (fun hc=>?_) fun hc=>?_|refine t_bx ?_|apply And.intro|intro vr)|exact kpd
     |((with_reducible first|refine ny ?_|refine t_kLF ?_ ?_|refine t_drawE (id:=10) (fun i=>i==0) [(0,1),(1,1),(2,1),(3,1),(4,1),(5,1),(6,0),(7,1)] (by kernel_rfl) fun K=>?_|refine t_drawE (id:=22) (fun i=>i==2) [(0,1),(1,1),(2,1),(3,1),(4,1),(5,1),(6,1),(7,1),(8,1),(9,0),(10,1),(11,0),(12,1),(13,0),(14,1),(15,0)] (by kernel_rfl) fun K=>?_|refine t_drawE (id:=23) (fun i=>i==1) [(0,1),(1,1),(2,1),(3,1),(4,1),(5,1),(6,1),(7,1),(8,1),(9,0),(10,1)] (by kernel_rfl) fun K=>?_|refine t_dwh (h:=fun K KL=>?_));intros;simp only [go_sem,kp54,geff,hsp,txs_length,List.length_cons,yes]))
    all_goals try exact nd
    refine t_loopF (ι:={c:Nat // 1≤c∧c≤16}) (fun i=>[(6,.lit (.int .i64 (i.1:Int)))]) (fun i=>[.box 50 [.lit (.int .i64 0),.lit (.string (bs [])),.lit (.int .i64 0),.lit (.int .i64 0),.lit (.int .i64 0),.lit (.int .i64 0)],.box 50 [.lit (.int .i64 (lastC N i.1)),.lit (.string (bs [])),.lit (.int .i64 0),.lit (.int .i64 0),.lit (.int .i64 0),.lit (.int .i64 0)]]) (fun i=>17 - i.1) ⟨1,by omega,by omega⟩ ?_ ?_
    ·exact lf
    rintro ⟨c,hc1,hc2⟩ K0
    rcases Nat.lt_or_ge c 16 with hcc|hcc
    ·have w1:decide ((c:Int)≤15)=true:=decide_eq_true (by omega)
     have w3:(0:Int)<(((q::R1).length+1:Nat):Int):=by omega
     have hlc:lastC N (c+1)=if (ul (namL (c:Int))==N)=true then (c:Int) else lastC N c:=by rw [lastC,if_neg (by omega)]
     cases hcn:(ul (namL (c:Int))==N) with
     |true=>
      rw [if_pos hcn] at hlc
      repeat' (first
       |(with_reducible first|refine nx ?_|refine t_seq fun K=>?_|refine t_br (fun hc=>?_) fun hc=>?_|refine t_bx ?_|apply And.intro|intro vr)|exact kpd
       |((with_reducible first|refine ny ?_|refine t_kLF ?_ ?_|refine t_drawE (id:=10) (fun i=>i==0) [(0,1),(1,1),(2,1),(3,1),(4,1),(5,1),(6,0),(7,1)] (by kernel_rfl) fun K=>?_|refine t_drawE (id:=22) (fun i=>i==2) [(0,1),(1,1),(2,1),(3,1),(4,1),(5,1),(6,1),(7,1),(8,1),(9,0),(10,1),(11,0),(12,1),(13,0),(14,1),(15,0)] (by kernel_rfl) fun K=>?_|refine t_drawE (id:=23) (fun i=>i==1) [(0,1),(1,1),(2,1),(3,1),(4,1),(5,1),(6,1),(7,1),(8,1),(9,0),(10,1)] (by kernel_rfl) fun K=>?_|refine t_dwh (h:=fun K KL=>?_));intros;simp only [go_sem,kp54,geff,w1,hcn,txs_hd0,txs_length,List.length_cons,yes]))
      all_goals try exact nd
      refine ⟨⟨c+1,by omega,by omega⟩,by simp only;omega,?_⟩
      simp only [hlc]
      first|exact lf|(refine Le.frameS (by first|rfl|(simp only [go_sem];try rfl)) ?_;repeat' (first|exact leF_top _|exact (fun _=>LeR.refl _)|(with_reducible refine leF_sl ?_ ?_)|(refine leF_upd ?_ ?_)))<;>(first|exact LeR.top _|exact LeR.refl _|(refine LeR.of_eq ?_;(try simp only [go_sem]);try rfl)|((try simp only [go_sem]);try rfl))
     |false=>
      rw [if_neg (by rw [hcn];decide)] at hlc
      repeat' (first
       |(with_reducible first|refine nx ?_|refine t_seq fun K=>?_|refine t_br (fun hc=>?_) fun hc=>?_|refine t_bx ?_|apply And.intro|intro vr)|exact kpd
       |((with_reducible first|refine ny ?_|refine t_kLF ?_ ?_|refine t_drawE (id:=10) (fun i=>i==0) [(0,1),(1,1),(2,1),(3,1),(4,1),(5,1),(6,0),(7,1)] (by kernel_rfl) fun K=>?_|refine t_drawE (id:=22) (fun i=>i==2) [(0,1),(1,1),(2,1),(3,1),(4,1),(5,1),(6,1),(7,1),(8,1),(9,0),(10,1),(11,0),(12,1),(13,0),(14,1),(15,0)] (by kernel_rfl) fun K=>?_|refine t_drawE (id:=23) (fun i=>i==1) [(0,1),(1,1),(2,1),(3,1),(4,1),(5,1),(6,1),(7,1),(8,1),(9,0),(10,1)] (by kernel_rfl) fun K=>?_|refine t_dwh (h:=fun K KL=>?_));intros;simp only [go_sem,kp54,geff,w1,hcn,txs_hd0,txs_length,List.length_cons,yes]))
      all_goals try exact nd
      refine ⟨⟨c+1,by omega,by omega⟩,by simp only;omega,?_⟩
      simp only [hlc]
      first|exact lf|(refine Le.frameS (by first|rfl|(simp only [go_sem];try rfl)) ?_;repeat' (first|exact leF_top _|exact (fun _=>LeR.refl _)|(with_reducible refine leF_sl ?_ ?_)|(refine leF_upd ?_ ?_)))<;>(first|exact LeR.top _|exact LeR.refl _|(refine LeR.of_eq ?_;(try simp only [go_sem]);try rfl)|((try simp only [go_sem]);try rfl))
    obtain rfl:c=16:=by omega
    have w1:decide (((16:Nat):Int)≤15)=false:=by decide
    cases hF:formS (mkI 5 (q) []) with
    |none=>
     have hV:formV ⟨5,bs (q),0,0,0,0⟩=_:=formV_none hF
     repeat' (first
      |(with_reducible first|refine nx ?_|refine t_seq fun K=>?_|refine t_br (fun hc=>?_) fun hc=>?_|refine t_bx ?_|apply And.intro|intro vr)|exact kpd
      |((with_reducible first|refine ny ?_|refine t_kLF ?_ ?_|refine t_drawE (id:=10) (fun i=>i==0) [(0,1),(1,1),(2,1),(3,1),(4,1),(5,1),(6,0),(7,1)] (by kernel_rfl) fun K=>?_|refine t_drawE (id:=22) (fun i=>i==2) [(0,1),(1,1),(2,1),(3,1),(4,1),(5,1),(6,1),(7,1),(8,1),(9,0),(10,1),(11,0),(12,1),(13,0),(14,1),(15,0)] (by kernel_rfl) fun K=>?_|refine t_drawE (id:=23) (fun i=>i==1) [(0,1),(1,1),(2,1),(3,1),(4,1),(5,1),(6,1),(7,1),(8,1),(9,0),(10,1)] (by kernel_rfl) fun K=>?_|refine t_dwh (h:=fun K KL=>?_));intros;simp only [go_sem,kp54,geff,w1,hcd,hk5,hV,gz,htk2,htk3,hdr,htk,txs_hd0,txs_length,List.length_cons,yes]))
     all_goals try exact nd
     all_goals (refine nl ?_;simp only [go_sem])
     exact LeA.of_eq (by rw [←hR];simp only [rrW,hF];rfl)
    |some f=>
     have hV:formV ⟨5,bs (q),0,0,0,0⟩=_:=formV_some hF
     have hsz:=frB_size f
     have hf4:=formS_len hF
     by_cases hlen:(R1).length≠f.length
     ·have g4:(((R1).length:Int) !=(f.length:Int))=true:=by rw [bne_iff_ne];omega
      repeat' (first
       |(with_reducible first|refine nx ?_|refine t_seq fun K=>?_|refine t_br (fun hc=>?_) fun hc=>?_|refine t_bx ?_|apply And.intro|intro vr)|exact kpd
       |((with_reducible first|refine ny ?_|refine t_kLF ?_ ?_|refine t_drawE (id:=10) (fun i=>i==0) [(0,1),(1,1),(2,1),(3,1),(4,1),(5,1),(6,0),(7,1)] (by kernel_rfl) fun K=>?_|refine t_drawE (id:=22) (fun i=>i==2) [(0,1),(1,1),(2,1),(3,1),(4,1),(5,1),(6,1),(7,1),(8,1),(9,0),(10,1),(11,0),(12,1),(13,0),(14,1),(15,0)] (by kernel_rfl) fun K=>?_|refine t_drawE (id:=23) (fun i=>i==1) [(0,1),(1,1),(2,1),(3,1),(4,1),(5,1),(6,1),(7,1),(8,1),(9,0),(10,1)] (by kernel_rfl) fun K=>?_|refine t_dwh (h:=fun K KL=>?_));intros;simp only [go_sem,kp54,geff,w1,hcd,hk5,hV,hsz,g4,gz,htk2,htk3,hdr,htk,txs_hd0,txs_length,List.length_cons,yes]))
      all_goals try exact nd
      all_goals (refine nl ?_;simp only [go_sem])
      exact LeA.of_eq (by rw [←hR];simp only [rrW,hF,if_pos hlen];rfl)
     have hle:(R1).length=f.length:=by omega
     have g4:(((R1).length:Int) !=(f.length:Int))=false:=by rw [bne_eq_false_iff_eq];omega
     generalize hvv:(fun j=>numS (if f.getD j false=true then ((R1).getD j []).tail else (R1).getD j []))=v
     have hmk:mkI 5 (q) (rnums f (R1))=⟨5,bs (q),oc v f.length 0,oc v f.length 1,oc v f.length 2,oc v f.length 3⟩:=by unfold mkI;rw [rn_at,rn_at,rn_at,rn_at,hvv]
     have hR2:AV.tup [opV ⟨5,bs (q),oc v f.length 0,oc v f.length 1,oc v f.length 2,oc v f.length 3⟩,.lit (.bool (rightS ⟨5,bs (q),oc v f.length 0,oc v f.length 1,oc v f.length 2,oc v f.length 3⟩ 200&&(lineB ⟨5,bs (q),oc v f.length 0,oc v f.length 1,oc v f.length 2,oc v f.length 3⟩==s)))]=RES:=by rw [←hR];simp only [rrW,hF,if_neg hlen,hmk]
     clear hmk hR
     repeat' (first
      |(with_reducible first|refine nx ?_|refine t_seq fun K=>?_|refine t_br (fun hc=>?_) fun hc=>?_|refine t_bx ?_|apply And.intro|intro vr)|exact kpd
      |((with_reducible first|refine ny ?_|refine t_kLF ?_ ?_|refine t_drawE (id:=10) (fun i=>i==0) [(0,1),(1,1),(2,1),(3,1),(4,1),(5,1),(6,0),(7,1)] (by kernel_rfl) fun K=>?_|refine t_drawE (id:=22) (fun i=>i==2) [(0,1),(1,1),(2,1),(3,1),(4,1),(5,1),(6,1),(7,1),(8,1),(9,0),(10,1),(11,0),(12,1),(13,0),(14,1),(15,0)] (by kernel_rfl) fun K=>?_|refine t_drawE (id:=23) (fun i=>i==1) [(0,1),(1,1),(2,1),(3,1),(4,1),(5,1),(6,1),(7,1),(8,1),(9,0),(10,1)] (by kernel_rfl) fun K=>?_|refine t_dwh (h:=fun K KL=>?_));intros;simp only [go_sem,kp54,geff,w1,hcd,hk5,hV,hsz,g4,gz,htk2,htk3,hdr,htk,txs_hd0,txs_length,List.length_cons,yes]))
     all_goals try exact nd
     refine t_loopF (ι:={q:Nat // q≤f.length}) (fun i=>[(10,.lit (.int .i64 (i.1:Int)))]) (fun i=>[.box 50 [.lit (.int .i64 0),.lit (.string (bs [])),.lit (.int .i64 0),.lit (.int .i64 0),.lit (.int .i64 0),.lit (.int .i64 0)],.box 50 [.lit (.int .i64 5),.lit (.string (bs (q))),.lit (.int .i64 0),.lit (.int .i64 0),.lit (.int .i64 0),.lit (.int .i64 0)],.box 114 [.lit (.int .i64 (oc v i.1 0)),.lit (.int .i64 (oc v i.1 1)),.lit (.int .i64 (oc v i.1 2)),.lit (.int .i64 (oc v i.1 3))]]) (fun i=>f.length - i.1) ⟨0,by omega⟩ ?_ ?_
     ·exact lf
     rintro ⟨i,hi⟩ K1
     have hdx:∀ i,List.getD (txs (R1)) i (.lit (.string (bs [])))= .lit (.string (bs ((R1).getD i []))):=fun i=>txs_getJ _ i
     rcases Nat.lt_or_ge i f.length with hc|hc
     ·have hil:((R1).getD i []).length≤100000:=hlr i
      have hvi:numS (if f.getD i false=true then ((R1).getD i []).tail else (R1).getD i [])=v i:=by rw [←hvv]
      have hoc:∀ j,j≠i→oc v (i+1) j=oc v i j:=fun j hj=>by
        unfold oc;by_cases h:j<i
        ·rw [if_pos (by omega),if_pos h]
        ·rw [if_neg (by omega),if_neg h]
      have hoi:oc v (i+1) i=v i:=by unfold oc;rw [if_pos (by omega)]
      rcases (show i=0∨i=1∨i=2∨i=3 by omega) with rfl|rfl|rfl|rfl
      ·have hi0:((((0:Nat):Int)):Int)=0:=rfl
       have g2:decide ((0:Int)<(f.length:Int))=true:=decide_eq_true (by omega)
       have g3:(0:Int)<((R1).length:Int):=by omega
       have o0:=hoi
       have o1:=hoc 1 (by decide)
       have o2:=hoc 2 (by decide)
       have o3:=hoc 3 (by decide)
       generalize hT:(R1).getD 0 []=T at*
       cases hr:f.getD 0 false with
       |true=>
        have g5:strAt (frB f) 0=114:=by rw [frB_at f 0 hc,hr];rfl
        rw [if_pos hr] at hvi
        cases T with
        |nil=>
         have g6:decide ((0:Int)>0)=false:=by decide
         have hvi2:numS []=v 0:=hvi
         repeat' (first
          |(with_reducible first|refine nx ?_|refine t_seq fun K=>?_|refine t_br (fun hc=>?_) fun hc=>?_|refine t_bx ?_|apply And.intro|intro vr)|exact kpd
          |((with_reducible first|refine ny ?_|refine t_kLF ?_ ?_|refine t_drawE (id:=10) (fun i=>i==0) [(0,1),(1,1),(2,1),(3,1),(4,1),(5,1),(6,0),(7,1)] (by kernel_rfl) fun K=>?_|refine t_drawE (id:=22) (fun i=>i==2) [(0,1),(1,1),(2,1),(3,1),(4,1),(5,1),(6,1),(7,1),(8,1),(9,0),(10,1),(11,0),(12,1),(13,0),(14,1),(15,0)] (by kernel_rfl) fun K=>?_|refine t_drawE (id:=23) (fun i=>i==1) [(0,1),(1,1),(2,1),(3,1),(4,1),(5,1),(6,1),(7,1),(8,1),(9,0),(10,1)] (by kernel_rfl) fun K=>?_|refine t_dwh (h:=fun K KL=>?_));intros;simp only [go_sem,kp54,geff,hsz,hi0,g2,g5,g6,hT,hvi2,List.length_nil,yes]))
         all_goals try exact nd
         refine ⟨⟨1,by omega⟩,by simp only;omega,?_⟩
         simp only [o0,o1,o2,o3]
         first|exact lf|(refine Le.frameS (by first|rfl|(simp only [go_sem];try rfl)) ?_;repeat' (first|exact leF_top _|exact (fun _=>LeR.refl _)|(with_reducible refine leF_sl ?_ ?_)|(refine leF_upd ?_ ?_)))<;>(first|exact LeR.top _|exact LeR.refl _|(refine LeR.of_eq ?_;(try simp only [go_sem]);try rfl)|((try simp only [go_sem]);try rfl))
        |cons c0 T=>
         have g6:decide (((T.length+1:Nat):Int)>0)=true:=decide_eq_true (by omega)
         have g7:List.drop 1 (List.take (T.length+1) (c0::T))=T:=by rw [←List.length_cons (a:=c0),List.take_length];rfl
         have hvi2:numS T=v 0:=hvi
         have hTl:T.length+1≤100000:=hil
         repeat' (first
          |(with_reducible first|refine nx ?_|refine t_seq fun K=>?_|refine t_br (fun hc=>?_) fun hc=>?_|refine t_bx ?_|apply And.intro|intro vr)|exact kpd
          |((with_reducible first|refine ny ?_|refine t_kLF ?_ ?_|refine t_drawE (id:=10) (fun i=>i==0) [(0,1),(1,1),(2,1),(3,1),(4,1),(5,1),(6,0),(7,1)] (by kernel_rfl) fun K=>?_|refine t_drawE (id:=22) (fun i=>i==2) [(0,1),(1,1),(2,1),(3,1),(4,1),(5,1),(6,1),(7,1),(8,1),(9,0),(10,1),(11,0),(12,1),(13,0),(14,1),(15,0)] (by kernel_rfl) fun K=>?_|refine t_drawE (id:=23) (fun i=>i==1) [(0,1),(1,1),(2,1),(3,1),(4,1),(5,1),(6,1),(7,1),(8,1),(9,0),(10,1)] (by kernel_rfl) fun K=>?_|refine t_dwh (h:=fun K KL=>?_));intros;simp only [go_sem,kp54,geff,hsz,hi0,g2,g5,g6,g7,hT,hvi2,List.length_cons,yes]))
         all_goals try exact nd
         refine ⟨⟨1,by omega⟩,by simp only;omega,?_⟩
         simp only [o0,o1,o2,o3]
         first|exact lf|(refine Le.frameS (by first|rfl|(simp only [go_sem];try rfl)) ?_;repeat' (first|exact leF_top _|exact (fun _=>LeR.refl _)|(with_reducible refine leF_sl ?_ ?_)|(refine leF_upd ?_ ?_)))<;>(first|exact LeR.top _|exact LeR.refl _|(refine LeR.of_eq ?_;(try simp only [go_sem]);try rfl)|((try simp only [go_sem]);try rfl))
       |false=>
        have g5:strAt (frB f) 0=110:=by rw [frB_at f 0 hc,hr];rfl
        rw [if_neg (by rw [hr];decide)] at hvi
        repeat' (first
         |(with_reducible first|refine nx ?_|refine t_seq fun K=>?_|refine t_br (fun hc=>?_) fun hc=>?_|refine t_bx ?_|apply And.intro|intro vr)|exact kpd
         |((with_reducible first|refine ny ?_|refine t_kLF ?_ ?_|refine t_drawE (id:=10) (fun i=>i==0) [(0,1),(1,1),(2,1),(3,1),(4,1),(5,1),(6,0),(7,1)] (by kernel_rfl) fun K=>?_|refine t_drawE (id:=22) (fun i=>i==2) [(0,1),(1,1),(2,1),(3,1),(4,1),(5,1),(6,1),(7,1),(8,1),(9,0),(10,1),(11,0),(12,1),(13,0),(14,1),(15,0)] (by kernel_rfl) fun K=>?_|refine t_drawE (id:=23) (fun i=>i==1) [(0,1),(1,1),(2,1),(3,1),(4,1),(5,1),(6,1),(7,1),(8,1),(9,0),(10,1)] (by kernel_rfl) fun K=>?_|refine t_dwh (h:=fun K KL=>?_));intros;simp only [go_sem,kp54,geff,hsz,hi0,g2,g5,hT,hvi,yes]))
        all_goals try exact nd
        refine ⟨⟨1,by omega⟩,by simp only;omega,?_⟩
        simp only [o0,o1,o2,o3]
        first|exact lf|(refine Le.frameS (by first|rfl|(simp only [go_sem];try rfl)) ?_;repeat' (first|exact leF_top _|exact (fun _=>LeR.refl _)|(with_reducible refine leF_sl ?_ ?_)|(refine leF_upd ?_ ?_)))<;>(first|exact LeR.top _|exact LeR.refl _|(refine LeR.of_eq ?_;(try simp only [go_sem]);try rfl)|((try simp only [go_sem]);try rfl))
      ·have hi0:((((1:Nat):Int)):Int)=1:=rfl
       have g2:decide ((1:Int)<(f.length:Int))=true:=decide_eq_true (by omega)
       have g3:(1:Int)<((R1).length:Int):=by omega
       have o0:=hoc 0 (by decide)
       have o1:=hoi
       have o2:=hoc 2 (by decide)
       have o3:=hoc 3 (by decide)
       generalize hT:(R1).getD 1 []=T at*
       cases hr:f.getD 1 false with
       |true=>
        have g5:strAt (frB f) 1=114:=by rw [frB_at f 1 hc,hr];rfl
        rw [if_pos hr] at hvi
        cases T with
        |nil=>
         have g6:decide ((0:Int)>0)=false:=by decide
         have hvi2:numS []=v 1:=hvi
         repeat' (first
          |(with_reducible first|refine nx ?_|refine t_seq fun K=>?_|refine t_br (fun hc=>?_) fun hc=>?_|refine t_bx ?_|apply And.intro|intro vr)|exact kpd
          |((with_reducible first|refine ny ?_|refine t_kLF ?_ ?_|refine t_drawE (id:=10) (fun i=>i==0) [(0,1),(1,1),(2,1),(3,1),(4,1),(5,1),(6,0),(7,1)] (by kernel_rfl) fun K=>?_|refine t_drawE (id:=22) (fun i=>i==2) [(0,1),(1,1),(2,1),(3,1),(4,1),(5,1),(6,1),(7,1),(8,1),(9,0),(10,1),(11,0),(12,1),(13,0),(14,1),(15,0)] (by kernel_rfl) fun K=>?_|refine t_drawE (id:=23) (fun i=>i==1) [(0,1),(1,1),(2,1),(3,1),(4,1),(5,1),(6,1),(7,1),(8,1),(9,0),(10,1)] (by kernel_rfl) fun K=>?_|refine t_dwh (h:=fun K KL=>?_));intros;simp only [go_sem,kp54,geff,hsz,hi0,g2,g5,g6,hT,hvi2,List.length_nil,yes]))
         all_goals try exact nd
         refine ⟨⟨2,by omega⟩,by simp only;omega,?_⟩
         simp only [o0,o1,o2,o3]
         first|exact lf|(refine Le.frameS (by first|rfl|(simp only [go_sem];try rfl)) ?_;repeat' (first|exact leF_top _|exact (fun _=>LeR.refl _)|(with_reducible refine leF_sl ?_ ?_)|(refine leF_upd ?_ ?_)))<;>(first|exact LeR.top _|exact LeR.refl _|(refine LeR.of_eq ?_;(try simp only [go_sem]);try rfl)|((try simp only [go_sem]);try rfl))
        |cons c0 T=>
         have g6:decide (((T.length+1:Nat):Int)>0)=true:=decide_eq_true (by omega)
         have g7:List.drop 1 (List.take (T.length+1) (c0::T))=T:=by rw [←List.length_cons (a:=c0),List.take_length];rfl
         have hvi2:numS T=v 1:=hvi
         have hTl:T.length+1≤100000:=hil
         repeat' (first
          |(with_reducible first|refine nx ?_|refine t_seq fun K=>?_|refine t_br (fun hc=>?_) fun hc=>?_|refine t_bx ?_|apply And.intro|intro vr)|exact kpd
          |((with_reducible first|refine ny ?_|refine t_kLF ?_ ?_|refine t_drawE (id:=10) (fun i=>i==0) [(0,1),(1,1),(2,1),(3,1),(4,1),(5,1),(6,0),(7,1)] (by kernel_rfl) fun K=>?_|refine t_drawE (id:=22) (fun i=>i==2) [(0,1),(1,1),(2,1),(3,1),(4,1),(5,1),(6,1),(7,1),(8,1),(9,0),(10,1),(11,0),(12,1),(13,0),(14,1),(15,0)] (by kernel_rfl) fun K=>?_|refine t_drawE (id:=23) (fun i=>i==1) [(0,1),(1,1),(2,1),(3,1),(4,1),(5,1),(6,1),(7,1),(8,1),(9,0),(10,1)] (by kernel_rfl) fun K=>?_|refine t_dwh (h:=fun K KL=>?_));intros;simp only [go_sem,kp54,geff,hsz,hi0,g2,g5,g6,g7,hT,hvi2,List.length_cons,yes]))
         all_goals try exact nd
         refine ⟨⟨2,by omega⟩,by simp only;omega,?_⟩
         simp only [o0,o1,o2,o3]
         first|exact lf|(refine Le.frameS (by first|rfl|(simp only [go_sem];try rfl)) ?_;repeat' (first|exact leF_top _|exact (fun _=>LeR.refl _)|(with_reducible refine leF_sl ?_ ?_)|(refine leF_upd ?_ ?_)))<;>(first|exact LeR.top _|exact LeR.refl _|(refine LeR.of_eq ?_;(try simp only [go_sem]);try rfl)|((try simp only [go_sem]);try rfl))
       |false=>
        have g5:strAt (frB f) 1=110:=by rw [frB_at f 1 hc,hr];rfl
        rw [if_neg (by rw [hr];decide)] at hvi
        repeat' (first
         |(with_reducible first|refine nx ?_|refine t_seq fun K=>?_|refine t_br (fun hc=>?_) fun hc=>?_|refine t_bx ?_|apply And.intro|intro vr)|exact kpd
         |((with_reducible first|refine ny ?_|refine t_kLF ?_ ?_|refine t_drawE (id:=10) (fun i=>i==0) [(0,1),(1,1),(2,1),(3,1),(4,1),(5,1),(6,0),(7,1)] (by kernel_rfl) fun K=>?_|refine t_drawE (id:=22) (fun i=>i==2) [(0,1),(1,1),(2,1),(3,1),(4,1),(5,1),(6,1),(7,1),(8,1),(9,0),(10,1),(11,0),(12,1),(13,0),(14,1),(15,0)] (by kernel_rfl) fun K=>?_|refine t_drawE (id:=23) (fun i=>i==1) [(0,1),(1,1),(2,1),(3,1),(4,1),(5,1),(6,1),(7,1),(8,1),(9,0),(10,1)] (by kernel_rfl) fun K=>?_|refine t_dwh (h:=fun K KL=>?_));intros;simp only [go_sem,kp54,geff,hsz,hi0,g2,g5,hT,hvi,yes]))
        all_goals try exact nd
        refine ⟨⟨2,by omega⟩,by simp only;omega,?_⟩
        simp only [o0,o1,o2,o3]
        first|exact lf|(refine Le.frameS (by first|rfl|(simp only [go_sem];try rfl)) ?_;repeat' (first|exact leF_top _|exact (fun _=>LeR.refl _)|(with_reducible refine leF_sl ?_ ?_)|(refine leF_upd ?_ ?_)))<;>(first|exact LeR.top _|exact LeR.refl _|(refine LeR.of_eq ?_;(try simp only [go_sem]);try rfl)|((try simp only [go_sem]);try rfl))
      ·have hi0:((((2:Nat):Int)):Int)=2:=rfl
       have g2:decide ((2:Int)<(f.length:Int))=true:=decide_eq_true (by omega)
       have g3:(2:Int)<((R1).length:Int):=by omega
       have o0:=hoc 0 (by decide)
       have o1:=hoc 1 (by decide)
       have o2:=hoi
       have o3:=hoc 3 (by decide)
       generalize hT:(R1).getD 2 []=T at*
       cases hr:f.getD 2 false with
       |true=>
        have g5:strAt (frB f) 2=114:=by rw [frB_at f 2 hc,hr];rfl
        rw [if_pos hr] at hvi
        cases T with
        |nil=>
         have g6:decide ((0:Int)>0)=false:=by decide
         have hvi2:numS []=v 2:=hvi
         repeat' (first
          |(with_reducible first|refine nx ?_|refine t_seq fun K=>?_|refine t_br (fun hc=>?_) fun hc=>?_|refine t_bx ?_|apply And.intro|intro vr)|exact kpd
          |((with_reducible first|refine ny ?_|refine t_kLF ?_ ?_|refine t_drawE (id:=10) (fun i=>i==0) [(0,1),(1,1),(2,1),(3,1),(4,1),(5,1),(6,0),(7,1)] (by kernel_rfl) fun K=>?_|refine t_drawE (id:=22) (fun i=>i==2) [(0,1),(1,1),(2,1),(3,1),(4,1),(5,1),(6,1),(7,1),(8,1),(9,0),(10,1),(11,0),(12,1),(13,0),(14,1),(15,0)] (by kernel_rfl) fun K=>?_|refine t_drawE (id:=23) (fun i=>i==1) [(0,1),(1,1),(2,1),(3,1),(4,1),(5,1),(6,1),(7,1),(8,1),(9,0),(10,1)] (by kernel_rfl) fun K=>?_|refine t_dwh (h:=fun K KL=>?_));intros;simp only [go_sem,kp54,geff,hsz,hi0,g2,g5,g6,hT,hvi2,List.length_nil,yes]))
         all_goals try exact nd
         refine ⟨⟨3,by omega⟩,by simp only;omega,?_⟩
         simp only [o0,o1,o2,o3]
         first|exact lf|(refine Le.frameS (by first|rfl|(simp only [go_sem];try rfl)) ?_;repeat' (first|exact leF_top _|exact (fun _=>LeR.refl _)|(with_reducible refine leF_sl ?_ ?_)|(refine leF_upd ?_ ?_)))<;>(first|exact LeR.top _|exact LeR.refl _|(refine LeR.of_eq ?_;(try simp only [go_sem]);try rfl)|((try simp only [go_sem]);try rfl))
        |cons c0 T=>
         have g6:decide (((T.length+1:Nat):Int)>0)=true:=decide_eq_true (by omega)
         have g7:List.drop 1 (List.take (T.length+1) (c0::T))=T:=by rw [←List.length_cons (a:=c0),List.take_length];rfl
         have hvi2:numS T=v 2:=hvi
         have hTl:T.length+1≤100000:=hil
         repeat' (first
          |(with_reducible first|refine nx ?_|refine t_seq fun K=>?_|refine t_br (fun hc=>?_) fun hc=>?_|refine t_bx ?_|apply And.intro|intro vr)|exact kpd
          |((with_reducible first|refine ny ?_|refine t_kLF ?_ ?_|refine t_drawE (id:=10) (fun i=>i==0) [(0,1),(1,1),(2,1),(3,1),(4,1),(5,1),(6,0),(7,1)] (by kernel_rfl) fun K=>?_|refine t_drawE (id:=22) (fun i=>i==2) [(0,1),(1,1),(2,1),(3,1),(4,1),(5,1),(6,1),(7,1),(8,1),(9,0),(10,1),(11,0),(12,1),(13,0),(14,1),(15,0)] (by kernel_rfl) fun K=>?_|refine t_drawE (id:=23) (fun i=>i==1) [(0,1),(1,1),(2,1),(3,1),(4,1),(5,1),(6,1),(7,1),(8,1),(9,0),(10,1)] (by kernel_rfl) fun K=>?_|refine t_dwh (h:=fun K KL=>?_));intros;simp only [go_sem,kp54,geff,hsz,hi0,g2,g5,g6,g7,hT,hvi2,List.length_cons,yes]))
         all_goals try exact nd
         refine ⟨⟨3,by omega⟩,by simp only;omega,?_⟩
         simp only [o0,o1,o2,o3]
         first|exact lf|(refine Le.frameS (by first|rfl|(simp only [go_sem];try rfl)) ?_;repeat' (first|exact leF_top _|exact (fun _=>LeR.refl _)|(with_reducible refine leF_sl ?_ ?_)|(refine leF_upd ?_ ?_)))<;>(first|exact LeR.top _|exact LeR.refl _|(refine LeR.of_eq ?_;(try simp only [go_sem]);try rfl)|((try simp only [go_sem]);try rfl))
       |false=>
        have g5:strAt (frB f) 2=110:=by rw [frB_at f 2 hc,hr];rfl
        rw [if_neg (by rw [hr];decide)] at hvi
        repeat' (first
         |(with_reducible first|refine nx ?_|refine t_seq fun K=>?_|refine t_br (fun hc=>?_) fun hc=>?_|refine t_bx ?_|apply And.intro|intro vr)|exact kpd
         |((with_reducible first|refine ny ?_|refine t_kLF ?_ ?_|refine t_drawE (id:=10) (fun i=>i==0) [(0,1),(1,1),(2,1),(3,1),(4,1),(5,1),(6,0),(7,1)] (by kernel_rfl) fun K=>?_|refine t_drawE (id:=22) (fun i=>i==2) [(0,1),(1,1),(2,1),(3,1),(4,1),(5,1),(6,1),(7,1),(8,1),(9,0),(10,1),(11,0),(12,1),(13,0),(14,1),(15,0)] (by kernel_rfl) fun K=>?_|refine t_drawE (id:=23) (fun i=>i==1) [(0,1),(1,1),(2,1),(3,1),(4,1),(5,1),(6,1),(7,1),(8,1),(9,0),(10,1)] (by kernel_rfl) fun K=>?_|refine t_dwh (h:=fun K KL=>?_));intros;simp only [go_sem,kp54,geff,hsz,hi0,g2,g5,hT,hvi,yes]))
        all_goals try exact nd
        refine ⟨⟨3,by omega⟩,by simp only;omega,?_⟩
        simp only [o0,o1,o2,o3]
        first|exact lf|(refine Le.frameS (by first|rfl|(simp only [go_sem];try rfl)) ?_;repeat' (first|exact leF_top _|exact (fun _=>LeR.refl _)|(with_reducible refine leF_sl ?_ ?_)|(refine leF_upd ?_ ?_)))<;>(first|exact LeR.top _|exact LeR.refl _|(refine LeR.of_eq ?_;(try simp only [go_sem]);try rfl)|((try simp only [go_sem]);try rfl))
      ·have hi0:((((3:Nat):Int)):Int)=3:=rfl
       have g2:decide ((3:Int)<(f.length:Int))=true:=decide_eq_true (by omega)
       have g3:(3:Int)<((R1).length:Int):=by omega
       have o0:=hoc 0 (by decide)
       have o1:=hoc 1 (by decide)
       have o2:=hoc 2 (by decide)
       have o3:=hoi
       generalize hT:(R1).getD 3 []=T at*
       cases hr:f.getD 3 false with
       |true=>
        have g5:strAt (frB f) 3=114:=by rw [frB_at f 3 hc,hr];rfl
        rw [if_pos hr] at hvi
        cases T with
        |nil=>
         have g6:decide ((0:Int)>0)=false:=by decide
         have hvi2:numS []=v 3:=hvi
         repeat' (first
          |(with_reducible first|refine nx ?_|refine t_seq fun K=>?_|refine t_br (fun hc=>?_) fun hc=>?_|refine t_bx ?_|apply And.intro|intro vr)|exact kpd
          |((with_reducible first|refine ny ?_|refine t_kLF ?_ ?_|refine t_drawE (id:=10) (fun i=>i==0) [(0,1),(1,1),(2,1),(3,1),(4,1),(5,1),(6,0),(7,1)] (by kernel_rfl) fun K=>?_|refine t_drawE (id:=22) (fun i=>i==2) [(0,1),(1,1),(2,1),(3,1),(4,1),(5,1),(6,1),(7,1),(8,1),(9,0),(10,1),(11,0),(12,1),(13,0),(14,1),(15,0)] (by kernel_rfl) fun K=>?_|refine t_drawE (id:=23) (fun i=>i==1) [(0,1),(1,1),(2,1),(3,1),(4,1),(5,1),(6,1),(7,1),(8,1),(9,0),(10,1)] (by kernel_rfl) fun K=>?_|refine t_dwh (h:=fun K KL=>?_));intros;simp only [go_sem,kp54,geff,hsz,hi0,g2,g5,g6,hT,hvi2,List.length_nil,yes]))
         all_goals try exact nd
         refine ⟨⟨4,by omega⟩,by simp only;omega,?_⟩
         simp only [o0,o1,o2,o3]
         first|exact lf|(refine Le.frameS (by first|rfl|(simp only [go_sem];try rfl)) ?_;repeat' (first|exact leF_top _|exact (fun _=>LeR.refl _)|(with_reducible refine leF_sl ?_ ?_)|(refine leF_upd ?_ ?_)))<;>(first|exact LeR.top _|exact LeR.refl _|(refine LeR.of_eq ?_;(try simp only [go_sem]);try rfl)|((try simp only [go_sem]);try rfl))
        |cons c0 T=>
         have g6:decide (((T.length+1:Nat):Int)>0)=true:=decide_eq_true (by omega)
         have g7:List.drop 1 (List.take (T.length+1) (c0::T))=T:=by rw [←List.length_cons (a:=c0),List.take_length];rfl
         have hvi2:numS T=v 3:=hvi
         have hTl:T.length+1≤100000:=hil
         repeat' (first
          |(with_reducible first|refine nx ?_|refine t_seq fun K=>?_|refine t_br (fun hc=>?_) fun hc=>?_|refine t_bx ?_|apply And.intro|intro vr)|exact kpd
          |((with_reducible first|refine ny ?_|refine t_kLF ?_ ?_|refine t_drawE (id:=10) (fun i=>i==0) [(0,1),(1,1),(2,1),(3,1),(4,1),(5,1),(6,0),(7,1)] (by kernel_rfl) fun K=>?_|refine t_drawE (id:=22) (fun i=>i==2) [(0,1),(1,1),(2,1),(3,1),(4,1),(5,1),(6,1),(7,1),(8,1),(9,0),(10,1),(11,0),(12,1),(13,0),(14,1),(15,0)] (by kernel_rfl) fun K=>?_|refine t_drawE (id:=23) (fun i=>i==1) [(0,1),(1,1),(2,1),(3,1),(4,1),(5,1),(6,1),(7,1),(8,1),(9,0),(10,1)] (by kernel_rfl) fun K=>?_|refine t_dwh (h:=fun K KL=>?_));intros;simp only [go_sem,kp54,geff,hsz,hi0,g2,g5,g6,g7,hT,hvi2,List.length_cons,yes]))
         all_goals try exact nd
         refine ⟨⟨4,by omega⟩,by simp only;omega,?_⟩
         simp only [o0,o1,o2,o3]
         first|exact lf|(refine Le.frameS (by first|rfl|(simp only [go_sem];try rfl)) ?_;repeat' (first|exact leF_top _|exact (fun _=>LeR.refl _)|(with_reducible refine leF_sl ?_ ?_)|(refine leF_upd ?_ ?_)))<;>(first|exact LeR.top _|exact LeR.refl _|(refine LeR.of_eq ?_;(try simp only [go_sem]);try rfl)|((try simp only [go_sem]);try rfl))
       |false=>
        have g5:strAt (frB f) 3=110:=by rw [frB_at f 3 hc,hr];rfl
        rw [if_neg (by rw [hr];decide)] at hvi
        repeat' (first
         |(with_reducible first|refine nx ?_|refine t_seq fun K=>?_|refine t_br (fun hc=>?_) fun hc=>?_|refine t_bx ?_|apply And.intro|intro vr)|exact kpd
         |((with_reducible first|refine ny ?_|refine t_kLF ?_ ?_|refine t_drawE (id:=10) (fun i=>i==0) [(0,1),(1,1),(2,1),(3,1),(4,1),(5,1),(6,0),(7,1)] (by kernel_rfl) fun K=>?_|refine t_drawE (id:=22) (fun i=>i==2) [(0,1),(1,1),(2,1),(3,1),(4,1),(5,1),(6,1),(7,1),(8,1),(9,0),(10,1),(11,0),(12,1),(13,0),(14,1),(15,0)] (by kernel_rfl) fun K=>?_|refine t_drawE (id:=23) (fun i=>i==1) [(0,1),(1,1),(2,1),(3,1),(4,1),(5,1),(6,1),(7,1),(8,1),(9,0),(10,1)] (by kernel_rfl) fun K=>?_|refine t_dwh (h:=fun K KL=>?_));intros;simp only [go_sem,kp54,geff,hsz,hi0,g2,g5,hT,hvi,yes]))
        all_goals try exact nd
        refine ⟨⟨4,by omega⟩,by simp only;omega,?_⟩
        simp only [o0,o1,o2,o3]
        first|exact lf|(refine Le.frameS (by first|rfl|(simp only [go_sem];try rfl)) ?_;repeat' (first|exact leF_top _|exact (fun _=>LeR.refl _)|(with_reducible refine leF_sl ?_ ?_)|(refine leF_upd ?_ ?_)))<;>(first|exact LeR.top _|exact LeR.refl _|(refine LeR.of_eq ?_;(try simp only [go_sem]);try rfl)|((try simp only [go_sem]);try rfl))
     ·have hiL:i=f.length:=by omega
      subst hiL
      clear hvv
      generalize oc v f.length 0=c0 at*
      generalize oc v f.length 1=c1 at*
      generalize oc v f.length 2=c2 at*
      generalize oc v f.length 3=c3 at*
      have g2:decide ((f.length:Int)<(f.length:Int))=false:=decide_eq_false (by omega)
      cases hri:rightS ⟨5,bs (q),c0,c1,c2,c3⟩ 200 with
      |false=>
       repeat' (first
        |(with_reducible first|refine nx ?_|refine t_seq fun K=>?_|refine t_br (fun hc=>?_) fun hc=>?_|refine t_bx ?_|apply And.intro|intro vr)|exact kpd
        |((with_reducible first|refine ny ?_|refine t_kLF ?_ ?_|refine t_drawE (id:=10) (fun i=>i==0) [(0,1),(1,1),(2,1),(3,1),(4,1),(5,1),(6,0),(7,1)] (by kernel_rfl) fun K=>?_|refine t_drawE (id:=22) (fun i=>i==2) [(0,1),(1,1),(2,1),(3,1),(4,1),(5,1),(6,1),(7,1),(8,1),(9,0),(10,1),(11,0),(12,1),(13,0),(14,1),(15,0)] (by kernel_rfl) fun K=>?_|refine t_drawE (id:=23) (fun i=>i==1) [(0,1),(1,1),(2,1),(3,1),(4,1),(5,1),(6,1),(7,1),(8,1),(9,0),(10,1)] (by kernel_rfl) fun K=>?_|refine t_dwh (h:=fun K KL=>?_));intros;simp only [go_sem,kp54,geff,hsz,g2,hri,yes]))
       all_goals try exact nd
       all_goals (refine nl ?_;simp only [go_sem])
       exact LeA.of_eq (by rw [←hR2,hri];rfl)
      |true=>
       repeat' (first
        |(with_reducible first|refine nx ?_|refine t_seq fun K=>?_|refine t_br (fun hc=>?_) fun hc=>?_|refine t_bx ?_|apply And.intro|intro vr)|exact kpd
        |((with_reducible first|refine ny ?_|refine t_kLF ?_ ?_|refine t_drawE (id:=10) (fun i=>i==0) [(0,1),(1,1),(2,1),(3,1),(4,1),(5,1),(6,0),(7,1)] (by kernel_rfl) fun K=>?_|refine t_drawE (id:=22) (fun i=>i==2) [(0,1),(1,1),(2,1),(3,1),(4,1),(5,1),(6,1),(7,1),(8,1),(9,0),(10,1),(11,0),(12,1),(13,0),(14,1),(15,0)] (by kernel_rfl) fun K=>?_|refine t_drawE (id:=23) (fun i=>i==1) [(0,1),(1,1),(2,1),(3,1),(4,1),(5,1),(6,1),(7,1),(8,1),(9,0),(10,1)] (by kernel_rfl) fun K=>?_|refine t_dwh (h:=fun K KL=>?_));intros;simp only [go_sem,kp54,geff,hsz,g2,hri,yes]))
       all_goals try exact nd
       all_goals (refine nl ?_;simp only [go_sem])
       exact LeA.of_eq (by rw [←hR2,hri,Bool.true_and];rfl)
  ·have hk5:(k==5)=false:=by simpa using hk
   rw [show tlP k R0=R0 by rw [tlP,if_neg hk],show hdP k R0=([]:List UInt8) by rw [hdP,if_neg hk]]
   generalize hR:rrW s k [] R0=RES
   have hlr:=hln
   refine pcR Y15_ok (kp54) Tryz.func54 [.cell 2 50,.tmp 3] (h:=fun KF=>?_)
   unfold Y15
   repeat' (first
    |(with_reducible first|refine nx ?_|refine t_seq fun K=>?_|refine t_br (fun hc=>?_) fun hc=>?_|refine t_bx ?_|apply And.intro|intro vr)|exact kpd
    |((with_reducible first|refine ny ?_|refine t_kLF ?_ ?_|refine t_drawE (id:=10) (fun i=>i==0) [(0,1),(1,1),(2,1),(3,1),(4,1),(5,1),(6,0),(7,1)] (by kernel_rfl) fun K=>?_|refine t_drawE (id:=22) (fun i=>i==2) [(0,1),(1,1),(2,1),(3,1),(4,1),(5,1),(6,1),(7,1),(8,1),(9,0),(10,1),(11,0),(12,1),(13,0),(14,1),(15,0)] (by kernel_rfl) fun K=>?_|refine t_drawE (id:=23) (fun i=>i==1) [(0,1),(1,1),(2,1),(3,1),(4,1),(5,1),(6,1),(7,1),(8,1),(9,0),(10,1)] (by kernel_rfl) fun K=>?_|refine t_dwh (h:=fun K KL=>?_));intros;simp only [go_sem,kp54,geff,hsp,txs_length,List.length_cons,yes]))
   all_goals try exact nd
   refine t_loopF (ι:={c:Nat // 1≤c∧c≤16}) (fun i=>[(6,.lit (.int .i64 (i.1:Int)))]) (fun i=>[.box 50 [.lit (.int .i64 0),.lit (.string (bs [])),.lit (.int .i64 0),.lit (.int .i64 0),.lit (.int .i64 0),.lit (.int .i64 0)],.box 50 [.lit (.int .i64 (lastC N i.1)),.lit (.string (bs [])),.lit (.int .i64 0),.lit (.int .i64 0),.lit (.int .i64 0),.lit (.int .i64 0)]]) (fun i=>17 - i.1) ⟨1,by omega,by omega⟩ ?_ ?_
   ·exact lf
   rintro ⟨c,hc1,hc2⟩ K0
   rcases Nat.lt_or_ge c 16 with hcc|hcc
   ·have w1:decide ((c:Int)≤15)=true:=decide_eq_true (by omega)
    have w3:(0:Int)<((R0.length+1:Nat):Int):=by omega
    have hlc:lastC N (c+1)=if (ul (namL (c:Int))==N)=true then (c:Int) else lastC N c:=by rw [lastC,if_neg (by omega)]
    cases hcn:(ul (namL (c:Int))==N) with
    |true=>
     rw [if_pos hcn] at hlc
     repeat' (first
      |(with_reducible first|refine nx ?_|refine t_seq fun K=>?_|refine t_br (fun hc=>?_) fun hc=>?_|refine t_bx ?_|apply And.intro|intro vr)|exact kpd
      |((with_reducible first|refine ny ?_|refine t_kLF ?_ ?_|refine t_drawE (id:=10) (fun i=>i==0) [(0,1),(1,1),(2,1),(3,1),(4,1),(5,1),(6,0),(7,1)] (by kernel_rfl) fun K=>?_|refine t_drawE (id:=22) (fun i=>i==2) [(0,1),(1,1),(2,1),(3,1),(4,1),(5,1),(6,1),(7,1),(8,1),(9,0),(10,1),(11,0),(12,1),(13,0),(14,1),(15,0)] (by kernel_rfl) fun K=>?_|refine t_drawE (id:=23) (fun i=>i==1) [(0,1),(1,1),(2,1),(3,1),(4,1),(5,1),(6,1),(7,1),(8,1),(9,0),(10,1)] (by kernel_rfl) fun K=>?_|refine t_dwh (h:=fun K KL=>?_));intros;simp only [go_sem,kp54,geff,w1,hcn,txs_hd0,txs_length,List.length_cons,yes]))
     all_goals try exact nd
     refine ⟨⟨c+1,by omega,by omega⟩,by simp only;omega,?_⟩
     simp only [hlc]
     first|exact lf|(refine Le.frameS (by first|rfl|(simp only [go_sem];try rfl)) ?_;repeat' (first|exact leF_top _|exact (fun _=>LeR.refl _)|(with_reducible refine leF_sl ?_ ?_)|(refine leF_upd ?_ ?_)))<;>(first|exact LeR.top _|exact LeR.refl _|(refine LeR.of_eq ?_;(try simp only [go_sem]);try rfl)|((try simp only [go_sem]);try rfl))
    |false=>
     rw [if_neg (by rw [hcn];decide)] at hlc
     repeat' (first
      |(with_reducible first|refine nx ?_|refine t_seq fun K=>?_|refine t_br (fun hc=>?_) fun hc=>?_|refine t_bx ?_|apply And.intro|intro vr)|exact kpd
      |((with_reducible first|refine ny ?_|refine t_kLF ?_ ?_|refine t_drawE (id:=10) (fun i=>i==0) [(0,1),(1,1),(2,1),(3,1),(4,1),(5,1),(6,0),(7,1)] (by kernel_rfl) fun K=>?_|refine t_drawE (id:=22) (fun i=>i==2) [(0,1),(1,1),(2,1),(3,1),(4,1),(5,1),(6,1),(7,1),(8,1),(9,0),(10,1),(11,0),(12,1),(13,0),(14,1),(15,0)] (by kernel_rfl) fun K=>?_|refine t_drawE (id:=23) (fun i=>i==1) [(0,1),(1,1),(2,1),(3,1),(4,1),(5,1),(6,1),(7,1),(8,1),(9,0),(10,1)] (by kernel_rfl) fun K=>?_|refine t_dwh (h:=fun K KL=>?_));intros;simp only [go_sem,kp54,geff,w1,hcn,txs_hd0,txs_length,List.length_cons,yes]))
     all_goals try exact nd
     refine ⟨⟨c+1,by omega,by omega⟩,by simp only;omega,?_⟩
     simp only [hlc]
     first|exact lf|(refine Le.frameS (by first|rfl|(simp only [go_sem];try rfl)) ?_;repeat' (first|exact leF_top _|exact (fun _=>LeR.refl _)|(with_reducible refine leF_sl ?_ ?_)|(refine leF_upd ?_ ?_)))<;>(first|exact LeR.top _|exact LeR.refl _|(refine LeR.of_eq ?_;(try simp only [go_sem]);try rfl)|((try simp only [go_sem]);try rfl))
   obtain rfl:c=16:=by omega
   have w1:decide (((16:Nat):Int)≤15)=false:=by decide
   cases hF:formS (mkI k ([]:List UInt8) []) with
   |none=>
    have hV:formV ⟨k,bs ([]:List UInt8),0,0,0,0⟩=_:=formV_none hF
    repeat' (first
     |(with_reducible first|refine nx ?_|refine t_seq fun K=>?_|refine t_br (fun hc=>?_) fun hc=>?_|refine t_bx ?_|apply And.intro|intro vr)|exact kpd
     |((with_reducible first|refine ny ?_|refine t_kLF ?_ ?_|refine t_drawE (id:=10) (fun i=>i==0) [(0,1),(1,1),(2,1),(3,1),(4,1),(5,1),(6,0),(7,1)] (by kernel_rfl) fun K=>?_|refine t_drawE (id:=22) (fun i=>i==2) [(0,1),(1,1),(2,1),(3,1),(4,1),(5,1),(6,1),(7,1),(8,1),(9,0),(10,1),(11,0),(12,1),(13,0),(14,1),(15,0)] (by kernel_rfl) fun K=>?_|refine t_drawE (id:=23) (fun i=>i==1) [(0,1),(1,1),(2,1),(3,1),(4,1),(5,1),(6,1),(7,1),(8,1),(9,0),(10,1)] (by kernel_rfl) fun K=>?_|refine t_dwh (h:=fun K KL=>?_));intros;simp only [go_sem,kp54,geff,w1,hcd,hk5,hV,hdr,htk,txs_hd0,txs_length,List.length_cons,yes]))
    all_goals try exact nd
    all_goals (refine nl ?_;simp only [go_sem])
    exact LeA.of_eq (by rw [←hR];simp only [rrW,hF];rfl)
   |some f=>
    have hV:formV ⟨k,bs ([]:List UInt8),0,0,0,0⟩=_:=formV_some hF
    have hsz:=frB_size f
    have hf4:=formS_len hF
    by_cases hlen:(R0).length≠f.length
    ·have g4:(((R0).length:Int) !=(f.length:Int))=true:=by rw [bne_iff_ne];omega
     repeat' (first
      |(with_reducible first|refine nx ?_|refine t_seq fun K=>?_|refine t_br (fun hc=>?_) fun hc=>?_|refine t_bx ?_|apply And.intro|intro vr)|exact kpd
      |((with_reducible first|refine ny ?_|refine t_kLF ?_ ?_|refine t_drawE (id:=10) (fun i=>i==0) [(0,1),(1,1),(2,1),(3,1),(4,1),(5,1),(6,0),(7,1)] (by kernel_rfl) fun K=>?_|refine t_drawE (id:=22) (fun i=>i==2) [(0,1),(1,1),(2,1),(3,1),(4,1),(5,1),(6,1),(7,1),(8,1),(9,0),(10,1),(11,0),(12,1),(13,0),(14,1),(15,0)] (by kernel_rfl) fun K=>?_|refine t_drawE (id:=23) (fun i=>i==1) [(0,1),(1,1),(2,1),(3,1),(4,1),(5,1),(6,1),(7,1),(8,1),(9,0),(10,1)] (by kernel_rfl) fun K=>?_|refine t_dwh (h:=fun K KL=>?_));intros;simp only [go_sem,kp54,geff,w1,hcd,hk5,hV,hsz,g4,hdr,htk,txs_hd0,txs_length,List.length_cons,yes]))
     all_goals try exact nd
     all_goals (refine nl ?_;simp only [go_sem])
     exact LeA.of_eq (by rw [←hR];simp only [rrW,hF,if_pos hlen];rfl)
    have hle:(R0).length=f.length:=by omega
    have g4:(((R0).length:Int) !=(f.length:Int))=false:=by rw [bne_eq_false_iff_eq];omega
    generalize hvv:(fun j=>numS (if f.getD j false=true then ((R0).getD j []).tail else (R0).getD j []))=v
    have hmk:mkI k ([]:List UInt8) (rnums f (R0))=⟨k,bs ([]:List UInt8),oc v f.length 0,oc v f.length 1,oc v f.length 2,oc v f.length 3⟩:=by unfold mkI;rw [rn_at,rn_at,rn_at,rn_at,hvv]
    have hR2:AV.tup [opV ⟨k,bs ([]:List UInt8),oc v f.length 0,oc v f.length 1,oc v f.length 2,oc v f.length 3⟩,.lit (.bool (rightS ⟨k,bs ([]:List UInt8),oc v f.length 0,oc v f.length 1,oc v f.length 2,oc v f.length 3⟩ 200&&(lineB ⟨k,bs ([]:List UInt8),oc v f.length 0,oc v f.length 1,oc v f.length 2,oc v f.length 3⟩==s)))]=RES:=by rw [←hR];simp only [rrW,hF,if_neg hlen,hmk]
    clear hmk hR
    repeat' (first
     |(with_reducible first|refine nx ?_|refine t_seq fun K=>?_|refine t_br (fun hc=>?_) fun hc=>?_|refine t_bx ?_|apply And.intro|intro vr)|exact kpd
     |((with_reducible first|refine ny ?_|refine t_kLF ?_ ?_|refine t_drawE (id:=10) (fun i=>i==0) [(0,1),(1,1),(2,1),(3,1),(4,1),(5,1),(6,0),(7,1)] (by kernel_rfl) fun K=>?_|refine t_drawE (id:=22) (fun i=>i==2) [(0,1),(1,1),(2,1),(3,1),(4,1),(5,1),(6,1),(7,1),(8,1),(9,0),(10,1),(11,0),(12,1),(13,0),(14,1),(15,0)] (by kernel_rfl) fun K=>?_|refine t_drawE (id:=23) (fun i=>i==1) [(0,1),(1,1),(2,1),(3,1),(4,1),(5,1),(6,1),(7,1),(8,1),(9,0),(10,1)] (by kernel_rfl) fun K=>?_|refine t_dwh (h:=fun K KL=>?_));intros;simp only [go_sem,kp54,geff,w1,hcd,hk5,hV,hsz,g4,hdr,htk,txs_hd0,txs_length,List.length_cons,yes]))
    all_goals try exact nd
    refine t_loopF (ι:={q:Nat // q≤f.length}) (fun i=>[(10,.lit (.int .i64 (i.1:Int)))]) (fun i=>[.box 50 [.lit (.int .i64 0),.lit (.string (bs [])),.lit (.int .i64 0),.lit (.int .i64 0),.lit (.int .i64 0),.lit (.int .i64 0)],.box 50 [.lit (.int .i64 k),.lit (.string (bs ([]:List UInt8))),.lit (.int .i64 0),.lit (.int .i64 0),.lit (.int .i64 0),.lit (.int .i64 0)],.box 114 [.lit (.int .i64 (oc v i.1 0)),.lit (.int .i64 (oc v i.1 1)),.lit (.int .i64 (oc v i.1 2)),.lit (.int .i64 (oc v i.1 3))]]) (fun i=>f.length - i.1) ⟨0,by omega⟩ ?_ ?_
    ·exact lf
    rintro ⟨i,hi⟩ K1
    have hdx:∀ i,List.getD (txs (R0)) i (.lit (.string (bs [])))= .lit (.string (bs ((R0).getD i []))):=fun i=>txs_getJ _ i
    rcases Nat.lt_or_ge i f.length with hc|hc
    ·have hil:((R0).getD i []).length≤100000:=hlr i
     have hvi:numS (if f.getD i false=true then ((R0).getD i []).tail else (R0).getD i [])=v i:=by rw [←hvv]
     have hoc:∀ j,j≠i→oc v (i+1) j=oc v i j:=fun j hj=>by
       unfold oc;by_cases h:j<i
       ·rw [if_pos (by omega),if_pos h]
       ·rw [if_neg (by omega),if_neg h]
     have hoi:oc v (i+1) i=v i:=by unfold oc;rw [if_pos (by omega)]
     rcases (show i=0∨i=1∨i=2∨i=3 by omega) with rfl|rfl|rfl|rfl
     ·have hi0:((((0:Nat):Int)):Int)=0:=rfl
      have g2:decide ((0:Int)<(f.length:Int))=true:=decide_eq_true (by omega)
      have g3:(0:Int)<((R0).length:Int):=by omega
      have o0:=hoi
      have o1:=hoc 1 (by decide)
      have o2:=hoc 2 (by decide)
      have o3:=hoc 3 (by decide)
      generalize hT:(R0).getD 0 []=T at*
      cases hr:f.getD 0 false with
      |true=>
       have g5:strAt (frB f) 0=114:=by rw [frB_at f 0 hc,hr];rfl
       rw [if_pos hr] at hvi
       cases T with
       |nil=>
        have g6:decide ((0:Int)>0)=false:=by decide
        have hvi2:numS []=v 0:=hvi
        repeat' (first
         |(with_reducible first|refine nx ?_|refine t_seq fun K=>?_|refine t_br (fun hc=>?_) fun hc=>?_|refine t_bx ?_|apply And.intro|intro vr)|exact kpd
         |((with_reducible first|refine ny ?_|refine t_kLF ?_ ?_|refine t_drawE (id:=10) (fun i=>i==0) [(0,1),(1,1),(2,1),(3,1),(4,1),(5,1),(6,0),(7,1)] (by kernel_rfl) fun K=>?_|refine t_drawE (id:=22) (fun i=>i==2) [(0,1),(1,1),(2,1),(3,1),(4,1),(5,1),(6,1),(7,1),(8,1),(9,0),(10,1),(11,0),(12,1),(13,0),(14,1),(15,0)] (by kernel_rfl) fun K=>?_|refine t_drawE (id:=23) (fun i=>i==1) [(0,1),(1,1),(2,1),(3,1),(4,1),(5,1),(6,1),(7,1),(8,1),(9,0),(10,1)] (by kernel_rfl) fun K=>?_|refine t_dwh (h:=fun K KL=>?_));intros;simp only [go_sem,kp54,geff,hsz,hi0,g2,g5,g6,hT,hvi2,List.length_nil,yes]))
        all_goals try exact nd
        refine ⟨⟨1,by omega⟩,by simp only;omega,?_⟩
        simp only [o0,o1,o2,o3]
        first|exact lf|(refine Le.frameS (by first|rfl|(simp only [go_sem];try rfl)) ?_;repeat' (first|exact leF_top _|exact (fun _=>LeR.refl _)|(with_reducible refine leF_sl ?_ ?_)|(refine leF_upd ?_ ?_)))<;>(first|exact LeR.top _|exact LeR.refl _|(refine LeR.of_eq ?_;(try simp only [go_sem]);try rfl)|((try simp only [go_sem]);try rfl))
       |cons c0 T=>
        have g6:decide (((T.length+1:Nat):Int)>0)=true:=decide_eq_true (by omega)
        have g7:List.drop 1 (List.take (T.length+1) (c0::T))=T:=by rw [←List.length_cons (a:=c0),List.take_length];rfl
        have hvi2:numS T=v 0:=hvi
        have hTl:T.length+1≤100000:=hil
        repeat' (first
         |(with_reducible first|refine nx ?_|refine t_seq fun K=>?_|refine t_br (fun hc=>?_) fun hc=>?_|refine t_bx ?_|apply And.intro|intro vr)|exact kpd
         |((with_reducible first|refine ny ?_|refine t_kLF ?_ ?_|refine t_drawE (id:=10) (fun i=>i==0) [(0,1),(1,1),(2,1),(3,1),(4,1),(5,1),(6,0),(7,1)] (by kernel_rfl) fun K=>?_|refine t_drawE (id:=22) (fun i=>i==2) [(0,1),(1,1),(2,1),(3,1),(4,1),(5,1),(6,1),(7,1),(8,1),(9,0),(10,1),(11,0),(12,1),(13,0),(14,1),(15,0)] (by kernel_rfl) fun K=>?_|refine t_drawE (id:=23) (fun i=>i==1) [(0,1),(1,1),(2,1),(3,1),(4,1),(5,1),(6,1),(7,1),(8,1),(9,0),(10,1)] (by kernel_rfl) fun K=>?_|refine t_dwh (h:=fun K KL=>?_));intros;simp only [go_sem,kp54,geff,hsz,hi0,g2,g5,g6,g7,hT,hvi2,List.length_cons,yes]))
        all_goals try exact nd
        refine ⟨⟨1,by omega⟩,by simp only;omega,?_⟩
        simp only [o0,o1,o2,o3]
        first|exact lf|(refine Le.frameS (by first|rfl|(simp only [go_sem];try rfl)) ?_;repeat' (first|exact leF_top _|exact (fun _=>LeR.refl _)|(with_reducible refine leF_sl ?_ ?_)|(refine leF_upd ?_ ?_)))<;>(first|exact LeR.top _|exact LeR.refl _|(refine LeR.of_eq ?_;(try simp only [go_sem]);try rfl)|((try simp only [go_sem]);try rfl))
      |false=>
       have g5:strAt (frB f) 0=110:=by rw [frB_at f 0 hc,hr];rfl
       rw [if_neg (by rw [hr];decide)] at hvi
       repeat' (first
        |(with_reducible first|refine nx ?_|refine t_seq fun K=>?_|refine t_br (fun hc=>?_) fun hc=>?_|refine t_bx ?_|apply And.intro|intro vr)|exact kpd
        |((with_reducible first|refine ny ?_|refine t_kLF ?_ ?_|refine t_drawE (id:=10) (fun i=>i==0) [(0,1),(1,1),(2,1),(3,1),(4,1),(5,1),(6,0),(7,1)] (by kernel_rfl) fun K=>?_|refine t_drawE (id:=22) (fun i=>i==2) [(0,1),(1,1),(2,1),(3,1),(4,1),(5,1),(6,1),(7,1),(8,1),(9,0),(10,1),(11,0),(12,1),(13,0),(14,1),(15,0)] (by kernel_rfl) fun K=>?_|refine t_drawE (id:=23) (fun i=>i==1) [(0,1),(1,1),(2,1),(3,1),(4,1),(5,1),(6,1),(7,1),(8,1),(9,0),(10,1)] (by kernel_rfl) fun K=>?_|refine t_dwh (h:=fun K KL=>?_));intros;simp only [go_sem,kp54,geff,hsz,hi0,g2,g5,hT,hvi,yes]))
       all_goals try exact nd
       refine ⟨⟨1,by omega⟩,by simp only;omega,?_⟩
       simp only [o0,o1,o2,o3]
       first|exact lf|(refine Le.frameS (by first|rfl|(simp only [go_sem];try rfl)) ?_;repeat' (first|exact leF_top _|exact (fun _=>LeR.refl _)|(with_reducible refine leF_sl ?_ ?_)|(refine leF_upd ?_ ?_)))<;>(first|exact LeR.top _|exact LeR.refl _|(refine LeR.of_eq ?_;(try simp only [go_sem]);try rfl)|((try simp only [go_sem]);try rfl))
     ·have hi0:((((1:Nat):Int)):Int)=1:=rfl
      have g2:decide ((1:Int)<(f.length:Int))=true:=decide_eq_true (by omega)
      have g3:(1:Int)<((R0).length:Int):=by omega
      have o0:=hoc 0 (by decide)
      have o1:=hoi
      have o2:=hoc 2 (by decide)
      have o3:=hoc 3 (by decide)
      generalize hT:(R0).getD 1 []=T at*
      cases hr:f.getD 1 false with
      |true=>
       have g5:strAt (frB f) 1=114:=by rw [frB_at f 1 hc,hr];rfl
       rw [if_pos hr] at hvi
       cases T with
       |nil=>
        have g6:decide ((0:Int)>0)=false:=by decide
        have hvi2:numS []=v 1:=hvi
        repeat' (first
         |(with_reducible first|refine nx ?_|refine t_seq fun K=>?_|refine t_br (fun hc=>?_) fun hc=>?_|refine t_bx ?_|apply And.intro|intro vr)|exact kpd
         |((with_reducible first|refine ny ?_|refine t_kLF ?_ ?_|refine t_drawE (id:=10) (fun i=>i==0) [(0,1),(1,1),(2,1),(3,1),(4,1),(5,1),(6,0),(7,1)] (by kernel_rfl) fun K=>?_|refine t_drawE (id:=22) (fun i=>i==2) [(0,1),(1,1),(2,1),(3,1),(4,1),(5,1),(6,1),(7,1),(8,1),(9,0),(10,1),(11,0),(12,1),(13,0),(14,1),(15,0)] (by kernel_rfl) fun K=>?_|refine t_drawE (id:=23) (fun i=>i==1) [(0,1),(1,1),(2,1),(3,1),(4,1),(5,1),(6,1),(7,1),(8,1),(9,0),(10,1)] (by kernel_rfl) fun K=>?_|refine t_dwh (h:=fun K KL=>?_));intros;simp only [go_sem,kp54,geff,hsz,hi0,g2,g5,g6,hT,hvi2,List.length_nil,yes]))
        all_goals try exact nd
        refine ⟨⟨2,by omega⟩,by simp only;omega,?_⟩
        simp only [o0,o1,o2,o3]
        first|exact lf|(refine Le.frameS (by first|rfl|(simp only [go_sem];try rfl)) ?_;repeat' (first|exact leF_top _|exact (fun _=>LeR.refl _)|(with_reducible refine leF_sl ?_ ?_)|(refine leF_upd ?_ ?_)))<;>(first|exact LeR.top _|exact LeR.refl _|(refine LeR.of_eq ?_;(try simp only [go_sem]);try rfl)|((try simp only [go_sem]);try rfl))
       |cons c0 T=>
        have g6:decide (((T.length+1:Nat):Int)>0)=true:=decide_eq_true (by omega)
        have g7:List.drop 1 (List.take (T.length+1) (c0::T))=T:=by rw [←List.length_cons (a:=c0),List.take_length];rfl
        have hvi2:numS T=v 1:=hvi
        have hTl:T.length+1≤100000:=hil
        repeat' (first
         |(with_reducible first|refine nx ?_|refine t_seq fun K=>?_|refine t_br (fun hc=>?_) fun hc=>?_|refine t_bx ?_|apply And.intro|intro vr)|exact kpd
         |((with_reducible first|refine ny ?_|refine t_kLF ?_ ?_|refine t_drawE (id:=10) (fun i=>i==0) [(0,1),(1,1),(2,1),(3,1),(4,1),(5,1),(6,0),(7,1)] (by kernel_rfl) fun K=>?_|refine t_drawE (id:=22) (fun i=>i==2) [(0,1),(1,1),(2,1),(3,1),(4,1),(5,1),(6,1),(7,1),(8,1),(9,0),(10,1),(11,0),(12,1),(13,0),(14,1),(15,0)] (by kernel_rfl) fun K=>?_|refine t_drawE (id:=23) (fun i=>i==1) [(0,1),(1,1),(2,1),(3,1),(4,1),(5,1),(6,1),(7,1),(8,1),(9,0),(10,1)] (by kernel_rfl) fun K=>?_|refine t_dwh (h:=fun K KL=>?_));intros;simp only [go_sem,kp54,geff,hsz,hi0,g2,g5,g6,g7,hT,hvi2,List.length_cons,yes]))
        all_goals try exact nd
        refine ⟨⟨2,by omega⟩,by simp only;omega,?_⟩
        simp only [o0,o1,o2,o3]
        first|exact lf|(refine Le.frameS (by first|rfl|(simp only [go_sem];try rfl)) ?_;repeat' (first|exact leF_top _|exact (fun _=>LeR.refl _)|(with_reducible refine leF_sl ?_ ?_)|(refine leF_upd ?_ ?_)))<;>(first|exact LeR.top _|exact LeR.refl _|(refine LeR.of_eq ?_;(try simp only [go_sem]);try rfl)|((try simp only [go_sem]);try rfl))
      |false=>
       have g5:strAt (frB f) 1=110:=by rw [frB_at f 1 hc,hr];rfl
       rw [if_neg (by rw [hr];decide)] at hvi
       repeat' (first
        |(with_reducible first|refine nx ?_|refine t_seq fun K=>?_|refine t_br (fun hc=>?_) fun hc=>?_|refine t_bx ?_|apply And.intro|intro vr)|exact kpd
        |((with_reducible first|refine ny ?_|refine t_kLF ?_ ?_|refine t_drawE (id:=10) (fun i=>i==0) [(0,1),(1,1),(2,1),(3,1),(4,1),(5,1),(6,0),(7,1)] (by kernel_rfl) fun K=>?_|refine t_drawE (id:=22) (fun i=>i==2) [(0,1),(1,1),(2,1),(3,1),(4,1),(5,1),(6,1),(7,1),(8,1),(9,0),(10,1),(11,0),(12,1),(13,0),(14,1),(15,0)] (by kernel_rfl) fun K=>?_|refine t_drawE (id:=23) (fun i=>i==1) [(0,1),(1,1),(2,1),(3,1),(4,1),(5,1),(6,1),(7,1),(8,1),(9,0),(10,1)] (by kernel_rfl) fun K=>?_|refine t_dwh (h:=fun K KL=>?_));intros;simp only [go_sem,kp54,geff,hsz,hi0,g2,g5,hT,hvi,yes]))
       all_goals try exact nd
       refine ⟨⟨2,by omega⟩,by simp only;omega,?_⟩
       simp only [o0,o1,o2,o3]
       first|exact lf|(refine Le.frameS (by first|rfl|(simp only [go_sem];try rfl)) ?_;repeat' (first|exact leF_top _|exact (fun _=>LeR.refl _)|(with_reducible refine leF_sl ?_ ?_)|(refine leF_upd ?_ ?_)))<;>(first|exact LeR.top _|exact LeR.refl _|(refine LeR.of_eq ?_;(try simp only [go_sem]);try rfl)|((try simp only [go_sem]);try rfl))
     ·have hi0:((((2:Nat):Int)):Int)=2:=rfl
      have g2:decide ((2:Int)<(f.length:Int))=true:=decide_eq_true (by omega)
      have g3:(2:Int)<((R0).length:Int):=by omega
      have o0:=hoc 0 (by decide)
      have o1:=hoc 1 (by decide)
      have o2:=hoi
      have o3:=hoc 3 (by decide)
      generalize hT:(R0).getD 2 []=T at*
      cases hr:f.getD 2 false with
      |true=>
       have g5:strAt (frB f) 2=114:=by rw [frB_at f 2 hc,hr];rfl
       rw [if_pos hr] at hvi
       cases T with
       |nil=>
        have g6:decide ((0:Int)>0)=false:=by decide
        have hvi2:numS []=v 2:=hvi
        repeat' (first
         |(with_reducible first|refine nx ?_|refine t_seq fun K=>?_|refine t_br (fun hc=>?_) fun hc=>?_|refine t_bx ?_|apply And.intro|intro vr)|exact kpd
         |((with_reducible first|refine ny ?_|refine t_kLF ?_ ?_|refine t_drawE (id:=10) (fun i=>i==0) [(0,1),(1,1),(2,1),(3,1),(4,1),(5,1),(6,0),(7,1)] (by kernel_rfl) fun K=>?_|refine t_drawE (id:=22) (fun i=>i==2) [(0,1),(1,1),(2,1),(3,1),(4,1),(5,1),(6,1),(7,1),(8,1),(9,0),(10,1),(11,0),(12,1),(13,0),(14,1),(15,0)] (by kernel_rfl) fun K=>?_|refine t_drawE (id:=23) (fun i=>i==1) [(0,1),(1,1),(2,1),(3,1),(4,1),(5,1),(6,1),(7,1),(8,1),(9,0),(10,1)] (by kernel_rfl) fun K=>?_|refine t_dwh (h:=fun K KL=>?_));intros;simp only [go_sem,kp54,geff,hsz,hi0,g2,g5,g6,hT,hvi2,List.length_nil,yes]))
        all_goals try exact nd
        refine ⟨⟨3,by omega⟩,by simp only;omega,?_⟩
        simp only [o0,o1,o2,o3]
        first|exact lf|(refine Le.frameS (by first|rfl|(simp only [go_sem];try rfl)) ?_;repeat' (first|exact leF_top _|exact (fun _=>LeR.refl _)|(with_reducible refine leF_sl ?_ ?_)|(refine leF_upd ?_ ?_)))<;>(first|exact LeR.top _|exact LeR.refl _|(refine LeR.of_eq ?_;(try simp only [go_sem]);try rfl)|((try simp only [go_sem]);try rfl))
       |cons c0 T=>
        have g6:decide (((T.length+1:Nat):Int)>0)=true:=decide_eq_true (by omega)
        have g7:List.drop 1 (List.take (T.length+1) (c0::T))=T:=by rw [←List.length_cons (a:=c0),List.take_length];rfl
        have hvi2:numS T=v 2:=hvi
        have hTl:T.length+1≤100000:=hil
        repeat' (first
         |(with_reducible first|refine nx ?_|refine t_seq fun K=>?_|refine t_br (fun hc=>?_) fun hc=>?_|refine t_bx ?_|apply And.intro|intro vr)|exact kpd
         |((with_reducible first|refine ny ?_|refine t_kLF ?_ ?_|refine t_drawE (id:=10) (fun i=>i==0) [(0,1),(1,1),(2,1),(3,1),(4,1),(5,1),(6,0),(7,1)] (by kernel_rfl) fun K=>?_|refine t_drawE (id:=22) (fun i=>i==2) [(0,1),(1,1),(2,1),(3,1),(4,1),(5,1),(6,1),(7,1),(8,1),(9,0),(10,1),(11,0),(12,1),(13,0),(14,1),(15,0)] (by kernel_rfl) fun K=>?_|refine t_drawE (id:=23) (fun i=>i==1) [(0,1),(1,1),(2,1),(3,1),(4,1),(5,1),(6,1),(7,1),(8,1),(9,0),(10,1)] (by kernel_rfl) fun K=>?_|refine t_dwh (h:=fun K KL=>?_));intros;simp only [go_sem,kp54,geff,hsz,hi0,g2,g5,g6,g7,hT,hvi2,List.length_cons,yes]))
        all_goals try exact nd
        refine ⟨⟨3,by omega⟩,by simp only;omega,?_⟩
        simp only [o0,o1,o2,o3]
        first|exact lf|(refine Le.frameS (by first|rfl|(simp only [go_sem];try rfl)) ?_;repeat' (first|exact leF_top _|exact (fun _=>LeR.refl _)|(with_reducible refine leF_sl ?_ ?_)|(refine leF_upd ?_ ?_)))<;>(first|exact LeR.top _|exact LeR.refl _|(refine LeR.of_eq ?_;(try simp only [go_sem]);try rfl)|((try simp only [go_sem]);try rfl))
      |false=>
       have g5:strAt (frB f) 2=110:=by rw [frB_at f 2 hc,hr];rfl
       rw [if_neg (by rw [hr];decide)] at hvi
       repeat' (first
        |(with_reducible first|refine nx ?_|refine t_seq fun K=>?_|refine t_br (fun hc=>?_) fun hc=>?_|refine t_bx ?_|apply And.intro|intro vr)|exact kpd
        |((with_reducible first|refine ny ?_|refine t_kLF ?_ ?_|refine t_drawE (id:=10) (fun i=>i==0) [(0,1),(1,1),(2,1),(3,1),(4,1),(5,1),(6,0),(7,1)] (by kernel_rfl) fun K=>?_|refine t_drawE (id:=22) (fun i=>i==2) [(0,1),(1,1),(2,1),(3,1),(4,1),(5,1),(6,1),(7,1),(8,1),(9,0),(10,1),(11,0),(12,1),(13,0),(14,1),(15,0)] (by kernel_rfl) fun K=>?_|refine t_drawE (id:=23) (fun i=>i==1) [(0,1),(1,1),(2,1),(3,1),(4,1),(5,1),(6,1),(7,1),(8,1),(9,0),(10,1)] (by kernel_rfl) fun K=>?_|refine t_dwh (h:=fun K KL=>?_));intros;simp only [go_sem,kp54,geff,hsz,hi0,g2,g5,hT,hvi,yes]))
       all_goals try exact nd
       refine ⟨⟨3,by omega⟩,by simp only;omega,?_⟩
       simp only [o0,o1,o2,o3]
       first|exact lf|(refine Le.frameS (by first|rfl|(simp only [go_sem];try rfl)) ?_;repeat' (first|exact leF_top _|exact (fun _=>LeR.refl _)|(with_reducible refine leF_sl ?_ ?_)|(refine leF_upd ?_ ?_)))<;>(first|exact LeR.top _|exact LeR.refl _|(refine LeR.of_eq ?_;(try simp only [go_sem]);try rfl)|((try simp only [go_sem]);try rfl))
     ·have hi0:((((3:Nat):Int)):Int)=3:=rfl
      have g2:decide ((3:Int)<(f.length:Int))=true:=decide_eq_true (by omega)
      have g3:(3:Int)<((R0).length:Int):=by omega
      have o0:=hoc 0 (by decide)
      have o1:=hoc 1 (by decide)
      have o2:=hoc 2 (by decide)
      have o3:=hoi
      generalize hT:(R0).getD 3 []=T at*
      cases hr:f.getD 3 false with
      |true=>
       have g5:strAt (frB f) 3=114:=by rw [frB_at f 3 hc,hr];rfl
       rw [if_pos hr] at hvi
       cases T with
       |nil=>
        have g6:decide ((0:Int)>0)=false:=by decide
        have hvi2:numS []=v 3:=hvi
        repeat' (first
         |(with_reducible first|refine nx ?_|refine t_seq fun K=>?_|refine t_br (fun hc=>?_) fun hc=>?_|refine t_bx ?_|apply And.intro|intro vr)|exact kpd
         |((with_reducible first|refine ny ?_|refine t_kLF ?_ ?_|refine t_drawE (id:=10) (fun i=>i==0) [(0,1),(1,1),(2,1),(3,1),(4,1),(5,1),(6,0),(7,1)] (by kernel_rfl) fun K=>?_|refine t_drawE (id:=22) (fun i=>i==2) [(0,1),(1,1),(2,1),(3,1),(4,1),(5,1),(6,1),(7,1),(8,1),(9,0),(10,1),(11,0),(12,1),(13,0),(14,1),(15,0)] (by kernel_rfl) fun K=>?_|refine t_drawE (id:=23) (fun i=>i==1) [(0,1),(1,1),(2,1),(3,1),(4,1),(5,1),(6,1),(7,1),(8,1),(9,0),(10,1)] (by kernel_rfl) fun K=>?_|refine t_dwh (h:=fun K KL=>?_));intros;simp only [go_sem,kp54,geff,hsz,hi0,g2,g5,g6,hT,hvi2,List.length_nil,yes]))
        all_goals try exact nd
        refine ⟨⟨4,by omega⟩,by simp only;omega,?_⟩
        simp only [o0,o1,o2,o3]
        first|exact lf|(refine Le.frameS (by first|rfl|(simp only [go_sem];try rfl)) ?_;repeat' (first|exact leF_top _|exact (fun _=>LeR.refl _)|(with_reducible refine leF_sl ?_ ?_)|(refine leF_upd ?_ ?_)))<;>(first|exact LeR.top _|exact LeR.refl _|(refine LeR.of_eq ?_;(try simp only [go_sem]);try rfl)|((try simp only [go_sem]);try rfl))
       |cons c0 T=>
        have g6:decide (((T.length+1:Nat):Int)>0)=true:=decide_eq_true (by omega)
        have g7:List.drop 1 (List.take (T.length+1) (c0::T))=T:=by rw [←List.length_cons (a:=c0),List.take_length];rfl
        have hvi2:numS T=v 3:=hvi
        have hTl:T.length+1≤100000:=hil
        repeat' (first
         |(with_reducible first|refine nx ?_|refine t_seq fun K=>?_|refine t_br (fun hc=>?_) fun hc=>?_|refine t_bx ?_|apply And.intro|intro vr)|exact kpd
         |((with_reducible first|refine ny ?_|refine t_kLF ?_ ?_|refine t_drawE (id:=10) (fun i=>i==0) [(0,1),(1,1),(2,1),(3,1),(4,1),(5,1),(6,0),(7,1)] (by kernel_rfl) fun K=>?_|refine t_drawE (id:=22) (fun i=>i==2) [(0,1),(1,1),(2,1),(3,1),(4,1),(5,1),(6,1),(7,1),(8,1),(9,0),(10,1),(11,0),(12,1),(13,0),(14,1),(15,0)] (by kernel_rfl) fun K=>?_|refine t_drawE (id:=23) (fun i=>i==1) [(0,1),(1,1),(2,1),(3,1),(4,1),(5,1),(6,1),(7,1),(8,1),(9,0),(10,1)] (by kernel_rfl) fun K=>?_|refine t_dwh (h:=fun K KL=>?_));intros;simp only [go_sem,kp54,geff,hsz,hi0,g2,g5,g6,g7,hT,hvi2,List.length_cons,yes]))
        all_goals try exact nd
        refine ⟨⟨4,by omega⟩,by simp only;omega,?_⟩
        simp only [o0,o1,o2,o3]
        first|exact lf|(refine Le.frameS (by first|rfl|(simp only [go_sem];try rfl)) ?_;repeat' (first|exact leF_top _|exact (fun _=>LeR.refl _)|(with_reducible refine leF_sl ?_ ?_)|(refine leF_upd ?_ ?_)))<;>(first|exact LeR.top _|exact LeR.refl _|(refine LeR.of_eq ?_;(try simp only [go_sem]);try rfl)|((try simp only [go_sem]);try rfl))
      |false=>
       have g5:strAt (frB f) 3=110:=by rw [frB_at f 3 hc,hr];rfl
       rw [if_neg (by rw [hr];decide)] at hvi
       repeat' (first
        |(with_reducible first|refine nx ?_|refine t_seq fun K=>?_|refine t_br (fun hc=>?_) fun hc=>?_|refine t_bx ?_|apply And.intro|intro vr)|exact kpd
        |((with_reducible first|refine ny ?_|refine t_kLF ?_ ?_|refine t_drawE (id:=10) (fun i=>i==0) [(0,1),(1,1),(2,1),(3,1),(4,1),(5,1),(6,0),(7,1)] (by kernel_rfl) fun K=>?_|refine t_drawE (id:=22) (fun i=>i==2) [(0,1),(1,1),(2,1),(3,1),(4,1),(5,1),(6,1),(7,1),(8,1),(9,0),(10,1),(11,0),(12,1),(13,0),(14,1),(15,0)] (by kernel_rfl) fun K=>?_|refine t_drawE (id:=23) (fun i=>i==1) [(0,1),(1,1),(2,1),(3,1),(4,1),(5,1),(6,1),(7,1),(8,1),(9,0),(10,1)] (by kernel_rfl) fun K=>?_|refine t_dwh (h:=fun K KL=>?_));intros;simp only [go_sem,kp54,geff,hsz,hi0,g2,g5,hT,hvi,yes]))
       all_goals try exact nd
       refine ⟨⟨4,by omega⟩,by simp only;omega,?_⟩
       simp only [o0,o1,o2,o3]
       first|exact lf|(refine Le.frameS (by first|rfl|(simp only [go_sem];try rfl)) ?_;repeat' (first|exact leF_top _|exact (fun _=>LeR.refl _)|(with_reducible refine leF_sl ?_ ?_)|(refine leF_upd ?_ ?_)))<;>(first|exact LeR.top _|exact LeR.refl _|(refine LeR.of_eq ?_;(try simp only [go_sem]);try rfl)|((try simp only [go_sem]);try rfl))
    ·have hiL:i=f.length:=by omega
     subst hiL
     clear hvv
     generalize oc v f.length 0=c0 at*
     generalize oc v f.length 1=c1 at*
     generalize oc v f.length 2=c2 at*
     generalize oc v f.length 3=c3 at*
     have g2:decide ((f.length:Int)<(f.length:Int))=false:=decide_eq_false (by omega)
     cases hri:rightS ⟨k,bs ([]:List UInt8),c0,c1,c2,c3⟩ 200 with
     |false=>
      repeat' (first
       |(with_reducible first|refine nx ?_|refine t_seq fun K=>?_|refine t_br (fun hc=>?_) fun hc=>?_|refine t_bx ?_|apply And.intro|intro vr)|exact kpd
       |((with_reducible first|refine ny ?_|refine t_kLF ?_ ?_|refine t_drawE (id:=10) (fun i=>i==0) [(0,1),(1,1),(2,1),(3,1),(4,1),(5,1),(6,0),(7,1)] (by kernel_rfl) fun K=>?_|refine t_drawE (id:=22) (fun i=>i==2) [(0,1),(1,1),(2,1),(3,1),(4,1),(5,1),(6,1),(7,1),(8,1),(9,0),(10,1),(11,0),(12,1),(13,0),(14,1),(15,0)] (by kernel_rfl) fun K=>?_|refine t_drawE (id:=23) (fun i=>i==1) [(0,1),(1,1),(2,1),(3,1),(4,1),(5,1),(6,1),(7,1),(8,1),(9,0),(10,1)] (by kernel_rfl) fun K=>?_|refine t_dwh (h:=fun K KL=>?_));intros;simp only [go_sem,kp54,geff,hsz,g2,hri,yes]))
      all_goals try exact nd
      all_goals (refine nl ?_;simp only [go_sem])
      exact LeA.of_eq (by rw [←hR2,hri];rfl)
     |true=>
      repeat' (first
       |(with_reducible first|refine nx ?_|refine t_seq fun K=>?_|refine t_br (fun hc=>?_) fun hc=>?_|refine t_bx ?_|apply And.intro|intro vr)|exact kpd
       |((with_reducible first|refine ny ?_|refine t_kLF ?_ ?_|refine t_drawE (id:=10) (fun i=>i==0) [(0,1),(1,1),(2,1),(3,1),(4,1),(5,1),(6,0),(7,1)] (by kernel_rfl) fun K=>?_|refine t_drawE (id:=22) (fun i=>i==2) [(0,1),(1,1),(2,1),(3,1),(4,1),(5,1),(6,1),(7,1),(8,1),(9,0),(10,1),(11,0),(12,1),(13,0),(14,1),(15,0)] (by kernel_rfl) fun K=>?_|refine t_drawE (id:=23) (fun i=>i==1) [(0,1),(1,1),(2,1),(3,1),(4,1),(5,1),(6,1),(7,1),(8,1),(9,0),(10,1)] (by kernel_rfl) fun K=>?_|refine t_dwh (h:=fun K KL=>?_));intros;simp only [go_sem,kp54,geff,hsz,g2,hri,yes]))
      all_goals try exact nd
      all_goals (refine nl ?_;simp only [go_sem])
      exact LeA.of_eq (by rw [←hR2,hri,Bool.true_and];rfl)
end Go.Proofs.YtohiagaclfaolaaGreatDoor.Tx

namespace Go.Proofs.YtohiagaclfaolaaGreatDoor.Tx
open Go.Proofs.YtohiagaclfaolaaGreatDoor
open Go Go.Fw Go.RowKit Bm
set_option maxRecDepth 20000
theorem copy_new {g:Nat} {v:Value} {w:World} (h:Blk w g #[.pointer none,v] 80) (h0:w.heap[g]? =some (.cells #[.pointer none,v] 80 (0,0))):
    Calls Tryz.prog 80 #[.pointer (some ⟨g,0,none⟩)] w fun e w'=>e= .returned (.tuple #[])∧w'=w.setCell ⟨g,0,none⟩ (.pointer (some ⟨g,0,none⟩)):=by
  have hc:w.cell? ⟨g,0,none⟩=some (.pointer none):=by rw [h.cell 0];rfl
  have hs:w.shape? g=some (80,2):=by simp [World.shape?,h0]
  obtain ⟨i0,hi,hz0,hz1,hz2⟩:=info_parts (show (Tryz.prog.info? 80).map (fun i=>(i.zero,i.size,i.bytes))=some (some (.agg #[.pointer none,.slice none 0 0]),2,32) from by kernel_rfl)
  have c1:(convert 78 140 (.pointer (some ⟨g,0,none⟩))).run Tryz.prog w= .ok (.pointer (some ⟨g,0,none⟩)) w:=Lib.run_to_unsafe w ⟨g,0,none⟩ Tryz.underlying78 Tryz.underlying140 hi (by rw [hz1];decide) hs (show (0:Nat)<2 by decide)
  have c2:(convert 140 78 (.pointer (some ⟨g,0,none⟩))).run Tryz.prog w= .ok (.pointer (some ⟨g,0,none⟩)) w:=Lib.run_from_unsafe w ⟨g,0,none⟩ Tryz.underlying140 Tryz.underlying78 hi hs (by kernel_rfl)
  have c3:(callFunc 102 #[.pointer (some ⟨g,0,none⟩)]).run Tryz.prog w= .ok (.value (.pointer (some ⟨g,0,none⟩))) w:=by
    rw [run_callFunc_extern Tryz.func102 (by kernel_rfl) (by kernel_rfl) (by kernel_rfl) (e:=Extern.AbiNoEscape.same) (by kernel_rfl),Lib.run_noEscape]
    rfl
  have hf:w.frozen? ⟨g,0,none⟩=false:=h.frozen 0 (by simp)
  go_enter Tryz.func80,Tryz.ntmps80
  go_wp2_with fail
  exact ⟨rfl,_,by simp [results,Tryz.results80],rfl,rfl⟩
theorem copy_used {g:Nat} {v:Value} {w:World} (h0:w.heap[g]? =some (.cells #[.pointer (some ⟨g,0,none⟩),v] 80 (0,0))):
    Calls Tryz.prog 80 #[.pointer (some ⟨g,0,none⟩)] w fun e w'=>e= .returned (.tuple #[])∧w'=w:=by
  have hc:w.cell? ⟨g,0,none⟩=some (.pointer (some ⟨g,0,none⟩)):=by simp [World.cell?,h0]
  obtain ⟨i0,hi,hz0,hz1,hz2⟩:=info_parts (show (Tryz.prog.info? 80).map (fun i=>(i.zero,i.size,i.bytes))=some (some (.agg #[.pointer none,.slice none 0 0]),2,32) from by kernel_rfl)
  have c1:(binOp .neq 78 (.pointer (some ⟨g,0,none⟩)) (.pointer (some ⟨g,0,none⟩))).run Tryz.prog w= .ok (.bool false) w:=Lib.run_neq_ptr_same w ⟨g,0,none⟩ Tryz.underlying78 hi
  go_enter Tryz.func80,Tryz.ntmps80
  go_wp2_with fail
  exact ⟨rfl,_,by simp [results,Tryz.results80],rfl,rfl⟩
theorem copy_calls {B b:Nat} {l:List Value} {w:World} (h:Lib.IsBuilderF 80 5 B b l w):
    Calls Tryz.prog 80 #[.pointer (some ⟨b,0,none⟩)] w fun e w'=>e= .returned (.tuple #[])∧Lib.BuilderAtF 80 5 B b (.pointer (some ⟨b,0,none⟩)) l w'∧Below B w w':=by
  rcases h with h|h
  ·have h':=h
   obtain ⟨hB,v,hb,hown,hne⟩:=h'
   have hblk:Blk w b #[.pointer none,v] 80:=⟨(0,0),hb,Nat.le_refl _,fun _ _ h=>by simp at h⟩
   refine (copy_new hblk hb).mono ?_
   rintro e w' ⟨rfl,rfl⟩
   exact ⟨rfl,h.used _,(Below.refl _ w).setCell hB _⟩
  ·have h':=h
   obtain ⟨hB,v,hb,hown,hne⟩:=h'
   refine (copy_used hb).mono ?_
   rintro e w' ⟨rfl,rfl⟩
   exact ⟨rfl,h,Below.refl _ _⟩
set_option maxHeartbeats 1000000 in
theorem write_calls {B b:Nat} {l:List Value} {s:ByteArray} {w:World} (h:Lib.IsBuilderF 80 5 B b l w) (hlen:l.length+s.size≤140737488355328) (hBw:B≤w.heap.size):
    Calls Tryz.prog 47 #[.pointer (some ⟨b,0,none⟩),.string s] w fun e w'=>e= .returned (.tuple #[.int .i64 s.size,.nilIface])∧Lib.BuilderAtF 80 5 B b (.pointer (some ⟨b,0,none⟩)) (l++Lib.strCells s) w'∧Below B w w':=by
  obtain ⟨i0,hi,hz0,hz1,hz2⟩:=info_parts (show (Tryz.prog.info? 5).map (fun i=>(i.zero,i.size,i.bytes))=some (some (.int .u8 0),1,1) from by kernel_rfl)
  go_enter Tryz.func47,Tryz.ntmps47
  go_wp2_with (go_at_call 80;refine (copy_calls h).mono ?_)
  rintro e w1 ⟨rfl,h1,hb1⟩
  obtain ⟨hB,v,hbk,hown,hne⟩:=h1
  have c0:w1.cell? ⟨b,0,none⟩=some (.pointer (some ⟨b,0,none⟩)):=by rw [Lib.cell_of_heap hbk];rfl
  have c1:w1.cell? ⟨b,1,none⟩=some v:=by rw [Lib.cell_of_heap hbk];rfl
  have hs1:=hb1.size
  go_wp2_with (at_builtin;refine Lib.wpList_append_own_stringF _ rfl _ _ 27 9 rfl B 5 i0 Tryz.underlying27 Tryz.underlying9 hi hz0 hz1 hz2 _ _ _ rfl hown s rfl ?c3 ?c4 ?c5 ?_)
  case c3=>unfold maxLen;omega
  case c4=>omega
  case c5=>omega
  intro v' w2 hown' hgrow _
  have hlt:b<w1.heap.size:=(Array.getElem?_eq_some_iff.1 hbk).1
  have hb2:w2.heap[b]? =some (.cells #[.pointer (some ⟨b,0,none⟩),v] 80 (0,0)):=by
    rw [hgrow.block b hlt (fun e=>hne e.symm)];exact hbk
  have d0:w2.cell? ⟨b,0,none⟩=some (.pointer (some ⟨b,0,none⟩)):=by rw [Lib.cell_of_heap hb2];rfl
  have d1:w2.cell? ⟨b,1,none⟩=some v:=by rw [Lib.cell_of_heap hb2];rfl
  have f1:w2.frozen? ⟨b,1,none⟩=false:=Lib.frozen_of_heap hb2 1
  obtain ⟨ao,n',cap,rfl⟩:∃ ao n' cap,v'= .slice ao n' cap:=by
    rcases hown'.2 with ⟨hv,_⟩|⟨g,cap,cur,fz,hv,_⟩
    ·exact ⟨_,_,_,hv⟩
    ·exact ⟨_,_,_,hv⟩
  go_wp2
  go_ret2
  refine ⟨rfl,?_,?_⟩
  ·exact Lib.BuilderAtF.put (T:=80) (e:=5) hB hb2 (bs':=l++Lib.strCells s) (by simpa [Lib.strCells_length] using hown') (by decide)
  ·exact (hb1.grown hgrow (by omega) (fun k hk=>(hown.lt k hk).1)).setCell (p:=⟨b,1,none⟩) hB _
end Go.Proofs.YtohiagaclfaolaaGreatDoor.Tx
