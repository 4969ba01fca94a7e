import Derived.Shelf.Strings.Builder1
import Derived.Shelf.Strings.Builder2
import Derived.Shelf.Strings.OnBuilder
import Derived.Shelf.Strings.BuilderF
import Derived.Shelf.Strings.BuilderK
import Derived.Shelf.Utf8.RuneCount
import Derived.Shelf.Strings.Builder2Cap
import Derived.Shelf.Strconv.Atoi
import Derived.Shelf.Strconv.Itoa0
import Derived.Shelf.Strconv.Itoa1
import Derived.Shelf.LaysM
import Derived.Shelf.Strconv.Itoa2
import Derived.Shelf.Strconv.Itoa3
import Derived.Shelf.Strconv.AtoiErrFast
import Derived.Shelf.Strconv.ParseIntEmpty
import Derived.Shelf.Strconv.AtoiFail
import Derived.Shelf.Strconv.Clone
import Derived.Shelf.Strconv.SyntaxError
import Derived.Shelf.LaysC
import Derived.Shelf.Strconv.ToError
import Derived.Shelf.Strconv.AtoiErr
import Derived.Shelf.Strconv.ErrVar
import Derived.Shelf.Strconv.Lower
import Derived.Shelf.Strconv.ParseUint10
import Derived.Shelf.Strconv.ParseUint10Empty
import Derived.Shelf.Strconv.ParseUint10Any
import Derived.Shelf.Strconv.ParseInt10
import Derived.Shelf.Strconv.AtoiLong
import Derived.Shelf.Strconv.AtoiInnerAll
import Derived.Shelf.Strconv.RangeError
import Derived.Shelf.Strconv.ToErrorRange
import Derived.Shelf.Strconv.AtoiAll
import Derived.Shelf.Strconv.ErrVarAll
import Derived.Shelf.Strconv.ParseUintEmpty
import Derived.Shelf.Strconv.ParseUint10b64
import Derived.Shelf.Strings.Search1
import Derived.Shelf.Strings.Search2
import Derived.Shelf.Strings.Search3
import Derived.Shelf.Strings.Cut
import Derived.Shelf.Strings.Count
import Derived.Shelf.Strings.Shaped
import Derived.Shelf.Unicode.DecodeSlow
import Derived.Test.YtohiagaclfaolaaGreatDoorProg
import Derived.Test.YtohiagaclfaolaaGreatDoorSB
import Derived.Test.YtohiagaclfaolaaGreatDoorSA
import Derived.Tactics
import Derived.Tactics2
import Derived.Defers
import Derived.Recover
import Derived.Laws.Pointers
import Derived.Lib.FrozenHead
import Derived.WalkKit
import Derived.LoopTactic

set_option linter.all false

namespace Go.Proofs
open Go.Shelf
def Tryz.lays156_ren:Go.Shelf.Ren:=⟨fun|156=>82|165=>104|166=>47|169=>49|240=>80|241=>115|276=>102|277=>127|n=>n,fun|31=>117|9=>9|3=>3|4=>4|0=>0|20=>20|72=>80|76=>83|70=>78|37=>27|75=>82|127=>119|164=>140|5=>5|80=>86|n=>n,fun|n=>n⟩
theorem Tryz.lays156:Go.Proofs.Lays.n156 Tryz.prog Tryz.lays156_ren:={
  mixed:=by kernel_rfl
  f156:=Tryz.func82.trans (congrArg some (by kernel_rfl))
  f165:=Tryz.func104.trans (congrArg some (by kernel_rfl))
  f166:=Tryz.func47.trans (congrArg some (by kernel_rfl))
  f169:=Tryz.func49.trans (congrArg some (by kernel_rfl))
  f240:=Tryz.func80.trans (congrArg some (by kernel_rfl))
  f241:=Tryz.func115.trans (congrArg some (by kernel_rfl))
  f276:=Tryz.func102.trans (congrArg some (by kernel_rfl))
  f277:=Tryz.func127.trans (congrArg some (by kernel_rfl))
  t0:=Tryz.underlying0
  a0:=Tryz.isAgg0
  z0:=Tryz.sizeOf0
  v0:=Tryz.zeroValue0
  t3:=Tryz.underlying3
  a3:=Tryz.isAgg3
  z3:=Tryz.sizeOf3
  v3:=Tryz.zeroValue3
  t4:=Tryz.underlying4
  a4:=Tryz.isAgg4
  z4:=Tryz.sizeOf4
  v4:=Tryz.zeroValue4
  t9:=Tryz.underlying9
  a9:=Tryz.isAgg9
  z9:=Tryz.sizeOf9
  v9:=Tryz.zeroValue9
  t20:=Tryz.underlying20
  a20:=Tryz.isAgg20
  z20:=Tryz.sizeOf20
  v20:=Tryz.zeroValue20
  t31:=Tryz.underlying117
  a31:=Tryz.isAgg117
  z31:=Tryz.sizeOf117
  v31:=Tryz.zeroValue117
  t37:=Tryz.underlying27
  a37:=Tryz.isAgg27
  z37:=Tryz.sizeOf27
  v37:=Tryz.zeroValue27
  t70:=Tryz.underlying78
  a70:=Tryz.isAgg78
  z70:=Tryz.sizeOf78
  v70:=Tryz.zeroValue78
  t72:=Tryz.underlying80
  a72:=Tryz.isAgg80
  z72:=Tryz.sizeOf80
  v72:=Tryz.zeroValue80
  t75:=Tryz.underlying82
  a75:=Tryz.isAgg82
  z75:=Tryz.sizeOf82
  v75:=Tryz.zeroValue82
  t76:=Tryz.underlying83
  a76:=Tryz.isAgg83
  z76:=Tryz.sizeOf83
  v76:=Tryz.zeroValue83
  t127:=Tryz.underlying119
  a127:=Tryz.isAgg119
  z127:=Tryz.sizeOf119
  v127:=Tryz.zeroValue119
  t164:=Tryz.underlying140
  a164:=Tryz.isAgg140
  z164:=Tryz.sizeOf140
  v164:=Tryz.zeroValue140}
theorem Tryz.Builder_Extra_156:Builder.Extra Tryz.prog Tryz.lays156_ren:={
  sizeBuilder:=by kernel_rfl
  liesBuilder:=by kernel_rfl
  t5:=Tryz.underlying5
  a5:=Tryz.isAgg5
  z5:=Tryz.sizeOf5
  v5:=Tryz.zeroValue5
  infoByte:=by kernel_rfl
  cellsByte:=by kernel_rfl
  sizeByte:=by kernel_rfl
  neB5:=by decide}
open Go.RowKit in
theorem Tryz.strings_Join_none (a:Option Addr) (c:Nat) (sep:ByteArray) (w:World):
    Calls Tryz.prog 82 #[.slice a 0 c,.string sep] w fun e w'=>e= .returned (.string ⟨#[]⟩)∧w'=w:=Any.strings_Join_none Tryz.lays156 Tryz.Builder_Extra_156 a c sep w
open Go.RowKit in
theorem Tryz.strings_Join (bk o c:Nat) (xs:List ByteArray) (sep:ByteArray) (w:World) (hcells:∀ (j:Nat) x,xs[j]? =some x→w.cell? ⟨bk,o+j,none⟩=some (.string x)) (hbk:bk<w.heap.size) (hN:xs.length≤140737488355328) (hcap:xs.length≤c) (hlen:(Lib.join (xs.map (·.data.toList)) sep.data.toList).length≤140737488355328):
    Calls Tryz.prog 82 #[.slice (some ⟨bk,o,none⟩) xs.length c,.string sep] w fun e w'=>e= .returned (.string ⟨(Lib.join (xs.map (·.data.toList)) sep.data.toList).toArray⟩)∧Below w.heap.size w w':=Any.strings_Join Tryz.lays156 Tryz.Builder_Extra_156 bk o c xs sep w hcells hbk hN hcap hlen
def Tryz.laysM171_ren:Go.Shelf.Ren:=⟨fun|171=>81|243=>103|246=>114|283=>123|284=>124|285=>125|286=>126|129=>137|317=>136|318=>138|319=>139|320=>140|337=>150|338=>151|n=>n,fun|3=>3|9=>9|2=>2|4=>4|171=>161|0=>0|53=>95|37=>27|5=>5|173=>163|212=>172|51=>166|20=>20|213=>173|46=>131|232=>192|233=>193|n=>n,fun|17=>1|18=>4|19=>5|n=>n⟩
theorem Tryz.laysM171:Go.Proofs.LaysM.n171 Tryz.prog Tryz.laysM171_ren:={
  mixed:=by kernel_rfl
  f129:=Tryz.func137.trans (congrArg some (by kernel_rfl))
  f171:=Tryz.func81.trans (congrArg some (by kernel_rfl))
  f243:=Tryz.func103.trans (congrArg some (by kernel_rfl))
  f246:=Tryz.func114.trans (congrArg some (by kernel_rfl))
  f283:=Tryz.func123.trans (congrArg some (by kernel_rfl))
  f284:=Tryz.func124.trans (congrArg some (by kernel_rfl))
  f285:=Tryz.func125.trans (congrArg some (by kernel_rfl))
  f286:=Tryz.func126.trans (congrArg some (by kernel_rfl))
  f317:=Tryz.func136.trans (congrArg some (by kernel_rfl))
  f318:=Tryz.func138.trans (congrArg some (by kernel_rfl))
  f319:=Tryz.func139.trans (congrArg some (by kernel_rfl))
  f320:=Tryz.func140.trans (congrArg some (by kernel_rfl))
  f337:=Tryz.func150.trans (congrArg some (by kernel_rfl))
  f338:=Tryz.func151.trans (congrArg some (by kernel_rfl))
  t0:=Tryz.underlying0
  a0:=Tryz.isAgg0
  z0:=Tryz.sizeOf0
  v0:=Tryz.zeroValue0
  t2:=Tryz.underlying2
  a2:=Tryz.isAgg2
  z2:=Tryz.sizeOf2
  v2:=Tryz.zeroValue2
  t3:=Tryz.underlying3
  a3:=Tryz.isAgg3
  z3:=Tryz.sizeOf3
  v3:=Tryz.zeroValue3
  t4:=Tryz.underlying4
  a4:=Tryz.isAgg4
  z4:=Tryz.sizeOf4
  v4:=Tryz.zeroValue4
  t5:=Tryz.underlying5
  a5:=Tryz.isAgg5
  z5:=Tryz.sizeOf5
  v5:=Tryz.zeroValue5
  t9:=Tryz.underlying9
  a9:=Tryz.isAgg9
  z9:=Tryz.sizeOf9
  v9:=Tryz.zeroValue9
  t20:=Tryz.underlying20
  a20:=Tryz.isAgg20
  z20:=Tryz.sizeOf20
  v20:=Tryz.zeroValue20
  t37:=Tryz.underlying27
  a37:=Tryz.isAgg27
  z37:=Tryz.sizeOf27
  v37:=Tryz.zeroValue27
  t46:=Tryz.underlying131
  a46:=Tryz.isAgg131
  z46:=Tryz.sizeOf131
  v46:=Tryz.zeroValue131
  t51:=Tryz.underlying166
  a51:=Tryz.isAgg166
  z51:=Tryz.sizeOf166
  v51:=Tryz.zeroValue166
  t53:=Tryz.underlying95
  a53:=Tryz.isAgg95
  z53:=Tryz.sizeOf95
  v53:=Tryz.zeroValue95
  t171:=Tryz.underlying161
  a171:=Tryz.isAgg161
  z171:=Tryz.sizeOf161
  v171:=Tryz.zeroValue161
  t173:=Tryz.underlying163
  a173:=Tryz.isAgg163
  z173:=Tryz.sizeOf163
  v173:=Tryz.zeroValue163
  t212:=Tryz.underlying172
  a212:=Tryz.isAgg172
  z212:=Tryz.sizeOf172
  v212:=Tryz.zeroValue172
  t213:=Tryz.underlying173
  a213:=Tryz.isAgg173
  z213:=Tryz.sizeOf173
  t232:=Tryz.underlying192
  a232:=Tryz.isAgg192
  z232:=Tryz.sizeOf192
  v232:=Tryz.zeroValue192
  t233:=Tryz.underlying193
  a233:=Tryz.isAgg193
  z233:=Tryz.sizeOf193
  v233:=Tryz.zeroValue193
  g17:=by kernel_rfl
  g18:=by kernel_rfl
  g19:=by kernel_rfl
  i0:=by kernel_rfl
  i2:=by kernel_rfl
  i3:=by kernel_rfl
  i4:=by kernel_rfl
  i5:=by kernel_rfl
  i9:=by kernel_rfl
  i20:=by kernel_rfl
  i37:=by kernel_rfl
  i46:=by kernel_rfl
  i51:=by kernel_rfl
  i53:=by kernel_rfl
  i171:=by kernel_rfl
  i173:=by kernel_rfl
  i212:=by kernel_rfl
  i232:=by kernel_rfl
  i233:=by kernel_rfl
  m17:=by kernel_rfl
  m18:=by kernel_rfl
  m19:=by kernel_rfl}
open Go.RowKit Go.Sort Go.Lib in
theorem Tryz.strconv_Itoa (n:Int) (h0: -9223372036854775808≤n) (h1:n≤9223372036854775807) (w:World) (htab:Lib.TabIs Tryz.prog w "internal/strconv.uint64pow10" .u64 Lib.pow10Tab):
    Calls Tryz.prog 81 #[.int .i64 n] w fun e w'=>e= .returned (.string ⟨(Lib.itoa n).toArray⟩)∧∃ k os,w'=grow (w.drewN k) os:=Any.strconv_Itoa Tryz.laysM171 n h0 h1 w htab
def Tryz.laysC172_ren:Go.Shelf.Ren:=⟨fun|172=>121|244=>133|245=>134|247=>144|279=>145|280=>146|281=>147|282=>148|287=>153|316=>154|171=>81|205=>155|321=>156|322=>157|243=>103|246=>114|283=>123|284=>124|285=>125|286=>126|129=>137|317=>136|318=>138|319=>139|320=>140|337=>150|338=>151|n=>n,fun|9=>9|3=>3|75=>82|76=>83|4=>4|5=>5|167=>178|37=>27|0=>0|85=>179|2=>2|168=>181|53=>95|175=>186|46=>131|210=>190|127=>119|145=>201|143=>199|21=>21|171=>161|173=>163|212=>172|51=>166|20=>20|213=>173|232=>192|233=>193|80=>86|n=>n,fun|15=>2|16=>3|17=>1|18=>4|19=>5|n=>n⟩
theorem Tryz.laysC172:Go.Proofs.LaysC.n172 Tryz.prog Tryz.laysC172_ren:={
  mixed:=by kernel_rfl
  f129:=Tryz.func137.trans (congrArg some (by kernel_rfl))
  f171:=Tryz.func81.trans (congrArg some (by kernel_rfl))
  f172:=Tryz.func121.trans (congrArg some (by kernel_rfl))
  f205:=Tryz.func155.trans (congrArg some (by kernel_rfl))
  f243:=Tryz.func103.trans (congrArg some (by kernel_rfl))
  f244:=Tryz.func133.trans (congrArg some (by kernel_rfl))
  f245:=Tryz.func134.trans (congrArg some (by kernel_rfl))
  f246:=Tryz.func114.trans (congrArg some (by kernel_rfl))
  f247:=Tryz.func144.trans (congrArg some (by kernel_rfl))
  f279:=Tryz.func145.trans (congrArg some (by kernel_rfl))
  f280:=Tryz.func146.trans (congrArg some (by kernel_rfl))
  f281:=Tryz.func147.trans (congrArg some (by kernel_rfl))
  f282:=Tryz.func148.trans (congrArg some (by kernel_rfl))
  f283:=Tryz.func123.trans (congrArg some (by kernel_rfl))
  f284:=Tryz.func124.trans (congrArg some (by kernel_rfl))
  f285:=Tryz.func125.trans (congrArg some (by kernel_rfl))
  f286:=Tryz.func126.trans (congrArg some (by kernel_rfl))
  f287:=Tryz.func153.trans (congrArg some (by kernel_rfl))
  f316:=Tryz.func154.trans (congrArg some (by kernel_rfl))
  f317:=Tryz.func136.trans (congrArg some (by kernel_rfl))
  f318:=Tryz.func138.trans (congrArg some (by kernel_rfl))
  f319:=Tryz.func139.trans (congrArg some (by kernel_rfl))
  f320:=Tryz.func140.trans (congrArg some (by kernel_rfl))
  f321:=Tryz.func156.trans (congrArg some (by kernel_rfl))
  f322:=Tryz.func157.trans (congrArg some (by kernel_rfl))
  f337:=Tryz.func150.trans (congrArg some (by kernel_rfl))
  f338:=Tryz.func151.trans (congrArg some (by kernel_rfl))
  t0:=Tryz.underlying0
  a0:=Tryz.isAgg0
  z0:=Tryz.sizeOf0
  v0:=Tryz.zeroValue0
  t2:=Tryz.underlying2
  a2:=Tryz.isAgg2
  z2:=Tryz.sizeOf2
  v2:=Tryz.zeroValue2
  t3:=Tryz.underlying3
  a3:=Tryz.isAgg3
  z3:=Tryz.sizeOf3
  v3:=Tryz.zeroValue3
  t4:=Tryz.underlying4
  a4:=Tryz.isAgg4
  z4:=Tryz.sizeOf4
  v4:=Tryz.zeroValue4
  t5:=Tryz.underlying5
  a5:=Tryz.isAgg5
  z5:=Tryz.sizeOf5
  v5:=Tryz.zeroValue5
  t9:=Tryz.underlying9
  a9:=Tryz.isAgg9
  z9:=Tryz.sizeOf9
  v9:=Tryz.zeroValue9
  t20:=Tryz.underlying20
  a20:=Tryz.isAgg20
  z20:=Tryz.sizeOf20
  v20:=Tryz.zeroValue20
  t21:=Tryz.underlying21
  a21:=Tryz.isAgg21
  z21:=Tryz.sizeOf21
  v21:=Tryz.zeroValue21
  t37:=Tryz.underlying27
  a37:=Tryz.isAgg27
  z37:=Tryz.sizeOf27
  v37:=Tryz.zeroValue27
  t46:=Tryz.underlying131
  a46:=Tryz.isAgg131
  z46:=Tryz.sizeOf131
  v46:=Tryz.zeroValue131
  t51:=Tryz.underlying166
  a51:=Tryz.isAgg166
  z51:=Tryz.sizeOf166
  v51:=Tryz.zeroValue166
  t53:=Tryz.underlying95
  a53:=Tryz.isAgg95
  z53:=Tryz.sizeOf95
  v53:=Tryz.zeroValue95
  t75:=Tryz.underlying82
  a75:=Tryz.isAgg82
  z75:=Tryz.sizeOf82
  v75:=Tryz.zeroValue82
  t76:=Tryz.underlying83
  a76:=Tryz.isAgg83
  z76:=Tryz.sizeOf83
  v76:=Tryz.zeroValue83
  t85:=Tryz.underlying179
  a85:=Tryz.isAgg179
  z85:=Tryz.sizeOf179
  v85:=Tryz.zeroValue179
  t127:=Tryz.underlying119
  a127:=Tryz.isAgg119
  z127:=Tryz.sizeOf119
  v127:=Tryz.zeroValue119
  t143:=Tryz.underlying199
  a143:=Tryz.isAgg199
  z143:=Tryz.sizeOf199
  v143:=Tryz.zeroValue199
  t145:=Tryz.underlying201
  a145:=Tryz.isAgg201
  z145:=Tryz.sizeOf201
  v145:=Tryz.zeroValue201
  t167:=Tryz.underlying178
  a167:=Tryz.isAgg178
  z167:=Tryz.sizeOf178
  v167:=Tryz.zeroValue178
  t168:=Tryz.underlying181
  a168:=Tryz.isAgg181
  z168:=Tryz.sizeOf181
  v168:=Tryz.zeroValue181
  t171:=Tryz.underlying161
  a171:=Tryz.isAgg161
  z171:=Tryz.sizeOf161
  v171:=Tryz.zeroValue161
  t173:=Tryz.underlying163
  a173:=Tryz.isAgg163
  z173:=Tryz.sizeOf163
  v173:=Tryz.zeroValue163
  t175:=Tryz.underlying186
  a175:=Tryz.isAgg186
  z175:=Tryz.sizeOf186
  v175:=Tryz.zeroValue186
  t210:=Tryz.underlying190
  a210:=Tryz.isAgg190
  z210:=Tryz.sizeOf190
  v210:=Tryz.zeroValue190
  t212:=Tryz.underlying172
  a212:=Tryz.isAgg172
  z212:=Tryz.sizeOf172
  v212:=Tryz.zeroValue172
  t213:=Tryz.underlying173
  a213:=Tryz.isAgg173
  z213:=Tryz.sizeOf173
  t232:=Tryz.underlying192
  a232:=Tryz.isAgg192
  z232:=Tryz.sizeOf192
  v232:=Tryz.zeroValue192
  t233:=Tryz.underlying193
  a233:=Tryz.isAgg193
  z233:=Tryz.sizeOf193
  v233:=Tryz.zeroValue193
  g15:=by kernel_rfl
  g16:=by kernel_rfl
  g17:=by kernel_rfl
  g18:=by kernel_rfl
  g19:=by kernel_rfl
  t80:=Tryz.underlying86
  a80:=Tryz.isAgg86
  z80:=Tryz.sizeOf86
  v80:=Tryz.zeroValue86
  i0:=by kernel_rfl
  i2:=by kernel_rfl
  i3:=by kernel_rfl
  i4:=by kernel_rfl
  i5:=by kernel_rfl
  i9:=by kernel_rfl
  i20:=by kernel_rfl
  i21:=by kernel_rfl
  i37:=by kernel_rfl
  i46:=by kernel_rfl
  i51:=by kernel_rfl
  i53:=by kernel_rfl
  i75:=by kernel_rfl
  i76:=by kernel_rfl
  i80:=by kernel_rfl
  i85:=by kernel_rfl
  i127:=by kernel_rfl
  i143:=by kernel_rfl
  i145:=by kernel_rfl
  i167:=by kernel_rfl
  i168:=by kernel_rfl
  i171:=by kernel_rfl
  i173:=by kernel_rfl
  i175:=by kernel_rfl
  i210:=by kernel_rfl
  i212:=by kernel_rfl
  i232:=by kernel_rfl
  i233:=by kernel_rfl
  m15:=by kernel_rfl
  m16:=by kernel_rfl
  m17:=by kernel_rfl
  m18:=by kernel_rfl
  m19:=by kernel_rfl
  c0:=by kernel_rfl
  c2:=by kernel_rfl
  c3:=by kernel_rfl
  c4:=by kernel_rfl
  c5:=by kernel_rfl
  c9:=by kernel_rfl
  c20:=by kernel_rfl
  c21:=by kernel_rfl
  c37:=by kernel_rfl
  c46:=by kernel_rfl
  c51:=by kernel_rfl
  c53:=by kernel_rfl
  c75:=by kernel_rfl
  c76:=by kernel_rfl
  c80:=by kernel_rfl
  c85:=by kernel_rfl
  c127:=by kernel_rfl
  c143:=by kernel_rfl
  c145:=by kernel_rfl
  c167:=by kernel_rfl
  c168:=by kernel_rfl
  c171:=by kernel_rfl
  c173:=by kernel_rfl
  c175:=by kernel_rfl
  c210:=by kernel_rfl
  c212:=by kernel_rfl
  c213:=by kernel_rfl
  c232:=by kernel_rfl
  c233:=by kernel_rfl}
open Go.RowKit in
theorem Tryz.strconv_Atoi_ok (s:ByteArray) (hmax:s.size≤9223372036854775806) (v:Int) (h:Lib.atoiAll s.data.toList= .ok v) (w:World):
    Calls Tryz.prog 121 #[.string s] w fun e w'=>e= .returned (.tuple #[.int .i64 v,.nilIface])∧(w'=w∨∃ t,w'=Lib.bytesWorld w 5 t):=Any.strconv_Atoi_ok Tryz.laysC172 s hmax v h w
end Go.Proofs

namespace Go.Proofs.YtohiagaclfaolaaGreatDoor.Tx
open Go.Proofs.YtohiagaclfaolaaGreatDoor
open Go Go.Fw
set_option maxRecDepth 20000
theorem pc_below {P:Program} {f:FuncId} {args:List AV} {v:Value} (h:∀ (C:Nat→Nat→Option Value) (w:World) (vs:List Value),RL C args vs→(∀ k o u,C k o=some u→w.cell? ⟨k,o,none⟩=some u)→Calls P f vs.toArray w fun e w'=>e= .returned v∧RowKit.Below w.heap.size w w'):PC P f args (.lit v):=by
  intro C w vs hl hin
  refine (h C w vs hl hin.1).mono ?_
  rintro e w' ⟨rfl,hb⟩
  have hm:=More.of_below hb
  exact ⟨v,C,rfl,CLe.refl _,.lit _,⟨fun k o u hu=>hm.cell (hin.1 k o u hu),hin.2.up hm.block⟩,hm,fun _ _ _=>rfl⟩
theorem lit1 {C:Nat→Nat→Option Value} {a:Value} {vs:List Value} (h:RL C [.lit a] vs):vs=[a]:=by
  obtain ⟨h1,h2⟩:=h
  match vs,h1 with
  |[x],_=>have h:=h2 0 (by simp);simp only [List.getD_cons_zero] at h;cases h;rfl
theorem below_refl (w:World):RowKit.Below w.heap.size w w:=More.below (More.refl w)
theorem join_pc {xs:List (List UInt8)} {sep:List UInt8} (hx:xs.length≤1000000) (hl:(Lib.join xs sep).length≤1000000):PC Tryz.prog 82 [.sl false 1 (txs xs),.lit (.string (bs sep))] (.lit (.string (bs (Lib.join xs sep)))):=by
  refine pc_below fun C w vs hv hin=>?_
  obtain ⟨h1,h2⟩:=hv
  match vs,h1 with
  |[a,b],_=>
   have ha:RC C (.sl false 1 (txs xs)) a:=h2 0 (by simp)
   have hb:RC C (.lit (.string (bs sep))) b:=h2 1 (by simp)
   have eb:b= .string (bs sep):=by
     generalize b=b at hb
     cases hb;rfl
   subst eb
   generalize hX:txs xs=X at ha
   cases ha with
   |nil full sz p=>
    have:xs=[]:=by
      cases xs with
      |nil=>rfl
      |cons x l=>cases hX
    subst this
    refine (Tryz.strings_Join_none p 0 (bs sep) w).mono ?_
    rintro e w' ⟨rfl,rfl⟩
    exact ⟨rfl,below_refl w'⟩
   |sl full sz X b off cap f hc hm hf hw hC h1' hR=>
    subst hX
    have hfl:flat (txs xs)=txs xs:=flat_lits (fun w=> .string (bs w)) xs
    have hlen:(txs xs).length=xs.length:=txs_length xs
    rw [hfl,hlen] at hC hR h1'
    have hcell:∀ (j:Nat) (x:ByteArray),(xs.map bs)[j]? =some x→w.cell? ⟨b,off+j,none⟩=some (.string x):=fun j x hj=>by
      have hj2:j<xs.length:=by have:=(List.getElem?_eq_some_iff.1 hj).1;simpa using this
      have hr:=hR j hj2
      have e:(txs xs).getD j .top= .lit (.string x):=by
        simp only [List.getElem?_map] at hj
        simp only [txs,List.getD_eq_getElem?_getD,List.getElem?_map]
        cases hq:xs[j]? with
        |none=>rw [hq] at hj;cases hj
        |some y=>rw [hq] at hj;cases hj;rfl
      rw [e] at hr
      have hv:f j= .string x:=by
        generalize f j=v at hr
        cases hr;rfl
      rw [hin _ _ _ (hC j hj2),hv]
    by_cases h0:xs.length=0
    ·have hx0:xs=[]:=List.length_eq_zero_iff.1 h0
     subst hx0
     refine (Tryz.strings_Join_none _ cap (bs sep) w).mono ?_
     rintro e w' ⟨rfl,rfl⟩
     exact ⟨rfl,below_refl w'⟩
    ·have hb:b<w.heap.size:=by
       have h:=hC 0 (by omega)
       exact World.block_lt_of_cell? w _ (hin _ _ _ h)
     have hmap:(xs.map bs).map (fun x:ByteArray=>x.data.toList)=xs:=by simp [List.map_map,Function.comp_def,data_bs]
     have hj:=Tryz.strings_Join b off cap (xs.map bs) (bs sep) w hcell hb (by rw [List.length_map];omega) (by rw [List.length_map,←hlen];exact hc) (by rw [hmap,data_bs];omega)
     rw [hmap,data_bs,List.length_map,←hlen] at hj
     exact hj.mono fun e w' h=>h
end Go.Proofs.YtohiagaclfaolaaGreatDoor.Tx

namespace Go.Proofs.YtohiagaclfaolaaGreatDoor.Tx
open Go.Proofs.YtohiagaclfaolaaGreatDoor
open Go Go.Fw
set_option maxRecDepth 20000
theorem txs_hd (w:List UInt8) (l:List (List UInt8)):(txs (w::l)).getD 0 (.lit (.string (bs [])))= .lit (.string (bs w)):=rfl
noncomputable def Z1:Env:=envJ (P:=Tryz.prog) jkT zer (fun _=>false) (fun _=>false) [] []
theorem Z1_ok:EnvOk Tryz.prog Z1:=envJOk zer_ok
theorem named_ec {b0:AObj} {n:ByteArray} {a b c:AV} {fl:Bool} {w:List UInt8} {ws:List (List UInt8)} {b2:AObj} {k:AV→List AObj→Prop} (hs:(AV.agg [.lit (.string n),a,b,c]).solid=true)
    (hc:(AV.agg [.lit (.string n),a,b,c]).cells=[.lit (.string n),a,b,c])
    (hk:k (.lit (.bool (eqS n (bs w)))) [b0,.box 117 [.sl fl 1 (txs (w::ws))],b2]):
    EC Tryz.prog 109 [.agg [.lit (.string n),a,b,c],.ref 1 0] [b0,.box 117 [.sl fl 1 (txs (w::ws))],b2] k:=by
  refine ec_fin fun hbd=>?_
  refine ecR Z1_ok (kp109) Tryz.func109 [.tmp 3] (h:=fun KF=>?_)
  unfold Z1
  with_reducible repeat' first|(refine nx ?_;intros)|apply And.intro|intro vr|((first|refine ny ?_|refine t_dwh (h:=fun K KL=>?_));intros;simp only [go_sem,kp109,geff,hs,hc,txs_hd,txs_length,List.length_cons,yes])
  all_goals try exact nd
  all_goals (refine nl ?_;simp only [go_sem,finE])
  exact ⟨_,_,rfl,LeA.refl _,hbd,hk⟩
end Go.Proofs.YtohiagaclfaolaaGreatDoor.Tx

namespace Go.Proofs.YtohiagaclfaolaaGreatDoor.Tx
open Go.Proofs.YtohiagaclfaolaaGreatDoor
open Go Go.Fw
set_option maxRecDepth 20000
structure FormsC (cs:List AV) (nm:Nat→ByteArray) (A C:Nat→AV) (B:Nat→Bool):Prop where
  hA:∀ i,i<16→(∃ p,A i= .sl true 1 p)∨A i= .lit (.slice none 0 0)
  hC:∀ i,i<16→(∃ p,C i= .sl true 1 p)∨C i= .lit (.slice none 0 0)
  len:cs.length=64
  at_:∀ i,i<16→(cs.drop (i*4)).take 4=[.lit (.string (nm i)),A i,.lit (.bool (B i)),C i]
  sol:∀ i,i<16→(AV.agg [.lit (.string (nm i)),A i,.lit (.bool (B i)),C i]).solid=true
  cel:∀ i,i<16→(AV.agg [.lit (.string (nm i)),A i,.lit (.bool (B i)),C i]).cells=[.lit (.string (nm i)),A i,.lit (.bool (B i)),C i]
noncomputable def ecn109:ECon Tryz.prog where
  f:=109
  c:=fun args σ k=>match args,σ with
   |[.agg [.lit (.string n),a,b,c],.ref 1 0],[b0,.box 117 [.sl fl 1 l],b2]=>match l with
    |.lit (.string w)::l'=>∃ ws,l'=txs ws∧(AV.agg [.lit (.string n),a,b,c]).solid=true∧(AV.agg [.lit (.string n),a,b,c]).cells=[.lit (.string n),a,b,c]∧k (.lit (.bool (eqS n w))) [b0,.box 117 [.sl fl 1 l],b2]
    |_=>False
   |_,_=>False
  ok:=by
   intro args σ k h
   split at h
   ·split at h
    ·rename_i w l'
     obtain ⟨ws,rfl,h1,h2,h3⟩:=h
     obtain ⟨w,rfl⟩:=bs_ex w
     exact named_ec (ws:=ws) h1 h2 h3
    ·exact h.elim
   ·exact h.elim
  fk:=fk109
theorem ecn109_f:ecn109.f=109:=rfl
theorem ecn109_c {n:ByteArray} {a b c:AV} {fl:Bool} {b0 b2:AObj} {w:List UInt8} {ws:List (List UInt8)} {k:AV→List AObj→Prop}:ecn109.c [.agg [.lit (.string n),a,b,c],.ref 1 0] [b0,.box 117 [.sl fl 1 (txs (w::ws))],b2] k=
    (∃ us,txs ws=txs us∧(AV.agg [.lit (.string n),a,b,c]).solid=true∧(AV.agg [.lit (.string n),a,b,c]).cells=[.lit (.string n),a,b,c]∧k (.lit (.bool (eqS n (bs w)))) [b0,.box 117 [.sl fl 1 (txs (w::ws))],b2]):=rfl
theorem ex_txs1 {ws:List (List UInt8)} {p:Prop}:(∃ us,txs ws=txs us∧p)=p:=by
  apply propext
  exact ⟨fun ⟨_,_,h⟩=>h,fun h=>⟨ws,rfl,h⟩⟩
attribute [go_sem] ecn109_f ecn109_c ex_txs1
noncomputable def Z2:Env:=envJ (P:=Tryz.prog) jkT zer (fun _=>false) (fun _=>false) [] [ecn109]
theorem Z2_ok:EnvOk Tryz.prog Z2:=envJOk zer_ok
def idxF (nm:Nat→ByteArray) (w:List UInt8):Nat→Nat→Int
  |0,_=> -1
  |f+1,i=>if eqS (nm i) (bs w)=true then (i:Int) else idxF nm w f (i+1)
set_option maxHeartbeats 1000000 in
theorem idxf_ec {cs:List AV} {nm:Nat→ByteArray} {A C:Nat→AV} {B:Nat→Bool} (hf:FormsC cs nm A C B) {b0:AObj} {fl:Bool} {w:List UInt8} {ws:List (List UInt8)} {t:TypeId} {k:AV→List AObj→Prop}
    (hk:k (.lit (.int .i64 (idxF nm w 16 0))) [b0,.box 117 [.sl fl 1 (txs (w::ws))],.box t cs]):
    EC Tryz.prog 108 [.bsl 2 16,.fn (.func 109) [] [.ref 1 0]] [b0,.box 117 [.sl fl 1 (txs (w::ws))],.box t cs] k:=by
  generalize hR:idxF nm w 16 0=R at hk
  have h64:=hf.len
  refine ecR Z2_ok (kp108) Tryz.func108 [.tmp 4] (h:=fun KF=>?_)
  unfold Z2
  with_reducible repeat' first|(refine nx ?_;intros)|refine t_br (fun hc=>?_) fun hc=>?_|apply And.intro|intro vr|(refine ny ?_;intros;simp only [go_sem,kp108,geff])
  all_goals try exact nd
  refine t_loopF (ι:={i:Nat // i≤16∧idxF nm w (16 - i) i=R}) (fun i=>[(8,.lit (.int .i64 i.1))]) (fun i=>[b0,.box 117 [.sl fl 1 (txs (w::ws))],.box t cs]) (fun i=>16 - i.1) ⟨0,by omega,hR⟩ ?_ ?_
  ·exact lf
  rintro ⟨i,hi,hF⟩ K0
  rcases Nat.lt_or_ge i 16 with hc|hc
  ·have g3:decide ((i:Int)<((16:Nat):Int))=true:=decide_eq_true (by omega)
   have g4:i*4+4≤cs.length:=by omega
   have ha:=hf.at_ i hc
   have hs:=hf.sol i hc
   have hl:=hf.cel i hc
   rw [show 16 - i=(15 - i)+1 by omega,idxF] at hF
   have hlt:(i:Int)<16:=by omega
   generalize B i=bi at ha hs hl
   rcases hf.hA i hc with ⟨p,e1⟩|e1<;>rcases hf.hC i hc with ⟨q,e2⟩|e2
   all_goals
     rw [e1,e2] at ha hs hl
     cases h4:eqS (nm i) (bs w) with
     |true=>
      rw [if_pos h4] at hF
      with_reducible repeat' first|(refine nx ?_;intros)|refine t_br (fun hc=>?_) fun hc=>?_|apply And.intro|intro vr|(refine ny ?_;intros;simp only [go_sem,kp108,geff,g3,hlt,g4,ha,hs,hl,h4,Int.toNat_natCast,yes])
      all_goals try exact nd
      all_goals (refine nl ?_;simp only [go_sem])
      rw [hF];exact hk
     |false=>
      rw [if_neg (by rw [h4];decide)] at hF
      with_reducible repeat' first|(refine nx ?_;intros)|refine t_br (fun hc=>?_) fun hc=>?_|apply And.intro|intro vr|(refine ny ?_;intros;simp only [go_sem,kp108,geff,g3,hlt,g4,ha,hs,hl,h4,Int.toNat_natCast,yes])
      all_goals try exact nd
      exact ⟨⟨i+1,by omega,by rw [←hF];congr 1;omega⟩,wf,lf⟩
  ·have g3:decide ((i:Int)<((16:Nat):Int))=false:=decide_eq_false (by omega)
   rw [show 16 - i=0 by omega,idxF] at hF
   with_reducible repeat' first|(refine nx ?_;intros)|refine t_br (fun hc=>?_) fun hc=>?_|apply And.intro|intro vr|(refine ny ?_;intros;simp only [go_sem,kp108,geff,g3])
   all_goals try exact nd
   all_goals (refine nl ?_;simp only [go_sem])
   rw [hF];exact hk
end Go.Proofs.YtohiagaclfaolaaGreatDoor.Tx

namespace Go.Proofs.YtohiagaclfaolaaGreatDoor.Tx
open Go.Proofs.YtohiagaclfaolaaGreatDoor
open Go Go.Fw Go.RowKit
set_option maxRecDepth 20000
theorem rc_lit {C:Nat→Nat→Option Value} {a v:Value} (h:RC C (.lit a) v):v=a:=by
  generalize hz:AV.lit a=z at h
  cases h<;>first|(cases hz;rfl)|cases hz
theorem pc_belowT {f:FuncId} {args:List AV} {v:Value} (h:∀ (C:Nat→Nat→Option Value) (w:World) (vs:List Value),RL C args vs→inW C w→Calls Tryz.prog f vs.toArray w fun e w'=>e= .returned v∧RowKit.Below w.heap.size w w'):PC Tryz.prog f args (.lit v):=by
  intro C w vs hl hin
  refine (h C w vs hl hin).mono ?_
  rintro e w' ⟨rfl,hb⟩
  have hm:=More.of_below hb
  exact ⟨v,C,rfl,CLe.refl _,.lit _,⟨fun k o u hu=>hm.cell (hin.1 k o u hu),hin.2.up hm.block⟩,hm,fun _ _ _=>rfl⟩
theorem tabs_in {C:Nat→Nat→Option Value} {w:World} (h:inW C w):Tabs w:=h.2
theorem below_grow (w:World) (k:Nat) (os:Array Obj):RowKit.Below w.heap.size w (Go.Sort.grow (w.drewN k) os):=
  ⟨rfl,rfl,rfl,by simp [Go.Sort.grow,World.drewN],fun j hj=>by simp only [Go.Sort.grow,World.drewN];rw [Array.getElem?_append_left hj]⟩
theorem itoa_all {n:Int} (h0: -9223372036854775808≤n) (h1:n≤9223372036854775807):PC Tryz.prog 81 [.lit (.int .i64 n)] (.lit (.string (bs (Lib.itoa n)))):=by
  refine pc_belowT fun C w vs hv hin=>?_
  rw [lit1 hv]
  refine (Tryz.strconv_Itoa n h0 h1 w (tabs_in hin).pow).mono ?_
  rintro e w' ⟨rfl,k,os,rfl⟩
  exact ⟨rfl,below_grow w k os⟩
theorem lit_calls {f:FuncId} {args:List Value} {r:Value} (h:PC Tryz.prog f (args.map .lit) (.lit r)) (w:World) (hT:TbIn w):Calls Tryz.prog f args.toArray w fun e w'=>e= .returned r∧RowKit.Below w.heap.size w w':=by
  refine (h (fun _ _=>none) w args ⟨by simp,fun i hi=>?_⟩ ⟨(fun _ _ _ h=>by cases h),hT⟩).mono ?_
  ·have hi':i<args.length:=by simpa using hi
   rw [List.getD_eq_getElem?_getD,List.getD_eq_getElem?_getD,List.getElem?_map,List.getElem?_eq_getElem hi']
   exact .lit _
  ·rintro e w' ⟨v,C',rfl,_,h2,_,h4,_⟩
   rw [rc_lit h2];exact ⟨rfl,h4.below⟩
theorem atoi_bad {l:List UInt8} (hl:l.length≤1000000) (h:∀ n,Lib.atoiAll l≠ .ok n) (w:World) (hT:Tabs w):
    Calls Tryz.prog 121 #[.string (bs l)] w fun e w'=>(∃ n t v,e= .returned (.tuple #[.int .i64 n,.iface t v]))∧RowKit.Below w.heap.size w w':=by
  have hs:(bs l).size≤281474976710656:=by rw [bs_size];omega
  have hd:(bs l).data.toList=l:=data_bs l
  cases hq:Lib.atoiAll l with
  |ok n=>exact absurd hq (h n)
  |_=>
   first
     |(obtain ⟨t,p,hv⟩:=hT.syn
       refine (Any.strconv_Atoi_syntax_var Tryz.laysC172 (bs l) hs (by rw [hd];exact hq) t p w hv).mono ?_
       rintro e w' ⟨N,rfl,_,_,hb⟩
       exact ⟨⟨_,_,_,rfl⟩,hb⟩)
     |(obtain ⟨t,p,hv⟩:=hT.rng
       refine (Any.strconv_Atoi_range_var Tryz.laysC172 (bs l) hs (by rw [hd];exact hq) t p w hv).mono ?_
       rintro e w' ⟨N,rfl,_,_,hb⟩
       exact ⟨⟨_,_,_,rfl⟩,hb⟩)
theorem atoi_ok {l:List UInt8} {n:Int} (hl:l.length≤1000000) (h:Lib.atoiAll l= .ok n):PC Tryz.prog 121 [.lit (.string (bs l))] (.lit (.tuple #[.int .i64 n,.nilIface])):=by
  refine pc_belowT fun C w vs hv hin=>?_
  rw [lit1 hv]
  have hd:(bs l).data.toList=l:=data_bs l
  refine (Tryz.strconv_Atoi_ok (bs l) (by rw [bs_size];omega) n (by rw [hd];exact h) w).mono ?_
  rintro e w' ⟨rfl,rfl|⟨t,rfl⟩⟩
  ·exact ⟨rfl,below_refl _⟩
  ·exact ⟨rfl,rfl,rfl,rfl,by rw [Lib.bytesWorld_size];omega,fun j hj=>Lib.bytesWorld_at_old w 5 t j hj⟩
theorem tabs_up {w w':World} (h:Tabs w) (hb:RowKit.Below w.heap.size w w'):Tabs w':=TB.up w w' hb.block h
def wrongV:Value:= .iface 123 (.agg #[])
theorem below_trans2 {a b c:World} (h:Below a.heap.size a b) (k:Below b.heap.size b c):Below a.heap.size a c:=((More.of_below h).trans (More.of_below k)).below
theorem trim_le {l:List UInt8} {n:Nat} (hl:l.length≤n):(trimP [114] l).length≤n:=by
  unfold trimP
  split
  ·rw [List.length_drop];omega
  ·exact hl
def int? (t:List UInt8):Option Int:=match Lib.atoiAll (trimP [114] t) with
  |.ok n=>some n
  |_=>none
theorem int_some {l:List UInt8} {n:Int} (h:int? l=some n):Lib.atoiAll (trimP [114] l)= .ok n:=by
  unfold int? at h
  split at h
  ·cases h;assumption
  ·cases h
theorem int_none {l:List UInt8} (h:int? l=none) (n:Int):Lib.atoiAll (trimP [114] l)≠ .ok n:=by
  intro e
  unfold int? at h
  rw [e] at h;cases h
theorem integer_bad {l:List UInt8} (hl:l.length≤1000000) (h:int? l=none) (w:World) (hT:Tabs w):
    Calls Tryz.prog 110 #[.string (bs l)] w fun e w'=>e= .panicked [{v:=wrongV,recovered:=false}]∧RowKit.Below w.heap.size w w':=by
  have h1:=lit_calls (args:=[.string (bs l),.string (bs [114])]) (trim_pc (l:=l) (m:=[114]) (by decide)) w hT
  go_enter Tryz.func110,Tryz.ntmps110
  go_wp2_with (go_at_call 122;refine h1.mono ?_)
  rintro e w1 ⟨rfl,b1⟩
  go_wp2_with (go_at_call 121;refine (atoi_bad (trim_le hl) (int_none h) w1 (tabs_up hT b1)).mono ?_)
  rintro e w2 ⟨⟨n,t,v,rfl⟩,b2⟩
  go_wp2
  simp [Instr.panic,Oper.upon,Exit.then]
  exact ⟨rfl,rfl,below_trans2 b1 b2⟩
theorem integer_ok {l:List UInt8} {n:Int} (hl:l.length≤1000000) (h:int? l=some n) (w:World) (hT:Tabs w):
    Calls Tryz.prog 110 #[.string (bs l)] w fun e w'=>e= .returned (.int .i64 n)∧RowKit.Below w.heap.size w w':=by
  have h1:=lit_calls (args:=[.string (bs l),.string (bs [114])]) (trim_pc (l:=l) (m:=[114]) (by decide)) w hT
  go_enter Tryz.func110,Tryz.ntmps110
  go_wp2_with (go_at_call 122;refine h1.mono ?_)
  rintro e w1 ⟨rfl,b1⟩
  have h2:=lit_calls (args:=[.string (bs (trimP [114] l))]) (atoi_ok (trim_le hl) (int_some h)) w1 (tabs_up hT b1)
  go_wp2_with (go_at_call 121;refine h2.mono ?_)
  rintro e w2 ⟨rfl,b2⟩
  go_wp2
  go_ret
  exact ⟨rfl,below_trans2 b1 b2⟩
theorem r_lit {G:Gh} {a v:Value} (h:R G (.lit a) v):v=a:=by
  generalize hz:AV.lit a=z at h
  cases h with
  |clo x v h=>subst hz;exact rc_lit h
  |_=>cases hz
theorem rlg_lits {G:Gh} {args:List Value} {vs:List Value} (h:RLG G (args.map .lit) vs):vs=args:=by
  obtain ⟨h1,h2⟩:=h
  refine List.ext_getElem (by simpa using h1) fun i hi hj=>?_
  have:=h2 i (by simpa using hj)
  rw [List.getD_eq_getElem?_getD,List.getD_eq_getElem?_getD,List.getElem?_map,List.getElem?_eq_getElem hj,List.getElem?_eq_getElem hi] at this
  exact r_lit this
theorem xec_panic {X:AV→List AObj→Prop} {f:FuncId} {args:List Value} {pv:Value} {σ:List AObj} {k:AV→List AObj→Prop}
    (h:∀ w:World,Tabs w→Calls Tryz.prog f args.toArray w fun e w'=>e= .panicked [{v:=pv,recovered:=false}]∧RowKit.Below w.heap.size w w') (hX:X (.lit pv) σ):XEC Tryz.prog X f (args.map .lit) σ k:=by
  intro cx G w vs hpx hr hl
  rw [rlg_lits hl]
  refine (h w (tabs_in hr.inW)).mono ?_
  rintro e w' ⟨rfl,hb⟩
  exact ⟨pv,G,σ,.lit pv,rfl,Gh.le.refl G,hr.more (More.of_below hb),.clo _ _ (.lit _),by rw [hpx];exact hX⟩
theorem xec_ret {X:AV→List AObj→Prop} {f:FuncId} {args:List Value} {v:Value} {σ:List AObj} {k:AV→List AObj→Prop}
    (h:∀ w:World,Tabs w→Calls Tryz.prog f args.toArray w fun e w'=>e= .returned v∧RowKit.Below w.heap.size w w') (hk:k (.lit v) σ):XEC Tryz.prog X f (args.map .lit) σ k:=by
  intro cx G w vs hpx hr hl
  rw [rlg_lits hl]
  refine (h w (tabs_in hr.inW)).mono ?_
  rintro e w' ⟨rfl,hb⟩
  exact ⟨G,σ,.lit v,Gh.le.refl G,hr.more (More.of_below hb),.clo _ _ (.lit _),hk⟩
def intX (X:AV→List AObj→Prop) (s:List UInt8) (σ:List AObj) (k:AV→List AObj→Prop):Prop:=match int? s with
  |some n=>k (.lit (.int .i64 n)) σ
  |none=>X (.lit wrongV) σ
noncomputable def xcon110 (X:AV→List AObj→Prop):XCon Tryz.prog X where
  f:=110
  c:=fun args σ k=>match args with
   |[.lit (.string s)]=>(ul s).length≤1000000∧intX X (ul s) σ k
   |_=>False
  ok:=by
   intro args σ k h
   split at h
   ·rename_i s
    obtain ⟨l,rfl⟩:=bs_ex s
    rw [ul_bs] at h
    obtain ⟨hl,h⟩:=h
    unfold intX at h
    split at h
    ·rename_i n hn
     exact xec_ret (args:=[.string (bs l)]) (fun w hT=>integer_ok hl hn w hT) h
    ·rename_i hn
     exact xec_panic (args:=[.string (bs l)]) (fun w hT=>integer_bad hl hn w hT) h
   ·exact h.elim
  fk:=fk110
theorem xcon110_f {X:AV→List AObj→Prop}:(xcon110 X).f=110:=rfl
theorem xcon110_c {X:AV→List AObj→Prop} {l:List UInt8} {σ:List AObj} {k:AV→List AObj→Prop}:(xcon110 X).c [.lit (.string (bs l))] σ k=(l.length≤1000000∧intX X l σ k):=by
  show ((ul (bs l)).length≤1000000∧intX X (ul (bs l)) σ k)=_
  rw [ul_bs]
end Go.Proofs.YtohiagaclfaolaaGreatDoor.Tx

namespace Go.Proofs.YtohiagaclfaolaaGreatDoor.Tx
open Go.Proofs.YtohiagaclfaolaaGreatDoor
open Go Go.Fw Bm
set_option maxRecDepth 20000
def opW (k n:Int):List UInt8:=(if k=0 then [114] else [])++Lib.itoa n
def opI (x:Ins) (i:Nat):Int:=[x.a,x.b,x.c,x.d].getD i 0
def headW (x:Ins):List (List UInt8):=ul (namL x.code)::(if x.code=5 then [ul x.prim] else [])
def restW (x:Ins) (j:Nat):List (List UInt8):=(List.range j).map fun i=>opW ((kndS x).getD i 0) (opI x i)
def wordsB (x:Ins):List (List UInt8):=headW x++restW x (kndS x).length
def lineB (x:Ins):List UInt8:=Lib.join (wordsB x) [32]
theorem restW_succ (x:Ins) (i:Nat):restW x i++[opW ((kndS x).getD i 0) (opI x i)]=restW x (i+1):=by simp [restW,List.range_succ]
theorem bs_ul (s:ByteArray):bs (ul s)=s:=bs_data s
noncomputable def con81:PCon Tryz.prog where
  f:=81
  c:=fun
   |[.lit (.int .i64 n)]=>some (inI64 n,.lit (.string (bs (Lib.itoa n))))
   |_=>none
  ok:=by
   intro args p r hc hp
   split at hc
   ·cases hc
    exact itoa_all hp.1 hp.2
   ·cases hc
  fk:=fk81
theorem con81_f:con81.f=81:=rfl
theorem con81_c {n:Int}:con81.c [.lit (.int .i64 n)]=some (inI64 n,.lit (.string (bs (Lib.itoa n)))):=rfl
def unT:List AV→Option (List (List UInt8))
  |[]=>some []
  |.lit (.string s)::l=>(unT l).map fun m=>ul s::m
  |_::_=>none
theorem unT_txs:∀ l:List (List UInt8),unT (txs l)=some l
  |[]=>rfl
  |w::l=>by
   show (unT (txs l)).map (fun m=>ul (bs w)::m)=_
   rw [unT_txs l,ul_bs];rfl
theorem unT_inv:∀ {xs:List AV} {l:List (List UInt8)},unT xs=some l→xs=txs l
  |[],l,h=>by cases h;rfl
  |.lit (.string s)::xs,l,h=>by
   simp only [unT,Option.map_eq_some_iff] at h
   obtain ⟨m,h1,rfl⟩:=h
   rw [unT_inv h1]
   simp [txs,bs_ul]
noncomputable def con82:PCon Tryz.prog where
  f:=82
  c:=fun
   |[.sl _ 1 xs,.lit (.string sep)]=>match unT xs with
    |some l=>some (l.length≤1000000∧(Lib.join l (ul sep)).length≤1000000,.lit (.string (bs (Lib.join l (ul sep)))))
    |none=>none
   |_=>none
  ok:=by
   intro args p r hc hp
   split at hc
   ·rename_i xs sep
    split at hc
    ·rename_i l hl
     cases hc
     rw [unT_inv hl]
     have h:=join_pc (xs:=l) (sep:=ul sep) hp.1 hp.2
     rw [bs_ul] at h
     exact PC.weak h ⟨LeA.full _ _ _,LeA.refl _,trivial⟩
    ·cases hc
   ·cases hc
  fk:=fk82
theorem con82_f:con82.f=82:=rfl
theorem con82_c {b:Bool} {l:List (List UInt8)} {sep:List UInt8}:con82.c [.sl b 1 (txs l),.lit (.string (bs sep))]=some (l.length≤1000000∧(Lib.join l sep).length≤1000000,.lit (.string (bs (Lib.join l sep)))):=by
  show (match unT (txs l) with
    |some l=>some (l.length≤1000000∧(Lib.join l (ul (bs sep))).length≤1000000,AV.lit (.string (bs (Lib.join l (ul (bs sep))))))
    |none=>none)=_
  rw [unT_txs,ul_bs]
theorem r_bs (l:List UInt8):(⟨#[114]⟩:ByteArray)++bs l=bs (114::l):=by rw [show (⟨#[114]⟩:ByteArray)=bs [114] from rfl,bs_app];rfl
theorem itoa_len {n:Int} (h0: -9223372036854775808≤n) (h1:n≤9223372036854775807):(Lib.itoa n).length≤21:=Lib.itoa_length_le n h0 h1
theorem txs_app1 (l:List (List UInt8)) (w:List UInt8):txs l++txs [w]=txs (l++[w]):=by simp [txs]
attribute [go_sem] con81_f con81_c con82_f con82_c con76_f con76_c con77_f con77_c
noncomputable def Y0:Env:=envJ (P:=Tryz.prog) jkV zer (fun _=>false) (fun _=>false) [con76,con77,con81,con82] []
theorem Y0_ok:EnvOk Tryz.prog Y0:=envJOk zer_ok
structure Sm (x:Ins):Prop where
  len:(kndS x).length≤4
  n:∀ i,i<4→inI64 (opI x i)
  line:(lineB x).length≤1000000
set_option maxHeartbeats 8000000 in
theorem line_pc {x:Ins} (h:Sm x):PC Tryz.prog 48 [opV x] (.lit (.string (bs (lineB x)))):=by
  obtain ⟨hl4,hn,hll⟩:=h
  have hsu:=restW_succ x
  have hR:Lib.join (headW x++restW x (kndS x).length) [32]=lineB x:=rfl
  have hW:(headW x++restW x (kndS x).length).length≤1000000:=by
    have h1:(headW x).length≤2:=by unfold headW;split<;>simp
    have h2:(restW x (kndS x).length).length=(kndS x).length:=by simp [restW]
    rw [List.length_append];omega
  have h0:=hn 0 (by omega)
  have h1:=hn 1 (by omega)
  have h2:=hn 2 (by omega)
  have h3:=hn 3 (by omega)
  have hop:∀ i,opI x i=[x.a,x.b,x.c,x.d].getD i 0:=fun _=>rfl
  have hh:headW x=ul (namL x.code)::(if x.code=5 then [ul x.prim] else []):=rfl
  obtain ⟨k,p,a,b,c,d⟩:=x
  simp only at hh hop
  have hS:shpV ⟨k,p,a,b,c,d⟩= .tup [.agg [.lit (.string (namL k)),.sl false 1 (ints .i64 (kndS ⟨k,p,a,b,c,d⟩)),.lit (.bool (wrtB k)),.sl false 1 (ints .i64 (redS ⟨k,p,a,b,c,d⟩))],.lit (.bool (shpOk ⟨k,p,a,b,c,d⟩))]:=rfl
  simp only [opV]
  generalize headW ⟨k,p,a,b,c,d⟩=hw at*
  generalize hG:restW ⟨k,p,a,b,c,d⟩=rW at*
  have hr0:rW 0=[]:=by rw [←hG];rfl
  generalize opI ⟨k,p,a,b,c,d⟩=oI at*
  generalize kndS ⟨k,p,a,b,c,d⟩=L at*
  generalize redS ⟨k,p,a,b,c,d⟩=M at*
  generalize shpOk ⟨k,p,a,b,c,d⟩=ok at*
  generalize lineB ⟨k,p,a,b,c,d⟩=LB at*
  generalize hN:ul (namL k)=N at*
  have hrl:∀ i,(rW i).length=i:=fun i=>by rw [←hG];simp [restW]
  have hnm:namL k=bs N:=by rw [←hN,bs_ul]
  obtain ⟨q,rfl⟩:=bs_ex p
  rw [ul_bs] at hh
  have hLl:(ints .i64 L).length=L.length:=ints_length _ _
  have hc0:hw=N::(if k=5 then [q] else []):=hh
  cases hk5:(k==5) with
  |true=>
   have hq5:hw=[N,q]:=by rw [hc0,if_pos (by simpa using hk5)]
   have hwl:hw.length≤2:=by rw [hq5];simp
   refine pcR Y0_ok (kp48) Tryz.func48 [.tmp 2] (h:=fun KF=>?_)
   unfold Y0
   have htx:txs [N]++txs [q]=txs (hw++rW 0):=by rw [txs_app1,hr0,hq5,List.append_nil];rfl
   with_reducible repeat' first|(refine nx ?_;intros)|apply And.intro|intro vr|(refine ny ?_;intros;simp only [go_sem,kp48,geff,htx,hS,hnm,hk5,List.cons_append,List.nil_append,yes])
   all_goals try exact nd
   refine t_loopF (ι:={q:Nat×Nat // q.1≤L.length}) (fun i=>[(28,.lit (.int .i64 (i.1.1:Int))),(5,.arr 2 i.1.2)]) (fun i=>[.box 50 [.lit (.int .i64 k),.lit (.string (bs q)),.lit (.int .i64 a),.lit (.int .i64 b),.lit (.int .i64 c),.lit (.int .i64 d)],.box 111 [.lit (.string (bs N)),.sl false 1 (ints .i64 L),.lit (.bool (wrtB k)),.sl false 1 (ints .i64 M)],.arr 9 1 (txs (hw++rW i.1.1)) i.1.2 false]) (fun i=>L.length - i.1.1) ⟨(0,0),by simp⟩ ?_ ?_
   ·exact lf
   rintro ⟨⟨i,v⟩,hi⟩ K0
   simp only at hi
   rcases Nat.lt_or_ge i L.length with hc|hc
   ·rcases (show i=0∨i=1∨i=2∨i=3 by omega) with rfl|rfl|rfl|rfl
    ·have hi0:((((0:Nat):Int)):Int)=0:=rfl
     have g1:decide ((0:Int)<(L.length:Int))=true:=decide_eq_true (by omega)
     have hs:=hsu 0
     have ho:oI 0=a:=hop 0
     rw [ho] at hs h0
     have hil:=itoa_len h0.1 h0.2
     have hrl0:=hrl 0
     cases g2:(L.getD 0 0==0) with
     |true=>
      rw [opW,if_pos (by simpa using g2)] at hs
      have hap:txs (hw++rW 0)++txs [(114::Lib.itoa a)]=txs (hw++rW 1):=by rw [txs_app1,List.append_assoc];exact congrArg (fun z=>txs (hw++z)) hs
      with_reducible repeat' first|(refine nx ?_;intros)|apply And.intro|intro vr|(refine ny ?_;intros;simp only [go_sem,kp48,geff,hi0,g1,g2,hap,r_bs,yes])
      all_goals try exact nd
      exact ⟨⟨(1,v+1),by simp only;omega⟩,wf,lf⟩
     |false=>
      rw [opW,if_neg (by simpa using g2)] at hs
      have hap:txs (hw++rW 0)++txs [(Lib.itoa a)]=txs (hw++rW 1):=by rw [txs_app1,List.append_assoc];exact congrArg (fun z=>txs (hw++z)) hs
      with_reducible repeat' first|(refine nx ?_;intros)|apply And.intro|intro vr|(refine ny ?_;intros;simp only [go_sem,kp48,geff,hi0,g1,g2,hap,r_bs,yes])
      all_goals try exact nd
      exact ⟨⟨(1,v+1),by simp only;omega⟩,wf,lf⟩
    ·have hi0:((((1:Nat):Int)):Int)=1:=rfl
     have g1:decide ((1:Int)<(L.length:Int))=true:=decide_eq_true (by omega)
     have hs:=hsu 1
     have ho:oI 1=b:=hop 1
     rw [ho] at hs h1
     have hil:=itoa_len h1.1 h1.2
     have hrl1:=hrl 1
     cases g2:(L.getD 1 0==0) with
     |true=>
      rw [opW,if_pos (by simpa using g2)] at hs
      have hap:txs (hw++rW 1)++txs [(114::Lib.itoa b)]=txs (hw++rW 2):=by rw [txs_app1,List.append_assoc];exact congrArg (fun z=>txs (hw++z)) hs
      with_reducible repeat' first|(refine nx ?_;intros)|apply And.intro|intro vr|(refine ny ?_;intros;simp only [go_sem,kp48,geff,hi0,g1,g2,hap,r_bs,yes])
      all_goals try exact nd
      exact ⟨⟨(2,v+1),by simp only;omega⟩,wf,lf⟩
     |false=>
      rw [opW,if_neg (by simpa using g2)] at hs
      have hap:txs (hw++rW 1)++txs [(Lib.itoa b)]=txs (hw++rW 2):=by rw [txs_app1,List.append_assoc];exact congrArg (fun z=>txs (hw++z)) hs
      with_reducible repeat' first|(refine nx ?_;intros)|apply And.intro|intro vr|(refine ny ?_;intros;simp only [go_sem,kp48,geff,hi0,g1,g2,hap,r_bs,yes])
      all_goals try exact nd
      exact ⟨⟨(2,v+1),by simp only;omega⟩,wf,lf⟩
    ·have hi0:((((2:Nat):Int)):Int)=2:=rfl
     have g1:decide ((2:Int)<(L.length:Int))=true:=decide_eq_true (by omega)
     have hs:=hsu 2
     have ho:oI 2=c:=hop 2
     rw [ho] at hs h2
     have hil:=itoa_len h2.1 h2.2
     have hrl2:=hrl 2
     cases g2:(L.getD 2 0==0) with
     |true=>
      rw [opW,if_pos (by simpa using g2)] at hs
      have hap:txs (hw++rW 2)++txs [(114::Lib.itoa c)]=txs (hw++rW 3):=by rw [txs_app1,List.append_assoc];exact congrArg (fun z=>txs (hw++z)) hs
      with_reducible repeat' first|(refine nx ?_;intros)|apply And.intro|intro vr|(refine ny ?_;intros;simp only [go_sem,kp48,geff,hi0,g1,g2,hap,r_bs,yes])
      all_goals try exact nd
      exact ⟨⟨(3,v+1),by simp only;omega⟩,wf,lf⟩
     |false=>
      rw [opW,if_neg (by simpa using g2)] at hs
      have hap:txs (hw++rW 2)++txs [(Lib.itoa c)]=txs (hw++rW 3):=by rw [txs_app1,List.append_assoc];exact congrArg (fun z=>txs (hw++z)) hs
      with_reducible repeat' first|(refine nx ?_;intros)|apply And.intro|intro vr|(refine ny ?_;intros;simp only [go_sem,kp48,geff,hi0,g1,g2,hap,r_bs,yes])
      all_goals try exact nd
      exact ⟨⟨(3,v+1),by simp only;omega⟩,wf,lf⟩
    ·have hi0:((((3:Nat):Int)):Int)=3:=rfl
     have g1:decide ((3:Int)<(L.length:Int))=true:=decide_eq_true (by omega)
     have hs:=hsu 3
     have ho:oI 3=d:=hop 3
     rw [ho] at hs h3
     have hil:=itoa_len h3.1 h3.2
     have hrl3:=hrl 3
     cases g2:(L.getD 3 0==0) with
     |true=>
      rw [opW,if_pos (by simpa using g2)] at hs
      have hap:txs (hw++rW 3)++txs [(114::Lib.itoa d)]=txs (hw++rW 4):=by rw [txs_app1,List.append_assoc];exact congrArg (fun z=>txs (hw++z)) hs
      with_reducible repeat' first|(refine nx ?_;intros)|apply And.intro|intro vr|(refine ny ?_;intros;simp only [go_sem,kp48,geff,hi0,g1,g2,hap,r_bs,yes])
      all_goals try exact nd
      exact ⟨⟨(4,v+1),by simp only;omega⟩,wf,lf⟩
     |false=>
      rw [opW,if_neg (by simpa using g2)] at hs
      have hap:txs (hw++rW 3)++txs [(Lib.itoa d)]=txs (hw++rW 4):=by rw [txs_app1,List.append_assoc];exact congrArg (fun z=>txs (hw++z)) hs
      with_reducible repeat' first|(refine nx ?_;intros)|apply And.intro|intro vr|(refine ny ?_;intros;simp only [go_sem,kp48,geff,hi0,g1,g2,hap,r_bs,yes])
      all_goals try exact nd
      exact ⟨⟨(4,v+1),by simp only;omega⟩,wf,lf⟩
   ·have hiL:i=L.length:=by omega
    subst hiL
    have g1:decide ((L.length:Int)<(L.length:Int))=false:=decide_eq_false (by omega)
    subst hR
    with_reducible repeat' first|(refine nx ?_;intros)|apply And.intro|intro vr|(refine ny ?_;intros;simp only [go_sem,kp48,geff,g1])
    all_goals try exact nd
    all_goals (refine nl ?_;simp only [go_sem])
    exact LeA.refl _
  |false=>
   have hq5:hw=[N]:=by rw [hc0,if_neg (by simpa using hk5)]
   have hwl:hw.length≤2:=by rw [hq5];simp
   refine pcR Y0_ok (kp48) Tryz.func48 [.tmp 2] (h:=fun KF=>?_)
   unfold Y0
   with_reducible repeat' first|(refine nx ?_;intros)|apply And.intro|intro vr|(refine ny ?_;intros;simp only [go_sem,kp48,geff,hS,hnm,hk5,List.cons_append,List.nil_append,yes])
   all_goals try exact nd
   refine t_loopF (ι:=Option {q:Nat×Nat // q.1≤L.length}) (fun o=>match o with|none=>[(28,.lit (.int .i64 0)),(5,.sl true 1 (txs [N]))]|some i=>[(28,.lit (.int .i64 (i.1.1:Int))),(5,.arr 2 i.1.2)]) (fun o=>match o with|none=>[.box 50 [.lit (.int .i64 k),.lit (.string (bs q)),.lit (.int .i64 a),.lit (.int .i64 b),.lit (.int .i64 c),.lit (.int .i64 d)],.box 111 [.lit (.string (bs N)),.sl false 1 (ints .i64 L),.lit (.bool (wrtB k)),.sl false 1 (ints .i64 M)]]|some i=>[.box 50 [.lit (.int .i64 k),.lit (.string (bs q)),.lit (.int .i64 a),.lit (.int .i64 b),.lit (.int .i64 c),.lit (.int .i64 d)],.box 111 [.lit (.string (bs N)),.sl false 1 (ints .i64 L),.lit (.bool (wrtB k)),.sl false 1 (ints .i64 M)],.arr 9 1 (txs (hw++rW i.1.1)) i.1.2 false]) (fun o=>match o with|none=>L.length+1|some i=>L.length - i.1.1) none ?_ ?_
   ·simp only [updL_nil,updL_cons,delF_top,delF_upd,Nat.reduceEqDiff,reduceIte]
    refine Le.frameS (by first|rfl|(simp only [go_sem];try rfl)) ?_
    exact lq
   rintro (_|⟨⟨i,v⟩,hi⟩) K0
   ·simp only [updL_nil,updL_cons] at K0 ⊢
    rcases Nat.lt_or_ge 0 L.length with hc|hc
    ·have hi0:((((0:Nat):Int)):Int)=0:=rfl
     have g1:decide ((0:Int)<(L.length:Int))=true:=decide_eq_true (by omega)
     have hs:=hsu 0
     have ho:oI 0=a:=hop 0
     rw [ho] at hs h0
     have hil:=itoa_len h0.1 h0.2
     have hrl0:=hrl 0
     cases g2:(L.getD 0 0==0) with
     |true=>
      rw [opW,if_pos (by simpa using g2)] at hs
      have hap:txs [N]++txs [(114::Lib.itoa a)]=txs (hw++rW 1):=by rw [txs_app1];rw [hr0] at hs;rw [hq5,←hs];rfl
      with_reducible repeat' first|(refine nx ?_;intros)|apply And.intro|intro vr|(refine ny ?_;intros;simp only [go_sem,kp48,geff,hi0,g1,g2,hap,r_bs,yes])
      all_goals try exact nd
      exact ⟨(some ⟨(1,0),by simp only;omega⟩),wf,lf⟩
     |false=>
      rw [opW,if_neg (by simpa using g2)] at hs
      have hap:txs [N]++txs [(Lib.itoa a)]=txs (hw++rW 1):=by rw [txs_app1];rw [hr0] at hs;rw [hq5,←hs];rfl
      with_reducible repeat' first|(refine nx ?_;intros)|apply And.intro|intro vr|(refine ny ?_;intros;simp only [go_sem,kp48,geff,hi0,g1,g2,hap,r_bs,yes])
      all_goals try exact nd
      exact ⟨(some ⟨(1,0),by simp only;omega⟩),wf,lf⟩
    ·have g1:decide ((0:Int)<(L.length:Int))=false:=decide_eq_false (by omega)
     have h00:L.length=0:=by omega
     rw [h00,hr0,hq5,List.append_nil] at hW hR
     subst hR
     with_reducible repeat' first|(refine nx ?_;intros)|apply And.intro|intro vr|(refine ny ?_;intros;simp only [go_sem,kp48,geff,g1])
     all_goals try exact nd
     all_goals (refine nl ?_;simp only [go_sem])
     exact LeA.refl _
   simp only at hi
   rcases Nat.lt_or_ge i L.length with hc|hc
   ·rcases (show i=0∨i=1∨i=2∨i=3 by omega) with rfl|rfl|rfl|rfl
    ·have hi0:((((0:Nat):Int)):Int)=0:=rfl
     have g1:decide ((0:Int)<(L.length:Int))=true:=decide_eq_true (by omega)
     have hs:=hsu 0
     have ho:oI 0=a:=hop 0
     rw [ho] at hs h0
     have hil:=itoa_len h0.1 h0.2
     have hrl0:=hrl 0
     cases g2:(L.getD 0 0==0) with
     |true=>
      rw [opW,if_pos (by simpa using g2)] at hs
      have hap:txs (hw++rW 0)++txs [(114::Lib.itoa a)]=txs (hw++rW 1):=by rw [txs_app1,List.append_assoc];exact congrArg (fun z=>txs (hw++z)) hs
      with_reducible repeat' first|(refine nx ?_;intros)|apply And.intro|intro vr|(refine ny ?_;intros;simp only [go_sem,kp48,geff,hi0,g1,g2,hap,r_bs,yes])
      all_goals try exact nd
      exact ⟨(some ⟨(1,v+1),by simp only;omega⟩),wf,lf⟩
     |false=>
      rw [opW,if_neg (by simpa using g2)] at hs
      have hap:txs (hw++rW 0)++txs [(Lib.itoa a)]=txs (hw++rW 1):=by rw [txs_app1,List.append_assoc];exact congrArg (fun z=>txs (hw++z)) hs
      with_reducible repeat' first|(refine nx ?_;intros)|apply And.intro|intro vr|(refine ny ?_;intros;simp only [go_sem,kp48,geff,hi0,g1,g2,hap,r_bs,yes])
      all_goals try exact nd
      exact ⟨(some ⟨(1,v+1),by simp only;omega⟩),wf,lf⟩
    ·have hi0:((((1:Nat):Int)):Int)=1:=rfl
     have g1:decide ((1:Int)<(L.length:Int))=true:=decide_eq_true (by omega)
     have hs:=hsu 1
     have ho:oI 1=b:=hop 1
     rw [ho] at hs h1
     have hil:=itoa_len h1.1 h1.2
     have hrl1:=hrl 1
     cases g2:(L.getD 1 0==0) with
     |true=>
      rw [opW,if_pos (by simpa using g2)] at hs
      have hap:txs (hw++rW 1)++txs [(114::Lib.itoa b)]=txs (hw++rW 2):=by rw [txs_app1,List.append_assoc];exact congrArg (fun z=>txs (hw++z)) hs
      with_reducible repeat' first|(refine nx ?_;intros)|apply And.intro|intro vr|(refine ny ?_;intros;simp only [go_sem,kp48,geff,hi0,g1,g2,hap,r_bs,yes])
      all_goals try exact nd
      exact ⟨(some ⟨(2,v+1),by simp only;omega⟩),wf,lf⟩
     |false=>
      rw [opW,if_neg (by simpa using g2)] at hs
      have hap:txs (hw++rW 1)++txs [(Lib.itoa b)]=txs (hw++rW 2):=by rw [txs_app1,List.append_assoc];exact congrArg (fun z=>txs (hw++z)) hs
      with_reducible repeat' first|(refine nx ?_;intros)|apply And.intro|intro vr|(refine ny ?_;intros;simp only [go_sem,kp48,geff,hi0,g1,g2,hap,r_bs,yes])
      all_goals try exact nd
      exact ⟨(some ⟨(2,v+1),by simp only;omega⟩),wf,lf⟩
    ·have hi0:((((2:Nat):Int)):Int)=2:=rfl
     have g1:decide ((2:Int)<(L.length:Int))=true:=decide_eq_true (by omega)
     have hs:=hsu 2
     have ho:oI 2=c:=hop 2
     rw [ho] at hs h2
     have hil:=itoa_len h2.1 h2.2
     have hrl2:=hrl 2
     cases g2:(L.getD 2 0==0) with
     |true=>
      rw [opW,if_pos (by simpa using g2)] at hs
      have hap:txs (hw++rW 2)++txs [(114::Lib.itoa c)]=txs (hw++rW 3):=by rw [txs_app1,List.append_assoc];exact congrArg (fun z=>txs (hw++z)) hs
      with_reducible repeat' first|(refine nx ?_;intros)|apply And.intro|intro vr|(refine ny ?_;intros;simp only [go_sem,kp48,geff,hi0,g1,g2,hap,r_bs,yes])
      all_goals try exact nd
      exact ⟨(some ⟨(3,v+1),by simp only;omega⟩),wf,lf⟩
     |false=>
      rw [opW,if_neg (by simpa using g2)] at hs
      have hap:txs (hw++rW 2)++txs [(Lib.itoa c)]=txs (hw++rW 3):=by rw [txs_app1,List.append_assoc];exact congrArg (fun z=>txs (hw++z)) hs
      with_reducible repeat' first|(refine nx ?_;intros)|apply And.intro|intro vr|(refine ny ?_;intros;simp only [go_sem,kp48,geff,hi0,g1,g2,hap,r_bs,yes])
      all_goals try exact nd
      exact ⟨(some ⟨(3,v+1),by simp only;omega⟩),wf,lf⟩
    ·have hi0:((((3:Nat):Int)):Int)=3:=rfl
     have g1:decide ((3:Int)<(L.length:Int))=true:=decide_eq_true (by omega)
     have hs:=hsu 3
     have ho:oI 3=d:=hop 3
     rw [ho] at hs h3
     have hil:=itoa_len h3.1 h3.2
     have hrl3:=hrl 3
     cases g2:(L.getD 3 0==0) with
     |true=>
      rw [opW,if_pos (by simpa using g2)] at hs
      have hap:txs (hw++rW 3)++txs [(114::Lib.itoa d)]=txs (hw++rW 4):=by rw [txs_app1,List.append_assoc];exact congrArg (fun z=>txs (hw++z)) hs
      with_reducible repeat' first|(refine nx ?_;intros)|apply And.intro|intro vr|(refine ny ?_;intros;simp only [go_sem,kp48,geff,hi0,g1,g2,hap,r_bs,yes])
      all_goals try exact nd
      exact ⟨(some ⟨(4,v+1),by simp only;omega⟩),wf,lf⟩
     |false=>
      rw [opW,if_neg (by simpa using g2)] at hs
      have hap:txs (hw++rW 3)++txs [(Lib.itoa d)]=txs (hw++rW 4):=by rw [txs_app1,List.append_assoc];exact congrArg (fun z=>txs (hw++z)) hs
      with_reducible repeat' first|(refine nx ?_;intros)|apply And.intro|intro vr|(refine ny ?_;intros;simp only [go_sem,kp48,geff,hi0,g1,g2,hap,r_bs,yes])
      all_goals try exact nd
      exact ⟨(some ⟨(4,v+1),by simp only;omega⟩),wf,lf⟩
   ·have hiL:i=L.length:=by omega
    subst hiL
    have g1:decide ((L.length:Int)<(L.length:Int))=false:=decide_eq_false (by omega)
    subst hR
    with_reducible repeat' first|(refine nx ?_;intros)|apply And.intro|intro vr|(refine ny ?_;intros;simp only [go_sem,kp48,geff,g1])
    all_goals try exact nd
    all_goals (refine nl ?_;simp only [go_sem])
    exact LeA.refl _
end Go.Proofs.YtohiagaclfaolaaGreatDoor.Tx

namespace Go.Proofs.YtohiagaclfaolaaGreatDoor.Tx
open Go.Proofs.YtohiagaclfaolaaGreatDoor
open Go Go.Fw Bm
set_option maxRecDepth 20000
def fCs:List AV:=formsV.cells
theorem formsV_fCs:formsV= .agg fCs:=rfl
theorem fCs_len:fCs.length=64:=rfl
theorem fCs_scal:fCs.all scal0=false:=rfl
theorem fCs_solid:(AV.agg fCs).solid=true:=rfl
theorem fCs_cells:(AV.agg fCs).cells=fCs:=rfl
noncomputable def fcA (i:Nat):AV:=fCs.getD (i*4+1) .top
noncomputable def fcC (i:Nat):AV:=fCs.getD (i*4+3) .top
def fcB (i:Nat):Bool:=match fCs.getD (i*4+2) .top with|.lit (.bool b)=>b|_=>false
def nmB (i:Nat):ByteArray:=match fCs.getD (i*4) .top with|.lit (.string s)=>s|_=>⟨#[]⟩
theorem ex16 {p:Nat→Prop} (h:p 0∧p 1∧p 2∧p 3∧p 4∧p 5∧p 6∧p 7∧p 8∧p 9∧p 10∧p 11∧p 12∧p 13∧p 14∧p 15):∀ i,i<16→p i:=by
  intro i hi
  obtain ⟨h0,h1,h2,h3,h4,h5,h6,h7,h8,h9,h10,h11,h12,h13,h14,h15⟩:=h
  rcases (show i=0∨i=1∨i=2∨i=3∨i=4∨i=5∨i=6∨i=7∨i=8∨i=9∨i=10∨i=11∨i=12∨i=13∨i=14∨i=15 by omega) with rfl|rfl|rfl|rfl|rfl|rfl|rfl|rfl|rfl|rfl|rfl|rfl|rfl|rfl|rfl|rfl<;>assumption
theorem forms_ok:FormsC fCs nmB fcA fcC fcB where
  hA:=ex16 ⟨.inl ⟨_,rfl⟩,.inl ⟨_,rfl⟩,.inl ⟨_,rfl⟩,.inl ⟨_,rfl⟩,.inl ⟨_,rfl⟩,.inl ⟨_,rfl⟩,.inl ⟨_,rfl⟩,.inl ⟨_,rfl⟩,.inl ⟨_,rfl⟩,.inl ⟨_,rfl⟩,.inl ⟨_,rfl⟩,.inl ⟨_,rfl⟩,.inr rfl,.inr rfl,.inl ⟨_,rfl⟩,.inr rfl⟩
  hC:=ex16 ⟨.inl ⟨_,rfl⟩,.inr rfl,.inl ⟨_,rfl⟩,.inl ⟨_,rfl⟩,.inl ⟨_,rfl⟩,.inr rfl,.inl ⟨_,rfl⟩,.inl ⟨_,rfl⟩,.inr rfl,.inl ⟨_,rfl⟩,.inl ⟨_,rfl⟩,.inl ⟨_,rfl⟩,.inr rfl,.inr rfl,.inl ⟨_,rfl⟩,.inr rfl⟩
  len:=rfl
  at_:=ex16 ⟨rfl,rfl,rfl,rfl,rfl,rfl,rfl,rfl,rfl,rfl,rfl,rfl,rfl,rfl,rfl,rfl⟩
  sol:=ex16 ⟨rfl,rfl,rfl,rfl,rfl,rfl,rfl,rfl,rfl,rfl,rfl,rfl,rfl,rfl,rfl,rfl⟩
  cel:=ex16 ⟨rfl,rfl,rfl,rfl,rfl,rfl,rfl,rfl,rfl,rfl,rfl,rfl,rfl,rfl,rfl,rfl⟩
theorem forms_pcC:PC Tryz.prog 100 [] (.agg fCs):=by rw [←formsV_fCs];exact forms_pc
noncomputable def con22C:PCon Tryz.prog where
  f:=100
  c:=fun
   |[]=>some (True,.agg fCs)
   |_=>none
  ok:=by
   intro args p r hc hp
   split at hc
   ·cases hc;exact forms_pcC
   ·cases hc
  fk:=fk100
theorem con22C_f:con22C.f=100:=rfl
theorem con22C_c:con22C.c []=some (True,.agg fCs):=rfl
theorem setRange_zero:∀ {ys xs:List AV} (pre:List AV),xs.length=ys.length→setRange (pre++xs) pre.length ys=pre++ys
  |[],[],_,_=>rfl
  |y::ys,x::xs,pre,h=>by
   simp only [setRange]
   have e1:(pre++x::xs).set pre.length y=(pre++[y])++xs:=by simp [List.set_append]
   have e2:pre.length+1=(pre++[y]).length:=by simp
   rw [e1,e2,setRange_zero (pre++[y]) (by simpa using h),List.append_assoc];rfl
theorem setRange_f {xs:List AV} (h:xs.length=64):setRange xs 0 fCs=fCs:=by
  have:=setRange_zero (ys:=fCs) (xs:=xs) [] (by rw [h,fCs_len])
  simpa using this
noncomputable def zC:List AV:=(zer 136).cells
theorem z53:zer 136= .agg zC:=rfl
theorem zC_len:zC.length=64:=rfl
theorem zC_set:setRange zC 0 fCs=fCs:=setRange_f rfl
attribute [go_sem] con22C_f con22C_c fCs_len fCs_scal fCs_solid fCs_cells zC_len zC_set
noncomputable def ecn108:ECon Tryz.prog where
  f:=108
  c:=fun args σ k=>match args,σ with
   |[.bsl 2 16,.fn (.func 109) [] [.ref 1 0]],[b0,.box 117 [.sl fl 1 l],.box 136 cs]=>match l with
    |.lit (.string w)::l'=>∃ ws,l'=txs ws∧cs=fCs∧k (.lit (.int .i64 (idxF nmB (ul w) 16 0))) [b0,.box 117 [.sl fl 1 l],.box 136 cs]
    |_=>False
   |_,_=>False
  ok:=by
   intro args σ k h
   split at h
   ·split at h
    ·rename_i w l'
     obtain ⟨ws,rfl,rfl,h3⟩:=h
     obtain ⟨w,rfl⟩:=bs_ex w
     rw [ul_bs] at h3
     exact idxf_ec (w:=w) (ws:=ws) forms_ok h3
    ·exact h.elim
   ·exact h.elim
  fk:=fk108
theorem ecn108_f:ecn108.f=108:=rfl
theorem ecn108_c {fl:Bool} {b0:AObj} {w:List UInt8} {ws:List (List UInt8)} {k:AV→List AObj→Prop}:ecn108.c [.bsl 2 16,.fn (.func 109) [] [.ref 1 0]] [b0,.box 117 [.sl fl 1 (txs (w::ws))],.box 136 fCs] k=
    k (.lit (.int .i64 (idxF nmB w 16 0))) [b0,.box 117 [.sl fl 1 (txs (w::ws))],.box 136 fCs]:=by
  show (∃ us,txs ws=txs us∧fCs=fCs∧k (.lit (.int .i64 (idxF nmB (ul (bs w)) 16 0))) [b0,.box 117 [.sl fl 1 (txs (w::ws))],.box 136 fCs])=_
  rw [ul_bs]
  apply propext
  exact ⟨fun ⟨_,_,_,h⟩=>h,fun h=>⟨ws,rfl,rfl,h⟩⟩
attribute [go_sem] ecn108_f ecn108_c
noncomputable def con48:PCon Tryz.prog where
  f:=48
  c:=fun
   |[x]=>match opOf x with
    |some x=>some (Sm x,.lit (.string (bs (lineB x))))
    |none=>none
   |_=>none
  ok:=by
   intro args p r hc hp
   split at hc
   ·split at hc
    ·rename_i x hx
     cases hc
     rw [opOf_inv hx]
     exact line_pc hp
    ·cases hc
   ·cases hc
  fk:=fk48
theorem con48_f:con48.f=48:=rfl
theorem con48_c {x:AV}:con48.c [x]=match opOf x with
      |some x=>some (Sm x,.lit (.string (bs (lineB x))))
      |none=>none:=rfl
attribute [go_sem] con48_f con48_c
theorem refs4 {a b c d e f g h:Nat}:refsOk 0 [(0,.ref a b),(1,.ref c d),(2,.ref e f),(3,.ref g h)]=true:=rfl
theorem ie1 {α:Type} {x:α} {l:List α}:(x::l).isEmpty=false:=rfl
attribute [go_sem] refs4 ie1
end Go.Proofs.YtohiagaclfaolaaGreatDoor.Tx

namespace Go.Proofs.YtohiagaclfaolaaGreatDoor.Tx
open Go.Proofs.YtohiagaclfaolaaGreatDoor
open Go Go.Fw Bm
set_option maxRecDepth 20000
structure RtI (x:Ins) (f:List Bool):Prop where
  form:formS x=some f
  len:f.length=(kndS x).length
  len4:f.length≤4
  code:1≤x.code∧x.code≤15
  prim:x.code=5∨ul x.prim=[]
  prim5:x.code=5→32 ∉ ul x.prim∧10 ∉ ul x.prim∧(ul x.prim).length≤20
  zero:∀ i,i<4→f.length≤i→opI x i=0
  bnd:∀ i,i<4→ -1099511627776≤opI x i∧opI x i≤1099511627776
  knd:∀ i,i<f.length→(f.getD i false=true ↔ (kndS x).getD i 0=0)
theorem prims_ok:∀ r∈El.rowsL,32 ∉ ul r.op∧10 ∉ ul r.op∧(ul r.op).length≤20∧r.ps.length≤3:=by decide+kernel
theorem types_ok {p:ByteArray} {r:El.Rw} (h:El.typesS p=some r):32 ∉ ul p∧10 ∉ ul p∧(ul p).length≤20∧r.ps.length≤3:=by
  unfold El.typesS at h
  have h1:=List.find?_some h
  have h2:=List.mem_of_find?_eq_some h
  have e:r.op.data.toList=p.data.toList:=by simpa [eqS] using h1
  have:=prims_ok r h2
  unfold ul at*
  rw [e] at this
  exact this
theorem opr_ge {f:List Bool} {i:Nat} {n:Int} (h:oprOk f 200 i n=true) (hi:f.length≤i):n=0:=by
  unfold oprOk at h
  rw [if_pos hi] at h
  exact of_decide_eq_true h
theorem opr_reg {f:List Bool} {i:Nat} {n:Int} (h:oprOk f 200 i n=true) (hi:i<f.length) (hf:f.getD i false=true):0≤n∧n<200:=by
  unfold oprOk at h
  rw [if_neg (by omega),if_pos hf] at h
  exact of_decide_eq_true h
theorem right_rti {x:Ins} (h:rightS x 200=true):∃ f,RtI x f:=by
  unfold rightS at h
  cases hf:formS x with
  |none=>rw [hf] at h;cases h
  |some f=>
   rw [hf] at h
   simp only [Bool.and_eq_true,Bool.or_eq_true,decide_eq_true_eq] at h
   obtain ⟨⟨hp,⟨⟨ha,hb⟩,hc⟩,hd⟩,hr⟩:=h
   obtain ⟨k,p,a,b,c,d⟩:=x
   simp only at hp ha hb hc hd
   have hcode:k=1∨k=2∨k=3∨k=4∨k=5∨k=6∨k=7∨k=8∨k=9∨k=10∨k=11∨k=12∨k=13∨k=14∨k=15:=by
     unfold formS at hf
     simp only at hf
     repeat (first|omega|(split at hf)|cases hf)
   have four:∀ {p:Nat→Prop},p 0→p 1→p 2→p 3→∀ i,i<4→p i:=by
     intro p h0 h1 h2 h3 i hi
     rcases (show i=0∨i=1∨i=2∨i=3 by omega) with rfl|rfl|rfl|rfl<;>assumption
   have bz:∀ {i:Nat} {n:Int},oprOk f 200 i n=true→f.length≤i∨(i<f.length∧f.getD i false=true)→ -1099511627776≤n∧n≤1099511627776:=by
     intro i n h1 h2
     rcases h2 with h2|⟨h2,h3⟩
     ·have:=opr_ge h1 h2;omega
     ·have:=opr_reg h1 h2 h3;omega
   have zz:∀ i,i<4→f.length≤i→opI ⟨k,p,a,b,c,d⟩ i=0:=four (fun h=>opr_ge ha h) (fun h=>opr_ge hb h) (fun h=>opr_ge hc h) (fun h=>opr_ge hd h)
   by_cases h5:k=5
   ·subst h5
    have hf':(El.typesS p).map (fun r=>List.replicate (1+r.ps.length) true)=some f:=hf
    cases ht:El.typesS p with
    |none=>rw [ht] at hf';cases hf'
    |some r=>
     rw [ht] at hf'
     cases hf'
     obtain ⟨t1,t2,t3,t4⟩:=types_ok ht
     have hk:kndS ⟨5,p,a,b,c,d⟩=0::List.replicate r.ps.length 0:=by simp [kndS,ht]
     have hrep:∀ i,i<1+r.ps.length→(List.replicate (1+r.ps.length) true).getD i false=true:=fun i hi=>by
       rw [List.getD_eq_getElem?_getD,List.getElem?_replicate,if_pos hi];rfl
     have two:∀ i,(List.replicate (1+r.ps.length) true).length≤i∨(i<(List.replicate (1+r.ps.length) true).length∧(List.replicate (1+r.ps.length) true).getD i false=true):=fun i=>by
       rcases Nat.lt_or_ge i (1+r.ps.length) with h1|h1
       ·exact .inr ⟨by simpa using h1,hrep i h1⟩
       ·exact .inl (by simpa using h1)
     refine ⟨_,hf,by rw [hk];simp;omega,by simp;omega,by simp,.inl rfl,fun _=>⟨t1,t2,t3⟩,zz,four (bz ha (two 0)) (bz hb (two 1)) (bz hc (two 2)) (bz hd (two 3)),fun i hi=>?_⟩
     have hi':i<1+r.ps.length:=by simpa using hi
     rw [hrep i hi',hk]
     have:(0::List.replicate r.ps.length (0:Int)).getD i 0=0:=by
       cases i with
       |zero=>rfl
       |succ i=>rw [List.getD_cons_succ,List.getD_eq_getElem?_getD,List.getElem?_replicate];split<;>rfl
     rw [this];simp
   ·have hpn:ul p=[]:=by rcases hp with e|e;exact absurd e h5;exact e
    have key:∀ i,i<4→ -1099511627776≤opI ⟨k,p,a,b,c,d⟩ i∧opI ⟨k,p,a,b,c,d⟩ i≤1099511627776:=by
      rcases hcode with rfl|rfl|rfl|rfl|rfl|rfl|rfl|rfl|rfl|rfl|rfl|rfl|rfl|rfl|rfl
      all_goals first|exact absurd rfl h5|skip
      all_goals
        cases hf
        simp only [restOk,maxC,maxA,decide_eq_true_eq] at hr
        simp only [Int.reduceEq,if_true,if_false,decide_eq_true_eq] at hr
      all_goals
        refine four ?_ ?_ ?_ ?_
      all_goals first
        |exact bz ha (.inl (by decide))
        |exact bz hb (.inl (by decide))
        |exact bz hc (.inl (by decide))
        |exact bz hd (.inl (by decide))
        |exact bz ha (.inr ⟨by decide,rfl⟩)
        |exact bz hb (.inr ⟨by decide,rfl⟩)
        |exact bz hc (.inr ⟨by decide,rfl⟩)
        |exact bz hd (.inr ⟨by decide,rfl⟩)
        |(simp only [opI,List.getD_cons_zero,List.getD_cons_succ];omega)
        |(have hr':=of_decide_eq_true hr;simp only [opI,List.getD_cons_zero,List.getD_cons_succ];omega)
    refine ⟨f,hf,?_,?_,by simp only;omega,.inr hpn,fun e=>absurd e h5,zz,key,?_⟩
    all_goals
      rcases hcode with rfl|rfl|rfl|rfl|rfl|rfl|rfl|rfl|rfl|rfl|rfl|rfl|rfl|rfl|rfl
    all_goals first|exact absurd rfl h5|skip
    all_goals cases hf
    all_goals first|rfl|decide|skip
    all_goals
      intro i hi
      simp only [List.length_cons,List.length_nil] at hi
      try (rcases (show i=0∨i=1∨i=2∨i=3 by omega) with rfl|rfl|rfl|rfl)
    all_goals first|omega|exact ⟨fun _=>rfl,fun _=>rfl⟩|exact ⟨fun h=>(by cases h),fun h=>(by simp [kndS,kndL] at h)⟩
theorem split_join {c:UInt8}:∀ {l:List (List UInt8)},l≠[]→(∀ w∈l,c ∉ w)→splitW c (Lib.join l [c])=l
  |[],h,_=>absurd rfl h
  |[w],_,h=>by rw [Lib.join_one];exact splitW_one (h w (by simp))
  |w::v::r,_,h=>by
   have e:Lib.join (w::v::r) [c]=w++c::Lib.join (v::r) [c]:=by simp [Lib.join,List.intercalate,List.intersperse]
   rw [e,splitW_app (h w (by simp)),split_join (l:=v::r) (by simp) (fun u hu=>h u (by simp only [List.mem_cons] at hu ⊢;exact .inr hu))]
theorem join_mem {c b:UInt8}:∀ {l:List (List UInt8)},b∈Lib.join l [c]→b=c∨∃ w∈l,b∈w
  |[],h=>by cases h
  |[w],h=>by rw [Lib.join_one] at h;exact .inr ⟨w,by simp,h⟩
  |w::v::r,h=>by
   have e:Lib.join (w::v::r) [c]=w++c::Lib.join (v::r) [c]:=by simp [Lib.join,List.intercalate,List.intersperse]
   rw [e] at h
   rcases List.mem_append.1 h with h|h
   ·exact .inr ⟨w,by simp,h⟩
   ·rcases List.mem_cons.1 h with h|h
    ·exact .inl h
    ·rcases join_mem (l:=v::r) h with h|⟨u,hu,hb⟩
     ·exact .inl h
     ·exact .inr ⟨u,by simp only [List.mem_cons] at hu ⊢;exact .inr hu,hb⟩
theorem join_len {c:UInt8}:∀ {l:List (List UInt8)} {m:Nat},(∀ w∈l,w.length≤m)→(Lib.join l [c]).length≤l.length*(m+1)
  |[],m,_=>by simp [Lib.join]
  |[w],m,h=>by rw [Lib.join_one];have:=h w (by simp);simp;omega
  |w::v::r,m,h=>by
   have e:Lib.join (w::v::r) [c]=w++c::Lib.join (v::r) [c]:=by simp [Lib.join,List.intercalate,List.intersperse]
   have h1:=h w (by simp)
   have h2:=join_len (c:=c) (l:=v::r) (m:=m) fun u hu=>h u (by simp only [List.mem_cons] at hu ⊢;exact .inr hu)
   rw [e,List.length_append,List.length_cons,List.length_cons (a:=w),Nat.succ_mul]
   omega
theorem names_ok:∀ k:Fin 15,32 ∉ ul (namL ((k.val:Int)+1))∧10 ∉ ul (namL ((k.val:Int)+1))∧(ul (namL ((k.val:Int)+1))).length≤20∧idxF nmB (ul (namL ((k.val:Int)+1))) 16 0=(k.val:Int)+1:=by decide+kernel
theorem name_ok {k:Int} (h:1≤k∧k≤15):32 ∉ ul (namL k)∧10 ∉ ul (namL k)∧(ul (namL k)).length≤20∧idxF nmB (ul (namL k)) 16 0=k:=by
  have:=names_ok ⟨(k - 1).toNat,by omega⟩
  simp only at this
  rw [show (((k - 1).toNat:Nat):Int)+1=k by omega] at this
  exact this
theorem opW_not {k n:Int} {x:UInt8} (h: ¬ (x=45∨(48≤x.toNat∧x.toNat≤57))) (h2:x≠114):x ∉ opW k n:=by
  unfold opW
  intro hm
  rcases List.mem_append.1 hm with hm|hm
  ·split at hm
   ·simp at hm;exact h2 hm
   ·cases hm
  ·exact itoa_not h hm
theorem opW_len {k n:Int} (h: -1099511627776≤n∧n≤1099511627776):(opW k n).length≤22:=by
  have:=Lib.itoa_length_le n (by omega) (by omega)
  unfold opW
  rw [List.length_append]
  split<;>simp<;>omega
theorem words_ok {x:Ins} {f:List Bool} (h:RtI x f):∀ w∈wordsB x,32 ∉ w∧10 ∉ w∧w.length≤22:=by
  intro w hw
  unfold wordsB headW at hw
  rcases List.mem_append.1 hw with hw|hw
  ·rcases List.mem_cons.1 hw with rfl|hw
   ·have:=name_ok h.code;exact ⟨this.1,this.2.1,by omega⟩
   ·split at hw
    ·rename_i h5
     simp only [List.mem_singleton] at hw
     subst hw
     have:=h.prim5 h5;exact ⟨this.1,this.2.1,by omega⟩
    ·cases hw
  ·simp only [restW,List.mem_map,List.mem_range] at hw
   obtain ⟨i,hi,rfl⟩:=hw
   exact ⟨opW_not (by decide) (by decide),opW_not (by decide) (by decide),opW_len (h.bnd i (by have:=h.len;have:=h.len4;omega))⟩
theorem words_ne (x:Ins):wordsB x≠[]:=by simp [wordsB,headW]
theorem line_split {x:Ins} {f:List Bool} (h:RtI x f):splitW 32 (lineB x)=wordsB x:=split_join (words_ne x) fun w hw=>(words_ok h w hw).1
theorem line_no10 {x:Ins} {f:List Bool} (h:RtI x f):10 ∉ lineB x:=fun hm=>by
  rcases join_mem hm with h1|⟨w,hw,hb⟩
  ·exact absurd h1 (by decide)
  ·exact (words_ok h w hw).2.1 hb
theorem words_len {x:Ins} {f:List Bool} (h:RtI x f):(wordsB x).length≤6:=by
  have h1:(headW x).length≤2:=by unfold headW;split<;>simp
  have h2:(restW x (kndS x).length).length=(kndS x).length:=by simp [restW]
  have:=h.len;have:=h.len4
  unfold wordsB
  rw [List.length_append];omega
theorem line_len {x:Ins} {f:List Bool} (h:RtI x f):(lineB x).length≤138:=by
  have:=join_len (c:=32) (l:=wordsB x) (m:=22) fun w hw=>(words_ok h w hw).2.2
  have:=words_len h
  unfold lineB
  omega
def nums:List (List UInt8)→Option (List Int)
  |[]=>some []
  |t::r=>match int? t with
   |none=>none
   |some n=>(nums r).map (n:: ·)
def mkI (k:Int) (p:List UInt8) (l:List Int):Ins:=⟨k,bs p,l.getD 0 0,l.getD 1 0,l.getD 2 0,l.getD 3 0⟩
def accS (x:Ins) (s:List UInt8):Option Ins:=if rightS x 200=true∧lineB x=s then some x else none
def hdP (k:Int) (ws:List (List UInt8)):List UInt8:=if k=5 then ws.headD [] else []
def tlP (k:Int) (ws:List (List UInt8)):List (List UInt8):=if k=5 then ws.tail else ws
def preadW (s:List UInt8):List (List UInt8)→Option Ins
  |[]=>none
  |w::ws=>if idxF nmB w 16 0<1 then none else if (tlP (idxF nmB w 16 0) ws).length>4 then none else match nums (tlP (idxF nmB w 16 0) ws) with
    |none=>none
    |some l=>accS (mkI (idxF nmB w 16 0) (hdP (idxF nmB w 16 0) ws) l) s
def preadS (s:List UInt8):Option Ins:=preadW s (splitW 32 s)
theorem acc_inv {x y:Ins} {s:List UInt8} (h:accS x s=some y):rightS y 200=true∧lineB y=s:=by
  unfold accS at h
  split at h
  ·cases h;assumption
  ·cases h
theorem pread_inv {s:List UInt8} {x:Ins} (h:preadS s=some x):rightS x 200=true∧lineB x=s:=by
  unfold preadS at h
  cases hw:splitW 32 s with
  |nil=>rw [hw] at h;cases h
  |cons w ws=>
   rw [hw] at h
   simp only [preadW] at h
   split at h
   ·cases h
   ·split at h
    ·cases h
    ·split at h
     ·cases h
     ·exact acc_inv h
theorem trim_r (l:List UInt8):trimP [114] (114::l)=l:=by simp [trimP,List.isPrefixOf]
theorem trim_no {l:List UInt8} (h:114 ∉ l):trimP [114] l=l:=by
  unfold trimP
  rw [if_neg]
  intro hp
  cases l with
  |nil=>simp [List.isPrefixOf] at hp
  |cons c r=>
   have:=(List.isPrefixOf_iff_prefix.1 hp)
   obtain ⟨t,ht⟩:=this
   simp only [List.cons_append,List.nil_append,List.cons.injEq] at ht
   exact h (by rw [←ht.1];exact List.mem_cons_self ..)
theorem trim_opW {k n:Int}:trimP [114] (opW k n)=Lib.itoa n:=by
  unfold opW
  split
  ·exact trim_r _
  ·rw [List.nil_append];exact trim_no (itoa_not (by decide))
theorem int_opW {k n:Int} (h: -1099511627776≤n∧n≤1099511627776):int? (opW k n)=some n:=by
  unfold int?
  rw [trim_opW,atoi_itoa (by omega) (by omega)]
theorem nums_map {α:Type} (g:α→List UInt8) (v:α→Int):∀ l:List α,(∀ i∈l,int? (g i)=some (v i))→nums (l.map g)=some (l.map v)
  |[],_=>rfl
  |i::l,h=>by
   simp only [List.map_cons,nums]
   rw [h i (by simp),nums_map g v l fun j hj=>h j (by simp [hj])]
   rfl
theorem range_get {f:Nat→Int} {n i:Nat}:((List.range n).map f).getD i 0=if i<n then f i else 0:=by
  rw [List.getD_eq_getElem?_getD,List.getElem?_map]
  split
  ·rename_i h;rw [List.getElem?_range h];rfl
  ·rename_i h;rw [List.getElem?_eq_none (by simpa using h)];rfl
theorem mk_ops {x:Ins} {f:List Bool} (h:RtI x f):mkI x.code (ul x.prim) ((List.range (kndS x).length).map (opI x))=x:=by
  have e:∀ i,i<4→((List.range (kndS x).length).map (opI x)).getD i 0=opI x i:=fun i hi=>by
    rw [range_get]
    split
    ·rfl
    ·exact (h.zero i hi (by rw [h.len];omega)).symm
  unfold mkI
  rw [e 0 (by omega),e 1 (by omega),e 2 (by omega),e 3 (by omega),bs_ul]
  rfl
theorem hd_tl {x:Ins} {f:List Bool} (h:RtI x f):∃ ws,wordsB x=ul (namL x.code)::ws∧hdP x.code ws=ul x.prim∧tlP x.code ws=restW x (kndS x).length:=by
  unfold wordsB headW
  by_cases h5:x.code=5
  ·exact ⟨ul x.prim::restW x (kndS x).length,by rw [if_pos h5];rfl,by simp [hdP,h5],by simp [tlP,h5]⟩
  ·exact ⟨restW x (kndS x).length,by rw [if_neg h5];rfl,by rw [hdP,if_neg h5];exact (h.prim.resolve_left h5).symm,by rw [tlP,if_neg h5]⟩
theorem pread_line {x:Ins} (hr:rightS x 200=true):preadS (lineB x)=some x:=by
  obtain ⟨f,h⟩:=right_rti hr
  obtain ⟨ws,h1,h2,h3⟩:=hd_tl h
  have hn:=name_ok h.code
  unfold preadS
  rw [line_split h,h1]
  simp only [preadW]
  rw [hn.2.2.2,if_neg (by have:=h.code;omega),h3,if_neg (by have:=h.len;have:=h.len4;simp [restW];omega)]
  have hnm:nums (restW x (kndS x).length)=some ((List.range (kndS x).length).map (opI x)):=nums_map _ _ _ fun i hi=>int_opW (h.bnd i (by have:=h.len;have:=h.len4;simp at hi;omega))
  rw [hnm,h2]
  simp only
  rw [mk_ops h,accS,if_pos ⟨hr,rfl⟩]
def rcode (w:List UInt8):Int:=if idxF nmB w 16 0<1 then 0 else idxF nmB w 16 0
def rnums (f:List Bool) (ws:List (List UInt8)):List Int:=(List.range f.length).map fun i=>numS (if f.getD i false=true then (ws.getD i []).tail else ws.getD i [])
def rreadW (s:List UInt8):List (List UInt8)→Option Ins
  |[]=>none
  |w::ws=>match formS (mkI (rcode w) (hdP (rcode w) ws) []) with
   |none=>none
   |some f=>if (tlP (rcode w) ws).length≠f.length then none else accS (mkI (rcode w) (hdP (rcode w) ws) (rnums f (tlP (rcode w) ws))) s
def rreadS (s:List UInt8):Option Ins:=rreadW s (splitW 32 s)
theorem rread_inv {s:List UInt8} {x:Ins} (h:rreadS s=some x):rightS x 200=true∧lineB x=s:=by
  unfold rreadS at h
  cases hw:splitW 32 s with
  |nil=>rw [hw] at h;cases h
  |cons w ws=>
   rw [hw] at h
   simp only [rreadW] at h
   split at h
   ·cases h
   ·split at h
    ·cases h
    ·exact acc_inv h
theorem form_mk (x:Ins) (l:List Int):formS (mkI x.code (ul x.prim) l)=formS x:=by
  unfold mkI;rw [bs_ul];rfl
theorem num_opW {k n:Int} {b:Bool} (h: -1099511627776≤n∧n≤1099511627776) (hb:b=true ↔ k=0):numS (if b=true then (opW k n).tail else opW k n)=n:=by
  by_cases h0:k=0
  ·rw [if_pos (hb.2 h0),opW,if_pos h0]
   exact num_itoa (by omega) (by omega)
  ·rw [if_neg (fun e=>h0 (hb.1 e)),opW,if_neg h0,List.nil_append]
   exact num_itoa (by omega) (by omega)
theorem rread_line {x:Ins} (hr:rightS x 200=true):rreadS (lineB x)=some x:=by
  obtain ⟨f,h⟩:=right_rti hr
  obtain ⟨ws,h1,h2,h3⟩:=hd_tl h
  have hn:=name_ok h.code
  have hc:rcode (ul (namL x.code))=x.code:=by unfold rcode;rw [hn.2.2.2,if_neg (by have:=h.code;omega)]
  have hrl:(restW x (kndS x).length).length=(kndS x).length:=by simp [restW]
  unfold rreadS
  rw [line_split h,h1]
  simp only [rreadW]
  rw [hc,h2,h3,form_mk,h.form]
  simp only
  rw [if_neg (by rw [hrl];have:=h.len;omega)]
  have hnm:rnums f (restW x (kndS x).length)=(List.range (kndS x).length).map (opI x):=by
    unfold rnums
    rw [h.len]
    refine List.map_congr_left fun i hi=>?_
    have hi':i<(kndS x).length:=by simpa using hi
    have hg:(restW x (kndS x).length).getD i []=opW ((kndS x).getD i 0) (opI x i):=by simp [restW,List.getD_eq_getElem?_getD,hi']
    rw [hg]
    exact num_opW (h.bnd i (by have:=h.len;have:=h.len4;omega)) (h.knd i (by rw [h.len];exact hi'))
  rw [hnm,mk_ops h,accS,if_pos ⟨hr,rfl⟩]
theorem read_eq (s:List UInt8):rreadS s=preadS s:=by
  cases hp:preadS s with
  |some x=>
   obtain ⟨h1,h2⟩:=pread_inv hp
   rw [←h2];exact rread_line h1
  |none=>
   cases hq:rreadS s with
   |none=>rfl
   |some x=>
    obtain ⟨h1,h2⟩:=rread_inv hq
    rw [←h2,pread_line h1] at hp;cases hp
def parseG:Nat→List UInt8→List Ins→List Ins×Int×Int
  |0,_,_=>([],0,0)
  |n+1,s,acc=>if s=[] then (acc,0,0) else match cutS 10 s with
   |none=>([],acc.length,6)
   |some (a,b)=>match preadS a with
    |none=>([],acc.length,6)
    |some x=>parseG n b (acc++[x])
def parseS (s:List UInt8):List Ins×Int×Int:=parseG (s.length+1) s []
def textB (l:List Ins):List UInt8:=l.flatMap fun x=>lineB x++[10]
theorem cut_line {a b:List UInt8} (h:(10:UInt8) ∉ a):cutS 10 (a++10::b)=some (a,b):=by
  induction a with
  |nil=>simp [cutS]
  |cons x a ih=>
   simp only [List.mem_cons,not_or] at h
   simp only [List.cons_append,cutS]
   rw [if_neg (fun e=>h.1 e.symm),ih h.2];rfl
theorem parse_text:∀ (l:List Ins) (n:Nat) (acc:List Ins),(∀ x∈l,rightS x 200=true)→(textB l).length<n→parseG n (textB l) acc=(acc++l,0,0)
  |[],n+1,acc,_,_=>by simp [parseG,textB]
  |x::l,n+1,acc,h,hn=>by
   obtain ⟨f,hx⟩:=right_rti (h x (by simp))
   have e:textB (x::l)=lineB x++10::textB l:=by simp [textB]
   have hne:lineB x++10::textB l≠[]:=by simp
   rw [e] at hn ⊢
   simp only [List.length_append,List.length_cons] at hn
   simp only [parseG]
   rw [if_neg hne,cut_line (line_no10 hx)]
   simp only
   rw [pread_line (h x (by simp))]
   simp only
   rw [parse_text l n (acc++[x]) (fun y hy=>h y (by simp [hy])) (by omega)]
   simp
theorem text_parse:∀ (n:Nat) (s:List UInt8) (acc ops:List Ins) (i:Int),parseG n s acc=(ops,i,0)→s.length<n→∃ l,ops=acc++l∧textB l=s∧i=0∧(∀ x∈l,rightS x 200=true)∧l.length≤s.length
  |n+1,s,acc,ops,i,h,hn=>by
   simp only [parseG] at h
   split at h
   ·rename_i hs
    simp only [Prod.mk.injEq] at h
    exact ⟨[],by simp [h.1],by simp [textB,hs],h.2.1.symm,by simp,by simp⟩
   ·split at h
    ·simp only [Prod.mk.injEq] at h;exact absurd h.2.2 (by decide)
    ·rename_i a b hc
     split at h
     ·simp only [Prod.mk.injEq] at h;exact absurd h.2.2 (by decide)
     ·rename_i x hx
      obtain ⟨_,hs,_⟩:=cutS_some hc
      obtain ⟨r1,r2⟩:=pread_inv hx
      have hl:s.length=a.length+(b.length+1):=by rw [hs];simp
      obtain ⟨l,h1,h2,h3,h4,h5⟩:=text_parse n b (acc++[x]) ops i h (by omega)
      refine ⟨x::l,by rw [h1];simp,?_,h3,?_,?_⟩
      ·have e:textB (x::l)=lineB x++10::textB l:=by simp [textB]
       rw [e,h2,r2,hs]
      ·intro y hy
       rcases List.mem_cons.1 hy with rfl|hy
       ·exact r1
       ·exact h4 y hy
      ·rw [List.length_cons];omega
end Go.Proofs.YtohiagaclfaolaaGreatDoor.Tx

namespace Go.Proofs.YtohiagaclfaolaaGreatDoor.Cd
open Go.Proofs.YtohiagaclfaolaaGreatDoor
open Go Go.Fw Bm Tx
set_option maxRecDepth 20000
abbrev Sr:=List Int×Int
def rI (lo hi:Int) (s:Sr):Int×Sr:=Wi.numS s.1 s.2 lo hi 2
def rT (most:Int) (s:Sr):ByteArray×Sr:=Wi.runS (⟨#[]⟩:ByteArray) s.1 s.2 (Wi.wordS s.1 0 most)
def rL (s:Sr):List Int×Sr:=Wi.runS [] s.1 s.2 (Wi.manyS (fun l e=>Wi.numS l e 0 4096 2) s.1 0 6)
theorem rI_err {lo hi:Int} {s:Sr} (h:s.2≠0):rI lo hi s=(0,s):=by
  unfold rI Wi.numS;rw [if_pos h]
theorem rT_err {most:Int} {s:Sr} (h:s.2≠0):rT most s=(⟨#[]⟩,s):=by
  unfold rT Wi.runS;rw [if_pos h]
theorem rL_err {s:Sr} (h:s.2≠0):rL s=([],s):=by
  unfold rL Wi.runS;rw [if_pos h]
theorem rI_bad {lo hi:Int} {s:Sr} (h:(rI lo hi s).2.2≠0):(rI lo hi s).1=0:=by
  unfold rI Wi.numS at h ⊢
  split
  ·rfl
  ·split
   ·rfl
   ·rename_i h1 _ n r hd
    rw [if_neg h1,hd] at h
    simp only at h ⊢
    split
    ·rfl
    ·rename_i h2;rw [if_neg h2] at h;exact absurd rfl h
theorem num_inv {l:List Int} {lo hi e:Int} (hl:Wi.okL l) (he:e≠0) (h:(Wi.numS l 0 lo hi e).2.2=0):
    l=Wi.enc (Wi.numS l 0 lo hi e).1++(Wi.numS l 0 lo hi e).2.1∧lo≤(Wi.numS l 0 lo hi e).1∧(Wi.numS l 0 lo hi e).1≤hi∧inI64 (Wi.numS l 0 lo hi e).1:=by
  obtain ⟨_,h2,_⟩:=Wi.numS_ok (lo:=lo) (hi:=hi) hl he
  obtain ⟨_,h3,h4,h5⟩:=h2 h
  refine ⟨?_,h3,h4,h5⟩
  unfold Wi.numS at h ⊢
  rw [if_neg (by decide)] at h ⊢
  cases hd:Wi.dec l with
  |none=>rw [hd] at h;exact absurd h (show ¬ (4:Int)=0 by decide)
  |some nr=>
   obtain ⟨n,r⟩:=nr
   rw [hd] at h
   simp only at h ⊢
   split
   ·rename_i hc;rw [if_pos hc] at h;exact absurd h he
   ·exact (Wi.dec_enc hl.2 hd).2
theorem rI_ok {lo hi:Int} {s:Sr} (hl:Wi.okL s.1):Wi.okL (rI lo hi s).2.1∧(rI lo hi s).2.1.length≤s.1.length:=by
  by_cases h:s.2=0
  ·unfold rI;rw [h]
   exact ⟨(Wi.numS_ok hl (by decide)).1,(Wi.rd_num (by decide) s.1 hl).2.1⟩
  ·rw [rI_err h];exact ⟨hl,Nat.le_refl _⟩
theorem rI_inv {lo hi:Int} {s:Sr} (hl:Wi.okL s.1) (h:(rI lo hi s).2.2=0):
    s.2=0∧s.1=Wi.enc (rI lo hi s).1++(rI lo hi s).2.1∧lo≤(rI lo hi s).1∧(rI lo hi s).1≤hi∧inI64 (rI lo hi s).1:=by
  by_cases h0:s.2=0
  ·unfold rI at h ⊢;rw [h0] at h ⊢
   exact ⟨rfl,num_inv hl (by decide) h⟩
  ·rw [rI_err h0] at h;exact absurd h h0
theorem rI_rng {lo hi:Int} {s:Sr} (hl:Wi.okL s.1) (h0:lo≤0) (h1:0≤hi):lo≤(rI lo hi s).1∧(rI lo hi s).1≤hi∧inI64 (rI lo hi s).1:=by
  by_cases h:(rI lo hi s).2.2=0
  ·exact (rI_inv hl h).2.2
  ·rw [rI_bad h];exact ⟨h0,h1,by decide,by decide⟩
theorem u8_toNat {x:Int} (h:0≤x∧x<256):((Wi.u8 x).toNat:Int)=x:=by
  obtain ⟨n,rfl⟩:=Int.eq_ofNat_of_zero_le h.1
  unfold Wi.u8
  rw [UInt8.toNat_ofNat']
  have:n<256:=by have:=h.2;omega
  simp only [Int.toNat_natCast]
  rw [Nat.mod_eq_of_lt (by simpa using this)]
theorem bytesI_of {l:List Int} (h:∀ x∈l,0≤x∧x<256):bytesI (bytesOf l)=l:=by
  unfold bytesI
  rw [Wi.bytesOf_list,List.map_map]
  conv=>rhs;rw [←List.map_id l]
  refine List.map_congr_left fun x hx=>?_
  exact u8_toNat (h x hx)
theorem word_inv {l:List Int} {most:Int} (hl:Wi.okL l) (h:(Wi.wordS l 0 most).2.2=0):
    l=Wi.encT (Wi.wordS l 0 most).1++(Wi.wordS l 0 most).2.1∧(Wi.wordS l 0 most).1.size≤l.length:=by
  unfold Wi.wordS at h ⊢
  split at h
  ·rename_i h1;exact absurd h h1
  ·rename_i h1
   have h1:(Wi.numS l 0 0 most 3).2.2=0:=by simpa using h1
   split at h
   ·exact absurd h (show ¬ (4:Int)=0 by decide)
   ·rename_i h2
    rw [if_neg (by rw [h1];decide),if_neg h2]
    obtain ⟨e,a,b,c⟩:=num_inv (lo:=0) (hi:=most) (e:=3) hl (by decide) h1
    generalize Wi.numS l 0 0 most 3=z at e a b c h2
    obtain ⟨n,r,q⟩:=z
    simp only at e a b c h2 ⊢
    obtain ⟨n,rfl⟩:=Int.eq_ofNat_of_zero_le a
    have hr:n≤r.length:=by omega
    have hb:∀ x∈r.take n,0≤x∧x<256:=fun x hx=>(Wi.okL_suf hl e).2 x (List.mem_of_mem_take hx)
    simp only [Int.toNat_natCast]
    have hsz:(bytesOf (r.take n)).size=n:=by rw [Wi.bytesOf_size,List.length_take];omega
    refine ⟨?_,?_⟩
    ·unfold Wi.encT
     rw [hsz,bytesI_of hb,List.append_assoc,List.take_append_drop];exact e
    ·rw [hsz]
     have:=congrArg List.length e
     simp only [List.length_append] at this
     omega
theorem rT_ok {most:Int} {s:Sr} (hl:Wi.okL s.1):Wi.okL (rT most s).2.1∧(rT most s).2.1.length≤s.1.length:=by
  unfold rT Wi.runS
  split
  ·exact ⟨hl,Nat.le_refl _⟩
  ·split
   ·exact ⟨hl,Nat.le_refl _⟩
   ·have:=Wi.rd_word (most:=most) s.1 hl
    exact ⟨this.1,this.2.1⟩
theorem rT_inv {most:Int} {s:Sr} (hl:Wi.okL s.1) (h:(rT most s).2.2=0):
    s.2=0∧s.1=Wi.encT (rT most s).1++(rT most s).2.1∧(rT most s).1.size≤s.1.length:=by
  unfold rT Wi.runS at h ⊢
  split at h
  ·rename_i h0;exact absurd h h0
  ·rename_i h0
   have h0:s.2=0:=by simpa using h0
   split at h
   ·rename_i h1;exact absurd h h1
   ·rename_i h1
    rw [if_neg (by rw [h0];decide),if_neg h1]
    exact ⟨h0,word_inv hl h⟩
theorem rT_len {most:Int} {s:Sr} (hl:Wi.okL s.1):(rT most s).1.size≤s.1.length:=by
  by_cases h:(rT most s).2.2=0
  ·exact (rT_inv hl h).2.2
  ·unfold rT Wi.runS at h ⊢
   split at h
   ·rename_i h0;rw [if_pos h0];exact Nat.zero_le _
   ·rename_i h0
    rw [if_neg h0]
    split at h
    ·rename_i h1;rw [if_pos h1];exact Nat.zero_le _
    ·rename_i h1;exact absurd h h1
theorem iter_inv {lo hi:Int}:∀ (n:Nat) (out l x r:List Int),Wi.okL l→Wi.iterS (fun l e=>Wi.numS l e lo hi 2) n (out,l,0)=(x,r,0)→
    ∃ m,x=out++m∧m.length=n∧l=Wi.encL m++r∧∀ k∈m,inI64 k∧lo≤k∧k≤hi
  |0,out,l,x,r,_,h=>by
   simp only [Wi.iterS,Prod.mk.injEq] at h
   exact ⟨[],by simp [h.1],rfl,by simp [Wi.encL,h.2.1],by simp⟩
  |n+1,out,l,x,r,hl,h=>by
   rw [Wi.iterS_step] at h
   by_cases h0:(Wi.numS l 0 lo hi 2).2.2=0
   ·obtain ⟨e,a,b,c⟩:=num_inv hl (by decide) h0
    have ho:=(Wi.numS_ok (lo:=lo) (hi:=hi) (e:=2) hl (by decide)).1
    generalize Wi.numS l 0 lo hi 2=z at e a b c h0 h ho
    obtain ⟨k,l',q⟩:=z
    simp only at e a b c h0 h ho
    subst h0
    obtain ⟨m,h1,h2,h3,h4⟩:=iter_inv n (out++[k]) l' x r ho h
    refine ⟨k::m,by rw [h1];simp,by simp [h2],by rw [e,h3];simp [Wi.encL],?_⟩
    intro y hy
    rcases List.mem_cons.1 hy with rfl|hy
    ·exact ⟨c,a,b⟩
    ·exact h4 y hy
   ·rw [Wi.iterS_done h0] at h
    simp only [Prod.mk.injEq] at h
    rw [h.2] at h0;exact absurd rfl h0
theorem rL_ok {s:Sr} (hl:Wi.okL s.1):Wi.okL (rL s).2.1:=by
  unfold rL Wi.runS
  split
  ·exact hl
  ·split
   ·exact hl
   ·exact Wi.manyS_ok (Wi.rd_num (by decide)) hl
theorem rL_inv {s:Sr} (hl:Wi.okL s.1) (h:(rL s).2.2=0):
    s.2=0∧s.1=(Wi.enc ((rL s).1.length:Int)++Wi.encL (rL s).1)++(rL s).2.1∧(∀ k∈(rL s).1,inI64 k∧0≤k∧k≤4096)∧(rL s).1.length≤6:=by
  unfold rL Wi.runS at h ⊢
  split at h
  ·rename_i h0;exact absurd h h0
  ·rename_i h0
   have h0:s.2=0:=by simpa using h0
   split at h
   ·rename_i h1;exact absurd h h1
   ·rename_i h1
    rw [if_neg (by rw [h0];decide),if_neg h1]
    refine ⟨h0,?_⟩
    unfold Wi.manyS at h ⊢
    by_cases hn:(Wi.numS s.1 0 0 6 3).2.2=0
    ·obtain ⟨e,a,b,c⟩:=num_inv (lo:=0) (hi:=6) (e:=3) hl (by decide) hn
     have ho:=(Wi.numS_ok (lo:=0) (hi:=6) (e:=3) hl (by decide)).1
     generalize Wi.numS s.1 0 0 6 3=z at e a b c hn ho h
     obtain ⟨n,l',q⟩:=z
     simp only at e a b c hn ho h ⊢
     subst hn
     obtain ⟨n,rfl⟩:=Int.eq_ofNat_of_zero_le a
     simp only [Int.toNat_natCast] at h ⊢
     obtain ⟨m,h2,h3,h4,h5⟩:=iter_inv n [] l' _ _ ho (Wi.trip h)
     rw [List.nil_append] at h2
     rw [h2,h3]
     refine ⟨by rw [e,List.append_assoc];congr 1,h5,by omega⟩
    ·have hz:=((Wi.numS_ok (lo:=0) (hi:=6) (e:=3) hl (by decide)).2.2 hn).1
     rw [hz] at h
     exact absurd h hn
theorem rL_mem {s:Sr} (hl:Wi.okL s.1):(∀ k∈(rL s).1,inI64 k∧0≤k∧k≤4096)∧(rL s).1.length≤6:=by
  by_cases h:(rL s).2.2=0
  ·exact (rL_inv hl h).2.2
  ·have e:(rL s).1=[]:=by
     unfold rL Wi.runS at h ⊢
     split at h
     ·rename_i h0;rw [if_pos h0]
     ·rename_i h0
      rw [if_neg h0]
      split at h
      ·rename_i h1;rw [if_pos h1]
      ·rename_i h1;exact absurd h h1
   rw [e];exact ⟨(by intro k hk;cases hk),Nat.zero_le _⟩
theorem rI_enc {n lo hi:Int} (hn:inI64 n) (h1:lo≤n) (h2:n≤hi) (r:List Int):rI lo hi (Wi.enc n++r,0)=(n,r,0):=Wi.num_enc hn h1 h2 r
theorem rT_enc {s:ByteArray} {most:Int} (h:(s.size:Int)≤most) (hs:s.size≤9223372036854775807) (r:List Int):rT most (Wi.encT s++r,0)=(s,r,0):=by
  unfold rT Wi.runS
  simp only
  rw [Wi.word_enc h hs r,if_neg (show ¬ (0:Int)≠0 by decide),if_neg (show ¬ (0:Int)≠0 by decide)]
theorem rL_enc {m:List Int} (hm:m.length≤6) (h:∀ n∈m,0≤n∧n≤4096) (r:List Int):rL ((Wi.enc (m.length:Int)++Wi.encL m)++r,0)=(m,r,0):=by
  unfold rL Wi.runS
  simp only
  have e:=Wi.many_ints (lo:=0) (hi:=4096) (most:=6) (m:=m) (by omega) (by omega) (fun n hn=>⟨⟨by have:=h n hn;omega,by have:=h n hn;omega⟩,h n hn⟩) r
  simp only [List.append_assoc] at e ⊢
  rw [e,if_neg (show ¬ (0:Int)≠0 by decide),if_neg (show ¬ (0:Int)≠0 by decide)]
def offI:Nat→List Int→Sr→List Int×Sr
  |0,out,s=>(out,s)
  |k+1,out,s=>offI k (out++[(rI 0 maxA s).1]) (rI 0 maxA s).2
def typ1 (s:Sr):Arr×Sr:=(⟨(rT 4 s).1,(rL (rT 4 s).2).1,[]⟩,(rL (rT 4 s).2).2)
def putSz (ps:List (Int×Int)) (i:Nat) (t:Arr):List (Int×Int):=ps.set i ((ps.getD i (0,0)).1,(sizeS t.d).1)
def typI:Nat→Nat→List (Int×Int)→List Arr→Sr→List (Int×Int)×List Arr×Sr
  |0,_,ps,ts,s=>(ps,ts,s)
  |k+1,i,ps,ts,s=>typI k (i+1) (putSz ps i (typ1 s).1) (ts++[(typ1 s).1]) (typ1 s).2
def plE (l:List (Int×Int)):List Int:=l.flatMap fun p=>Wi.enc p.1
def tyE1 (t:Arr):List Int:=Wi.encT t.e++(Wi.enc (t.d.length:Int)++Wi.encL t.d)
def tyE (l:List Arr):List Int:=l.flatMap tyE1
theorem offI_err:∀ (k:Nat) (out:List Int) (s:Sr),s.2≠0→(offI k out s).2=s
  |0,_,_,_=>rfl
  |k+1,out,s,h=>by
   simp only [offI]
   rw [rI_err h]
   exact offI_err k _ _ h
theorem typ1_err {s:Sr} (h:s.2≠0):(typ1 s).2=s:=by
  unfold typ1;simp only;rw [rT_err h,rL_err h]
theorem typI_err:∀ (k i:Nat) (ps:List (Int×Int)) (ts:List Arr) (s:Sr),s.2≠0→(typI k i ps ts s).2.2=s
  |0,_,_,_,_,_=>rfl
  |k+1,i,ps,ts,s,h=>by
   simp only [typI]
   have:=typ1_err h
   rw [typI_err k (i+1) _ _ _ (by rw [this];exact h),this]
theorem offI_ok:∀ (k:Nat) (out:List Int) (s:Sr),Wi.okL s.1→Wi.okL (offI k out s).2.1∧(offI k out s).1.length=out.length+k
  |0,_,_,h=>⟨h,rfl⟩
  |k+1,out,s,h=>by
   have:=offI_ok k (out++[(rI 0 maxA s).1]) (rI 0 maxA s).2 (rI_ok h).1
   simp only [offI]
   refine ⟨this.1,?_⟩
   rw [this.2,List.length_append];simp only [List.length_singleton];omega
theorem typ1_ok {s:Sr} (h:Wi.okL s.1):Wi.okL (typ1 s).2.1:=rL_ok (rT_ok h).1
theorem offI_inv:∀ (k:Nat) (out:List Int) (s:Sr),Wi.okL s.1→(offI k out s).2.2=0→
    ∃ m,(offI k out s).1=out++m∧m.length=k∧s.2=0∧s.1=Wi.encL m++(offI k out s).2.1
  |0,out,s,_,h=>⟨[],by simp [offI],rfl,h,by simp [offI,Wi.encL]⟩
  |k+1,out,s,hl,h=>by
   simp only [offI] at h ⊢
   obtain ⟨m,h1,h2,h3,h4⟩:=offI_inv k _ _ (rI_ok hl).1 h
   obtain ⟨a,b,_⟩:=rI_inv hl h3
   refine ⟨(rI 0 maxA s).1::m,by rw [h1];simp,by simp [h2],a,?_⟩
   rw [show Wi.encL ((rI 0 maxA s).1::m)=Wi.enc (rI 0 maxA s).1++Wi.encL m from rfl,List.append_assoc,←h4];exact b
theorem typ1_inv {s:Sr} (hl:Wi.okL s.1) (h:(typ1 s).2.2=0):s.2=0∧s.1=tyE1 (typ1 s).1++(typ1 s).2.1:=by
  unfold typ1 at h ⊢
  simp only at h ⊢
  obtain ⟨a,b,_⟩:=rL_inv (rT_ok hl).1 h
  obtain ⟨c,d,_⟩:=rT_inv hl a
  refine ⟨c,?_⟩
  unfold tyE1
  simp only
  rw [List.append_assoc,←b];exact d
theorem fst_put (ps:List (Int×Int)) (i:Nat) (t:Arr):(putSz ps i t).map Prod.fst=ps.map Prod.fst:=by
  unfold putSz
  rw [List.map_set]
  simp only
  by_cases h:i<ps.length
  ·have e:(ps.getD i (0,0)).1=(ps.map Prod.fst)[i]'(by simpa using h):=by simp [List.getD,h]
   rw [e,List.set_getElem_self]
  ·rw [List.set_eq_of_length_le (by simp;omega)]
theorem len_put (ps:List (Int×Int)) (i:Nat) (t:Arr):(putSz ps i t).length=ps.length:=by simp [putSz]
theorem typI_inv:∀ (k i:Nat) (ps:List (Int×Int)) (ts:List Arr) (s:Sr),Wi.okL s.1→(typI k i ps ts s).2.2.2=0→
    ∃ T,(typI k i ps ts s).2.1=ts++T∧T.length=k∧s.2=0∧s.1=tyE T++(typI k i ps ts s).2.2.1
  |0,i,ps,ts,s,_,h=>⟨[],by simp [typI],rfl,h,by simp [typI,tyE]⟩
  |k+1,i,ps,ts,s,hl,h=>by
   simp only [typI] at h ⊢
   obtain ⟨m,h1,h2,h3,h4⟩:=typI_inv k _ _ _ _ (typ1_ok hl) h
   obtain ⟨a,b⟩:=typ1_inv hl h3
   refine ⟨(typ1 s).1::m,by rw [h1];simp,by simp [h2],a,?_⟩
   rw [show tyE ((typ1 s).1::m)=tyE1 (typ1 s).1++tyE m from rfl,List.append_assoc,←h4];exact b
theorem typI_fst:∀ (k i:Nat) (ps:List (Int×Int)) (ts:List Arr) (s:Sr),(typI k i ps ts s).1.map Prod.fst=ps.map Prod.fst
  |0,_,_,_,_=>rfl
  |k+1,i,ps,ts,s=>by
   simp only [typI]
   rw [typI_fst k,fst_put]
theorem typI_len (k i:Nat) (ps:List (Int×Int)) (ts:List Arr) (s:Sr):(typI k i ps ts s).1.length=ps.length:=by
  have:=congrArg List.length (typI_fst k i ps ts s)
  simpa using this
theorem typI_tlen:∀ (k i:Nat) (ps:List (Int×Int)) (ts:List Arr) (s:Sr),(typI k i ps ts s).2.1.length=ts.length+k
  |0,_,_,_,_=>rfl
  |k+1,i,ps,ts,s=>by
   simp only [typI]
   rw [typI_tlen k,List.length_append];simp only [List.length_singleton];omega
structure TyR (t:Arr):Prop where
  e:t.e.size≤900000
  d:t.d.length≤6
  r:∀ k∈t.d,inI64 k∧0≤k∧k≤4096
  x:t.x=[]
theorem typ1_r {s:Sr} (h:Wi.okL s.1):TyR (typ1 s).1:=by
  have a:=rT_len (most:=4) h
  have b:=rL_mem (rT_ok (most:=4) h).1
  exact ⟨Nat.le_trans a h.1,b.2,b.1,rfl⟩
theorem typI_r:∀ (k i:Nat) (ps:List (Int×Int)) (ts:List Arr) (s:Sr),Wi.okL s.1→(∀ t∈ts,TyR t)→∀ t∈(typI k i ps ts s).2.1,TyR t
  |0,_,_,_,_,_,h=>h
  |k+1,i,ps,ts,s,hl,h=>by
   simp only [typI]
   refine typI_r k _ _ _ _ (typ1_ok hl) fun t ht=>?_
   rcases List.mem_append.1 ht with ht|ht
   ·exact h t ht
   ·rw [List.mem_singleton.1 ht];exact typ1_r hl
def encP (B:Prg):List Int:=Wi.enc B.regs++Wi.enc B.arena++Wi.encT (bs (textB B.ops))++Wi.enc (B.ins.length:Int)++Wi.enc (B.outs.length:Int)++plE (B.ins++B.outs)++tyE B.types
def encodeS (B:Prg):List Int×Int:=if validS B=true then (encP B,0) else ([],22)
def d1 (b:List Int):Int×Sr:=rI 0 200 (b,0)
def d2 (b:List Int):Int×Sr:=rI 0 maxA (d1 b).2
def d3 (b:List Int):ByteArray×Sr:=rT (b.length:Int) (d2 b).2
def d4 (b:List Int):Int×Sr:=rI 0 (b.length:Int) (d3 b).2
def d5 (b:List Int):Int×Sr:=rI 0 (b.length:Int) (d4 b).2
def cntS (b:List Int):Nat:=((d4 b).1+(d5 b).1).toNat
def d6 (b:List Int):List Int×Sr:=offI (cntS b) [] (d5 b).2
def zerP (l:List Int):List (Int×Int):=l.map fun n=>(n,0)
def d7 (b:List Int):List (Int×Int)×List Arr×Sr:=typI (cntS b) 0 (zerP (d6 b).1) [] (d6 b).2
def opsS (b:List Int):List Ins×Int×Int:=parseS (ul (d3 b).1)
def outP (b:List Int):Prg:=⟨(d1 b).1,(d2 b).1,(opsS b).1,(d7 b).1.take (d4 b).1.toNat,(d7 b).1.drop (d4 b).1.toNat,(d7 b).2.1⟩
def nilP:Prg:=⟨0,0,[],[],[],[]⟩
def endS (s:Sr):Int:=if s.2≠0 then s.2 else if s.1=[] then 0 else 4
def decodeS (b:List Int):Prg×Int:=if (opsS b).2.2=0∧endS (d7 b).2.2=0∧validS (outP b)=true then (outP b,0) else (nilP,4)
theorem plE_map (l:List (Int×Int)):plE l=Wi.encL (l.map Prod.fst):=by simp [plE,Wi.encL,List.flatMap_map]
theorem fst_zer (l:List Int):(zerP l).map Prod.fst=l:=by unfold zerP;rw [List.map_map];exact List.map_id l
theorem okd {b:List Int} (h:Wi.okL b):Wi.okL (d1 b).2.1∧Wi.okL (d2 b).2.1∧Wi.okL (d3 b).2.1∧Wi.okL (d4 b).2.1∧Wi.okL (d5 b).2.1∧Wi.okL (d6 b).2.1:=by
  have h1:Wi.okL (d1 b).2.1:=(rI_ok h).1
  have h2:Wi.okL (d2 b).2.1:=(rI_ok h1).1
  have h3:Wi.okL (d3 b).2.1:=(rT_ok h2).1
  have h4:Wi.okL (d4 b).2.1:=(rI_ok h3).1
  have h5:Wi.okL (d5 b).2.1:=(rI_ok h4).1
  exact ⟨h1,h2,h3,h4,h5,(offI_ok _ _ _ h5).1⟩
theorem cnt_rng {b:List Int} (h:Wi.okL b):0≤(d4 b).1∧(d4 b).1≤b.length∧0≤(d5 b).1∧(d5 b).1≤b.length:=by
  have a:=rI_rng (lo:=0) (hi:=(b.length:Int)) (okd h).2.2.1 (by decide) (by omega)
  have c:=rI_rng (lo:=0) (hi:=(b.length:Int)) (okd h).2.2.2.1 (by decide) (by omega)
  exact ⟨a.1,a.2.1,c.1,c.2.1⟩
theorem dec_encP {b:List Int} (hb:Wi.okL b) (h:(decodeS b).2=0):decodeS b=(outP b,0)∧validS (outP b)=true∧encP (outP b)=b∧(opsS b).2.2=0:=by
  unfold decodeS at h ⊢
  split at h
  ·rename_i hc
   obtain ⟨h1,h2,h3⟩:=hc
   rw [if_pos ⟨h1,h2,h3⟩]
   refine ⟨rfl,h3,?_,h1⟩
   have e7:(d7 b).2.2.2=0∧(d7 b).2.2.1=[]:=by
     unfold endS at h2
     split at h2
     ·rename_i hq;exact absurd h2 hq
     ·rename_i hq
      split at h2
      ·rename_i hr;exact ⟨by simpa using hq,hr⟩
      ·exact absurd h2 (by decide)
   obtain ⟨o1,o2,o3,o4,o5,o6⟩:=okd hb
   obtain ⟨T,t1,t2,t3,t4⟩:=typI_inv _ _ _ _ _ o6 e7.1
   obtain ⟨m,m1,m2,m3,m4⟩:=offI_inv _ _ _ o5 t3
   obtain ⟨a5,b5,c5⟩:=rI_inv (lo:=0) (hi:=(b.length:Int)) o4 m3
   obtain ⟨a4,b4,c4⟩:=rI_inv (lo:=0) (hi:=(b.length:Int)) o3 a5
   obtain ⟨a3,b3,c3⟩:=rT_inv (most:=(b.length:Int)) o2 a4
   obtain ⟨a2,b2,c2⟩:=rI_inv (lo:=0) (hi:=maxA) o1 a3
   obtain ⟨a1,b1,c1⟩:=rI_inv (lo:=0) (hi:=200) (s:=(b,0)) hb a2
   have hops:textB (opsS b).1=ul (d3 b).1:=by
     have e:opsS b=((opsS b).1,(opsS b).2.1,0):=by rw [←h1]
     unfold opsS parseS at e ⊢
     obtain ⟨l,l1,l2,_⟩:=text_parse _ _ _ _ _ e (Nat.lt_succ_self _)
     rw [List.nil_append] at l1
     rw [l1];exact l2
   have hlen:(d7 b).1.length=cntS b:=by
     unfold d7
     rw [typI_len,zerP,List.length_map]
     have:=(offI_ok (cntS b) [] (d5 b).2 o5).2
     simpa [d6] using this
   obtain ⟨r1,r2,r3,r4⟩:=cnt_rng hb
   have hn:(((d7 b).1.take (d4 b).1.toNat).length:Int)=(d4 b).1:=by
     rw [List.length_take,hlen];unfold cntS;omega
   have hm:(((d7 b).1.drop (d4 b).1.toNat).length:Int)=(d5 b).1:=by
     rw [List.length_drop,hlen];unfold cntS;omega
   have hp:plE ((d7 b).1.take (d4 b).1.toNat++(d7 b).1.drop (d4 b).1.toNat)=Wi.encL m:=by
     rw [List.take_append_drop,plE_map]
     have:(d7 b).1.map Prod.fst=(d6 b).1:=by unfold d7;rw [typI_fst,fst_zer]
     rw [this];unfold d6;rw [m1];rfl
   have ht:(d7 b).2.1=T:=by unfold d7;rw [t1];rfl
   unfold encP outP
   simp only
   rw [hops,hn,hm,hp,ht]
   have eb:bs (ul (d3 b).1)=(d3 b).1:=rfl
   rw [eb]
   have f7:(d6 b).2.1=tyE T:=by rw [t4,show (typI (cntS b) 0 (zerP (d6 b).1) [] (d6 b).2).2.2.1=[] from e7.2,List.append_nil]
   have f6:(d5 b).2.1=Wi.encL m++tyE T:=by rw [m4];exact congrArg _ f7
   have f5:(d4 b).2.1=Wi.enc (d5 b).1++(Wi.encL m++tyE T):=by rw [←f6];exact b5
   have f4:(d3 b).2.1=Wi.enc (d4 b).1++(Wi.enc (d5 b).1++(Wi.encL m++tyE T)):=by rw [←f5];exact b4
   have f3:(d2 b).2.1=Wi.encT (d3 b).1++(Wi.enc (d4 b).1++(Wi.enc (d5 b).1++(Wi.encL m++tyE T))):=by rw [←f4];exact b3
   have f2:(d1 b).2.1=Wi.enc (d2 b).1++(Wi.encT (d3 b).1++(Wi.enc (d4 b).1++(Wi.enc (d5 b).1++(Wi.encL m++tyE T)))):=by rw [←f3];exact b2
   have f1:b=Wi.enc (d1 b).1++(d1 b).2.1:=b1
   rw [f2] at f1
   simp only [List.append_assoc] at f1 ⊢
   exact f1.symm
  ·exact absurd h (by decide)
end Go.Proofs.YtohiagaclfaolaaGreatDoor.Cd

namespace Go.Proofs.YtohiagaclfaolaaGreatDoor.Cd
open Go.Proofs.YtohiagaclfaolaaGreatDoor
open Go Go.Fw Bm Tx
set_option maxRecDepth 20000
theorem oprOk_mono {f:List Bool} {r m n:Int} {i:Nat} (h:oprOk f r i n=true) (hm:r≤m):oprOk f m i n=true:=by
  unfold oprOk at h ⊢
  split at h
  ·rename_i hl;rw [if_pos hl];exact h
  ·rename_i hl
   rw [if_neg hl]
   split at h
   ·rename_i hf
    rw [if_pos hf]
    simp only [decide_eq_true_eq] at h ⊢
    omega
   ·rename_i hf;rw [if_neg hf]
theorem right_mono {x:Ins} {r m:Int} (h:rightS x r=true) (hm:r≤m):rightS x m=true:=by
  unfold rightS at h ⊢
  cases hf:formS x with
  |none=>rw [hf] at h;cases h
  |some f=>
   rw [hf] at h
   simp only [Bool.and_eq_true] at h ⊢
   obtain ⟨⟨hp,⟨⟨⟨h0,h1⟩,h2⟩,h3⟩⟩,hr⟩:=h
   exact ⟨⟨hp,⟨⟨⟨oprOk_mono h0 hm,oprOk_mono h1 hm⟩,oprOk_mono h2 hm⟩,oprOk_mono h3 hm⟩⟩,hr⟩
structure VaP (B:Prg):Prop where
  regs:0≤B.regs∧B.regs≤200
  arena:0≤B.arena∧B.arena≤maxA
  len:B.types.length=B.ins.length+B.outs.length
  ops:∀ x∈B.ops,rightS x 200=true
  types:typesOk B.arena B.types (B.ins++B.outs)=true
theorem valid_va {B:Prg} (h:validS B=true):VaP B:=by
  unfold validS at h
  simp only [Bool.and_eq_true,decide_eq_true_eq,List.all_eq_true] at h
  obtain ⟨⟨⟨⟨⟨h1,h2⟩,h3⟩,h4⟩,h5⟩,h6⟩:=h
  exact ⟨h1,h2,h3,fun x hx=>right_mono (h4 x hx) h1.2,h6⟩
structure TyV (arena:Int) (t:Arr) (p:Int×Int):Prop where
  e:t.e.size≤4
  d:t.d.length≤6
  r:∀ k∈t.d,0≤k∧k≤4096
  x:t.x=[]
  sz:p.2=(sizeS t.d).1
  lo:0≤p.1
  hi:p.1≤arena
theorem type_v {arena:Int} {t:Arr} {p:Int×Int} (h:typeOk arena t p=true):TyV arena t p:=by
  unfold typeOk at h
  simp only [Bool.and_eq_true,Bool.or_eq_true,decide_eq_true_eq] at h
  obtain ⟨⟨⟨⟨⟨h1,h2⟩,h3⟩,h4⟩,h5⟩,h6⟩:=h
  have hb:=sizeS_bd t.d
  refine ⟨?_,?_,?_,h3,h4,h5,by omega⟩
  ·rcases h1 with h1|h1
   ·have e:=congrArg List.length (eq_of_beq (show (t.e.data.toList==sInt.data.toList)=true from h1));rw [show sInt.data.toList.length=3 from rfl] at e;show t.e.data.size≤4;rw [←Array.length_toList];omega
   ·have e:=congrArg List.length (eq_of_beq (show (t.e.data.toList==sBool.data.toList)=true from h1));rw [show sBool.data.toList.length=4 from rfl] at e;show t.e.data.size≤4;rw [←Array.length_toList];omega
  ·unfold sizeS at h2
   split at h2
   ·exact absurd h2 (by decide)
   ·omega
  ·unfold sizeS at h2
   split at h2
   ·exact absurd h2 (by decide)
   ·split at h2
    ·exact absurd h2 (by decide)
    ·rename_i hb;exact bad_no hb
theorem offI_enc {r:List Int}:∀ (m out:List Int),(∀ n∈m,0≤n∧n≤maxA)→offI m.length out (Wi.encL m++r,0)=(out++m,r,0)
  |[],out,_=>by simp [offI,Wi.encL]
  |n::m,out,h=>by
   have hn:=h n (by simp)
   have hi:inI64 n:=⟨by omega,by have:=hn.2;unfold maxA at this;omega⟩
   rw [show Wi.encL (n::m)++r=Wi.enc n++(Wi.encL m++r) by simp [Wi.encL]]
   simp only [List.length_cons,offI]
   rw [rI_enc hi hn.1 hn.2]
   simp only
   rw [offI_enc m _ fun k hk=>h k (by simp [hk])]
   simp
theorem typ1_enc {arena:Int} {t:Arr} {p:Int×Int} (h:TyV arena t p) (r:List Int):typ1 (tyE1 t++r,0)=(t,r,0):=by
  unfold typ1 tyE1
  rw [show (Wi.encT t.e++(Wi.enc (t.d.length:Int)++Wi.encL t.d))++r=Wi.encT t.e++((Wi.enc (t.d.length:Int)++Wi.encL t.d)++r) by simp]
  rw [rT_enc (by have:=h.e;omega) (by have:=h.e;omega)]
  simp only
  rw [rL_enc h.d h.r]
  have:=h.x
  cases t
  simp only at this ⊢
  rw [this]
theorem put_next {done:List (Int×Int)} {p:Int×Int} {t:Arr} {l:List (Int×Int)} (h:p.2=(sizeS t.d).1):putSz (done++(p.1,0)::l) done.length t=(done++[p])++l:=by
  unfold putSz
  rw [List.getD_eq_getElem?_getD,List.getElem?_append_right (Nat.le_refl _),Nat.sub_self,List.getElem?_cons_zero,Option.getD_some,List.set_append_right _ _ (Nat.le_refl _),Nat.sub_self,List.set_cons_zero,←h]
  simp
theorem typI_enc {arena:Int} {r:List Int}:∀ (T:List Arr) (P done:List (Int×Int)) (ts:List Arr),P.length=T.length→typesOk arena T P=true→
    typI T.length done.length (done++zerP (P.map Prod.fst)) ts (tyE T++r,0)=(done++P,ts++T,r,0)
  |[],[],done,ts,_,_=>by simp [typI,zerP,tyE]
  |t::T,p::P,done,ts,hl,h=>by
   simp only [typesOk,Bool.and_eq_true] at h
   have hv:=type_v h.1
   rw [show tyE (t::T)++r=tyE1 t++(tyE T++r) by simp [tyE]]
   simp only [List.length_cons,typI]
   rw [typ1_enc hv]
   simp only
   rw [show zerP ((p::P).map Prod.fst)=(p.1,0)::zerP (P.map Prod.fst) from rfl,put_next hv.sz]
   have e:=typI_enc (arena:=arena) (r:=r) T P (done++[p]) (ts++[t]) (by simpa using hl) h.2
   rw [List.length_append,List.length_singleton] at e
   rw [e]
   simp
  |[],_::_,_,_,hl,_=>by simp at hl
  |_::_,[],_,_,hl,_=>by simp at hl
theorem pl_mem {arena:Int}:∀ (T:List Arr) (P:List (Int×Int)),P.length=T.length→typesOk arena T P=true→∀ n∈P.map Prod.fst,0≤n∧n≤arena
  |[],[],_,_,n,h=>by simp at h
  |t::T,p::P,hl,h,n,hn=>by
   simp only [typesOk,Bool.and_eq_true] at h
   have hv:=type_v h.1
   rw [List.map_cons] at hn
   rcases List.mem_cons.1 hn with rfl|hn
   ·exact ⟨hv.lo,hv.hi⟩
   ·exact pl_mem T P (by simpa using hl) h.2 n hn
  |[],_::_,hl,_,_,_=>by simp at hl
  |_::_,[],hl,_,_,_=>by simp at hl
theorem plE_len:∀ (l:List (Int×Int)),l.length≤(plE l).length
  |[]=>Nat.zero_le _
  |p::l=>by
   have:=plE_len l
   have:=(Wi.enc_len p.1).1
   rw [show plE (p::l)=Wi.enc p.1++plE l from rfl,List.length_append,List.length_cons]
   omega
theorem parse_ofB {l:List Ins} (h:∀ x∈l,rightS x 200=true):parseS (textB l)=(l,0,0):=by
  unfold parseS
  rw [parse_text l _ [] h (Nat.lt_succ_self _)];rfl
theorem enc_decP {B:Prg} (hv:validS B=true) (hs:(textB B.ops).length≤1000000) (hp:B.ins.length+B.outs.length≤1000000):decodeS (encP B)=(B,0)∧(d3 (encP B)).1=bs (textB B.ops):=by
  have h:=valid_va hv
  obtain ⟨g1,g2⟩:=h.regs
  obtain ⟨g3,g4⟩:=h.arena
  generalize hx:encP B=x
  have ex:x=Wi.enc B.regs++(Wi.enc B.arena++(Wi.encT (bs (textB B.ops))++(Wi.enc (B.ins.length:Int)++(Wi.enc (B.outs.length:Int)++(plE (B.ins++B.outs)++(tyE B.types++[])))))):=by
    rw [←hx];unfold encP;simp only [List.append_assoc,List.append_nil]
  have hlen:=congrArg List.length ex
  have hpl:=plE_len (B.ins++B.outs)
  have hsz:(bs (textB B.ops)).size=(textB B.ops).length:=bs_size _
  have het:(bs (textB B.ops)).size≤(Wi.encT (bs (textB B.ops))).length:=by unfold Wi.encT;rw [List.length_append,Wi.bytesI_len];omega
  simp only [List.length_append] at hlen hpl
  have e1:d1 x=(B.regs,Wi.enc B.arena++(Wi.encT (bs (textB B.ops))++(Wi.enc (B.ins.length:Int)++(Wi.enc (B.outs.length:Int)++(plE (B.ins++B.outs)++(tyE B.types++[]))))),0):=by
    unfold d1;rw [ex,rI_enc ⟨by omega,by omega⟩ g1 g2]
  have e2:d2 x=(B.arena,Wi.encT (bs (textB B.ops))++(Wi.enc (B.ins.length:Int)++(Wi.enc (B.outs.length:Int)++(plE (B.ins++B.outs)++(tyE B.types++[])))),0):=by
    unfold d2;rw [e1];exact rI_enc ⟨by omega,by unfold maxA at g4;omega⟩ g3 g4 _
  have e3:d3 x=(bs (textB B.ops),Wi.enc (B.ins.length:Int)++(Wi.enc (B.outs.length:Int)++(plE (B.ins++B.outs)++(tyE B.types++[]))),0):=by
    unfold d3;rw [e2];exact rT_enc (by omega) (by omega) _
  have e4:d4 x=((B.ins.length:Int),Wi.enc (B.outs.length:Int)++(plE (B.ins++B.outs)++(tyE B.types++[])),0):=by
    unfold d4;rw [e3];exact rI_enc ⟨by omega,by omega⟩ (by omega) (by omega) _
  have e5:d5 x=((B.outs.length:Int),plE (B.ins++B.outs)++(tyE B.types++[]),0):=by
    unfold d5;rw [e4];exact rI_enc ⟨by omega,by omega⟩ (by omega) (by omega) _
  have ec:cntS x=(B.ins++B.outs).length:=by unfold cntS;rw [e4,e5,List.length_append];simp only;omega
  have hlT:(B.ins++B.outs).length=B.types.length:=by rw [List.length_append,h.len]
  have e6:d6 x=((B.ins++B.outs).map Prod.fst,tyE B.types++[],0):=by
    unfold d6;rw [ec,e5,plE_map]
    have:=offI_enc (r:=tyE B.types++[]) ((B.ins++B.outs).map Prod.fst) [] fun n hn=>by
      have:=pl_mem _ _ hlT h.types n hn
      exact ⟨this.1,by omega⟩
    rw [List.length_map] at this
    rw [this];rfl
  have e7:d7 x=(B.ins++B.outs,B.types,[],0):=by
    unfold d7;rw [ec,e6,hlT]
    have:=typI_enc (r:=[]) B.types (B.ins++B.outs) [] [] hlT h.types
    simpa using this
  have eo:opsS x=(B.ops,0,0):=by
    unfold opsS;rw [e3,ul_bs];exact parse_ofB h.ops
  have eP:outP x=B:=by
    unfold outP
    rw [e1,e2,e4,e7,eo]
    simp
  refine ⟨?_,by rw [e3]⟩
  unfold decodeS
  rw [eP,eo,e7,if_pos ⟨rfl,rfl,hv⟩]
end Go.Proofs.YtohiagaclfaolaaGreatDoor.Cd

namespace Go.Proofs.YtohiagaclfaolaaGreatDoor.Tx
open Go.Proofs.YtohiagaclfaolaaGreatDoor
open Go Go.Fw Bm
set_option maxRecDepth 20000
abbrev oBe8_0:List (Nat×Nat):=[(0,1),(1,1),(2,1),(3,1),(4,1),(5,1),(6,0),(7,1)]
attribute [go_sem] oBe8_0
theorem xecR {P:Program} {E:Env} (hE:EnvOk P E) {f:FuncId} {fn:Func} {c:Code} (keep:Nat→List Nat) (hfn:P.funcs[f]? =some fn) (rs:List ResultVar) {args:List AV} {σ:List AObj} {k:AV→List AObj→Prop} (hm:P.follows .mixedOrders=true:=by exact mixed) (hb:fn.body=some c:=by exact rfl)
    (hrs:fn.results.toList=rs:=by kernel_rfl) (hd:dstOk fn.ntmps c=true:=by kernel_rfl) (hargs:args.length≤fn.ntmps:=by exact Nat.le_of_ble_eq_true rfl)
    (h:∀ K:QT (endQ P rs k),awp P E keep σ.length c K.k ⟨initF 0 args,σ⟩):XEC P E.px f args σ k:=by
  subst hrs
  exact xec_of hE hm keep hfn hb hd hargs (t_name h)
def rdX (s:List UInt8):AV→List AObj→Prop:=fun x _=>preadS s=none∧x= .lit wrongV
theorem intX_s {X:AV→List AObj→Prop} {l:List UInt8} {n:Int} {σ:List AObj} {k:AV→List AObj→Prop} (h:int? l=some n):intX X l σ k=k (.lit (.int .i64 n)) σ:=by unfold intX;rw [h]
theorem intX_n {X:AV→List AObj→Prop} {l:List UInt8} {σ:List AObj} {k:AV→List AObj→Prop} (h:int? l=none):intX X l σ k=X (.lit wrongV) σ:=by unfold intX;rw [h]
attribute [go_sem] xcon110_f xcon110_c
noncomputable def zer2 (t:TypeId):AV:=if t=123 then .agg [] else zer t
theorem zer2_ok:∀ t v,zeroT Tryz.prog t=some v→RC (fun _ _=>none) (zer2 t) v:=by
  intro t v h
  unfold zer2
  split
  ·rename_i e
   subst e
   rw [show zeroT Tryz.prog 123=some (.agg #[]) by kernel_rfl] at h
   cases h
   exact RC.agg [] [] rfl (fun i hi=>absurd hi (Nat.not_lt_zero i)) fun i hi=>absurd hi (Nat.not_lt_zero i)
  ·exact zer_ok t v h
theorem zer2_3:zer2 3=zer 3:=rfl
theorem zer2_4:zer2 4=zer 4:=rfl
theorem zer2_9:zer2 9=zer 9:=rfl
theorem zer2_50:zer2 50=zer 50:=rfl
theorem zer2_117:zer2 117=zer 117:=rfl
theorem zer2_123:zer2 123= .agg []:=rfl
theorem zer2_136:zer2 136=zer 136:=rfl
theorem zer2_149:zer2 149=zer 149:=rfl
theorem und123:Tryz.prog.underlying 123=some (.struct #[]):=by kernel_rfl
attribute [go_sem] zer2_3 zer2_4 zer2_9 zer2_50 zer2_117 zer2_123 zer2_136 zer2_149 und123
noncomputable def Y8 (s:List UInt8):Env:=envX (P:=Tryz.prog) (rdX s) [xcon110 (rdX s)] (envJ (P:=Tryz.prog) jkV zer2 (fun d=>d==46) (fun _=>false) [con107,con22C,con45,con48] [ecn108])
theorem Y8_ok (s:List UInt8):EnvOk Tryz.prog (Y8 s):=envXOk (envJOk zer2_ok)
theorem nums_no:∀ {l:List (List UInt8)} {i:Nat},i<l.length→int? (l.getD i [])=none→nums l=none
  |t::l,0,_,h=>by simp only [nums];rw [show int? t=none from h]
  |t::l,i+1,hi,h=>by
   simp only [nums]
   rw [nums_no (l:=l) (i:=i) (by simpa using hi) h]
   cases int? t<;>rfl
theorem nums_yes:∀ {l:List (List UInt8)} {v:Nat→Int},(∀ i,i<l.length→int? (l.getD i [])=some (v i))→nums l=some ((List.range l.length).map v)
  |[],_,_=>rfl
  |t::l,v,h=>by
   simp only [nums]
   rw [show int? t=some (v 0) from h 0 (by simp),nums_yes (l:=l) (v:=fun i=>v (i+1)) fun i hi=>h (i+1) (by simpa using hi)]
   simp only [Option.map_some,List.length_cons,List.range_succ_eq_map,List.map_cons,List.map_map]
   rfl
def oc (oI:Nat→Int) (i j:Nat):Int:=if j<i then oI j else 0
theorem splitW_le {c:UInt8}:∀ {l:List UInt8} {i:Nat},((splitW c l).getD i []).length≤l.length
  |[],i=>by cases i<;>simp [splitW]
  |b::l,i=>by
   have ih:∀ i,((splitW c l).getD i []).length≤l.length:=fun i=>splitW_le
   simp only [splitW]
   split
   ·cases i with
    |zero=>simp
    |succ i=>have:=ih i;simp only [List.getD_cons_succ,List.length_cons];omega
   ·cases hq:splitW c l with
    |nil=>cases i<;>simp
    |cons w ws=>
     rw [hq] at ih
     cases i with
     |zero=>have:=ih 0;simp only [List.getD_cons_zero,List.length_cons] at this ⊢;omega
     |succ i=>have:=ih (i+1);simp only [List.getD_cons_succ,List.length_cons] at this ⊢;omega
theorem txs_hd0 (w:List UInt8) (l:List (List UInt8)):List.getD (txs (w::l)) 0 (.lit (.string (bs [])))= .lit (.string (bs w)):=rfl
theorem sm_right {x:Ins} (h:rightS x 200=true):Sm x:=by
  obtain ⟨f,h⟩:=right_rti h
  exact ⟨by have:=h.len;have:=h.len4;omega,fun i hi=>by have:=h.bnd i hi;exact ⟨by omega,by omega⟩,by have:=line_len h;omega⟩
attribute [go_sem] con107_f con107_c
set_option maxHeartbeats 16000000 in
theorem read_xec {s:List UInt8} (hs:s.length≤100000):XEC Tryz.prog (rdX s) 89 [.lit (.string (bs s))] [] fun y _=>∃ x,preadS s=some x∧y=opV x:=by
  obtain ⟨N,R0,hsp⟩:∃ N R0,splitW 32 s=N::R0:=by
    cases h:splitW 32 s with
    |nil=>exact absurd h (splitW_ne 32 s)
    |cons a b=>exact ⟨a,b,rfl⟩
  have hsl:=splitW_len (c:=32) s
  have hcl:s.count 32≤s.length:=List.count_le_length
  have hln:∀ i,(R0.getD i []).length≤100000:=fun i=>by
    have:= @splitW_le 32 s (i+1)
    rw [hsp,List.getD_cons_succ] at this
    omega
  rw [hsp,List.length_cons] at hsl
  have hP:preadS s=preadW s (N::R0):=by unfold preadS;rw [hsp]
  simp only [preadW] at hP
  generalize hix:idxF nmB N 16 0=k at hP
  have htk:∀ (A:List UInt8) (B:List (List UInt8)),List.take (B.length+1) (txs (A::B))=txs (A::B):=fun A B=>by rw [←List.length_cons (a:=A),←txs_length];exact take_all _
  have hdr:∀ (A:List UInt8) (B:List (List UInt8)),List.drop 1 (txs (A::B))=txs B:=fun _ _=>rfl
  by_cases hk1:k<1
  ·rw [if_pos hk1] at hP
   have g1:decide (k<1)=true:=decide_eq_true hk1
   refine xecR (Y8_ok s) (kp89) Tryz.func89 [.cell 2 50] (h:=fun KF=>?_)
   unfold Y8
   repeat' first|(with_reducible first|(refine nx ?_;intros)|apply And.intro|intro vr)|exact kpd|((with_reducible first|refine ny ?_|refine t_kLF ?_ ?_|refine t_dO 9 (fun i=>i==0) oBe8_0 fun K=>?_);intros;simp only [go_sem,kp89,geff,z53,hsp,hix,g1,hdr,htk,txs_length,List.length_cons,yes])
   all_goals try exact nd
   all_goals first|exact ⟨hP,rfl⟩|exact ⟨trivial,hP,rfl⟩
  rw [if_neg hk1] at hP
  have g1:decide (k<1)=false:=decide_eq_false hk1
  by_cases hk:k=5
  ·subst hk
   clear hk1
   have hk5:((5:Int)==5)=true:=rfl
   cases R0 with
   |nil=>
    have gz:decide ((0:Int)>0)=false:=by decide
    have htk2:List.take (0+1) (txs [N])=txs [N]:=rfl
    have htk3:List.take 1 (txs [N])=txs [N]:=rfl
    have hP':preadS s=accS ⟨5,bs [],0,0,0,0⟩ s:=hP
    clear hP
    have g4:decide ((0:Int)>4)=false:=by decide
    have g2:decide ((0:Int)<0)=false:=by decide
    unfold accS at hP'
    refine xecR (Y8_ok s) (kp89) Tryz.func89 [.cell 2 50] (h:=fun KF=>?_)
    unfold Y8
    repeat' first|(with_reducible first|(refine nx ?_;intros)|apply And.intro|intro vr)|exact kpd|((with_reducible first|refine ny ?_|refine t_kLF ?_ ?_|refine t_dO 9 (fun i=>i==0) oBe8_0 fun K=>?_);intros;simp only [go_sem,kp89,geff,z53,hsp,hix,hk5,g1,g4,hdr,gz,htk2,htk3,txs_length,List.length_cons,List.length_nil,yes])
    all_goals try exact nd
    refine t_loopF (ι:=Unit) (fun _=>[(51,.lit (.int .i64 0))]) (fun _=>[.box 50 [.lit (.int .i64 0),.lit (.string (bs [])),.lit (.int .i64 0),.lit (.int .i64 0),.lit (.int .i64 0),.lit (.int .i64 0)],.box 117 [.sl false 1 (txs [N])],.box 136 fCs,.box 50 [.lit (.int .i64 5),.lit (.string (bs [])),.lit (.int .i64 0),.lit (.int .i64 0),.lit (.int .i64 0),.lit (.int .i64 0)],.box 149 [.ref 3 2,.ref 3 3,.ref 3 4,.ref 3 5]]) (fun _=>0) () ?_ ?_
    ·exact lf
    rintro ⟨⟩ K0
    cases hri:rightS ⟨5,bs [],0,0,0,0⟩ 200 with
    |false=>
     rw [hri,if_neg (by simp)] at hP'
     repeat' first|(with_reducible first|(refine nx ?_;intros)|apply And.intro|intro vr)|exact kpd|((with_reducible first|refine ny ?_|refine t_kLF ?_ ?_|refine t_dO 9 (fun i=>i==0) oBe8_0 fun K=>?_);intros;simp only [go_sem,kp89,geff,g2,hri,yes])
     all_goals try exact nd
     all_goals first|exact ⟨hP',rfl⟩|exact ⟨trivial,hP',rfl⟩
    |true=>
     have hsm:=sm_right hri
     by_cases hln3:lineB ⟨5,bs [],0,0,0,0⟩=s
     ·rw [if_pos ⟨hri,hln3⟩] at hP'
      have g5:(s==s)=true:=by simp
      have hre:∃ x,preadS s=some x∧AV.agg [.lit (.int .i64 5),.lit (.string (bs [])),.lit (.int .i64 0),.lit (.int .i64 0),.lit (.int .i64 0),.lit (.int .i64 0)]=opV x:=⟨_,hP',rfl⟩
      repeat' first|(with_reducible first|(refine nx ?_;intros)|apply And.intro|intro vr)|exact kpd|((with_reducible first|refine ny ?_|refine t_kLF ?_ ?_|refine t_dO 9 (fun i=>i==0) oBe8_0 fun K=>?_);intros;simp only [go_sem,kp89,geff,g2,hri,hln3,g5,yes])
      all_goals try exact nd
      all_goals (refine end_ret rfl ?_)
      all_goals exact hre
     ·rw [if_neg (fun h=>hln3 h.2)] at hP'
      have g5:(lineB ⟨5,bs [],0,0,0,0⟩==s)=false:=by simpa using hln3
      repeat' first|(with_reducible first|(refine nx ?_;intros)|apply And.intro|intro vr)|exact kpd|((with_reducible first|refine ny ?_|refine t_kLF ?_ ?_|refine t_dO 9 (fun i=>i==0) oBe8_0 fun K=>?_);intros;simp only [go_sem,kp89,geff,g2,hri,g5,yes])
      all_goals try exact nd
      all_goals first|exact ⟨hP',rfl⟩|exact ⟨trivial,hP',rfl⟩
   |cons q R1=>
    have gz:decide (((R1.length+1:Nat):Int)>0)=true:=decide_eq_true (by omega)
    have htk2:List.take (R1.length+1+1) (txs (N::q::R1))=txs (N::q::R1):=htk N (q::R1)
    have htk3:List.take (R1.length+1) (txs (q::R1))=txs (q::R1):=htk q R1
    have gy:decide ((0:Int)<((R1.length+1:Nat):Int))=true:=decide_eq_true (by omega)
    have gx:(0:Int)<((R1.length+1:Nat):Int):=by omega
    rw [show tlP 5 (q::R1)=R1 from rfl,show hdP 5 (q::R1)=q from rfl] at hP
    by_cases hc4:(R1).length>4
    ·rw [if_pos hc4] at hP
     have g4:decide (((R1).length:Int)>4)=true:=decide_eq_true (by omega)
     refine xecR (Y8_ok s) (kp89) Tryz.func89 [.cell 2 50] (h:=fun KF=>?_)
     unfold Y8
     repeat' first|(with_reducible first|(refine nx ?_;intros)|apply And.intro|intro vr)|exact kpd|((with_reducible first|refine ny ?_|refine t_kLF ?_ ?_|refine t_dO 9 (fun i=>i==0) oBe8_0 fun K=>?_);intros;simp only [go_sem,kp89,geff,z53,hsp,hix,hk5,g1,g4,hdr,htk,gz,gy,txs_hd0,htk2,htk3,txs_length,List.length_cons,yes])
     all_goals try exact nd
     all_goals first|exact ⟨hP,rfl⟩|exact ⟨trivial,hP,rfl⟩
    rw [if_neg hc4] at hP
    have g4:decide (((R1).length:Int)>4)=false:=decide_eq_false (by omega)
    have hlr:∀ i,((R1).getD i []).length≤100000:=fun i=>hln (i+1)
    have hln2:(R1).length≤100001:=by rw [List.length_cons] at hsl;omega
    obtain ⟨R,hRR⟩:∃ R,R=R1:=⟨_,rfl⟩
    subst hRR
    refine xecR (Y8_ok s) (kp89) Tryz.func89 [.cell 2 50] (h:=fun KF=>?_)
    unfold Y8
    repeat' first|(with_reducible first|(refine nx ?_;intros)|apply And.intro|intro vr)|exact kpd|((with_reducible first|refine ny ?_|refine t_kLF ?_ ?_|refine t_dO 9 (fun i=>i==0) oBe8_0 fun K=>?_);intros;simp only [go_sem,kp89,geff,z53,hsp,hix,hk5,g1,g4,hdr,htk,gz,gy,txs_hd0,htk2,htk3,txs_length,List.length_cons,yes])
    all_goals try exact nd
    refine t_loopF (ι:={q:Nat×(Nat→Int) // q.1≤R.length∧∀ j,j<q.1→int? (R.getD j [])=some (q.2 j)}) (fun i=>[(51,.lit (.int .i64 i.1.1))]) (fun i=>[.box 50 [.lit (.int .i64 0),.lit (.string (bs [])),.lit (.int .i64 0),.lit (.int .i64 0),.lit (.int .i64 0),.lit (.int .i64 0)],.box 117 [.sl false 1 (txs (N::q::R))],.box 136 fCs,.box 50 [.lit (.int .i64 5),.lit (.string (bs q)),.lit (.int .i64 (oc i.1.2 i.1.1 0)),.lit (.int .i64 (oc i.1.2 i.1.1 1)),.lit (.int .i64 (oc i.1.2 i.1.1 2)),.lit (.int .i64 (oc i.1.2 i.1.1 3))],.box 149 [.ref 3 2,.ref 3 3,.ref 3 4,.ref 3 5]]) (fun i=>R.length - i.1.1) ⟨(0,fun _=>0),by omega,fun j hj=>absurd hj (by simp)⟩ ?_ ?_
    ·exact lf
    rintro ⟨⟨i,v⟩,hi,hv⟩ K0
    simp only at hi hv
    have hdx:∀ i,List.getD (txs R) i (.lit (.string (bs [])))= .lit (.string (bs (R.getD i []))):=fun i=>txs_getJ R i
    rcases Nat.lt_or_ge i R.length with hc|hc
    ·have hil:=hlr i
     cases hn1:int? (R.getD i []) with
     |none=>
      rw [nums_no hc hn1] at hP
      rcases (show i=0∨i=1∨i=2∨i=3 by omega) with rfl|rfl|rfl|rfl
      ·have hi0:((((0:Nat):Int)):Int)=0:=rfl
       have g2:decide ((0:Int)<(R.length:Int))=true:=decide_eq_true (by omega)
       have g3:(0:Int)<(R.length:Int):=by omega
       repeat' first|(with_reducible first|(refine nx ?_;intros)|apply And.intro|intro vr)|exact kpd|((with_reducible first|refine ny ?_|refine t_kLF ?_ ?_|refine t_dO 9 (fun i=>i==0) oBe8_0 fun K=>?_);intros;simp only [go_sem,kp89,geff,hi0,g2,intX_n hn1,yes])
       all_goals try exact nd
       all_goals first|exact ⟨hP,rfl⟩|exact ⟨trivial,hP,rfl⟩
      ·have hi0:((((1:Nat):Int)):Int)=1:=rfl
       have g2:decide ((1:Int)<(R.length:Int))=true:=decide_eq_true (by omega)
       have g3:(1:Int)<(R.length:Int):=by omega
       repeat' first|(with_reducible first|(refine nx ?_;intros)|apply And.intro|intro vr)|exact kpd|((with_reducible first|refine ny ?_|refine t_kLF ?_ ?_|refine t_dO 9 (fun i=>i==0) oBe8_0 fun K=>?_);intros;simp only [go_sem,kp89,geff,hi0,g2,intX_n hn1,yes])
       all_goals try exact nd
       all_goals first|exact ⟨hP,rfl⟩|exact ⟨trivial,hP,rfl⟩
      ·have hi0:((((2:Nat):Int)):Int)=2:=rfl
       have g2:decide ((2:Int)<(R.length:Int))=true:=decide_eq_true (by omega)
       have g3:(2:Int)<(R.length:Int):=by omega
       repeat' first|(with_reducible first|(refine nx ?_;intros)|apply And.intro|intro vr)|exact kpd|((with_reducible first|refine ny ?_|refine t_kLF ?_ ?_|refine t_dO 9 (fun i=>i==0) oBe8_0 fun K=>?_);intros;simp only [go_sem,kp89,geff,hi0,g2,intX_n hn1,yes])
       all_goals try exact nd
       all_goals first|exact ⟨hP,rfl⟩|exact ⟨trivial,hP,rfl⟩
      ·have hi0:((((3:Nat):Int)):Int)=3:=rfl
       have g2:decide ((3:Int)<(R.length:Int))=true:=decide_eq_true (by omega)
       have g3:(3:Int)<(R.length:Int):=by omega
       repeat' first|(with_reducible first|(refine nx ?_;intros)|apply And.intro|intro vr)|exact kpd|((with_reducible first|refine ny ?_|refine t_kLF ?_ ?_|refine t_dO 9 (fun i=>i==0) oBe8_0 fun K=>?_);intros;simp only [go_sem,kp89,geff,hi0,g2,intX_n hn1,yes])
       all_goals try exact nd
       all_goals first|exact ⟨hP,rfl⟩|exact ⟨trivial,hP,rfl⟩
     |some n=>
      have hv2:∀ j,j<i+1→int? (R.getD j [])=some ((fun j=>if j=i then n else v j) j):=fun j hj=>by
        by_cases e:j=i
        ·subst e;simpa using hn1
        ·simp only [if_neg e];exact hv j (by omega)
      have hoc:∀ j,j≠i→oc (fun j=>if j=i then n else v j) (i+1) j=oc v i j:=fun j hj=>by
        unfold oc;simp only [if_neg hj];by_cases h:j<i
        ·rw [if_pos (by omega),if_pos h]
        ·rw [if_neg (by omega),if_neg h]
      have hoi:oc (fun j=>if j=i then n else v j) (i+1) i=n:=by unfold oc;rw [if_pos (by omega)];simp
      rcases (show i=0∨i=1∨i=2∨i=3 by omega) with rfl|rfl|rfl|rfl
      ·have hi0:((((0:Nat):Int)):Int)=0:=rfl
       have g2:decide ((0:Int)<(R.length:Int))=true:=decide_eq_true (by omega)
       have g3:(0:Int)<(R.length:Int):=by omega
       have o0:=hoi
       have o1:=hoc 1 (by decide)
       have o2:=hoc 2 (by decide)
       have o3:=hoc 3 (by decide)
       generalize hV:(fun j=>if j=0 then n else v j)=V at*
       repeat' first|(with_reducible first|(refine nx ?_;intros)|apply And.intro|intro vr)|exact kpd|((with_reducible first|refine ny ?_|refine t_kLF ?_ ?_|refine t_dO 9 (fun i=>i==0) oBe8_0 fun K=>?_);intros;simp only [go_sem,kp89,geff,hi0,g2,intX_s hn1,yes])
       all_goals try exact nd
       refine ⟨⟨(1,V),by simp only;omega,hv2⟩,by simp only;omega,?_⟩
       simp only [o0,o1,o2,o3]
       first|exact lf|(refine Le.frameS (by first|rfl|(simp only [go_sem];try rfl)) ?_;repeat' (first|exact leF_top _|exact (fun _=>LeR.refl _)|(with_reducible refine leF_sl ?_ ?_)|(refine leF_upd ?_ ?_)))<;>(first|exact LeR.top _|exact LeR.refl _|(refine LeR.of_eq ?_;(try simp only [go_sem]);try rfl)|((try simp only [go_sem]);try rfl))
      ·have hi0:((((1:Nat):Int)):Int)=1:=rfl
       have g2:decide ((1:Int)<(R.length:Int))=true:=decide_eq_true (by omega)
       have g3:(1:Int)<(R.length:Int):=by omega
       have o0:=hoc 0 (by decide)
       have o1:=hoi
       have o2:=hoc 2 (by decide)
       have o3:=hoc 3 (by decide)
       generalize hV:(fun j=>if j=1 then n else v j)=V at*
       repeat' first|(with_reducible first|(refine nx ?_;intros)|apply And.intro|intro vr)|exact kpd|((with_reducible first|refine ny ?_|refine t_kLF ?_ ?_|refine t_dO 9 (fun i=>i==0) oBe8_0 fun K=>?_);intros;simp only [go_sem,kp89,geff,hi0,g2,intX_s hn1,yes])
       all_goals try exact nd
       refine ⟨⟨(2,V),by simp only;omega,hv2⟩,by simp only;omega,?_⟩
       simp only [o0,o1,o2,o3]
       first|exact lf|(refine Le.frameS (by first|rfl|(simp only [go_sem];try rfl)) ?_;repeat' (first|exact leF_top _|exact (fun _=>LeR.refl _)|(with_reducible refine leF_sl ?_ ?_)|(refine leF_upd ?_ ?_)))<;>(first|exact LeR.top _|exact LeR.refl _|(refine LeR.of_eq ?_;(try simp only [go_sem]);try rfl)|((try simp only [go_sem]);try rfl))
      ·have hi0:((((2:Nat):Int)):Int)=2:=rfl
       have g2:decide ((2:Int)<(R.length:Int))=true:=decide_eq_true (by omega)
       have g3:(2:Int)<(R.length:Int):=by omega
       have o0:=hoc 0 (by decide)
       have o1:=hoc 1 (by decide)
       have o2:=hoi
       have o3:=hoc 3 (by decide)
       generalize hV:(fun j=>if j=2 then n else v j)=V at*
       repeat' first|(with_reducible first|(refine nx ?_;intros)|apply And.intro|intro vr)|exact kpd|((with_reducible first|refine ny ?_|refine t_kLF ?_ ?_|refine t_dO 9 (fun i=>i==0) oBe8_0 fun K=>?_);intros;simp only [go_sem,kp89,geff,hi0,g2,intX_s hn1,yes])
       all_goals try exact nd
       refine ⟨⟨(3,V),by simp only;omega,hv2⟩,by simp only;omega,?_⟩
       simp only [o0,o1,o2,o3]
       first|exact lf|(refine Le.frameS (by first|rfl|(simp only [go_sem];try rfl)) ?_;repeat' (first|exact leF_top _|exact (fun _=>LeR.refl _)|(with_reducible refine leF_sl ?_ ?_)|(refine leF_upd ?_ ?_)))<;>(first|exact LeR.top _|exact LeR.refl _|(refine LeR.of_eq ?_;(try simp only [go_sem]);try rfl)|((try simp only [go_sem]);try rfl))
      ·have hi0:((((3:Nat):Int)):Int)=3:=rfl
       have g2:decide ((3:Int)<(R.length:Int))=true:=decide_eq_true (by omega)
       have g3:(3:Int)<(R.length:Int):=by omega
       have o0:=hoc 0 (by decide)
       have o1:=hoc 1 (by decide)
       have o2:=hoc 2 (by decide)
       have o3:=hoi
       generalize hV:(fun j=>if j=3 then n else v j)=V at*
       repeat' first|(with_reducible first|(refine nx ?_;intros)|apply And.intro|intro vr)|exact kpd|((with_reducible first|refine ny ?_|refine t_kLF ?_ ?_|refine t_dO 9 (fun i=>i==0) oBe8_0 fun K=>?_);intros;simp only [go_sem,kp89,geff,hi0,g2,intX_s hn1,yes])
       all_goals try exact nd
       refine ⟨⟨(4,V),by simp only;omega,hv2⟩,by simp only;omega,?_⟩
       simp only [o0,o1,o2,o3]
       first|exact lf|(refine Le.frameS (by first|rfl|(simp only [go_sem];try rfl)) ?_;repeat' (first|exact leF_top _|exact (fun _=>LeR.refl _)|(with_reducible refine leF_sl ?_ ?_)|(refine leF_upd ?_ ?_)))<;>(first|exact LeR.top _|exact LeR.refl _|(refine LeR.of_eq ?_;(try simp only [go_sem]);try rfl)|((try simp only [go_sem]);try rfl))
    ·have hiL:i=R.length:=by omega
     subst hiL
     rw [nums_yes (v:=v) hv] at hP
     simp only at hP
     have ho:∀ j,j<4→((List.range R.length).map v).getD j 0=oc v R.length j:=fun j _=>range_get
     have hmk:mkI 5 q ((List.range R.length).map v)=⟨5,bs q,oc v R.length 0,oc v R.length 1,oc v R.length 2,oc v R.length 3⟩:=by unfold mkI;rw [ho 0 (by omega),ho 1 (by omega),ho 2 (by omega),ho 3 (by omega)]
     rw [hmk] at hP
     generalize oc v R.length 0=c0 at*
     generalize oc v R.length 1=c1 at*
     generalize oc v R.length 2=c2 at*
     generalize oc v R.length 3=c3 at*
     have g2:decide ((R.length:Int)<(R.length:Int))=false:=decide_eq_false (by omega)
     unfold accS at hP
     cases hri:rightS ⟨5,bs q,c0,c1,c2,c3⟩ 200 with
     |false=>
      rw [hri,if_neg (by simp)] at hP
      repeat' first|(with_reducible first|(refine nx ?_;intros)|apply And.intro|intro vr)|exact kpd|((with_reducible first|refine ny ?_|refine t_kLF ?_ ?_|refine t_dO 9 (fun i=>i==0) oBe8_0 fun K=>?_);intros;simp only [go_sem,kp89,geff,g2,hri,yes])
      all_goals try exact nd
      all_goals first|exact ⟨hP,rfl⟩|exact ⟨trivial,hP,rfl⟩
     |true=>
      have hsm:=sm_right hri
      by_cases hln3:lineB ⟨5,bs q,c0,c1,c2,c3⟩=s
      ·rw [if_pos ⟨hri,hln3⟩] at hP
       have g5:(s==s)=true:=by simp
       have hre:∃ x,preadS s=some x∧AV.agg [.lit (.int .i64 5),.lit (.string (bs q)),.lit (.int .i64 c0),.lit (.int .i64 c1),.lit (.int .i64 c2),.lit (.int .i64 c3)]=opV x:=⟨_,hP,rfl⟩
       repeat' first|(with_reducible first|(refine nx ?_;intros)|apply And.intro|intro vr)|exact kpd|((with_reducible first|refine ny ?_|refine t_kLF ?_ ?_|refine t_dO 9 (fun i=>i==0) oBe8_0 fun K=>?_);intros;simp only [go_sem,kp89,geff,g2,hri,hln3,g5,yes])
       all_goals try exact nd
       all_goals (refine end_ret rfl ?_)
       all_goals exact hre
      ·rw [if_neg (fun h=>hln3 h.2)] at hP
       have g5:(lineB ⟨5,bs q,c0,c1,c2,c3⟩==s)=false:=by simpa using hln3
       repeat' first|(with_reducible first|(refine nx ?_;intros)|apply And.intro|intro vr)|exact kpd|((with_reducible first|refine ny ?_|refine t_kLF ?_ ?_|refine t_dO 9 (fun i=>i==0) oBe8_0 fun K=>?_);intros;simp only [go_sem,kp89,geff,g2,hri,g5,yes])
       all_goals try exact nd
       all_goals first|exact ⟨hP,rfl⟩|exact ⟨trivial,hP,rfl⟩
  ·have hk5:(k==5)=false:=by simpa using hk
   rw [show tlP k R0=R0 from by rw [tlP,if_neg hk],show hdP k R0=([]:List UInt8) from by rw [hdP,if_neg hk]] at hP
   by_cases hc4:(R0).length>4
   ·rw [if_pos hc4] at hP
    have g4:decide (((R0).length:Int)>4)=true:=decide_eq_true (by omega)
    refine xecR (Y8_ok s) (kp89) Tryz.func89 [.cell 2 50] (h:=fun KF=>?_)
    unfold Y8
    repeat' first|(with_reducible first|(refine nx ?_;intros)|apply And.intro|intro vr)|exact kpd|((with_reducible first|refine ny ?_|refine t_kLF ?_ ?_|refine t_dO 9 (fun i=>i==0) oBe8_0 fun K=>?_);intros;simp only [go_sem,kp89,geff,z53,hsp,hix,hk5,g1,g4,hdr,htk,txs_length,List.length_cons,yes])
    all_goals try exact nd
    all_goals first|exact ⟨hP,rfl⟩|exact ⟨trivial,hP,rfl⟩
   rw [if_neg hc4] at hP
   have g4:decide (((R0).length:Int)>4)=false:=decide_eq_false (by omega)
   have hlr:∀ i,((R0).getD i []).length≤100000:=hln
   have hln2:(R0).length≤100001:=by omega
   obtain ⟨R,hRR⟩:∃ R,R=R0:=⟨_,rfl⟩
   subst hRR
   refine xecR (Y8_ok s) (kp89) Tryz.func89 [.cell 2 50] (h:=fun KF=>?_)
   unfold Y8
   repeat' first|(with_reducible first|(refine nx ?_;intros)|apply And.intro|intro vr)|exact kpd|((with_reducible first|refine ny ?_|refine t_kLF ?_ ?_|refine t_dO 9 (fun i=>i==0) oBe8_0 fun K=>?_);intros;simp only [go_sem,kp89,geff,z53,hsp,hix,hk5,g1,g4,hdr,htk,txs_length,List.length_cons,yes])
   all_goals try exact nd
   refine t_loopF (ι:={q:Nat×(Nat→Int) // q.1≤R.length∧∀ j,j<q.1→int? (R.getD j [])=some (q.2 j)}) (fun i=>[(51,.lit (.int .i64 i.1.1))]) (fun i=>[.box 50 [.lit (.int .i64 0),.lit (.string (bs [])),.lit (.int .i64 0),.lit (.int .i64 0),.lit (.int .i64 0),.lit (.int .i64 0)],.box 117 [.sl false 1 (txs (N::R))],.box 136 fCs,.box 50 [.lit (.int .i64 k),.lit (.string (bs ([]:List UInt8))),.lit (.int .i64 (oc i.1.2 i.1.1 0)),.lit (.int .i64 (oc i.1.2 i.1.1 1)),.lit (.int .i64 (oc i.1.2 i.1.1 2)),.lit (.int .i64 (oc i.1.2 i.1.1 3))],.box 149 [.ref 3 2,.ref 3 3,.ref 3 4,.ref 3 5]]) (fun i=>R.length - i.1.1) ⟨(0,fun _=>0),by omega,fun j hj=>absurd hj (by simp)⟩ ?_ ?_
   ·exact lf
   rintro ⟨⟨i,v⟩,hi,hv⟩ K0
   simp only at hi hv
   have hdx:∀ i,List.getD (txs R) i (.lit (.string (bs [])))= .lit (.string (bs (R.getD i []))):=fun i=>txs_getJ R i
   rcases Nat.lt_or_ge i R.length with hc|hc
   ·have hil:=hlr i
    cases hn1:int? (R.getD i []) with
    |none=>
     rw [nums_no hc hn1] at hP
     rcases (show i=0∨i=1∨i=2∨i=3 by omega) with rfl|rfl|rfl|rfl
     ·have hi0:((((0:Nat):Int)):Int)=0:=rfl
      have g2:decide ((0:Int)<(R.length:Int))=true:=decide_eq_true (by omega)
      have g3:(0:Int)<(R.length:Int):=by omega
      repeat' first|(with_reducible first|(refine nx ?_;intros)|apply And.intro|intro vr)|exact kpd|((with_reducible first|refine ny ?_|refine t_kLF ?_ ?_|refine t_dO 9 (fun i=>i==0) oBe8_0 fun K=>?_);intros;simp only [go_sem,kp89,geff,hi0,g2,intX_n hn1,yes])
      all_goals try exact nd
      all_goals first|exact ⟨hP,rfl⟩|exact ⟨trivial,hP,rfl⟩
     ·have hi0:((((1:Nat):Int)):Int)=1:=rfl
      have g2:decide ((1:Int)<(R.length:Int))=true:=decide_eq_true (by omega)
      have g3:(1:Int)<(R.length:Int):=by omega
      repeat' first|(with_reducible first|(refine nx ?_;intros)|apply And.intro|intro vr)|exact kpd|((with_reducible first|refine ny ?_|refine t_kLF ?_ ?_|refine t_dO 9 (fun i=>i==0) oBe8_0 fun K=>?_);intros;simp only [go_sem,kp89,geff,hi0,g2,intX_n hn1,yes])
      all_goals try exact nd
      all_goals first|exact ⟨hP,rfl⟩|exact ⟨trivial,hP,rfl⟩
     ·have hi0:((((2:Nat):Int)):Int)=2:=rfl
      have g2:decide ((2:Int)<(R.length:Int))=true:=decide_eq_true (by omega)
      have g3:(2:Int)<(R.length:Int):=by omega
      repeat' first|(with_reducible first|(refine nx ?_;intros)|apply And.intro|intro vr)|exact kpd|((with_reducible first|refine ny ?_|refine t_kLF ?_ ?_|refine t_dO 9 (fun i=>i==0) oBe8_0 fun K=>?_);intros;simp only [go_sem,kp89,geff,hi0,g2,intX_n hn1,yes])
      all_goals try exact nd
      all_goals first|exact ⟨hP,rfl⟩|exact ⟨trivial,hP,rfl⟩
     ·have hi0:((((3:Nat):Int)):Int)=3:=rfl
      have g2:decide ((3:Int)<(R.length:Int))=true:=decide_eq_true (by omega)
      have g3:(3:Int)<(R.length:Int):=by omega
      repeat' first|(with_reducible first|(refine nx ?_;intros)|apply And.intro|intro vr)|exact kpd|((with_reducible first|refine ny ?_|refine t_kLF ?_ ?_|refine t_dO 9 (fun i=>i==0) oBe8_0 fun K=>?_);intros;simp only [go_sem,kp89,geff,hi0,g2,intX_n hn1,yes])
      all_goals try exact nd
      all_goals first|exact ⟨hP,rfl⟩|exact ⟨trivial,hP,rfl⟩
    |some n=>
     have hv2:∀ j,j<i+1→int? (R.getD j [])=some ((fun j=>if j=i then n else v j) j):=fun j hj=>by
       by_cases e:j=i
       ·subst e;simpa using hn1
       ·simp only [if_neg e];exact hv j (by omega)
     have hoc:∀ j,j≠i→oc (fun j=>if j=i then n else v j) (i+1) j=oc v i j:=fun j hj=>by
       unfold oc;simp only [if_neg hj];by_cases h:j<i
       ·rw [if_pos (by omega),if_pos h]
       ·rw [if_neg (by omega),if_neg h]
     have hoi:oc (fun j=>if j=i then n else v j) (i+1) i=n:=by unfold oc;rw [if_pos (by omega)];simp
     rcases (show i=0∨i=1∨i=2∨i=3 by omega) with rfl|rfl|rfl|rfl
     ·have hi0:((((0:Nat):Int)):Int)=0:=rfl
      have g2:decide ((0:Int)<(R.length:Int))=true:=decide_eq_true (by omega)
      have g3:(0:Int)<(R.length:Int):=by omega
      have o0:=hoi
      have o1:=hoc 1 (by decide)
      have o2:=hoc 2 (by decide)
      have o3:=hoc 3 (by decide)
      generalize hV:(fun j=>if j=0 then n else v j)=V at*
      repeat' first|(with_reducible first|(refine nx ?_;intros)|apply And.intro|intro vr)|exact kpd|((with_reducible first|refine ny ?_|refine t_kLF ?_ ?_|refine t_dO 9 (fun i=>i==0) oBe8_0 fun K=>?_);intros;simp only [go_sem,kp89,geff,hi0,g2,intX_s hn1,yes])
      all_goals try exact nd
      refine ⟨⟨(1,V),by simp only;omega,hv2⟩,by simp only;omega,?_⟩
      simp only [o0,o1,o2,o3]
      first|exact lf|(refine Le.frameS (by first|rfl|(simp only [go_sem];try rfl)) ?_;repeat' (first|exact leF_top _|exact (fun _=>LeR.refl _)|(with_reducible refine leF_sl ?_ ?_)|(refine leF_upd ?_ ?_)))<;>(first|exact LeR.top _|exact LeR.refl _|(refine LeR.of_eq ?_;(try simp only [go_sem]);try rfl)|((try simp only [go_sem]);try rfl))
     ·have hi0:((((1:Nat):Int)):Int)=1:=rfl
      have g2:decide ((1:Int)<(R.length:Int))=true:=decide_eq_true (by omega)
      have g3:(1:Int)<(R.length:Int):=by omega
      have o0:=hoc 0 (by decide)
      have o1:=hoi
      have o2:=hoc 2 (by decide)
      have o3:=hoc 3 (by decide)
      generalize hV:(fun j=>if j=1 then n else v j)=V at*
      repeat' first|(with_reducible first|(refine nx ?_;intros)|apply And.intro|intro vr)|exact kpd|((with_reducible first|refine ny ?_|refine t_kLF ?_ ?_|refine t_dO 9 (fun i=>i==0) oBe8_0 fun K=>?_);intros;simp only [go_sem,kp89,geff,hi0,g2,intX_s hn1,yes])
      all_goals try exact nd
      refine ⟨⟨(2,V),by simp only;omega,hv2⟩,by simp only;omega,?_⟩
      simp only [o0,o1,o2,o3]
      first|exact lf|(refine Le.frameS (by first|rfl|(simp only [go_sem];try rfl)) ?_;repeat' (first|exact leF_top _|exact (fun _=>LeR.refl _)|(with_reducible refine leF_sl ?_ ?_)|(refine leF_upd ?_ ?_)))<;>(first|exact LeR.top _|exact LeR.refl _|(refine LeR.of_eq ?_;(try simp only [go_sem]);try rfl)|((try simp only [go_sem]);try rfl))
     ·have hi0:((((2:Nat):Int)):Int)=2:=rfl
      have g2:decide ((2:Int)<(R.length:Int))=true:=decide_eq_true (by omega)
      have g3:(2:Int)<(R.length:Int):=by omega
      have o0:=hoc 0 (by decide)
      have o1:=hoc 1 (by decide)
      have o2:=hoi
      have o3:=hoc 3 (by decide)
      generalize hV:(fun j=>if j=2 then n else v j)=V at*
      repeat' first|(with_reducible first|(refine nx ?_;intros)|apply And.intro|intro vr)|exact kpd|((with_reducible first|refine ny ?_|refine t_kLF ?_ ?_|refine t_dO 9 (fun i=>i==0) oBe8_0 fun K=>?_);intros;simp only [go_sem,kp89,geff,hi0,g2,intX_s hn1,yes])
      all_goals try exact nd
      refine ⟨⟨(3,V),by simp only;omega,hv2⟩,by simp only;omega,?_⟩
      simp only [o0,o1,o2,o3]
      first|exact lf|(refine Le.frameS (by first|rfl|(simp only [go_sem];try rfl)) ?_;repeat' (first|exact leF_top _|exact (fun _=>LeR.refl _)|(with_reducible refine leF_sl ?_ ?_)|(refine leF_upd ?_ ?_)))<;>(first|exact LeR.top _|exact LeR.refl _|(refine LeR.of_eq ?_;(try simp only [go_sem]);try rfl)|((try simp only [go_sem]);try rfl))
     ·have hi0:((((3:Nat):Int)):Int)=3:=rfl
      have g2:decide ((3:Int)<(R.length:Int))=true:=decide_eq_true (by omega)
      have g3:(3:Int)<(R.length:Int):=by omega
      have o0:=hoc 0 (by decide)
      have o1:=hoc 1 (by decide)
      have o2:=hoc 2 (by decide)
      have o3:=hoi
      generalize hV:(fun j=>if j=3 then n else v j)=V at*
      repeat' first|(with_reducible first|(refine nx ?_;intros)|apply And.intro|intro vr)|exact kpd|((with_reducible first|refine ny ?_|refine t_kLF ?_ ?_|refine t_dO 9 (fun i=>i==0) oBe8_0 fun K=>?_);intros;simp only [go_sem,kp89,geff,hi0,g2,intX_s hn1,yes])
      all_goals try exact nd
      refine ⟨⟨(4,V),by simp only;omega,hv2⟩,by simp only;omega,?_⟩
      simp only [o0,o1,o2,o3]
      first|exact lf|(refine Le.frameS (by first|rfl|(simp only [go_sem];try rfl)) ?_;repeat' (first|exact leF_top _|exact (fun _=>LeR.refl _)|(with_reducible refine leF_sl ?_ ?_)|(refine leF_upd ?_ ?_)))<;>(first|exact LeR.top _|exact LeR.refl _|(refine LeR.of_eq ?_;(try simp only [go_sem]);try rfl)|((try simp only [go_sem]);try rfl))
   ·have hiL:i=R.length:=by omega
    subst hiL
    rw [nums_yes (v:=v) hv] at hP
    simp only at hP
    have ho:∀ j,j<4→((List.range R.length).map v).getD j 0=oc v R.length j:=fun j _=>range_get
    have hmk:mkI k ([]:List UInt8) ((List.range R.length).map v)=⟨k,bs ([]:List UInt8),oc v R.length 0,oc v R.length 1,oc v R.length 2,oc v R.length 3⟩:=by unfold mkI;rw [ho 0 (by omega),ho 1 (by omega),ho 2 (by omega),ho 3 (by omega)]
    rw [hmk] at hP
    generalize oc v R.length 0=c0 at*
    generalize oc v R.length 1=c1 at*
    generalize oc v R.length 2=c2 at*
    generalize oc v R.length 3=c3 at*
    have g2:decide ((R.length:Int)<(R.length:Int))=false:=decide_eq_false (by omega)
    unfold accS at hP
    cases hri:rightS ⟨k,bs ([]:List UInt8),c0,c1,c2,c3⟩ 200 with
    |false=>
     rw [hri,if_neg (by simp)] at hP
     repeat' first|(with_reducible first|(refine nx ?_;intros)|apply And.intro|intro vr)|exact kpd|((with_reducible first|refine ny ?_|refine t_kLF ?_ ?_|refine t_dO 9 (fun i=>i==0) oBe8_0 fun K=>?_);intros;simp only [go_sem,kp89,geff,g2,hri,yes])
     all_goals try exact nd
     all_goals first|exact ⟨hP,rfl⟩|exact ⟨trivial,hP,rfl⟩
    |true=>
     have hsm:=sm_right hri
     by_cases hln3:lineB ⟨k,bs ([]:List UInt8),c0,c1,c2,c3⟩=s
     ·rw [if_pos ⟨hri,hln3⟩] at hP
      have g5:(s==s)=true:=by simp
      have hre:∃ x,preadS s=some x∧AV.agg [.lit (.int .i64 k),.lit (.string (bs ([]:List UInt8))),.lit (.int .i64 c0),.lit (.int .i64 c1),.lit (.int .i64 c2),.lit (.int .i64 c3)]=opV x:=⟨_,hP,rfl⟩
      repeat' first|(with_reducible first|(refine nx ?_;intros)|apply And.intro|intro vr)|exact kpd|((with_reducible first|refine ny ?_|refine t_kLF ?_ ?_|refine t_dO 9 (fun i=>i==0) oBe8_0 fun K=>?_);intros;simp only [go_sem,kp89,geff,g2,hri,hln3,g5,yes])
      all_goals try exact nd
      all_goals (refine end_ret rfl ?_)
      all_goals exact hre
     ·rw [if_neg (fun h=>hln3 h.2)] at hP
      have g5:(lineB ⟨k,bs ([]:List UInt8),c0,c1,c2,c3⟩==s)=false:=by simpa using hln3
      repeat' first|(with_reducible first|(refine nx ?_;intros)|apply And.intro|intro vr)|exact kpd|((with_reducible first|refine ny ?_|refine t_kLF ?_ ?_|refine t_dO 9 (fun i=>i==0) oBe8_0 fun K=>?_);intros;simp only [go_sem,kp89,geff,g2,hri,g5,yes])
      all_goals try exact nd
      all_goals first|exact ⟨hP,rfl⟩|exact ⟨trivial,hP,rfl⟩
end Go.Proofs.YtohiagaclfaolaaGreatDoor.Tx

namespace Go.Proofs.YtohiagaclfaolaaGreatDoor.Tx
open Go.Proofs.YtohiagaclfaolaaGreatDoor
open Go Go.Fw Go.RowKit
set_option maxRecDepth 20000
theorem catch_idle (p q:Addr) (w:World):
    CallsD Tryz.prog 88 #[.pointer (some p),.pointer (some q)] .returning w fun e u' w'=>e= .returned (.tuple #[])∧u'= .returning∧w'=w:=by
  refine callsD_of_wpS Tryz.func88 rfl fun c₀ cs hu=>?_
  apply wpS_seq
  apply wpS_region
  simp [wpOpsS,go_sem,recoverD,hu,Tryz.ntmps88,Exit.thenS]
  apply wpS_seq
  apply wpS_region
  simp [wpOpsS,go_sem,recoverD,hu,Tryz.ntmps88,Exit.thenS]
  refine wpS_cond (t:=false) (by simp [Act.eval,Array.replicate]) ?_
  simp only [Bool.false_eq_true,if_false]
  refine wpS_of_wp (wp_skip ?_)
  cases c₀
  simp_all [bodyPostS,results,Tryz.results34]
theorem alloc2_0 (w:World) (c1 c2:Obj):((w.alloc c1).alloc c2).heap[w.heap.size]? =some c1:=by
  show ((w.heap.push c1).push c2)[w.heap.size]? =_
  rw [Array.getElem?_push,if_neg (by simp),Array.getElem?_push,if_pos rfl]
theorem alloc2_1 (w:World) (c1 c2:Obj):((w.alloc c1).alloc c2).heap[w.heap.size+1]? =some c2:=by
  show ((w.heap.push c1).push c2)[w.heap.size+1]? =_
  rw [Array.getElem?_push,if_pos (by simp)]
theorem alloc2_old (w:World) (c1 c2:Obj) {i:Nat} (h:i<w.heap.size):((w.alloc c1).alloc c2).heap[i]? =w.heap[i]? :=by
  show ((w.heap.push c1).push c2)[i]? =_
  rw [Array.getElem?_push,if_neg (by simp;omega),Array.getElem?_push,if_neg (by omega)]
theorem wpl_store {P:Program} {ops:Array Oper} {Q:Exit→Act→World→Prop} {rest:List Oper} {act:Act} {w w2:World} {t:TypeId} {x y:Operand} {ty:TypeId} {pos:String} {af:Array Edge}
    (h:(Instr.storeAt t (act.eval x) (act.eval y)).run P w= .ok () w2) (hq:wpList P ops Q rest (act.put none undef) w2):
    wpList P ops Q ({dst:=none,op:= .store t x y,type:=ty,pos:=pos,after:=af,guard:=none}::rest) act w:=by
  have e:(execOp act.eval {dst:=none,op:= .store t x y,type:=ty,pos:=pos,after:=af,guard:=none}).run P w= .ok .skip w2:=by
    unfold execOp
    simp only [Sem.run_bind,h,Result.andThen_ok,Sem.run_pure]
  show (if _ then _ else _)
  rw [if_pos (by simp [Region.wanted])]
  left
  unfold Oper.wp
  rw [e]
  exact hq
theorem parsed_calls {s p:ByteArray} {k a b c d:Int} (w:World) (h:∀ w1:World,More w w1→Calls Tryz.prog 89 #[.string s] w1 fun e w'=>e= .returned (.agg #[.int .i64 k,.string p,.int .i64 a,.int .i64 b,.int .i64 c,.int .i64 d])∧Below w1.heap.size w1 w'):
    Calls Tryz.prog 53 #[.string s] w fun e w'=>e= .returned (.tuple #[.agg #[.int .i64 k,.string p,.int .i64 a,.int .i64 b,.int .i64 c,.int .i64 d],.bool true])∧Below w.heap.size w w':=by
  have hmf:∀ (fn:Fn) (first cap:Array Value) (w:World),(Instr.makeFunc fn first cap).run Tryz.prog w= .ok (.func fn first cap) w:=fun _ _ _ _=>rfl
  go_enter_defers Tryz.func53,Tryz.ntmps53
  go_wp2_with fail
  have hm2:More w ((w.alloc (.cells #[.int .i64 0,.string ⟨#[]⟩,.int .i64 0,.int .i64 0,.int .i64 0,.int .i64 0] 50)).alloc (.cells #[.bool false] 4)):=(More.push w _).trans (More.push _ _)
  refine (h _ hm2).mono ?_
  rintro e w' ⟨rfl,hb⟩
  rename_i K0 hK0 K hK
  apply hK
  have hsz:((w.alloc (.cells #[.int .i64 0,.string ⟨#[]⟩,.int .i64 0,.int .i64 0,.int .i64 0,.int .i64 0] 50)).alloc (.cells #[.bool false] 4)).heap.size=w.heap.size+2:=by simp
  have hB:Blk w' w.heap.size #[.int .i64 0,.string ⟨#[]⟩,.int .i64 0,.int .i64 0,.int .i64 0,.int .i64 0] 50:=⟨(0,0),(hb.block _ (by rw [hsz];omega)).trans (alloc2_0 _ _ _),Nat.le_refl _,fun _ _ h=>by simp at h⟩
  have hB2:Blk w' (w.heap.size+1) #[.bool false] 4:=⟨(0,0),(hb.block _ (by rw [hsz];omega)).trans (alloc2_1 _ _ _),Nat.le_refl _,fun _ _ h=>by simp at h⟩
  obtain ⟨w2,k1,k2,k3⟩:=storeAt_run (P:=Tryz.prog) (t:=50) (v:= .agg #[.int .i64 k,.string p,.int .i64 a,.int .i64 b,.int .i64 c,.int .i64 d]) (off:=0) hB (by rw [sz50];omega) (by rw [sz50];rfl) (by rw [sz50];exact Nat.le_refl _) (by intro i hi;simp [Value.cells] at hi;rcases hi with rfl|rfl|rfl|rfl|rfl|rfl<;>rfl)
  have hB2':Blk w2 (w.heap.size+1) #[.bool false] 4:=hB2.of_same (k3.block _ (by omega))
  obtain ⟨w3,l1,l2,l3⟩:=storeAt_run (P:=Tryz.prog) (t:=4) (v:= .bool true) (off:=0) hB2' (by rw [sz4];omega) (by rw [sz4];rfl) (by rw [sz4];exact Nat.le_refl _) (by intro i hi;simp [Value.cells] at hi;subst hi;rfl)
  refine wpl_store (by simpa [Act.eval,Act.put] using k1) ?_
  refine wpl_store (by simpa [Act.eval,Act.put] using l1) ?_
  show K0 _ _
  apply hK0
  refine wp_ret ?_
  show Leaves Tryz.prog Tryz.f53 _ _ _ _ _
  simp only [Act.put]
  refine leaves_cons (f:=88) (args:= #[.pointer (some ⟨w.heap.size,0,none⟩),.pointer (some ⟨w.heap.size+1,0,none⟩)]) (by simp) (by simp [go_sem]) ?_
  refine (catch_idle ⟨w.heap.size,0,none⟩ ⟨w.heap.size+1,0,none⟩ _).mono ?_
  rintro e u' w'' ⟨rfl,rfl,rfl⟩
  simp only [Leaves,settle]
  have hb1:Blk w'' w.heap.size #[.int .i64 k,.string p,.int .i64 a,.int .i64 b,.int .i64 c,.int .i64 d] 50:=Blk.of_same k2 (l3.block _ (by omega))
  have hb2:Blk w'' (w.heap.size+1) #[.bool true] 4:=l2
  have r1:(loadVar 50 ⟨w.heap.size,0,none⟩).run Tryz.prog w''= .ok (.agg #[.int .i64 k,.string p,.int .i64 a,.int .i64 b,.int .i64 c,.int .i64 d]) w'':=by
    have hr:=loadCells_run (P:=Tryz.prog) (w:=w'') w.heap.size 0 6 (fun j=>[Value.int .i64 k,.string p,.int .i64 a,.int .i64 b,.int .i64 c,.int .i64 d].getD j undef) (fun j hj=>by
      rw [Nat.zero_add,hb1.cell j]
      match j,hj with
      |0,_=>rfl
      |1,_=>rfl
      |2,_=>rfl
      |3,_=>rfl
      |4,_=>rfl
      |5,_=>rfl)
    simp [loadVar,aggT_run ag50,run_size Tryz.underlying50,sz50,hr,List.range,List.range.loop]
  have r2:(loadVar 4 ⟨w.heap.size+1,0,none⟩).run Tryz.prog w''= .ok (.bool true) w'':=by
    have h0:w''.cell? ⟨w.heap.size+1,0,none⟩=some (.bool true):=by rw [hb2.cell 0];rfl
    simp [loadVar,aggT_run ag4,h0]
  refine ⟨_,?_,rfl,?_⟩
  ·simp [results,Tryz.results26,asAddr,r1,r2]
  ·refine ⟨?_,?_,?_,?_,fun i hi=>?_⟩
   ·rw [l3.os,k3.os,hb.os];rfl
   ·rw [l3.tape,k3.tape,hb.tape];rfl
   ·rw [l3.output,k3.output,hb.output];rfl
   ·rw [l3.size,k3.size];have:=hb.size;rw [hsz] at this;omega
   ·rw [l3.block _ (by omega),k3.block _ (by omega),hb.block _ (by rw [hsz];omega),alloc2_old _ _ _ hi]
end Go.Proofs.YtohiagaclfaolaaGreatDoor.Tx

namespace Go.Proofs.YtohiagaclfaolaaGreatDoor.Tx
open Go.Proofs.YtohiagaclfaolaaGreatDoor
open Go Go.Fw Go.RowKit Bm
set_option maxRecDepth 20000
def opVal (x:Ins):Value:= .agg #[.int .i64 x.code,.string x.prim,.int .i64 x.a,.int .i64 x.b,.int .i64 x.c,.int .i64 x.d]
theorem r_aggl {G:Gh} {xs:List Value} {v:Value} (h:R G (.agg (xs.map .lit)) v):v= .agg xs.toArray:=by
  generalize hz:AV.agg (xs.map .lit)=z at h
  have key:∀ (T:AV→Value→Prop) (vs:List Value),(∀ a v,T (.lit a) v→v=a)→vs.length=(xs.map AV.lit).length→(∀ i,i<(xs.map AV.lit).length→T ((xs.map AV.lit).getD i .top) (vs.getD i undef))→vs=xs:=by
    intro T vs hT hl hh
    refine List.ext_getElem (by simpa using hl) fun i hi hj=>?_
    have:=hh i (by simpa using hj)
    rw [List.getD_eq_getElem?_getD,List.getD_eq_getElem?_getD,List.getElem?_map,List.getElem?_eq_getElem hj,List.getElem?_eq_getElem hi] at this
    exact hT _ _ this
  cases h with
  |clo x v h=>
   subst hz
   generalize hz:AV.agg (xs.map .lit)=z at h
   cases h with
   |agg ys vs hl h1 hh=>
    cases hz
    rw [key (RC G.C) vs (fun a v h=>rc_lit h) hl hh]
   |_=>cases hz
  |agg ys vs hl h1 hh=>
   cases hz
   rw [key (R G) vs (fun a v h=>r_lit h) hl hh]
  |_=>cases hz
theorem read_calls {s:List UInt8} (hs:s.length≤100000) (w:World) (hT:Tabs w):
    Calls Tryz.prog 89 #[.string (bs s)] w fun e w'=>(match preadS s with
      |some x=>e= .returned (opVal x)
      |none=>e= .panicked [{v:=wrongV,recovered:=false}])∧Below w.heap.size w w':=by
  have h0:Rel {w0:=w,M:=fun _=>False,G0:=⟨fun _ _=>none,0,fun _=>undef,fun _=>0⟩,px:=rdX s,tab:=hT,nm:=fun _ h=>h} ⟨fun _ _=>none,0,fun _=>undef,fun _=>0⟩ [] w:=by
    refine ⟨rfl,?_,?_,?_,fun _ _ _ h=>(by cases h),rfl,rfl,rfl,Nat.le_refl _,fun _ _ _=>rfl,fun _ _ _ _=>rfl,Gh.le.refl _⟩
    ·intro o ob ho;simp at ho
    ·intro o1 o2 ob1 ob2 g ho1;simp at ho1
    ·intro o ob g ho;simp at ho
  refine (read_xec hs _ _ w [.string (bs s)] rfl h0 ⟨rfl,fun i hi=>?_⟩).mono ?_
  ·match i,hi with
   |0,_=>exact .clo _ _ (.lit _)
  ·intro e w' h
   cases e with
   |returned v=>
    obtain ⟨G',σ',x,_,hr,hx,y,hy,rfl⟩:=h
    rw [hy]
    refine ⟨?_,hr.os,hr.tape,hr.output,hr.size,fun k hk=>hr.block k hk (fun h=>h)⟩
    have:=r_aggl (xs:=[.int .i64 y.code,.string y.prim,.int .i64 y.a,.int .i64 y.b,.int .i64 y.c,.int .i64 y.d]) hx
    rw [this];rfl
   |panicked chain=>
    obtain ⟨v,G',σ',x,rfl,_,hr,hx,hp,rfl⟩:=h
    rw [hp]
    refine ⟨?_,hr.os,hr.tape,hr.output,hr.size,fun k hk=>hr.block k hk (fun h=>h)⟩
    rw [r_lit hx]
   |outgrown=>exact h.elim
@[go_sem] theorem assert123 (W:World) (v:Value):(Instr.typeAssert (.iface 123 v) 20 123 true).run Tryz.prog W= .ok (.tuple #[v,.bool true]) W:=by kernel_rfl
set_option maxHeartbeats 4000000 in
theorem catch_wrong {p q:Nat} {w:World} (h1:Blk w p #[.int .i64 0,.string ⟨#[]⟩,.int .i64 0,.int .i64 0,.int .i64 0,.int .i64 0] 50) (h2:Blk w q #[.bool false] 4) (hne:p≠q):
    CallsD Tryz.prog 88 #[.pointer (some ⟨p,0,none⟩),.pointer (some ⟨q,0,none⟩)] (.panicking [{v:= .iface 123 (.agg #[]),recovered:=false}]) w fun e u' w'=>e= .returned (.tuple #[])∧u'= .panicking [{v:= .iface 123 (.agg #[]),recovered:=true}]∧
      Blk w' p #[.int .i64 0,.string ⟨#[]⟩,.int .i64 0,.int .i64 0,.int .i64 0,.int .i64 0] 50∧Blk w' q #[.bool false] 4∧w'.os=w.os∧w'.tape=w.tape∧w'.output=w.output∧w.heap.size≤w'.heap.size∧∀ k,k<w.heap.size→k≠p→k≠q→w'.heap[k]? =w.heap[k]? :=by
  refine callsD_of_wpS Tryz.func88 rfl fun c₀ cs hu=>?_
  apply wpS_seq
  apply wpS_region
  simp [wpOpsS,go_sem,recoverD,hu,Tryz.ntmps88,Exit.thenS]
  apply wpS_of_wp
  refine wp_seq ?_
  generalize hN1:Code.wp Tryz.prog (Code.cond _ _ _) _=N1
  go_wp2_with fail
  subst hN1
  refine wp_cond_true (by simp [Act.eval,Array.replicate]) ?_
  refine wp_seq ?_
  generalize hN2:Code.wp Tryz.prog (Code.region 5 _ _) _=N2
  go_wp2_with fail
  subst hN2
  refine wp_region_lit ?_
  refine wpList_plain rfl fun K3 hK3=>?_
  simp [Oper.wp,go_sem]
  apply hK3
  have hp:=h1.lt
  have hq:=h2.lt
  have old:∀ k,k<w.heap.size→(w.alloc (Obj.cells #[] 123)).heap[k]? =w.heap[k]? :=fun k hk=>by
    show (w.heap.push _)[k]? =_
    rw [Array.getElem?_push,if_neg (by omega)]
  have hsz:(w.alloc (Obj.cells #[] 123)).heap.size=w.heap.size+1:=by simp
  have hB:Blk (w.alloc (Obj.cells #[] 123)) p #[.int .i64 0,.string ⟨#[]⟩,.int .i64 0,.int .i64 0,.int .i64 0,.int .i64 0] 50:=h1.of_same (old p hp)
  have hB2:Blk (w.alloc (Obj.cells #[] 123)) q #[.bool false] 4:=h2.of_same (old q hq)
  obtain ⟨w2,k1,k2,k3⟩:=storeAt_run (P:=Tryz.prog) (t:=50) (v:= .agg #[.int .i64 0,.string ⟨#[]⟩,.int .i64 0,.int .i64 0,.int .i64 0,.int .i64 0]) (off:=0) hB (by rw [sz50];omega) (by rw [sz50];rfl) (by rw [sz50];exact Nat.le_refl _) (by intro i hi;simp [Value.cells] at hi;rcases hi with rfl|rfl|rfl|rfl|rfl|rfl<;>rfl)
  have hB2':Blk w2 q #[.bool false] 4:=hB2.of_same (k3.block _ (Ne.symm hne))
  obtain ⟨w3,l1,l2,l3⟩:=storeAt_run (P:=Tryz.prog) (t:=4) (v:= .bool false) (off:=0) hB2' (by rw [sz4];omega) (by rw [sz4];rfl) (by rw [sz4];exact Nat.le_refl _) (by intro i hi;simp [Value.cells] at hi;subst hi;rfl)
  refine wpl_store (by simpa [Act.eval,Act.put,l0] using k1) ?_
  refine wpl_store (by simpa [Act.eval,Act.put] using l1) ?_
  refine ⟨rfl,_,rfl,.tuple #[],?_,rfl,rfl,?_,l2,?_,?_,?_,?_,?_⟩
  ·simp [results,Tryz.results88]
  ·exact Blk.of_same k2 (l3.block _ hne)
  ·rw [l3.os,k3.os];rfl
  ·rw [l3.tape,k3.tape];rfl
  ·rw [l3.output,k3.output];rfl
  ·rw [l3.size,k3.size,hsz];omega
  ·intro k hk hkp hkq
   rw [l3.block _ hkq,k3.block _ hkp,old k hk]
theorem parsed_bad {s:ByteArray} (w:World) (h:∀ w1:World,More w w1→Calls Tryz.prog 89 #[.string s] w1 fun e w'=>e= .panicked [{v:= .iface 123 (.agg #[]),recovered:=false}]∧Below w1.heap.size w1 w'):
    Calls Tryz.prog 53 #[.string s] w fun e w'=>e= .returned (.tuple #[.agg #[.int .i64 0,.string ⟨#[]⟩,.int .i64 0,.int .i64 0,.int .i64 0,.int .i64 0],.bool false])∧Below w.heap.size w w':=by
  have hmf:∀ (fn:Fn) (first cap:Array Value) (w:World),(Instr.makeFunc fn first cap).run Tryz.prog w= .ok (.func fn first cap) w:=fun _ _ _ _=>rfl
  go_enter_defers Tryz.func53,Tryz.ntmps53
  go_wp2_with fail
  have hm2:More w ((w.alloc (.cells #[.int .i64 0,.string ⟨#[]⟩,.int .i64 0,.int .i64 0,.int .i64 0,.int .i64 0] 50)).alloc (.cells #[.bool false] 4)):=(More.push w _).trans (More.push _ _)
  refine (h _ hm2).mono ?_
  rintro e w' ⟨rfl,hb⟩
  have hsz:((w.alloc (.cells #[.int .i64 0,.string ⟨#[]⟩,.int .i64 0,.int .i64 0,.int .i64 0,.int .i64 0] 50)).alloc (.cells #[.bool false] 4)).heap.size=w.heap.size+2:=by simp
  have hB:Blk w' w.heap.size #[.int .i64 0,.string ⟨#[]⟩,.int .i64 0,.int .i64 0,.int .i64 0,.int .i64 0] 50:=⟨(0,0),(hb.block _ (by rw [hsz];omega)).trans (alloc2_0 _ _ _),Nat.le_refl _,fun _ _ h=>by simp at h⟩
  have hB2:Blk w' (w.heap.size+1) #[.bool false] 4:=⟨(0,0),(hb.block _ (by rw [hsz];omega)).trans (alloc2_1 _ _ _),Nat.le_refl _,fun _ _ h=>by simp at h⟩
  show Leaves Tryz.prog Tryz.f53 _ _ _ _ _
  refine leaves_cons (f:=88) (args:= #[.pointer (some ⟨w.heap.size,0,none⟩),.pointer (some ⟨w.heap.size+1,0,none⟩)]) (by simp) (by simp [go_sem]) ?_
  refine (catch_wrong hB hB2 (by omega)).mono ?_
  rintro e u' w'' ⟨rfl,rfl,hb1,hb2,e1,e2,e3,e4,e5⟩
  simp only [Leaves,settle]
  have r1:(loadVar 50 ⟨w.heap.size,0,none⟩).run Tryz.prog w''= .ok (.agg #[.int .i64 0,.string ⟨#[]⟩,.int .i64 0,.int .i64 0,.int .i64 0,.int .i64 0]) w'':=by
    have hr:=loadCells_run (P:=Tryz.prog) (w:=w'') w.heap.size 0 6 (fun j=>[Value.int .i64 0,.string ⟨#[]⟩,.int .i64 0,.int .i64 0,.int .i64 0,.int .i64 0].getD j undef) (fun j hj=>by
      rw [Nat.zero_add,hb1.cell j]
      match j,hj with
      |0,_=>rfl
      |1,_=>rfl
      |2,_=>rfl
      |3,_=>rfl
      |4,_=>rfl
      |5,_=>rfl)
    simp [loadVar,aggT_run ag50,run_size Tryz.underlying50,sz50,hr,List.range,List.range.loop]
  have r2:(loadVar 4 ⟨w.heap.size+1,0,none⟩).run Tryz.prog w''= .ok (.bool false) w'':=by
    have h0:w''.cell? ⟨w.heap.size+1,0,none⟩=some (.bool false):=by rw [hb2.cell 0];rfl
    simp [loadVar,aggT_run ag4,h0]
  refine ⟨_,?_,rfl,?_⟩
  ·simp [results,Tryz.results53,asAddr,r1,r2]
  ·have hs:=hb.size
   rw [hsz] at hs
   refine ⟨?_,?_,?_,?_,fun i hi=>?_⟩
   ·rw [e1,hb.os];rfl
   ·rw [e2,hb.tape];rfl
   ·rw [e3,hb.output];rfl
   ·omega
   ·rw [e5 i (by omega) (by omega) (by omega),hb.block _ (by rw [hsz];omega),alloc2_old _ _ _ hi]
theorem opsP_rc {C:Nat→Nat→Option Value} (x:Ins) (b:Bool):RC C (.tup [opV x,.lit (.bool b)]) (.tuple #[opVal x,.bool b]):=by
  obtain ⟨k,p,a,b',c,d⟩:=x
  refine RC.tup [opV ⟨k,p,a,b',c,d⟩,.lit (.bool b)] [_,_] rfl fun i hi=>?_
  match i,hi with
  |0,_=>
   refine RC.agg [.lit (.int .i64 k),.lit (.string p),.lit (.int .i64 a),.lit (.int .i64 b'),.lit (.int .i64 c),.lit (.int .i64 d)] [.int .i64 k,.string p,.int .i64 a,.int .i64 b',.int .i64 c,.int .i64 d] rfl (fun i hi=>?_) fun i hi=>?_
   ·match i,hi with
    |0,_=>rfl
    |1,_=>rfl
    |2,_=>rfl
    |3,_=>rfl
    |4,_=>rfl
    |5,_=>rfl
   ·match i,hi with
    |0,_=>exact .lit _
    |1,_=>exact .lit _
    |2,_=>exact .lit _
    |3,_=>exact .lit _
    |4,_=>exact .lit _
    |5,_=>exact .lit _
  |1,_=>exact .lit _
def parV (s:List UInt8):AV:=match preadS s with
  |some x=> .tup [opV x,.lit (.bool true)]
  |none=> .tup [opV nilI,.lit (.bool false)]
theorem parsed_pc {s:List UInt8} (hs:s.length≤100000):PC Tryz.prog 53 [.lit (.string (bs s))] (parV s):=by
  intro C w vs hl hin
  rw [lit1 hl]
  unfold parV
  cases hp:preadS s with
  |some x=>
   refine (parsed_calls (s:=bs s) (p:=x.prim) (k:=x.code) (a:=x.a) (b:=x.b) (c:=x.c) (d:=x.d) w fun w1 hm=>?_).mono ?_
   ·have h:=read_calls hs w1 (tabs_in ⟨fun k o u hu=>hm.cell (hin.1 k o u hu),hin.2.up hm.block⟩)
    rw [hp] at h
    exact h
   ·rintro e w' ⟨rfl,hb⟩
    have hm:=More.of_below hb
    exact ⟨_,C,rfl,CLe.refl _,opsP_rc x true,⟨fun k o u hu=>hm.cell (hin.1 k o u hu),hin.2.up hm.block⟩,hm,fun _ _ _=>rfl⟩
  |none=>
   refine (parsed_bad (s:=bs s) w fun w1 hm=>?_).mono ?_
   ·have h:=read_calls hs w1 (tabs_in ⟨fun k o u hu=>hm.cell (hin.1 k o u hu),hin.2.up hm.block⟩)
    rw [hp] at h
    exact h
   ·rintro e w' ⟨rfl,hb⟩
    have hm:=More.of_below hb
    exact ⟨_,C,rfl,CLe.refl _,opsP_rc nilI false,⟨fun k o u hu=>hm.cell (hin.1 k o u hu),hin.2.up hm.block⟩,hm,fun _ _ _=>rfl⟩
end Go.Proofs.YtohiagaclfaolaaGreatDoor.Tx

namespace Go.Proofs.YtohiagaclfaolaaGreatDoor.Tx
open Go.Proofs.YtohiagaclfaolaaGreatDoor
open Go Go.Fw Go.RowKit Bm
set_option maxRecDepth 20000
theorem copy_new {g:Nat} {v:Value} {w:World} (h:Blk w g #[.pointer none,v] 80) (h0:w.heap[g]? =some (.cells #[.pointer none,v] 80 (0,0))):
    Calls Tryz.prog 80 #[.pointer (some ⟨g,0,none⟩)] w fun e w'=>e= .returned (.tuple #[])∧w'=w.setCell ⟨g,0,none⟩ (.pointer (some ⟨g,0,none⟩)):=by
  have hc:w.cell? ⟨g,0,none⟩=some (.pointer none):=by rw [h.cell 0];rfl
  have hs:w.shape? g=some (80,2):=by simp [World.shape?,h0]
  obtain ⟨i0,hi,hz0,hz1,hz2⟩:=info_parts (show (Tryz.prog.info? 80).map (fun i=>(i.zero,i.size,i.bytes))=some (some (.agg #[.pointer none,.slice none 0 0]),2,32) from by kernel_rfl)
  have c1:(convert 78 140 (.pointer (some ⟨g,0,none⟩))).run Tryz.prog w= .ok (.pointer (some ⟨g,0,none⟩)) w:=Lib.run_to_unsafe w ⟨g,0,none⟩ Tryz.underlying78 Tryz.underlying140 hi (by rw [hz1];decide) hs (show (0:Nat)<2 by decide)
  have c2:(convert 140 78 (.pointer (some ⟨g,0,none⟩))).run Tryz.prog w= .ok (.pointer (some ⟨g,0,none⟩)) w:=Lib.run_from_unsafe w ⟨g,0,none⟩ Tryz.underlying140 Tryz.underlying78 hi hs (by kernel_rfl)
  have c3:(callFunc 102 #[.pointer (some ⟨g,0,none⟩)]).run Tryz.prog w= .ok (.value (.pointer (some ⟨g,0,none⟩))) w:=by
    rw [run_callFunc_extern Tryz.func102 (by kernel_rfl) (by kernel_rfl) (by kernel_rfl) (e:=Extern.AbiNoEscape.same) (by kernel_rfl),Lib.run_noEscape]
    rfl
  have hf:w.frozen? ⟨g,0,none⟩=false:=h.frozen 0 (by simp)
  go_enter Tryz.func80,Tryz.ntmps80
  go_wp2_with fail
  exact ⟨rfl,_,by simp [results,Tryz.results80],rfl,rfl⟩
theorem copy_used {g:Nat} {v:Value} {w:World} (h0:w.heap[g]? =some (.cells #[.pointer (some ⟨g,0,none⟩),v] 80 (0,0))):
    Calls Tryz.prog 80 #[.pointer (some ⟨g,0,none⟩)] w fun e w'=>e= .returned (.tuple #[])∧w'=w:=by
  have hc:w.cell? ⟨g,0,none⟩=some (.pointer (some ⟨g,0,none⟩)):=by simp [World.cell?,h0]
  obtain ⟨i0,hi,hz0,hz1,hz2⟩:=info_parts (show (Tryz.prog.info? 80).map (fun i=>(i.zero,i.size,i.bytes))=some (some (.agg #[.pointer none,.slice none 0 0]),2,32) from by kernel_rfl)
  have c1:(binOp .neq 78 (.pointer (some ⟨g,0,none⟩)) (.pointer (some ⟨g,0,none⟩))).run Tryz.prog w= .ok (.bool false) w:=Lib.run_neq_ptr_same w ⟨g,0,none⟩ Tryz.underlying78 hi
  go_enter Tryz.func80,Tryz.ntmps80
  go_wp2_with fail
  exact ⟨rfl,_,by simp [results,Tryz.results80],rfl,rfl⟩
theorem copy_calls {B b:Nat} {l:List Value} {w:World} (h:Lib.IsBuilderF 80 5 B b l w):
    Calls Tryz.prog 80 #[.pointer (some ⟨b,0,none⟩)] w fun e w'=>e= .returned (.tuple #[])∧Lib.BuilderAtF 80 5 B b (.pointer (some ⟨b,0,none⟩)) l w'∧Below B w w':=by
  rcases h with h|h
  ·have h':=h
   obtain ⟨hB,v,hb,hown,hne⟩:=h'
   have hblk:Blk w b #[.pointer none,v] 80:=⟨(0,0),hb,Nat.le_refl _,fun _ _ h=>by simp at h⟩
   refine (copy_new hblk hb).mono ?_
   rintro e w' ⟨rfl,rfl⟩
   exact ⟨rfl,h.used _,(Below.refl _ w).setCell hB _⟩
  ·have h':=h
   obtain ⟨hB,v,hb,hown,hne⟩:=h'
   refine (copy_used hb).mono ?_
   rintro e w' ⟨rfl,rfl⟩
   exact ⟨rfl,h,Below.refl _ _⟩
set_option maxHeartbeats 1000000 in
theorem write_calls {B b:Nat} {l:List Value} {s:ByteArray} {w:World} (h:Lib.IsBuilderF 80 5 B b l w) (hlen:l.length+s.size≤140737488355328) (hBw:B≤w.heap.size):
    Calls Tryz.prog 47 #[.pointer (some ⟨b,0,none⟩),.string s] w fun e w'=>e= .returned (.tuple #[.int .i64 s.size,.nilIface])∧Lib.BuilderAtF 80 5 B b (.pointer (some ⟨b,0,none⟩)) (l++Lib.strCells s) w'∧Below B w w':=by
  obtain ⟨i0,hi,hz0,hz1,hz2⟩:=info_parts (show (Tryz.prog.info? 5).map (fun i=>(i.zero,i.size,i.bytes))=some (some (.int .u8 0),1,1) from by kernel_rfl)
  go_enter Tryz.func47,Tryz.ntmps47
  go_wp2_with (go_at_call 80;refine (copy_calls h).mono ?_)
  rintro e w1 ⟨rfl,h1,hb1⟩
  obtain ⟨hB,v,hbk,hown,hne⟩:=h1
  have c0:w1.cell? ⟨b,0,none⟩=some (.pointer (some ⟨b,0,none⟩)):=by rw [Lib.cell_of_heap hbk];rfl
  have c1:w1.cell? ⟨b,1,none⟩=some v:=by rw [Lib.cell_of_heap hbk];rfl
  have hs1:=hb1.size
  go_wp2_with (at_builtin;refine Lib.wpList_append_own_stringF _ rfl _ _ 27 9 rfl B 5 i0 Tryz.underlying27 Tryz.underlying9 hi hz0 hz1 hz2 _ _ _ rfl hown s rfl ?c3 ?c4 ?c5 ?_)
  case c3=>unfold maxLen;omega
  case c4=>omega
  case c5=>omega
  intro v' w2 hown' hgrow _
  have hlt:b<w1.heap.size:=(Array.getElem?_eq_some_iff.1 hbk).1
  have hb2:w2.heap[b]? =some (.cells #[.pointer (some ⟨b,0,none⟩),v] 80 (0,0)):=by
    rw [hgrow.block b hlt (fun e=>hne e.symm)];exact hbk
  have d0:w2.cell? ⟨b,0,none⟩=some (.pointer (some ⟨b,0,none⟩)):=by rw [Lib.cell_of_heap hb2];rfl
  have d1:w2.cell? ⟨b,1,none⟩=some v:=by rw [Lib.cell_of_heap hb2];rfl
  have f1:w2.frozen? ⟨b,1,none⟩=false:=Lib.frozen_of_heap hb2 1
  obtain ⟨ao,n',cap,rfl⟩:∃ ao n' cap,v'= .slice ao n' cap:=by
    rcases hown'.2 with ⟨hv,_⟩|⟨g,cap,cur,fz,hv,_⟩
    ·exact ⟨_,_,_,hv⟩
    ·exact ⟨_,_,_,hv⟩
  go_wp2
  go_ret2
  refine ⟨rfl,?_,?_⟩
  ·exact Lib.BuilderAtF.put (T:=80) (e:=5) hB hb2 (bs':=l++Lib.strCells s) (by simpa [Lib.strCells_length] using hown') (by decide)
  ·exact (hb1.grown hgrow (by omega) (fun k hk=>(hown.lt k hk).1)).setCell (p:=⟨b,1,none⟩) hB _
end Go.Proofs.YtohiagaclfaolaaGreatDoor.Tx

namespace Go.Proofs
open Go.Shelf
def Tryz.lays169_ren:Go.Shelf.Ren:=⟨fun|169=>49|n=>n,fun|70=>78|9=>9|0=>0|72=>80|37=>27|127=>119|3=>3|5=>5|n=>n,fun|n=>n⟩
theorem Tryz.lays169:Go.Proofs.Lays.n169 Tryz.prog Tryz.lays169_ren:={
  mixed:=by kernel_rfl
  f169:=Tryz.func49.trans (congrArg some (by kernel_rfl))
  t0:=Tryz.underlying0
  a0:=Tryz.isAgg0
  z0:=Tryz.sizeOf0
  v0:=Tryz.zeroValue0
  t3:=Tryz.underlying3
  a3:=Tryz.isAgg3
  z3:=Tryz.sizeOf3
  v3:=Tryz.zeroValue3
  t9:=Tryz.underlying9
  a9:=Tryz.isAgg9
  z9:=Tryz.sizeOf9
  v9:=Tryz.zeroValue9
  t37:=Tryz.underlying27
  a37:=Tryz.isAgg27
  z37:=Tryz.sizeOf27
  v37:=Tryz.zeroValue27
  t70:=Tryz.underlying78
  a70:=Tryz.isAgg78
  z70:=Tryz.sizeOf78
  v70:=Tryz.zeroValue78
  t72:=Tryz.underlying80
  a72:=Tryz.isAgg80
  z72:=Tryz.sizeOf80
  v72:=Tryz.zeroValue80
  t127:=Tryz.underlying119
  a127:=Tryz.isAgg119
  z127:=Tryz.sizeOf119
  v127:=Tryz.zeroValue119}
theorem Tryz.Builder_Extra_169:Builder.Extra Tryz.prog Tryz.lays169_ren:={
  sizeBuilder:=by kernel_rfl
  liesBuilder:=by kernel_rfl
  t5:=Tryz.underlying5
  a5:=Tryz.isAgg5
  z5:=Tryz.sizeOf5
  v5:=Tryz.zeroValue5
  infoByte:=by kernel_rfl
  cellsByte:=by kernel_rfl
  sizeByte:=by kernel_rfl
  neB5:=by decide}
open Go.RowKit in
theorem Tryz.Builder_String_any_f (B b:Nat) (l:List UInt8) (w:World) (h:Lib.IsBuilderF 80 5 B b (Lib.byteCells l) w) (hBw:B≤w.heap.size):
    Calls Tryz.prog 49 #[.pointer (some ⟨b,0,none⟩)] w fun e w'=>e= .returned (.string ⟨l.toArray⟩)∧(Lib.IsBuilderF 80 5 B b (Lib.byteCells l) w'∧Below B w w'):=Any.Builder_String_any_f Tryz.lays169 Tryz.Builder_Extra_169 B b l w h hBw
end Go.Proofs

namespace Go.Proofs.YtohiagaclfaolaaGreatDoor.Tx
open Go.Proofs.YtohiagaclfaolaaGreatDoor
open Go Go.Fw Go.RowKit Bm
set_option maxRecDepth 20000
def opCs (x:Ins):List AV:=[.lit (.int .i64 x.code),.lit (.string x.prim),.lit (.int .i64 x.a),.lit (.int .i64 x.b),.lit (.int .i64 x.c),.lit (.int .i64 x.d)]
theorem flat_ops:∀ (l:List Ins) (n j:Nat),n<l.length→j<6→(flat (opsV l)).getD (6*n+j) .top=(opCs (l.getD n nilI)).getD j .top
  |x::l,0,j,_,hj=>by
   show ((opCs x)++flat (opsV l)).getD (6*0+j) .top=_
   rw [Nat.mul_zero,Nat.zero_add,List.getD_eq_getElem?_getD,List.getElem?_append_left (by simp [opCs];omega),←List.getD_eq_getElem?_getD];rfl
  |x::l,n+1,j,hn,hj=>by
   show ((opCs x)++flat (opsV l)).getD (6*(n+1)+j) .top=_
   have e:6*(n+1)+j - (opCs x).length=6*n+j:=by simp [opCs];omega
   rw [List.getD_eq_getElem?_getD,List.getElem?_append_right (by simp [opCs];omega),e,←List.getD_eq_getElem?_getD,flat_ops l n j (by simpa using hn) hj];rfl
theorem flat_opsL:∀ l:List Ins,(flat (opsV l)).length=6*l.length
  |[]=>rfl
  |x::l=>by
   show ((opCs x)++flat (opsV l)).length=_
   rw [List.length_append,flat_opsL l];simp [opCs];omega
structure OpsAt (C:Nat→Nat→Option Value) (l:List Ins) (v:Value) where
  a:Option Addr
  cap:Nat
  v:v= .slice a l.length cap
  le:l.length≤cap
  max:cap≤maxLen
  at_:∀ n,n<l.length→∃ b off,a=some ⟨b,off,none⟩∧C b (off+6*n)=some (.int .i64 (l.getD n nilI).code)∧C b (off+6*n+1)=some (.string (l.getD n nilI).prim)∧
    C b (off+6*n+2)=some (.int .i64 (l.getD n nilI).a)∧C b (off+6*n+3)=some (.int .i64 (l.getD n nilI).b)∧C b (off+6*n+4)=some (.int .i64 (l.getD n nilI).c)∧C b (off+6*n+5)=some (.int .i64 (l.getD n nilI).d)
theorem ops_at {C:Nat→Nat→Option Value} {l:List Ins} {v:Value} (h:RC C (.sl false 6 (opsV l)) v):Nonempty (OpsAt C l v):=by
  generalize hX:opsV l=X at h
  cases h with
  |nil full sz p=>
   have:l=[]:=by
     cases l with
     |nil=>rfl
     |cons x l=>cases hX
   subst this
   exact ⟨⟨p,0,rfl,Nat.le_refl _,Nat.zero_le _,fun n hn=>by simp at hn⟩⟩
  |sl full sz X b off cap f hc hm hf hw hC h1 hR=>
   subst hX
   have hlen:(opsV l).length=l.length:=opsV_length l
   have hfl:=flat_opsL l
   have key:∀ n j x,n<l.length→j<6→(opCs (l.getD n nilI)).getD j .top= .lit x→C b (off+6*n+j)=some x:=fun n j x hn hj hx=>by
     have hlt:6*n+j<(flat (opsV l)).length:=by rw [hfl];omega
     have hr:=hR (6*n+j) hlt
     rw [flat_ops l n j hn hj,hx] at hr
     rw [Nat.add_assoc,hC _ hlt,rc_lit hr]
   exact ⟨⟨some ⟨b,off,none⟩,cap,by rw [hlen],by omega,hm,fun n hn=>⟨b,off,rfl,key n 0 _ hn (by omega) rfl,key n 1 _ hn (by omega) rfl,key n 2 _ hn (by omega) rfl,key n 3 _ hn (by omega) rfl,key n 4 _ hn (by omega) rfl,key n 5 _ hn (by omega) rfl⟩⟩⟩
theorem rc_opV {C:Nat→Nat→Option Value} (x:Ins):RC C (opV x) (opVal x):=by
  obtain ⟨k,p,a,b,c,d⟩:=x
  refine RC.agg [.lit (.int .i64 k),.lit (.string p),.lit (.int .i64 a),.lit (.int .i64 b),.lit (.int .i64 c),.lit (.int .i64 d)] [.int .i64 k,.string p,.int .i64 a,.int .i64 b,.int .i64 c,.int .i64 d] rfl (fun i hi=>?_) fun i hi=>?_
  ·match i,hi with
   |0,_=>rfl
   |1,_=>rfl
   |2,_=>rfl
   |3,_=>rfl
   |4,_=>rfl
   |5,_=>rfl
  ·match i,hi with
   |0,_=>exact .lit _
   |1,_=>exact .lit _
   |2,_=>exact .lit _
   |3,_=>exact .lit _
   |4,_=>exact .lit _
   |5,_=>exact .lit _
theorem pc_calls {f:FuncId} {args:List AV} {vs:List Value} {r:Value} (h:PC Tryz.prog f args (.lit r)) (hl:RL (fun _ _=>none) args vs) (w:World) (hT:Tabs w):Calls Tryz.prog f vs.toArray w fun e w'=>e= .returned r∧Below w.heap.size w w':=by
  refine (h (fun _ _=>none) w vs hl ⟨(fun _ _ _ h=>by cases h),hT⟩).mono ?_
  rintro e w' ⟨v,C',rfl,_,h2,_,h4,_⟩
  rw [rc_lit h2];exact ⟨rfl,h4.below⟩
theorem right_calls (x:Ins) (n:Int) (w:World) (hT:Tabs w):Calls Tryz.prog 45 #[opVal x,.int .i64 n] w fun e w'=>e= .returned (.bool (rightS x n))∧Below w.heap.size w w':=
  pc_calls (vs:=[opVal x,.int .i64 n]) right_pc ⟨rfl,fun i hi=>by
    match i,hi with
    |0,_=>exact rc_opV x
    |1,_=>exact .lit _⟩ w hT
theorem line_calls {x:Ins} (hr:rightS x 200=true) (w:World) (hT:Tabs w):Calls Tryz.prog 48 #[opVal x] w fun e w'=>e= .returned (.string (bs (lineB x)))∧Below w.heap.size w w':=
  pc_calls (vs:=[opVal x]) (line_pc (sm_right hr)) ⟨rfl,fun i hi=>by
    match i,hi with
    |0,_=>exact rc_opV x⟩ w hT
theorem isB_below {B b:Nat} {l:List Value} {w w':World} (h:Lib.IsBuilderF 80 5 B b l w) (hb:Below w.heap.size w w'):Lib.IsBuilderF 80 5 B b l w':=by
  have hg:w.grownBy w' none:=⟨hb.os,hb.tape,hb.output,hb.size,fun k hk _=>hb.block k hk⟩
  have key:∀ p,Lib.BuilderAtF 80 5 B b p l w→Lib.BuilderAtF 80 5 B b p l w':=by
    rintro p ⟨hB,v,hbk,hown,hne⟩
    refine ⟨hB,v,?_,hown.kept hg ?_,hne⟩
    ·rw [hb.block b (Array.getElem?_eq_some_iff.1 hbk).1];exact hbk
    ·cases hv:v.ownBlock with
     |none=>exact .inl rfl
     |some k=>exact .inr (by simp)
  exact h.elim (fun h=> .inl (key _ h)) fun h=> .inr (key _ h)
theorem cells6 {w:World} {g:Nat} {a0 a1 a2 a3 a4 a5:Value} {t:TypeId} {fz:Nat×Nat} (h:w.heap[g]? =some (.cells #[a0,a1,a2,a3,a4,a5] t fz)):w.cell? ⟨g,0,none⟩=some a0∧w.cell? ⟨g,1,none⟩=some a1∧w.cell? ⟨g,2,none⟩=some a2∧w.cell? ⟨g,3,none⟩=some a3∧w.cell? ⟨g,4,none⟩=some a4∧w.cell? ⟨g,5,none⟩=some a5:=by
  simp [World.cell?,h]
theorem byteCells_bs (l m:List UInt8):Lib.byteCells l++Lib.strCells (bs m)=Lib.byteCells (l++m):=by
  rw [Lib.strCells_eq,data_bs];simp [Lib.byteCells]
def allR (l:List Ins):Prop:=∀ x∈l,rightS x 200=true
theorem text_len:∀ {l:List Ins},allR l→(textB l).length≤139*l.length
  |[],_=>by simp [textB]
  |x::l,h=>by
   obtain ⟨f,hx⟩:=right_rti (h x (by simp))
   have:=line_len hx
   have ih:=text_len (l:=l) fun y hy=>h y (by simp [hy])
   have e:textB (x::l)=lineB x++10::textB l:=by simp [textB]
   rw [e,List.length_append,List.length_cons,List.length_cons]
   omega
theorem below_weak {B B':Nat} {a b:World} (h:Below B' a b) (hB:B≤B'):Below B a b:=⟨h.os,h.tape,h.output,h.size,fun k hk=>h.block k (Nat.lt_of_lt_of_le hk hB)⟩
set_option maxHeartbeats 4000000 in
theorem print_ok {l:List Ins} {v:Value} {C:Nat→Nat→Option Value} {w:World} (hv:RC C (.sl false 6 (opsV l)) v) (hin:inW C w) (hl:l.length≤1000) (hall:allR l):
    Calls Tryz.prog 17 #[v] w fun e w'=>e= .returned (.tuple #[.string (bs (textB l)),.int .i64 0])∧Below w.heap.size w w':=by
  obtain ⟨⟨a,cap,rfl,hle,hmax,hat⟩⟩:=ops_at hv
  have h0:Lib.IsBuilderF 80 5 w.heap.size w.heap.size [] (w.alloc (.cells #[.pointer none,.slice none 0 0] 80)):=Lib.IsBuilderF.of (Lib.fresh_isBuilder 80 5 w)
  have b0:Below w.heap.size w (w.alloc (.cells #[.pointer none,.slice none 0 0] 80)):=(Below.refl _ w).alloc (Nat.le_refl _) _
  go_enter Tryz.func17,Tryz.ntmps17
  go_wp2
  go_loopw [9] (fun i wr=>∃ n:Nat,n≤l.length∧i= .int .i64 n∧Lib.IsBuilderF 80 5 w.heap.size w.heap.size (Lib.byteCells (textB (l.take n))) wr∧Below w.heap.size w wr) (fun i _=>l.length - (intOf i).toNat)
  case atStart=>exact ⟨0,by omega,rfl,h0,b0⟩
  case round=>
    obtain ⟨n,hn,rfl,hB,hb⟩:=hrel
    by_cases hlt:n<l.length
    ·obtain ⟨bk,off,rfl,e0,e1,e2,e3,e4,e5⟩:=hat n hlt
     have hm:=More.of_below hb
     rw [Nat.mul_comm 6 n] at e0 e1 e2 e3 e4 e5
     have d0:=hm.cell (hin.1 _ _ _ e0)
     have d1:=hm.cell (hin.1 _ _ _ e1)
     have d2:=hm.cell (hin.1 _ _ _ e2)
     have d3:=hm.cell (hin.1 _ _ _ e3)
     have d4:=hm.cell (hin.1 _ _ _ e4)
     have d5:=hm.cell (hin.1 _ _ _ e5)
     have hx:=hall (l.getD n nilI) (by rw [List.getD_eq_getElem?_getD,List.getElem?_eq_getElem hlt];exact List.getElem_mem _)
     have hsx:textB (l.take (n+1))=textB (l.take n)++(lineB (l.getD n nilI)++[10]):=by
       rw [List.take_add_one,List.getElem?_eq_getElem hlt,List.getD_eq_getElem?_getD,List.getElem?_eq_getElem hlt];simp only [textB,List.flatMap_append,Option.toList_some,List.flatMap_cons,List.flatMap_nil,List.append_nil,Option.getD_some]
     generalize l.getD n nilI=x at*
     obtain ⟨k,p,xa,xb,xc,xd⟩:=x
     simp only at d0 d1 d2 d3 d4 d5
     clear e0 e1 e2 e3 e4 e5
     have hTr:Tabs wr:=tabs_up (tabs_in hin) hb
     have ba:Below wr.heap.size wr (wr.alloc (.cells #[.int .i64 k,.string p,.int .i64 xa,.int .i64 xb,.int .i64 xc,.int .i64 xd] 50)):=(Below.refl _ wr).alloc (Nat.le_refl _) _
     have hTa:=tabs_up hTr ba
     have hR:=right_calls ⟨k,p,xa,xb,xc,xd⟩ 200 _ hTa
     rw [hx] at hR
     go_wp2_with (go_at_call 45;refine hR.mono ?_)
     rintro e w2 ⟨rfl,b2⟩
     have hn2:w2.heap[wr.heap.size]? =some (.cells #[.int .i64 k,.string p,.int .i64 xa,.int .i64 xb,.int .i64 xc,.int .i64 xd] 50 (0,0)):=by
       rw [b2.block _ (by simp)]
       show (wr.heap.push _)[wr.heap.size]? =_
       rw [Array.getElem?_push,if_pos rfl]
     obtain ⟨f0,f1,f2,f3,f4,f5⟩:=cells6 hn2
     have hL:=line_calls hx w2 (tabs_up hTa b2)
     go_wp2_with (go_at_call 48;refine hL.mono ?_)
     rintro e w3 ⟨rfl,b3⟩
     have br:=below_trans2 (below_trans2 ba b2) b3
     have hB3:=isB_below hB br
     obtain ⟨f,hrt⟩:=right_rti hx
     have hll:=line_len hrt
     have htl:(textB (l.take n)).length≤139*1000:=by
       have:=text_len (l:=l.take n) fun y hy=>hall y (List.mem_of_mem_take hy)
       rw [List.length_take] at this
       omega
     have hsz:=hb.size
     have hsz3:=br.size
     go_wp2_with (go_at_call 47;refine (write_calls hB3 ?q1 ?q2).mono ?_)
     case q1=>rw [Lib.byteCells_length,bs_size,List.length_append,List.length_singleton];omega
     case q2=>omega
     rintro e w4 ⟨rfl,h4,b4⟩
     rw [byteCells_bs,←hsx] at h4
     have b5:Below w.heap.size w w4:=(hb.trans (below_weak br hsz)).trans b4
     go_wp2
     go_roundw
     case rel=>exact ⟨n+1,by omega,by go_num,.inr h4,b5⟩
     case measure=>simp [intOf];omega
    ·have hnl:n=l.length:=by omega
     subst hnl
     rw [List.take_length] at hB
     have hsz:=hb.size
     have g1: ¬ (5000:Int)<(l.length:Int):=by omega
     go_wp2_with (go_at_call 49;refine (Tryz.Builder_String_any_f w.heap.size w.heap.size _ _ hB (by omega)).mono ?_)
     rintro e w' rfl _ b2
     go_wp2
     go_ret2
     exact ⟨rfl,hb.trans b2⟩
set_option maxHeartbeats 4000000 in
theorem print_bad {l:List Ins} {m:Nat} {v:Value} {C:Nat→Nat→Option Value} {w:World} (hv:RC C (.sl false 6 (opsV l)) v) (hin:inW C w) (hl:l.length≤1000) (hm0:m<l.length) (hgood:allR (l.take m)) (hbad:rightS (l.getD m nilI) 200=false):
    Calls Tryz.prog 17 #[v] w fun e w'=>e= .returned (.tuple #[.string (bs []),.int .i64 22])∧Below w.heap.size w w':=by
  obtain ⟨⟨a,cap,rfl,hle,hmax,hat⟩⟩:=ops_at hv
  have h0:Lib.IsBuilderF 80 5 w.heap.size w.heap.size [] (w.alloc (.cells #[.pointer none,.slice none 0 0] 80)):=Lib.IsBuilderF.of (Lib.fresh_isBuilder 80 5 w)
  have b0:Below w.heap.size w (w.alloc (.cells #[.pointer none,.slice none 0 0] 80)):=(Below.refl _ w).alloc (Nat.le_refl _) _
  go_enter Tryz.func17,Tryz.ntmps17
  go_wp2
  go_loopw [9] (fun i wr=>∃ n:Nat,n≤m∧i= .int .i64 n∧Lib.IsBuilderF 80 5 w.heap.size w.heap.size (Lib.byteCells (textB (l.take n))) wr∧Below w.heap.size w wr) (fun i _=>m - (intOf i).toNat)
  case atStart=>exact ⟨0,by omega,rfl,h0,b0⟩
  case round=>
    obtain ⟨n,hn,rfl,hB,hb⟩:=hrel
    have hlt:n<l.length:=by omega
    by_cases hlm:n<m
    ·obtain ⟨bk,off,rfl,e0,e1,e2,e3,e4,e5⟩:=hat n hlt
     have hm:=More.of_below hb
     rw [Nat.mul_comm 6 n] at e0 e1 e2 e3 e4 e5
     have d0:=hm.cell (hin.1 _ _ _ e0)
     have d1:=hm.cell (hin.1 _ _ _ e1)
     have d2:=hm.cell (hin.1 _ _ _ e2)
     have d3:=hm.cell (hin.1 _ _ _ e3)
     have d4:=hm.cell (hin.1 _ _ _ e4)
     have d5:=hm.cell (hin.1 _ _ _ e5)
     have hx:=hgood (l.getD n nilI) (by rw [List.getD_eq_getElem?_getD,List.getElem?_eq_getElem hlt];exact List.mem_take_iff_getElem.2 ⟨n,by omega,rfl⟩)
     have hsx:textB (l.take (n+1))=textB (l.take n)++(lineB (l.getD n nilI)++[10]):=by
       rw [List.take_add_one,List.getElem?_eq_getElem hlt,List.getD_eq_getElem?_getD,List.getElem?_eq_getElem hlt];simp only [textB,List.flatMap_append,Option.toList_some,List.flatMap_cons,List.flatMap_nil,List.append_nil,Option.getD_some]
     generalize l.getD n nilI=x at*
     obtain ⟨k,p,xa,xb,xc,xd⟩:=x
     simp only at d0 d1 d2 d3 d4 d5
     clear e0 e1 e2 e3 e4 e5
     have hTr:Tabs wr:=tabs_up (tabs_in hin) hb
     have ba:Below wr.heap.size wr (wr.alloc (.cells #[.int .i64 k,.string p,.int .i64 xa,.int .i64 xb,.int .i64 xc,.int .i64 xd] 50)):=(Below.refl _ wr).alloc (Nat.le_refl _) _
     have hTa:=tabs_up hTr ba
     have hR:=right_calls ⟨k,p,xa,xb,xc,xd⟩ 200 _ hTa
     rw [hx] at hR
     go_wp2_with (go_at_call 45;refine hR.mono ?_)
     rintro e w2 ⟨rfl,b2⟩
     have hn2:w2.heap[wr.heap.size]? =some (.cells #[.int .i64 k,.string p,.int .i64 xa,.int .i64 xb,.int .i64 xc,.int .i64 xd] 50 (0,0)):=by
       rw [b2.block _ (by simp)]
       show (wr.heap.push _)[wr.heap.size]? =_
       rw [Array.getElem?_push,if_pos rfl]
     obtain ⟨f0,f1,f2,f3,f4,f5⟩:=cells6 hn2
     have hL:=line_calls hx w2 (tabs_up hTa b2)
     go_wp2_with (go_at_call 48;refine hL.mono ?_)
     rintro e w3 ⟨rfl,b3⟩
     have br:=below_trans2 (below_trans2 ba b2) b3
     have hB3:=isB_below hB br
     obtain ⟨f,hrt⟩:=right_rti hx
     have hll:=line_len hrt
     have htl:(textB (l.take n)).length≤139*1000:=by
       have:=text_len (l:=l.take n) fun y hy=>hgood y ((List.take_sublist_take_left (by omega)).subset hy)
       rw [List.length_take] at this
       omega
     have hsz:=hb.size
     have hsz3:=br.size
     go_wp2_with (go_at_call 47;refine (write_calls hB3 ?q1 ?q2).mono ?_)
     case q1=>rw [Lib.byteCells_length,bs_size,List.length_append,List.length_singleton];omega
     case q2=>omega
     rintro e w4 ⟨rfl,h4,b4⟩
     rw [byteCells_bs,←hsx] at h4
     have b5:Below w.heap.size w w4:=(hb.trans (below_weak br hsz)).trans b4
     go_wp2
     go_roundw
     case rel=>exact ⟨n+1,by omega,by go_num,.inr h4,b5⟩
     case measure=>simp [intOf];omega
    ·obtain rfl:n=m:=by omega
     obtain ⟨bk,off,rfl,e0,e1,e2,e3,e4,e5⟩:=hat n hlt
     have hm:=More.of_below hb
     rw [Nat.mul_comm 6 n] at e0 e1 e2 e3 e4 e5
     have d0:=hm.cell (hin.1 _ _ _ e0)
     have d1:=hm.cell (hin.1 _ _ _ e1)
     have d2:=hm.cell (hin.1 _ _ _ e2)
     have d3:=hm.cell (hin.1 _ _ _ e3)
     have d4:=hm.cell (hin.1 _ _ _ e4)
     have d5:=hm.cell (hin.1 _ _ _ e5)
     generalize l.getD n nilI=x at*
     obtain ⟨k,p,xa,xb,xc,xd⟩:=x
     simp only at d0 d1 d2 d3 d4 d5
     clear e0 e1 e2 e3 e4 e5
     have hTr:Tabs wr:=tabs_up (tabs_in hin) hb
     have ba:Below wr.heap.size wr (wr.alloc (.cells #[.int .i64 k,.string p,.int .i64 xa,.int .i64 xb,.int .i64 xc,.int .i64 xd] 50)):=(Below.refl _ wr).alloc (Nat.le_refl _) _
     have hTa:=tabs_up hTr ba
     have hR:=right_calls ⟨k,p,xa,xb,xc,xd⟩ 200 _ hTa
     rw [hbad] at hR
     have hsz:=hb.size
     go_wp2_with (go_at_call 45;refine hR.mono ?_)
     rintro e w2 ⟨rfl,b2⟩
     go_wp2
     go_ret2
     exact ⟨rfl,hb.trans (below_weak (below_trans2 ba b2) hsz)⟩
def printV (l:List Ins):AV:=if (l.all fun x=>rightS x 200)=true then .tup [.lit (.string (bs (textB l))),.lit (.int .i64 0)] else .tup [.lit (.string (bs [])),.lit (.int .i64 22)]
theorem first_bad:∀ {l:List Ins},(l.all fun x=>rightS x 200)=false→∃ m,m<l.length∧allR (l.take m)∧rightS (l.getD m nilI) 200=false
  |[],h=>by cases h
  |x::l,h=>by
   cases hx:rightS x 200 with
   |false=>exact ⟨0,by simp,fun y hy=>by simp at hy,hx⟩
   |true=>
    rw [List.all_cons,hx,Bool.true_and] at h
    obtain ⟨m,h1,h2,h3⟩:=first_bad h
    refine ⟨m+1,by simpa using h1,fun y hy=>?_,h3⟩
    rw [List.take_succ_cons] at hy
    rcases List.mem_cons.1 hy with rfl|hy
    ·exact hx
    ·exact h2 y hy
theorem tup2_rc {C:Nat→Nat→Option Value} (a b:Value):RC C (.tup [.lit a,.lit b]) (.tuple #[a,b]):=RC.tup [.lit a,.lit b] [a,b] rfl fun i hi=>by
  match i,hi with
  |0,_=>exact .lit _
  |1,_=>exact .lit _
theorem print_pc {l:List Ins} (hl:l.length≤1000):PC Tryz.prog 17 [.sl false 6 (opsV l)] (printV l):=by
  intro C w vs hvl hin
  obtain ⟨h1,h2⟩:=hvl
  match vs,h1 with
  |[v],_=>
   have hv:RC C (.sl false 6 (opsV l)) v:=h2 0 (by simp)
   unfold printV
   cases ha:(l.all fun x=>rightS x 200) with
   |true=>
    have hall:allR l:=fun x hx=>by rw [List.all_eq_true] at ha;exact ha x hx
    refine (print_ok hv hin hl hall).mono ?_
    rintro e w' ⟨rfl,hb⟩
    have hm:=More.of_below hb
    exact ⟨_,C,rfl,CLe.refl _,tup2_rc _ _,⟨fun k o u hu=>hm.cell (hin.1 k o u hu),hin.2.up hm.block⟩,hm,fun _ _ _=>rfl⟩
   |false=>
    obtain ⟨m,m1,m2,m3⟩:=first_bad ha
    refine (print_bad hv hin hl m1 m2 m3).mono ?_
    rintro e w' ⟨rfl,hb⟩
    have hm:=More.of_below hb
    exact ⟨_,C,rfl,CLe.refl _,tup2_rc _ _,⟨fun k o u hu=>hm.cell (hin.1 k o u hu),hin.2.up hm.block⟩,hm,fun _ _ _=>rfl⟩
end Go.Proofs.YtohiagaclfaolaaGreatDoor.Tx

namespace Go.Proofs.YtohiagaclfaolaaGreatDoor.Cd
open Go.Proofs.YtohiagaclfaolaaGreatDoor
open Go Go.Fw Bm Tx
set_option maxRecDepth 20000
structure PI (l:List Int) (n:Int):Prop where
  n:inI64 n
  l:l.length≤900000
structure PT (l:List Int) (s:ByteArray):Prop where
  l:l.length≤300000
  s:s.size≤90000
structure PL (l m:List Int):Prop where
  ln:l.length≤300000
  mn:m.length≤10000
  rn:∀ n∈m,inI64 n
theorem wint_pc {l:List Int} {n:Int} (h:PI l n):PC Tryz.prog 25 [.sl false 1 (ints .u8 l),.lit (.int .i64 n)] (.sl false 1 (ints .u8 (l++Wi.enc n))):=Wi.int_pc' h.n h.l
theorem wtext_pc {l:List Int} {s:ByteArray} (h:PT l s):PC Tryz.prog 24 [.sl false 1 (ints .u8 l),.lit (.string s)] (.sl false 1 (ints .u8 (l++Wi.encT s))):=
  Wi.pc_of_newB fun _ hk=>Wi.wtext_rd Wi.rdK_sl (by have:=h.l;omega) h.s hk
theorem wints_pc {l m:List Int} (h:PL l m):PC Tryz.prog 27 [.sl false 1 (ints .u8 l),.sl false 1 (ints .i64 m)] (.sl false 1 (ints .u8 (l++Wi.enc (m.length:Int)++Wi.encL m))):=
  Wi.pc_of_newB fun _ hk=>Wi.ints_rd Wi.rdK_sl h.ln h.mn h.rn hk
theorem rint_pc {l:List Int} {n:Int} (h:PI l n):PC Tryz.prog 28 [.sl false 1 (ints .u8 l),.lit (.int .i64 n)] (.sl false 1 (ints .u8 (l++Wi.enc n))):=by
  cases hs:Wi.small n with
  |true=>exact Wi.refint0_pc h.n h.l hs
  |false=>exact Wi.refint1_pc h.n h.l hs
theorem rtext_pc {l:List Int} {s:ByteArray} (h:PT l s):PC Tryz.prog 29 [.sl false 1 (ints .u8 l),.lit (.string s)] (.sl false 1 (ints .u8 (l++Wi.encT s))):=Wi.rtext_pc (by have:=h.l;omega) h.s
theorem rints_pc {l m:List Int} (h:PL l m):PC Tryz.prog 31 [.sl false 1 (ints .u8 l),.sl false 1 (ints .i64 m)] (.sl false 1 (ints .u8 (l++Wi.enc (m.length:Int)++Wi.encL m))):=Wi.rints_pc h.ln h.mn h.rn
noncomputable def con25:PCon Tryz.prog where
  f:=25
  c:=fun
   |[xl,.lit (.int .i64 n)]=>match slK .u8 xl with|some l=>some (PI l n,.sl false 1 (ints .u8 (l++Wi.enc n)))|_=>none
   |_=>none
  ok:=by
   intro args p r hc hp
   split at hc
   ·split at hc
    ·rename_i hl
     cases hc
     exact PC.weak (wint_pc hp) ⟨slK_le hl,LeA.refl _,trivial⟩
    ·cases hc
   ·cases hc
  fk:=fk25
theorem con25_f:con25.f=25:=rfl
theorem con25_c {xl:AV} {n:Int}:con25.c [xl,.lit (.int .i64 n)]=match slK .u8 xl with|some l=>some (PI l n,.sl false 1 (ints .u8 (l++Wi.enc n)))|_=>none:=rfl
noncomputable def con24:PCon Tryz.prog where
  f:=24
  c:=fun
   |[xl,.lit (.string s)]=>match slK .u8 xl with|some l=>some (PT l s,.sl false 1 (ints .u8 (l++Wi.encT s)))|_=>none
   |_=>none
  ok:=by
   intro args p r hc hp
   split at hc
   ·split at hc
    ·rename_i hl
     cases hc
     exact PC.weak (wtext_pc hp) ⟨slK_le hl,LeA.refl _,trivial⟩
    ·cases hc
   ·cases hc
  fk:=fk24
theorem con24_f:con24.f=24:=rfl
theorem con24_c {xl:AV} {s:ByteArray}:con24.c [xl,.lit (.string s)]=match slK .u8 xl with|some l=>some (PT l s,.sl false 1 (ints .u8 (l++Wi.encT s)))|_=>none:=rfl
noncomputable def con27:PCon Tryz.prog where
  f:=27
  c:=fun
   |[xl,xm]=>match slK .u8 xl,slK .i64 xm with|some l,some m=>some (PL l m,.sl false 1 (ints .u8 (l++Wi.enc (m.length:Int)++Wi.encL m)))|_,_=>none
   |_=>none
  ok:=by
   intro args p r hc hp
   split at hc
   ·split at hc
    ·rename_i hl hm
     cases hc
     exact PC.weak (wints_pc hp) ⟨slK_le hl,slK_le hm,trivial⟩
    ·cases hc
   ·cases hc
  fk:=fk27
theorem con27_f:con27.f=27:=rfl
theorem con27_c {xl:AV} {xm:AV}:con27.c [xl,xm]=match slK .u8 xl,slK .i64 xm with|some l,some m=>some (PL l m,.sl false 1 (ints .u8 (l++Wi.enc (m.length:Int)++Wi.encL m)))|_,_=>none:=rfl
noncomputable def con28:PCon Tryz.prog where
  f:=28
  c:=fun
   |[xl,.lit (.int .i64 n)]=>match slK .u8 xl with|some l=>some (PI l n,.sl false 1 (ints .u8 (l++Wi.enc n)))|_=>none
   |_=>none
  ok:=by
   intro args p r hc hp
   split at hc
   ·split at hc
    ·rename_i hl
     cases hc
     exact PC.weak (rint_pc hp) ⟨slK_le hl,LeA.refl _,trivial⟩
    ·cases hc
   ·cases hc
  fk:=fk28
theorem con28_f:con28.f=28:=rfl
theorem con28_c {xl:AV} {n:Int}:con28.c [xl,.lit (.int .i64 n)]=match slK .u8 xl with|some l=>some (PI l n,.sl false 1 (ints .u8 (l++Wi.enc n)))|_=>none:=rfl
noncomputable def con29:PCon Tryz.prog where
  f:=29
  c:=fun
   |[xl,.lit (.string s)]=>match slK .u8 xl with|some l=>some (PT l s,.sl false 1 (ints .u8 (l++Wi.encT s)))|_=>none
   |_=>none
  ok:=by
   intro args p r hc hp
   split at hc
   ·split at hc
    ·rename_i hl
     cases hc
     exact PC.weak (rtext_pc hp) ⟨slK_le hl,LeA.refl _,trivial⟩
    ·cases hc
   ·cases hc
  fk:=fk29
theorem con29_f:con29.f=29:=rfl
theorem con29_c {xl:AV} {s:ByteArray}:con29.c [xl,.lit (.string s)]=match slK .u8 xl with|some l=>some (PT l s,.sl false 1 (ints .u8 (l++Wi.encT s)))|_=>none:=rfl
noncomputable def con31:PCon Tryz.prog where
  f:=31
  c:=fun
   |[xl,xm]=>match slK .u8 xl,slK .i64 xm with|some l,some m=>some (PL l m,.sl false 1 (ints .u8 (l++Wi.enc (m.length:Int)++Wi.encL m)))|_,_=>none
   |_=>none
  ok:=by
   intro args p r hc hp
   split at hc
   ·split at hc
    ·rename_i hl hm
     cases hc
     exact PC.weak (rints_pc hp) ⟨slK_le hl,slK_le hm,trivial⟩
    ·cases hc
   ·cases hc
  fk:=fk31
theorem con31_f:con31.f=31:=rfl
theorem con31_c {xl:AV} {xm:AV}:con31.c [xl,xm]=match slK .u8 xl,slK .i64 xm with|some l,some m=>some (PL l m,.sl false 1 (ints .u8 (l++Wi.enc (m.length:Int)++Wi.encL m)))|_,_=>none:=rfl
noncomputable def con17:PCon Tryz.prog where
  f:=17
  c:=fun
   |[xl]=>match opsOf xl with|some l=>some (l.length≤1000,printV l)|_=>none
   |_=>none
  ok:=by
   intro args p r hc hp
   split at hc
   ·split at hc
    ·rename_i hl
     cases hc
     exact PC.weak (Tx.print_pc hp) ⟨opsOf_le hl,trivial⟩
    ·cases hc
   ·cases hc
  fk:=fk17
theorem con17_f:con17.f=17:=rfl
theorem con17_c {xl:AV}:con17.c [xl]=match opsOf xl with|some l=>some (l.length≤1000,printV l)|_=>none:=rfl
noncomputable def con15:PCon Tryz.prog where
  f:=15
  c:=fun
   |[xB]=>match bcOf xB with|some B=>some (OkB B,.lit (.bool (validS B)))|_=>none
   |_=>none
  ok:=by
   intro args p r hc hp
   split at hc
   ·split at hc
    ·rename_i hB
     cases hc
     exact PC.weak (rvalid_pc hp) ⟨bcOf_le hB,trivial⟩
    ·cases hc
   ·cases hc
  fk:=fk15
theorem con15_f:con15.f=15:=rfl
theorem con15_c {xB:AV}:con15.c [xB]=match bcOf xB with|some B=>some (OkB B,.lit (.bool (validS B)))|_=>none:=rfl
structure OkBL (B:Prg):Prop where
  ok:OkB B
  ins:B.ins.length≤100000
  outs:B.outs.length≤100000
theorem bvalid_pc2 {B:Prg} (h:OkBL B):PC Tryz.prog 14 [bcV B] (.lit (.bool (validS B))):=bvalid_pc h.ok ⟨h.ins,h.outs⟩
noncomputable def con14:PCon Tryz.prog where
  f:=14
  c:=fun
   |[xB]=>match bcOf xB with|some B=>some (OkBL B,.lit (.bool (validS B)))|_=>none
   |_=>none
  ok:=by
   intro args p r hc hp
   split at hc
   ·split at hc
    ·rename_i hB
     cases hc
     exact PC.weak (bvalid_pc2 hp) ⟨bcOf_le hB,trivial⟩
    ·cases hc
   ·cases hc
  fk:=fk14
theorem con14_f:con14.f=14:=rfl
theorem con14_c {xB:AV}:con14.c [xB]=match bcOf xB with|some B=>some (OkBL B,.lit (.bool (validS B)))|_=>none:=rfl
attribute [go_sem] con25_f con25_c con24_f con24_c con27_f con27_c con28_f con28_c con29_f con29_c con31_f con31_c con17_f con17_c con15_f con15_c con14_f con14_c
structure EncP (B:Prg):Prop where
  ok:OkB B
  ops:B.ops.length≤400
  ins:B.ins.length≤700
  outs:B.outs.length≤700
theorem EncP.okl {B:Prg} (h:EncP B):OkBL B:=⟨h.ok,by have:=h.ins;omega,by have:=h.outs;omega⟩
theorem encT_le {s:ByteArray} {k:Nat} (h:s.size≤k):(Wi.encT s).length≤9+k:=by have:=Wi.encT_len s;omega
theorem plE_le (l:List (Int×Int)):(plE l).length≤9*l.length:=by
  rw [plE_map];have:=Wi.encL_len (l.map Prod.fst);rw [List.length_map] at this;exact this
theorem tyE1_le {a:Int} {t:Arr} {p:Int×Int} (h:TyV a t p):(tyE1 t).length≤76:=by
  have h1:=encT_le h.e
  have h2:=Wi.encL_len t.d
  have h3:=(Wi.enc_len (t.d.length:Int)).2
  have h4:=h.d
  unfold tyE1
  simp only [List.length_append]
  omega
theorem tyE_le {a:Int}:∀ (T:List Arr) (P:List (Int×Int)),P.length=T.length→typesOk a T P=true→∀ i,(tyE (T.take i)).length≤76*i
  |[],_,_,_,i=>by simp [tyE]
  |t::T,p::P,hl,h,0=>by simp [tyE]
  |t::T,p::P,hl,h,i+1=>by
   simp only [typesOk,Bool.and_eq_true] at h
   have h1:=tyE1_le (type_v h.1)
   have h2:=tyE_le T P (by simpa using hl) h.2 i
   rw [List.take_succ_cons,show tyE (t::T.take i)=tyE1 t++tyE (T.take i) from rfl,List.length_append]
   omega
  |_::_,[],hl,_,_=>by simp at hl
theorem ty_at {a:Int}:∀ (T:List Arr) (P:List (Int×Int)),P.length=T.length→typesOk a T P=true→∀ i,i<T.length→∃ p,TyV a (T.getD i nilA) p
  |[],_,_,_,i,hi=>by simp at hi
  |t::T,p::P,hl,h,0,_=>by
   simp only [typesOk,Bool.and_eq_true] at h
   exact ⟨p,type_v h.1⟩
  |t::T,p::P,hl,h,i+1,hi=>by
   simp only [typesOk,Bool.and_eq_true] at h
   have:=ty_at T P (by simpa using hl) h.2 i (by simpa using hi)
   simpa [List.getD] using this
  |_::_,[],hl,_,_,_=>by simp at hl
def hdE (B:Prg):List Int:=Wi.enc B.regs++Wi.enc B.arena++Wi.encT (bs (textB B.ops))++Wi.enc (B.ins.length:Int)++Wi.enc (B.outs.length:Int)
theorem pl_step {l:List (Int×Int)} {i:Nat} (h:i<l.length):plE (l.take (i+1))=plE (l.take i)++Wi.enc (l.getD i (0,0)).1:=by
  rw [Wi.take_next l (0,0) h]
  simp only [plE,List.flatMap_append,List.flatMap_cons,List.flatMap_nil,List.append_nil]
theorem ty_step {l:List Arr} {i:Nat} (h:i<l.length):tyE (l.take (i+1))=tyE (l.take i)++tyE1 (l.getD i nilA):=by
  rw [Wi.take_next l nilA h]
  simp only [tyE,List.flatMap_append,List.flatMap_cons,List.flatMap_nil,List.append_nil]
theorem print_va {B:Prg} (h:VaP B):printV B.ops= .tup [.lit (.string (bs (textB B.ops))),.lit (.int .i64 0)]:=by
  unfold printV;rw [if_pos (List.all_eq_true.2 h.ops)]
def accP (H:List Int) (l:List (Int×Int)):Nat→List Int
  |0=>H
  |i+1=>accP H l i++Wi.enc (l.getD i (0,0)).1
def accT (H:List Int) (l:List Arr):Nat→List Int
  |0=>H
  |i+1=>accT H l i++Wi.encT (l.getD i nilA).e++Wi.enc ((l.getD i nilA).d.length:Int)++Wi.encL (l.getD i nilA).d
theorem accP_eq {H:List Int} {l:List (Int×Int)}:∀ i,i≤l.length→accP H l i=H++plE (l.take i)
  |0,_=>by simp [accP,plE]
  |i+1,h=>by rw [accP,accP_eq i (by omega),pl_step (by omega),List.append_assoc]
theorem accT_eq {H:List Int} {l:List Arr}:∀ i,i≤l.length→accT H l i=H++tyE (l.take i)
  |0,_=>by simp [accT,tyE]
  |i+1,h=>by rw [accT,accT_eq i (by omega),ty_step (by omega)];simp only [tyE1,List.append_assoc]
theorem enc_acc (B:Prg):encP B=accT (accP (hdE B) (B.ins++B.outs) (B.ins++B.outs).length) B.types B.types.length:=by
  rw [accT_eq _ (Nat.le_refl _),accP_eq _ (Nat.le_refl _),List.take_length,List.take_length]
  rfl
structure EncL (B:Prg):Prop where
  i1:PI [] B.regs
  i2:PI (Wi.enc B.regs) B.arena
  i3:PT (Wi.enc B.regs++Wi.enc B.arena) (bs (textB B.ops))
  i4:PI (Wi.enc B.regs++Wi.enc B.arena++Wi.encT (bs (textB B.ops))) (B.ins.length:Int)
  i5:PI (Wi.enc B.regs++Wi.enc B.arena++Wi.encT (bs (textB B.ops))++Wi.enc (B.ins.length:Int)) (B.outs.length:Int)
  pl:∀ i,i<(B.ins++B.outs).length→PI (accP (hdE B) (B.ins++B.outs) i) ((B.ins++B.outs).getD i (0,0)).1
  t1:∀ i,i<B.types.length→PT (accT (accP (hdE B) (B.ins++B.outs) (B.ins++B.outs).length) B.types i) (B.types.getD i nilA).e
  t2:∀ i,i<B.types.length→PL (accT (accP (hdE B) (B.ins++B.outs) (B.ins++B.outs).length) B.types i++Wi.encT (B.types.getD i nilA).e) (B.types.getD i nilA).d
theorem enc_lens {B:Prg} (h:VaP B) (hb:EncP B):EncL B:=by
  obtain ⟨g1,g2⟩:=h.regs
  obtain ⟨g3,g4⟩:=h.arena
  unfold maxA at g4
  have ho:=hb.ops;have hi:=hb.ins;have hu:=hb.outs
  have ht:(textB B.ops).length≤55600:=by have:=text_len h.ops;omega
  have hs:(bs (textB B.ops)).size≤55600:=by rw [bs_size];exact ht
  have e1:=Wi.enc_len B.regs
  have e2:=Wi.enc_len B.arena
  have e3:=encT_le hs
  have e4:=Wi.enc_len (B.ins.length:Int)
  have e5:=Wi.enc_len (B.outs.length:Int)
  have hhd:(hdE B).length≤56000:=by unfold hdE;simp only [List.length_append];omega
  have hpl:=plE_le (B.ins++B.outs)
  rw [List.length_append] at hpl
  have hlT:(B.ins++B.outs).length=B.types.length:=by rw [List.length_append,h.len]
  have hlT2:=hlT
  rw [List.length_append] at hlT2
  refine ⟨⟨⟨by omega,by omega⟩,by simp⟩,⟨⟨by omega,by omega⟩,by omega⟩,⟨by rw [List.length_append];omega,by omega⟩,⟨⟨by omega,by omega⟩,by simp only [List.length_append];omega⟩,⟨⟨by omega,by omega⟩,by simp only [List.length_append];omega⟩,?_,?_,?_⟩
  ·intro i hi'
   have hm:(B.ins++B.outs).getD i (0,0)∈B.ins++B.outs:=by rw [List.getD_eq_getElem?_getD,List.getElem?_eq_getElem hi'];exact List.getElem_mem _
   have hr:=pl_mem _ _ hlT h.types _ (List.mem_map_of_mem (f:=Prod.fst) hm)
   have:=plE_le ((B.ins++B.outs).take i)
   rw [List.length_take,List.length_append] at this
   rw [accP_eq i (by omega)]
   exact ⟨⟨by omega,by omega⟩,by simp only [List.length_append];omega⟩
  ·intro i hi'
   obtain ⟨p,hp⟩:=ty_at _ _ hlT h.types i hi'
   have:=tyE_le _ _ hlT h.types i
   rw [accT_eq i (by omega),accP_eq _ (Nat.le_refl _),List.take_length]
   exact ⟨by simp only [List.length_append];omega,by have:=hp.e;omega⟩
  ·intro i hi'
   obtain ⟨p,hp⟩:=ty_at _ _ hlT h.types i hi'
   have:=tyE_le _ _ hlT h.types i
   have:=encT_le hp.e
   rw [accT_eq i (by omega),accP_eq _ (Nat.le_refl _),List.take_length]
   exact ⟨by simp only [List.length_append];omega,by have:=hp.d;omega,fun n hn=>by have:=hp.r n hn;exact ⟨by omega,by omega⟩⟩
def encV (R:List Int×Int):AV:= .tup [.sl false 1 (ints .u8 R.1),.lit (.int .i64 R.2)]
theorem bcOf_B {B:Prg}:bcOf (.agg [.lit (.int .i64 B.regs),.lit (.int .i64 B.arena),.sl false 6 (opsV B.ops),.sl false 2 (plsV B.ins),.sl false 2 (plsV B.outs),.sl false 3 (arrs B.types)])=some B:=bcOf_mk
noncomputable def Ye:Env:=envJ (P:=Tryz.prog) jkV zer (fun _=>false) (fun _=>false) [con14,con17,con24,con25,con26,con27] []
theorem Ye_ok:EnvOk Tryz.prog Ye:=envJOk zer_ok
set_option maxHeartbeats 8000000 in
theorem encode_pc {B:Prg} (h:EncP B):PC Tryz.prog 8 [bcV B] (encV (encodeS B)):=by
  have hO:=h.okl
  unfold encodeS
  cases hv:validS B with
  |false=>
   rw [if_neg (by decide)]
   simp only [bcV]
   refine pcR Ye_ok (kp8) Tryz.func8 [.tmp 2,.tmp 3] (h:=fun KF=>?_)
   unfold Ye
   with_reducible repeat' first|(refine nx ?_;intros)|apply And.intro|intro vr|((first|refine ny ?_|refine t_dwh (h:=fun K KL=>?_));intros;simp only [go_sem,kp8,geff,bcOf_B,hv,Bool.not_false])
   all_goals try exact nd
   all_goals (refine nl ?_;simp only [go_sem])
   exact LeA.tup ⟨LeA.nil false 1,LeA.refl _,trivial⟩
  |true=>
   have hV:=valid_va hv
   have hL:=enc_lens hV h
   have hp:=print_va hV
   have ho:B.ops.length≤1000:=by have:=h.ops;omega
   have hi1:B.ins.length≤100000:=by have:=h.ins;omega
   have hi2:B.outs.length≤100000:=by have:=h.outs;omega
   have l1:=hL.i1;have l2:=hL.i2;have l3:=hL.i3;have l4:=hL.i4;have l5:=hL.i5;have lpl:=hL.pl;have lt1:=hL.t1;have lt2:=hL.t2
   have hT:=h.ok.types
   rw [if_pos rfl,enc_acc]
   generalize hH:hdE B=H at lpl lt1 lt2
   obtain ⟨r,a,o,ii,u,t⟩:=B
   simp only at ho hi1 hi2 l1 l2 l3 l4 l5 hp hT lt1 lt2 lpl
   generalize hLL:ii++u=L at lpl lt1 lt2
   have hLl:(plsV L).length=L.length:=by simp [plsV]
   have htl:(arrs t).length=t.length:=arrs_length t
   have hLn:L.length≤200000:=by rw [←hLL,List.length_append];omega
   simp only [bcV,hLL,hH]
   have hH2:Wi.enc r++Wi.enc a++Wi.encT (bs (textB o))++Wi.enc (ii.length:Int)++Wi.enc (u.length:Int)=H:=hH
   refine pcR Ye_ok (kp8) Tryz.func8 [.tmp 2,.tmp 3] (h:=fun KF=>?_)
   unfold Ye
   with_reducible repeat' first|(refine nx ?_;intros)|apply And.intro|intro vr|((first|refine ny ?_|refine t_dwh (h:=fun K KL=>?_));intros;simp only [go_sem,kp8,geff,bcOf_mk,hv,hp,hLL,hLl,hH2,Bool.not_true,List.nil_append])
   all_goals try exact nd
   refine t_loopF (ι:={i:Nat // i≤L.length}) (fun i=>[(44,.lit (.int .i64 (i.1:Int))),(6,.sl false 1 (ints .u8 (accP H L i.1)))]) (fun i=>[.box 26 [.lit (.int .i64 r),.lit (.int .i64 a),.sl false 6 (opsV o),.sl false 2 (plsV ii),.sl false 2 (plsV u),.sl false 3 (arrs t)]]) (fun i=>L.length - i.1) ⟨0,by omega⟩ ?_ ?_
   ·exact lf
   rintro ⟨i,hi⟩ K0
   rcases Nat.lt_or_ge i L.length with hc|hc
   ·have g1:decide ((i:Int)<(L.length:Int))=true:=decide_eq_true (by omega)
    have hq:=lpl i hc
    have hst:accP H L (i+1)=accP H L i++Wi.enc (L.getD i (0,0)).1:=rfl
    generalize hx:L.getD i (0,0)=x at hq hst
    obtain ⟨po,ps⟩:=x
    simp only at hq hst
    have hpp:plV (po,ps)= .agg [.lit (.int .i64 po),.lit (.int .i64 ps)]:=rfl
    with_reducible repeat' first|(refine nx ?_;intros)|apply And.intro|intro vr|((first|refine ny ?_|refine t_dwh (h:=fun K KL=>?_));intros;simp only [go_sem,kp8,geff,g1,hLl,hx,hpp,hst.symm,Int.toNat_natCast,yes])
    all_goals try exact nd
    refine ⟨⟨i+1,by omega⟩,by first|(simp only;omega)|omega,?_⟩
    try simp only [updL_nil,updL_cons,delF_top,delF_upd,Nat.reduceEqDiff,reduceIte]
    refine le_backD (by first|rfl|(simp only [go_sem];try rfl)) (by first|exact Nat.zero_le _|simp) (by first|rfl|simp [lowO,low_lit,low_sl,low_ref,low_arr,low_sub,low_mp]) ?_ ?_
    ·repeat' (first|exact low_top|(refine low_upd rfl ?_))
    exact lq
   ·obtain rfl:i=L.length:=by omega
    have g1:decide ((L.length:Int)<(L.length:Int))=false:=decide_eq_false (by omega)
    with_reducible repeat' first|(refine nx ?_;intros)|apply And.intro|intro vr|((first|refine ny ?_|refine t_dwh (h:=fun K KL=>?_));intros;simp only [go_sem,kp8,geff,g1,hLl,htl])
    all_goals try exact nd
    refine t_loopF (ι:={i:Nat // i≤t.length}) (fun i=>[(56,.lit (.int .i64 (i.1:Int))),(6,.sl false 1 (ints .u8 (accT (accP H L L.length) t i.1)))]) (fun i=>[.box 26 [.lit (.int .i64 r),.lit (.int .i64 a),.sl false 6 (opsV o),.sl false 2 (plsV ii),.sl false 2 (plsV u),.sl false 3 (arrs t)]]) (fun i=>t.length - i.1) ⟨0,by omega⟩ ?_ ?_
    ·exact lf
    rintro ⟨i,hi⟩ K1
    rcases Nat.lt_or_ge i t.length with hc|hc
    ·have g2:decide ((i:Int)<(t.length:Int))=true:=decide_eq_true (by omega)
     have hq1:=lt1 i hc
     have hq2:=lt2 i hc
     have hst:accT (accP H L L.length) t (i+1)=accT (accP H L L.length) t i++Wi.encT (t.getD i nilA).e++Wi.enc ((t.getD i nilA).d.length:Int)++Wi.encL (t.getD i nilA).d:=rfl
     generalize hx:t.getD i nilA=x at hq1 hq2 hst
     obtain ⟨e,d,y⟩:=x
     simp only at hq1 hq2 hst
     have hpy:arrV ⟨e,d,y⟩= .agg [.lit (.string e),.sl false 1 (ints .i64 d),.sl false 1 (ints .i64 y)]:=rfl
     with_reducible repeat' first|(refine nx ?_;intros)|apply And.intro|intro vr|((first|refine ny ?_|refine t_dwh (h:=fun K KL=>?_));intros;simp only [go_sem,kp8,geff,g2,htl,hx,hpy,hst.symm,Int.toNat_natCast,yes])
     all_goals try exact nd
     refine ⟨⟨i+1,by omega⟩,by first|(simp only;omega)|omega,?_⟩
     try simp only [updL_nil,updL_cons,delF_top,delF_upd,Nat.reduceEqDiff,reduceIte]
     refine le_backD (by first|rfl|(simp only [go_sem];try rfl)) (by first|exact Nat.zero_le _|simp) (by first|rfl|simp [lowO,low_lit,low_sl,low_ref,low_arr,low_sub,low_mp]) ?_ ?_
     ·repeat' (first|exact low_top|(refine low_upd rfl ?_))
     exact lq
    ·obtain rfl:i=t.length:=by omega
     have g2:decide ((t.length:Int)<(t.length:Int))=false:=decide_eq_false (by omega)
     with_reducible repeat' first|(refine nx ?_;intros)|apply And.intro|intro vr|((first|refine ny ?_|refine t_dwh (h:=fun K KL=>?_));intros;simp only [go_sem,kp8,geff,g2,htl])
     all_goals try exact nd
     all_goals (refine nl ?_;simp only [go_sem])
     exact LeA.of_eq rfl
end Go.Proofs.YtohiagaclfaolaaGreatDoor.Cd

namespace Go.Proofs.YtohiagaclfaolaaGreatDoor.Tx
open Go.Proofs.YtohiagaclfaolaaGreatDoor
open Go Go.Fw Bm
set_option maxRecDepth 20000
noncomputable def con53:PCon Tryz.prog where
  f:=53
  c:=fun
   |[.lit (.string s)]=>some ((ul s).length≤100000,parV (ul s))
   |_=>none
  ok:=by
   intro args p r hc hp
   split at hc
   ·rename_i s
    obtain ⟨l,rfl⟩:=bs_ex s
    cases hc;rw [ul_bs] at*;exact parsed_pc hp
   ·cases hc
  fk:=fk53
theorem con53_f:con53.f=53:=rfl
theorem con53_c {l:List UInt8}:con53.c [.lit (.string (bs l))]=some (l.length≤100000,parV l):=by
  show some ((ul (bs l)).length≤100000,parV (ul (bs l)))=_
  rw [ul_bs]
attribute [go_sem] con53_f con53_c
theorem par_some {l:List UInt8} {k a b c d:Int} {p:ByteArray} (h:preadS l=some ⟨k,p,a,b,c,d⟩):parV l= .tup [.agg [.lit (.int .i64 k),.lit (.string p),.lit (.int .i64 a),.lit (.int .i64 b),.lit (.int .i64 c),.lit (.int .i64 d)],.lit (.bool true)]:=by
  unfold parV;rw [h];rfl
theorem par_none {l:List UInt8} (h:preadS l=none):parV l= .tup [.agg [.lit (.int .i64 0),.lit (.string (bs [])),.lit (.int .i64 0),.lit (.int .i64 0),.lit (.int .i64 0),.lit (.int .i64 0)],.lit (.bool false)]:=by
  unfold parV;rw [h];rfl
def parseV (R:List Ins×Int×Int):AV:= .tup [.sl false 6 (opsV R.1),.lit (.int .i64 R.2.1),.lit (.int .i64 R.2.2)]
structure Pz (s:List UInt8) (R:List Ins×Int×Int) where
  rest:List UInt8
  acc:List Ins
  v:Nat
  n:Nat
  hn:rest.length<n
  hl:rest.length+acc.length≤s.length
  hF:parseG n rest acc=R
theorem le_err {R:List Ins×Int×Int} {i:Int} (h:([],i,6)=R):LeA (.tup [.lit (.slice none 0 0),.lit (.int .i64 i),.lit (.int .i64 6)]) (parseV R):=by
  subst h;exact LeA.tup ⟨LeA.nil _ _,LeA.refl _,LeA.refl _,trivial⟩
theorem le_ok {R:List Ins×Int×Int} {l:List Ins} (h:(l,0,0)=R):LeA (.tup [.sl false 6 (opsV l),.lit (.int .i64 0),.lit (.int .i64 0)]) (parseV R):=by
  subst h;exact LeA.refl _
theorem opsV_app1 (l:List Ins) (k a b c d:Int) (p:ByteArray):opsV l++[.agg [.lit (.int .i64 k),.lit (.string p),.lit (.int .i64 a),.lit (.int .i64 b),.lit (.int .i64 c),.lit (.int .i64 d)]]=opsV (l++[⟨k,p,a,b,c,d⟩]):=by simp [opsV,opV]
noncomputable def Y10:Env:=envJ (P:=Tryz.prog) jkV zer (fun _=>false) (fun _=>false) [con52,con53] []
theorem Y10_ok:EnvOk Tryz.prog Y10:=envJOk zer_ok
set_option maxHeartbeats 8000000 in
theorem parse_pc {s:List UInt8} (hs:s.length≤4990):PC Tryz.prog 19 [.lit (.string (bs s))] (parseV (parseS s)):=by
  generalize hR:parseS s=R
  unfold parseS at hR
  refine pcR Y10_ok (kp19) Tryz.func19 [.tmp 2,.tmp 3,.tmp 4] (h:=fun KF=>?_)
  unfold Y10
  with_reducible repeat' first|(refine nx ?_;intros)|apply And.intro|intro vr|(refine ny ?_;intros;simp only [go_sem,kp19,geff])
  all_goals try exact nd
  refine t_loopF (ι:=Pz s R) (fun i=>[(0,.lit (.string (bs i.rest))),(2,.arr 0 i.v)]) (fun i=>[.arr 50 6 (opsV i.acc) i.v false]) (fun i=>i.rest.length) ⟨s,[],0,s.length+1,by omega,by simp,hR⟩ ?_ ?_
  ·refine (le_nil 2 50 6 rfl).trans ?_
   exact lf
  rintro ⟨rest,acc,v,n,hn,hl,hF⟩ K0
  obtain ⟨n,rfl⟩:∃ m,n=m+1:=⟨n - 1,by omega⟩
  have hol:(opsV acc).length=acc.length:=opsV_length acc
  have hq:(((acc.length:Nat):Int)==5000)=false:=by simp;omega
  have hrl:rest.length≤100000:=by omega
  simp only [parseG] at hF
  by_cases hr:rest=[]
  ·subst hr
   rw [if_pos rfl] at hF
   have hn0:(([]:List UInt8)==[])=true:=rfl
   with_reducible repeat' first|(refine nx ?_;intros)|apply And.intro|intro vr|(refine ny ?_;intros;simp only [go_sem,kp19,geff,hn0,yes])
   all_goals try exact nd
   all_goals (refine nl ?_;simp only [go_sem])
   exact le_ok hF
  ·rw [if_neg hr] at hF
   have hn0:(rest==[])=false:=by simpa using hr
   cases hc:cutS 10 rest with
   |none=>
    rw [hc] at hF
    cases hp:preadS rest with
    |none=>
     with_reducible repeat' first|(refine nx ?_;intros)|apply And.intro|intro vr|(refine ny ?_;intros;simp only [go_sem,kp19,geff,hn0,hol,hq,cutV_none hc,par_none hp,yes])
     all_goals try exact nd
     all_goals (refine nl ?_;simp only [go_sem])
     exact le_err hF
    |some x=>
     obtain ⟨k,p,a,b,c,d⟩:=x
     with_reducible repeat' first|(refine nx ?_;intros)|apply And.intro|intro vr|(refine ny ?_;intros;simp only [go_sem,kp19,geff,hn0,hol,hq,cutV_none hc,par_some hp,yes])
     all_goals try exact nd
     all_goals (refine nl ?_;simp only [go_sem])
     exact le_err hF
   |some w=>
    obtain ⟨a0,b0⟩:=w
    rw [hc] at hF
    obtain ⟨_,h2,_⟩:=cutS_some hc
    have hl2:rest.length=a0.length+(b0.length+1):=by rw [h2];simp
    have hal:a0.length≤100000:=by omega
    simp only at hF
    cases hp:preadS a0 with
    |none=>
     rw [hp] at hF
     with_reducible repeat' first|(refine nx ?_;intros)|apply And.intro|intro vr|(refine ny ?_;intros;simp only [go_sem,kp19,geff,hn0,hol,hq,cutV_some hc,par_none hp,yes])
     all_goals try exact nd
     all_goals (refine nl ?_;simp only [go_sem])
     exact le_err hF
    |some x=>
     rw [hp] at hF
     obtain ⟨k,p,a,b,c,d⟩:=x
     have hap:=opsV_app1 acc k a b c d p
     with_reducible repeat' first|(refine nx ?_;intros)|apply And.intro|intro vr|(refine ny ?_;intros;simp only [go_sem,kp19,geff,hn0,hol,hq,cutV_some hc,par_some hp,hap,yes])
     all_goals try exact nd
     refine ⟨⟨b0,acc++[⟨k,p,a,b,c,d⟩],v+1,n,by omega,by rw [List.length_append,List.length_singleton];omega,hF⟩,by simp only;omega,?_⟩
     try simp only [updL_nil,updL_cons,delF_top,delF_upd,Nat.reduceEqDiff,reduceIte]
     refine le_backD (by first|rfl|(simp only [go_sem];try rfl)) (by first|exact Nat.zero_le _|simp) (by first|rfl|simp [lowO,low_lit,low_sl,low_ref,low_arr,low_sub,low_mp]) ?_ ?_
     ·repeat' (first|exact low_top|(refine low_upd rfl ?_))
     exact lq
end Go.Proofs.YtohiagaclfaolaaGreatDoor.Tx

namespace Go.Proofs.YtohiagaclfaolaaGreatDoor.Cd
open Go.Proofs.YtohiagaclfaolaaGreatDoor
open Go Go.Fw Bm Tx
set_option maxRecDepth 20000
theorem cutS_some {c:UInt8}:∀ {s a b:List UInt8},cutS c s=some (a,b)→s.length=a.length+(b.length+1):=by
  intro s a b h
  obtain ⟨_,hs,_⟩:=Tx.cutS_some h
  rw [hs];simp
theorem parseG_len:∀ (n:Nat) (s:List UInt8) (acc:List Ins),(parseG n s acc).1.length≤acc.length+s.length
  |0,_,_=>by simp [parseG]
  |n+1,s,acc=>by
   simp only [parseG]
   split
   ·exact Nat.le_add_right _ _
   ·split
    ·exact Nat.zero_le _
    ·rename_i a b hc
     split
     ·exact Nat.zero_le _
     ·have h1:=cutS_some hc
      have h2:=parseG_len n b (acc++[by assumption])
      rw [List.length_append] at h2
      simp only [List.length_singleton] at h2
      omega
theorem ul_len (s:ByteArray):(ul s).length=s.size:=Array.length_toList
theorem ops_len {b:List Int}:(opsS b).1.length≤(d3 b).1.size:=by
  have:=parseG_len ((ul (d3 b).1).length+1) (ul (d3 b).1) []
  rw [ul_len] at this
  unfold opsS parseS
  simpa [ul_len] using this
theorem d7_len {b:List Int} (h:Wi.okL b):(d7 b).1.length=cntS b∧(d7 b).2.1.length=cntS b∧∀ t∈(d7 b).2.1,TyR t:=by
  have o:=okd h
  refine ⟨?_,?_,typI_r _ _ _ _ _ o.2.2.2.2.2 (by simp)⟩
  ·unfold d7
   rw [typI_len,zerP,List.length_map]
   have:=(offI_ok (cntS b) [] (d5 b).2 o.2.2.2.2.1).2
   simpa [d6] using this
  ·unfold d7
   rw [typI_tlen];simp
theorem outP_ok {b:List Int} (h:Wi.okL b) (hb:b.length≤50000) (h3:(d3 b).1.size≤4990):OkBL (outP b):=by
  obtain ⟨a1,a2,a3⟩:=d7_len h
  obtain ⟨r1,r2,r3,r4⟩:=cnt_rng h
  have hc:cntS b≤100000:=by unfold cntS;omega
  have ho:=ops_len (b:=b)
  unfold outP
  refine ⟨⟨by simp only;omega,?_,?_,by simp only;omega,fun t ht=>?_⟩,?_,?_⟩
  ·simp only [List.length_take];omega
  ·simp only [List.length_drop];omega
  ·have:=a3 t ht
   exact ⟨by have:=this.d;omega,by rw [this.x];simp⟩
  ·simp only [List.length_take];omega
  ·simp only [List.length_drop];omega
def decV (R:Prg×Int):AV:= .tup [bcV R.1,.lit (.int .i64 R.2)]
def tyV (t:Arr):AV:= .agg [.lit (.string t.e),.sl false 1 (ints .i64 t.d),.sl true 1 []]
def tysV (l:List Arr):List AV:=l.map tyV
theorem arrL_tys:∀ {l:List Arr},(∀ t∈l,t.x=[])→arrL (tysV l)=some l
  |[],_=>rfl
  |t::l,h=>by
   have ht:=h t (by simp)
   have ih:=arrL_tys (l:=l) fun y hy=>h y (by simp [hy])
   rw [show tysV (t::l)=tyV t::tysV l from rfl,arrL_cons,ih]
   unfold tyV
   rw [arrOf_agg,slK_sl,slK_emp]
   cases t
   simp only at ht
   subst ht
   rfl
theorem parse_pc2 {s:ByteArray} (h:s.size≤4990):PC Tryz.prog 19 [.lit (.string s)] (parseV (parseS (ul s))):=by
  have:=parse_pc (s:=ul s) (by rw [ul_len];exact h)
  exact this
noncomputable def con19:PCon Tryz.prog where
  f:=19
  c:=fun
   |[.lit (.string s)]=>some (s.size≤4990,parseV (parseS (ul s)))
   |_=>none
  ok:=by
   intro args p r hc hp
   split at hc
   ·cases hc;exact (parse_pc2 hp)
   ·cases hc
  fk:=fk19
theorem con19_f:con19.f=19:=rfl
noncomputable def con35:PCon Tryz.prog where
  f:=35
  c:=fun
   |[xt]=>match arrOf xt with|some t=>some (okA t,.tup [.lit (.int .i64 (sizeS t.d).1),.lit (.bool (typdB t))])|_=>none
   |_=>none
  ok:=by
   intro args p r hc hp
   split at hc
   ·split at hc
    ·rename_i ht
     cases hc
     exact PC.weak (typed_pc hp) ⟨arrOf_le ht,trivial⟩
    ·cases hc
   ·cases hc
  fk:=fk35
theorem con35_f:con35.f=35:=rfl
theorem con35_c {xt:AV}:con35.c [xt]=match arrOf xt with|some t=>some (okA t,.tup [.lit (.int .i64 (sizeS t.d).1),.lit (.bool (typdB t))])|_=>none:=rfl
theorem srcAt_c {a:AObj} {l:List Int} {e:Int} {r:List AObj} {p:List AObj→List Int→Int→Prop}:Wi.srcAt (a:: .box 63 [.sl false 1 (ints .u8 l),.lit (.int .i64 e)]::r) 1 p=p (a:: .box 63 [.sl false 1 (ints .u8 l),.lit (.int .i64 e)]::r) l e:=Wi.srcAt_src rfl
theorem con19_c {s : ByteArray} : con19.c [.lit (.string s)] = some (s.size ≤ 4990, parseV (parseS (ul s))) := rfl
attribute [go_sem] con19_f con19_c con35_f con35_c
noncomputable def Yd:Env:=envJ (P:=Tryz.prog) jkV zer (fun _=>false) (fun t=>t==113) [con14,con19,con35] [Wi.srcintCon,Wi.methWCon,Wi.methICon,Wi.endCon]
theorem Yd_ok:EnvOk Tryz.prog Yd:=envJOk zer_ok
structure S1 (n:Nat) (F:List Int×Sr) where
  i:Nat
  v1:Nat
  v2:Nat
  out:List Int
  s:List Int
  e:Int
  hi:i≤n
  ho:out.length=i
  ok:Wi.okL s
  F:offI (n - i) out (s,e)=F
structure S2 (n:Nat) (F:List (Int×Int)×List Arr×Sr) where
  j:Nat
  v:Nat
  ps:List (Int×Int)
  ts:List Arr
  s:List Int
  e:Int
  hj:j≤n
  hp:ps.length=n
  ht:ts.length=j
  ok:Wi.okL s
  F:typI (n - j) j ps ts (s,e)=F
theorem zer_take {out:List Int} {n m:Nat} {o:Int} (h:out.length=n) (hm:n<m):plsV ((zerP out).take m)++[.agg [.lit (.int .i64 o),.lit (.int .i64 0)]]=plsV ((zerP (out++[o])).take m):=by
  rw [List.take_of_length_le (by simp [zerP];omega),List.take_of_length_le (by simp [zerP];omega)]
  simp [plsV,zerP,plV]
theorem zer_take_ge {out:List Int} {n m:Nat} {o:Int} (h:out.length=n) (hm:m≤n):(zerP (out++[o])).take m=(zerP out).take m:=by
  unfold zerP
  rw [List.map_append,List.take_append_of_le_length (by simp;omega)]
theorem zer_drop {out:List Int} {n m:Nat} {o:Int} (h:out.length=n) (hm:m≤n):plsV ((zerP out).drop m)++[.agg [.lit (.int .i64 o),.lit (.int .i64 0)]]=plsV ((zerP (out++[o])).drop m):=by
  unfold zerP
  rw [List.map_append,List.drop_append_of_le_length (by simp;omega)]
  simp [plsV,plV]
theorem zer_drop_lt {out:List Int} {n m:Nat} {o:Int} (h:out.length=n) (hm:n<m):(zerP (out++[o])).drop m=(zerP out).drop m:=by
  rw [List.drop_eq_nil_of_le (by simp [zerP];omega),List.drop_eq_nil_of_le (by simp [zerP];omega)]
theorem pls_get {l:List (Int×Int)} {j:Nat} {a b:Int} (h:j<l.length) (e:l.getD j (0,0)=(a,b)):(plsV l).getD j .top= .agg [.lit (.int .i64 a),.lit (.int .i64 b)]:=by
  rw [List.getD_eq_getElem?_getD,List.getElem?_eq_getElem h,Option.getD_some] at e
  rw [List.getD_eq_getElem?_getD,plsV,List.getElem?_map,List.getElem?_eq_getElem h,e];rfl
theorem pls_set {l:List (Int×Int)} {j:Nat} {a b:Int}:(plsV l).set j (.agg [.lit (.int .i64 a),.lit (.int .i64 b)])=plsV (l.set j (a,b)):=by
  unfold plsV;rw [List.map_set];rfl
theorem put_take {l:List (Int×Int)} {j n:Nat} {t:Arr} {a b:Int} (e:l.getD j (0,0)=(a,b)):(plsV (l.take n)).set j (.agg [.lit (.int .i64 a),.lit (.int .i64 (sizeS t.d).1)])=plsV ((putSz l j t).take n):=by
  unfold putSz;rw [pls_set,List.take_set,e]
theorem put_take_ge {l:List (Int×Int)} {j n:Nat} {t:Arr} (h:n≤j):(putSz l j t).take n=l.take n:=by
  unfold putSz;rw [List.take_set,List.set_eq_of_length_le]
  rw [List.length_take];omega
theorem put_drop {l:List (Int×Int)} {j n:Nat} {t:Arr} {a b:Int} (e:l.getD j (0,0)=(a,b)) (h:n≤j):(plsV (l.drop n)).set (j - n) (.agg [.lit (.int .i64 a),.lit (.int .i64 (sizeS t.d).1)])=plsV ((putSz l j t).drop n):=by
  unfold putSz;rw [pls_set,List.drop_set,if_neg (by omega),e]
theorem put_drop_lt {l:List (Int×Int)} {j n:Nat} {t:Arr} (h:j<n):(putSz l j t).drop n=l.drop n:=by
  unfold putSz;rw [List.drop_set,if_pos h]
theorem take_at {l:List (Int×Int)} {j n:Nat} (h:j<n):(l.take n).getD j (0,0)=l.getD j (0,0):=by
  simp only [List.getD_eq_getElem?_getD]
  rw [List.getElem?_take_of_lt h]
theorem drop_at' {l:List (Int×Int)} {j n:Nat} (h:n≤j):(l.drop n).getD (j - n) (0,0)=l.getD j (0,0):=by
  simp only [List.getD_eq_getElem?_getD]
  rw [List.getElem?_drop,Nat.add_sub_cancel' h]
theorem tys_app {l:List Arr} {w:ByteArray} {d:List Int}:tysV l++[.agg [.lit (.string w),.sl false 1 (ints .i64 d),.sl true 1 []]]=tysV (l++[⟨w,d,[]⟩]):=by simp [tysV,tyV]
set_option maxHeartbeats 8000000 in
theorem decode_pc {b:List Int} (hb:Wi.okL b) (hl:b.length≤50000) (hs:(d3 b).1.size≤4990):PC Tryz.prog 11 [.sl false 1 (ints .u8 b)] (decV (decodeS b)):=by
  obtain ⟨k1,k2,k3,k4,k5,k6⟩:=okd hb
  obtain ⟨r1,r2,r3,r4⟩:=cnt_rng hb
  have hO:=outP_ok hb hl hs
  obtain ⟨hp7,ht7,hr7⟩:=d7_len hb
  have hx7:∀ t∈(d7 b).2.1,t.x=[]:=fun t ht=>(hr7 t ht).x
  have hcn:((cntS b:Nat):Int)=(d4 b).1+(d5 b).1:=by unfold cntS;omega
  generalize hRR:decV (decodeS b)=RR
  have E1:Wi.numS b 0 0 200 2=d1 b:=rfl
  have E2:Wi.numS (d1 b).2.1 (d1 b).2.2 0 1048576 2=d2 b:=rfl
  have E3:Wi.runS (bs []) (d2 b).2.1 (d2 b).2.2 (Wi.wordS (d2 b).2.1 0 (b.length:Int))=d3 b:=rfl
  have E4:Wi.numS (d3 b).2.1 (d3 b).2.2 0 (b.length:Int) 2=d4 b:=rfl
  have E5:Wi.numS (d4 b).2.1 (d4 b).2.2 0 (b.length:Int) 2=d5 b:=rfl
  have EP:parseS (ul (d3 b).1)=opsS b:=rfl
  have E6:offI (cntS b) [] (d5 b).2=d6 b:=rfl
  have E7:typI (cntS b) 0 (zerP (d6 b).1) [] (d6 b).2=d7 b:=rfl
  unfold decodeS outP at hRR
  unfold outP at hO
  generalize d1 b=x1 at*
  generalize d2 b=x2 at*
  generalize d3 b=x3 at*
  generalize d4 b=x4 at*
  generalize d5 b=x5 at*
  generalize d6 b=x6 at*
  generalize d7 b=x7 at*
  generalize opsS b=xo at*
  generalize cntS b=cn at*
  obtain ⟨n1,l1,e1⟩:=x1
  obtain ⟨n2,l2,e2⟩:=x2
  obtain ⟨s3,l3,e3⟩:=x3
  obtain ⟨n4,l4,e4⟩:=x4
  obtain ⟨n5,l5,e5⟩:=x5
  obtain ⟨O6,l6,e6⟩:=x6
  obtain ⟨P7,T7,l7,e7⟩:=x7
  obtain ⟨ops,pi,pe⟩:=xo
  simp only at*
  have q0:Wi.okL b:=hb
  have c0:(n4+n5)=(cn:Int):=hcn.symm
  have hcI:inI64 (cn:Int):=⟨by omega,by omega⟩
  obtain ⟨n,rfl⟩:=Int.eq_ofNat_of_zero_le r1
  simp only [Int.toNat_natCast,Prod.mk.injEq] at*
  refine pcR Yd_ok (kp11) Tryz.func11 [.cell 2 26,.tmp 3] (h:=fun KF=>?_)
  unfold Yd
  with_reducible repeat' first|(refine nx ?_;intros)|apply And.intro|intro vr|(refine ny ?_;intros;simp only [go_sem,kp11,geff,Wi.srcintCon_f,Wi.srcintCon_c,Wi.methWCon_f,Wi.methWCon_c,Wi.src,srcAt_c,E1,E2,E3,E4,E5,EP,parseV,c0,List.set_cons_succ,List.set_cons_zero,yes])
  all_goals try exact nd
  refine t_loopF (ι:=S1 cn (O6,l6,e6)) (fun q=>[(47,.lit (.int .i64 (q.i:Int)))]) (fun q=>[.box 26 [.lit (.int .i64 0),.lit (.int .i64 0),.sl true 6 [],.sl true 2 [],.sl true 2 [],.sl true 3 []],.box 63 [.sl false 1 (ints .u8 q.s),.lit (.int .i64 q.e)],.box 26 [.lit (.int .i64 n1),.lit (.int .i64 n2),.sl false 6 (opsV ops),.arr 3 q.v1,.arr 4 q.v2,.sl true 3 []],.arr 58 2 (plsV ((zerP q.out).take n)) q.v1 false,.arr 58 2 (plsV ((zerP q.out).drop n)) q.v2 false]) (fun q=>cn - q.i) ⟨0,0,0,[],l5,e5,Nat.zero_le _,rfl,k5,E6⟩ ?_ ?_
  ·refine Le.trans (le_nilB 2 3 58 2 rfl ?_ ?_) ?_
   ·simp
   ·exact nil_sl
   refine Le.trans (le_nilB 2 4 58 2 rfl ?_ ?_) ?_
   ·simp
   ·exact nil_sl
   have hz1:plsV ((zerP []).take n)=[]:=by simp [zerP,plsV]
   have hz2:plsV ((zerP []).drop n)=[]:=by simp [zerP,plsV]
   simp only [hz1,hz2]
   exact lf
  rintro ⟨i,v1,v2,out,s,e,hi,ho,ok,hF⟩ K0
  have hcl:cn≤100000:=by omega
  have hb1:((zerP out).take n).length≤100000:=by simp only [List.length_take,zerP,List.length_map];omega
  have hb2:((zerP out).drop n).length≤100000:=by simp only [List.length_drop,zerP,List.length_map];omega
  rcases Nat.lt_or_ge i cn with hc|hc
  ·have g1:decide ((i:Int)<(cn:Int))=true:=decide_eq_true (by omega)
   have hE:Wi.numS s e 0 1048576 2=rI 0 maxA (s,e):=rfl
   have ok':=(rI_ok (lo:=0) (hi:=maxA) (s:=(s,e)) ok).1
   rw [show cn - i=cn - (i+1)+1 by omega,offI] at hF
   generalize rI 0 maxA (s,e)=z at hE ok' hF
   obtain ⟨m,s',e'⟩:=z
   simp only at hE ok' hF
   rcases Nat.lt_or_ge i n with hc2|hc2
   ·have g2:decide ((i:Int)<(n:Int))=true:=decide_eq_true (by omega)
    have hA:=zer_take (o:=m) ho hc2
    have hB:=zer_drop_lt (o:=m) ho hc2
    with_reducible repeat' first|(refine nx ?_;intros)|apply And.intro|intro vr|(refine ny ?_;intros;simp only [go_sem,kp11,geff,g1,g2,Wi.srcintCon_f,Wi.srcintCon_c,Wi.src,srcAt_c,hE,hA,hB.symm,List.set_cons_succ,List.set_cons_zero,yes])
    all_goals try exact nd
    refine ⟨⟨i+1,v1+1,v2,out++[m],s',e',by omega,by rw [List.length_append,ho];rfl,ok',hF⟩,by first|(simp only;omega)|omega,?_⟩
    try simp only [updL_nil,updL_cons,delF_top,delF_upd,Nat.reduceEqDiff,reduceIte]
    refine le_backD (by first|rfl|(simp only [go_sem];try rfl)) (by first|exact Nat.zero_le _|simp) (by first|rfl|simp [lowO,low_lit,low_sl,low_ref,low_arr,low_sub,low_mp]) ?_ ?_
    ·repeat' (first|exact low_top|(refine low_upd rfl ?_))
    exact lq
   ·have g2:decide ((i:Int)<(n:Int))=false:=decide_eq_false (by omega)
    have hA:=zer_drop (o:=m) ho hc2
    have hB:=zer_take_ge (o:=m) ho hc2
    with_reducible repeat' first|(refine nx ?_;intros)|apply And.intro|intro vr|(refine ny ?_;intros;simp only [go_sem,kp11,geff,g1,g2,Wi.srcintCon_f,Wi.srcintCon_c,Wi.src,srcAt_c,hE,hA,hB.symm,List.set_cons_succ,List.set_cons_zero,yes])
    all_goals try exact nd
    refine ⟨⟨i+1,v1,v2+1,out++[m],s',e',by omega,by rw [List.length_append,ho];rfl,ok',hF⟩,by first|(simp only;omega)|omega,?_⟩
    try simp only [updL_nil,updL_cons,delF_top,delF_upd,Nat.reduceEqDiff,reduceIte]
    refine le_backD (by first|rfl|(simp only [go_sem];try rfl)) (by first|exact Nat.zero_le _|simp) (by first|rfl|simp [lowO,low_lit,low_sl,low_ref,low_arr,low_sub,low_mp]) ?_ ?_
    ·repeat' (first|exact low_top|(refine low_upd rfl ?_))
    exact lq
  ·obtain rfl:i=cn:=by omega
   rw [Nat.sub_self,offI] at hF
   simp only [Prod.mk.injEq] at hF
   obtain ⟨rfl,rfl,rfl⟩:=hF
   have g1:decide ((i:Int)<(i:Int))=false:=decide_eq_false (by omega)
   with_reducible repeat' first|(refine nx ?_;intros)|apply And.intro|intro vr|(refine ny ?_;intros;simp only [go_sem,kp11,geff,g1,c0,yes])
   all_goals try exact nd
   have hz:(zerP out).length=i:=by simp [zerP,ho]
   refine t_loopF (ι:=S2 i (P7,T7,l7,e7)) (fun q=>[(72,.lit (.int .i64 (q.j:Int)))]) (fun q=>[.box 26 [.lit (.int .i64 0),.lit (.int .i64 0),.sl true 6 [],.sl true 2 [],.sl true 2 [],.sl true 3 []],.box 63 [.sl false 1 (ints .u8 q.s),.lit (.int .i64 q.e)],.box 26 [.lit (.int .i64 n1),.lit (.int .i64 n2),.sl false 6 (opsV ops),.arr 3 v1,.arr 4 v2,.arr 5 q.v],.arr 58 2 (plsV (q.ps.take n)) v1 false,.arr 58 2 (plsV (q.ps.drop n)) v2 false,.arr 53 3 (tysV q.ts) q.v false]) (fun q=>i - q.j) ⟨0,0,zerP out,[],s,e,Nat.zero_le _,hz,rfl,ok,E7⟩ ?_ ?_
   ·refine Le.trans (le_nilB 2 5 53 3 rfl ?_ ?_) ?_
    ·simp
    ·exact nil_sl
    exact lf
   rintro ⟨j,v3,ps,ts,t,g,hj,hp,ht,okt,hG⟩ K1
   rcases Nat.lt_or_ge j i with hc2|hc2
   ·have g2:decide ((j:Int)<(i:Int))=true:=decide_eq_true (by omega)
    have hE1:Wi.runS (bs []) t g (Wi.wordS t 0 4)=rT 4 (t,g):=rfl
    have hyp1:=typ1_r (s:=(t,g)) okt
    have okt2:=typ1_ok (s:=(t,g)) okt
    have okt1:=(rT_ok (most:=4) (s:=(t,g)) okt).1
    rw [show i - j=i - (j+1)+1 by omega,typI] at hG
    unfold typ1 at hG hyp1 okt2
    generalize rT 4 (t,g)=z at hE1 hG hyp1 okt2 okt1
    obtain ⟨w,t1,e1⟩:=z
    simp only at hE1 hG hyp1 okt2 okt1
    have hE2:Wi.runS [] t1 e1 (Wi.manyS (fun l e=>Wi.numS l e 0 4096 2) t1 0 6)=rL (t1,e1):=rfl
    generalize rL (t1,e1)=z at hE2 hG hyp1 okt2
    obtain ⟨dd,t2,e2⟩:=z
    simp only at hE2 hG hyp1 okt2
    have hka:okA ⟨w,dd,[]⟩:=⟨by have:=hyp1.d;omega,by simp⟩
    have hpl:=len_put ps j ⟨w,dd,[]⟩
    have htl:(tysV ts).length=j:=by simp [tysV,ht]
    generalize hpj:ps.getD j (0,0)=pj
    obtain ⟨po,pz⟩:=pj
    rcases Nat.lt_or_ge j n with hc3|hc3
    ·have g3:decide ((j:Int)<(n:Int))=true:=decide_eq_true (by omega)
     have hjl:j<(ps.take n).length:=by rw [List.length_take];omega
     have hgt:=pls_get hjl ((take_at hc3).trans hpj)
     have hst:=put_take (n:=n) (t:=⟨w,dd,[]⟩) hpj
     have hB:=put_drop_lt (l:=ps) (t:=⟨w,dd,[]⟩) hc3
     simp only at hst
     with_reducible repeat' first|(refine nx ?_;intros)|apply And.intro|intro vr|(refine ny ?_;intros;simp only [go_sem,kp11,geff,g2,g3,hgt,hst,hB.symm,htl,tys_app,Wi.methWCon_f,Wi.methWCon_c,Wi.methICon_f,Wi.methICon_c,Wi.srcintCon_f,Wi.src,srcAt_c,hE1,hE2,slK_emp,Int.toNat_natCast,List.set_cons_succ,List.set_cons_zero,yes])
     all_goals try exact nd
     refine ⟨⟨j+1,v3+1,putSz ps j ⟨w,dd,[]⟩,ts++[⟨w,dd,[]⟩],t2,e2,by omega,by rw [hpl];exact hp,by rw [List.length_append,ht];rfl,okt2,hG⟩,by first|(simp only;omega)|omega,?_⟩
     try simp only [updL_nil,updL_cons,delF_top,delF_upd,Nat.reduceEqDiff,reduceIte]
     refine le_backD (by first|rfl|(simp only [go_sem];try rfl)) (by first|exact Nat.zero_le _|simp) (by first|rfl|simp [lowO,low_lit,low_sl,low_ref,low_arr,low_sub,low_mp]) ?_ ?_
     ·repeat' (first|exact low_top|(refine low_upd rfl ?_))
     exact lq
    ·have g3:decide ((j:Int)<(n:Int))=false:=decide_eq_false (by omega)
     have hsub:(j:Int) - (n:Int)=((j - n:Nat):Int):=by omega
     have hjl:j - n<(ps.drop n).length:=by rw [List.length_drop];omega
     have hgt:=pls_get hjl ((drop_at' hc3).trans hpj)
     have hst:=put_drop (t:=⟨w,dd,[]⟩) hpj hc3
     have hB:=put_take_ge (l:=ps) (t:=⟨w,dd,[]⟩) hc3
     simp only at hst
     with_reducible repeat' first|(refine nx ?_;intros)|apply And.intro|intro vr|(refine ny ?_;intros;simp only [go_sem,kp11,geff,g2,g3,hsub,hgt,hst,hB.symm,htl,tys_app,Wi.methWCon_f,Wi.methWCon_c,Wi.methICon_f,Wi.methICon_c,Wi.srcintCon_f,Wi.src,srcAt_c,hE1,hE2,slK_emp,Int.toNat_natCast,List.set_cons_succ,List.set_cons_zero,yes])
     all_goals try exact nd
     refine ⟨⟨j+1,v3+1,putSz ps j ⟨w,dd,[]⟩,ts++[⟨w,dd,[]⟩],t2,e2,by omega,by rw [hpl];exact hp,by rw [List.length_append,ht];rfl,okt2,hG⟩,by first|(simp only;omega)|omega,?_⟩
     try simp only [updL_nil,updL_cons,delF_top,delF_upd,Nat.reduceEqDiff,reduceIte]
     refine le_backD (by first|rfl|(simp only [go_sem];try rfl)) (by first|exact Nat.zero_le _|simp) (by first|rfl|simp [lowO,low_lit,low_sl,low_ref,low_arr,low_sub,low_mp]) ?_ ?_
     ·repeat' (first|exact low_top|(refine low_upd rfl ?_))
     exact lq
   ·obtain rfl:j=i:=by omega
    rw [Nat.sub_self,typI] at hG
    simp only [Prod.mk.injEq] at hG
    obtain ⟨rfl,rfl,rfl,rfl⟩:=hG
    have g2:decide ((j:Int)<(j:Int))=false:=decide_eq_false (by omega)
    have hen:(if g≠0 then g else if t=[] then 0 else 4)=endS (t,g):=rfl
    have hal:∀ b,arrsOf (.sl b 3 (tysV ts))=some ts:=fun b=>by rw [arrsOf_x,arrL_tys hx7]
    have hbc:bcOf (.agg [.lit (.int .i64 n1),.lit (.int .i64 n2),.sl false 6 (opsV ops),.sl false 2 (plsV (ps.take n)),.sl false 2 (plsV (ps.drop n)),.sl false 3 (tysV ts)])=some ⟨n1,n2,ops,ps.take n,ps.drop n,ts⟩:=by
      rw [bcOf_agg,opsOf_sl,plsOf_sl,plsOf_sl,hal]
    generalize endS (t,g)=ev at hen hRR
    by_cases hp0:pe=0
    ·have hq0:(pe !=0)=false:=by simpa using hp0
     by_cases hev:ev=0
     ·have hq1:(ev !=0)=false:=by simpa using hev
      cases hv:validS ⟨n1,n2,ops,ps.take n,ps.drop n,ts⟩ with
      |false=>
       rw [if_neg (by rw [hv];exact fun h=>absurd h.2.2 (by decide))] at hRR
       with_reducible repeat' first|(refine nx ?_;intros)|apply And.intro|intro vr|(refine ny ?_;intros;simp only [go_sem,kp11,geff,g2,hq0,hq1,hv,hbc,hal,hen,Wi.endCon_f,Wi.endCon_c,Wi.srcintCon_f,Wi.methWCon_f,Wi.methICon_f,Wi.src,srcAt_c,Bool.not_false,Bool.not_true,yes])
       all_goals try exact nd
       all_goals (refine nl ?_;simp only [go_sem])
       rw [←hRR]
       exact LeA.tup ⟨LeA.agg ⟨LeA.refl _,LeA.refl _,LeA.full _ _ _,LeA.full _ _ _,LeA.full _ _ _,LeA.full _ _ _,trivial⟩,LeA.refl _,trivial⟩
      |true=>
       rw [if_pos ⟨hp0,hev,hv⟩] at hRR
       with_reducible repeat' first|(refine nx ?_;intros)|apply And.intro|intro vr|(refine ny ?_;intros;simp only [go_sem,kp11,geff,g2,hq0,hq1,hv,hbc,hal,hen,Wi.endCon_f,Wi.endCon_c,Wi.srcintCon_f,Wi.methWCon_f,Wi.methICon_f,Wi.src,srcAt_c,Bool.not_false,Bool.not_true,yes])
       all_goals try exact nd
       all_goals (refine nl ?_;simp only [go_sem])
       rw [←hRR]
       exact LeA.tup ⟨bcOf_le hbc,LeA.refl _,trivial⟩
     ·have hq1:(ev !=0)=true:=by simpa using hev
      rw [if_neg fun h=>hev h.2.1] at hRR
      with_reducible repeat' first|(refine nx ?_;intros)|apply And.intro|intro vr|(refine ny ?_;intros;simp only [go_sem,kp11,geff,g2,hq0,hq1,hbc,hal,hen,Wi.endCon_f,Wi.endCon_c,Wi.srcintCon_f,Wi.methWCon_f,Wi.methICon_f,Wi.src,srcAt_c,Bool.not_false,Bool.not_true,yes])
      all_goals try exact nd
      all_goals (refine nl ?_;simp only [go_sem])
      rw [←hRR]
      exact LeA.tup ⟨LeA.agg ⟨LeA.refl _,LeA.refl _,LeA.full _ _ _,LeA.full _ _ _,LeA.full _ _ _,LeA.full _ _ _,trivial⟩,LeA.refl _,trivial⟩
    ·have hq0:(pe !=0)=true:=by simpa using hp0
     rw [if_neg fun h=>hp0 h.1] at hRR
     with_reducible repeat' first|(refine nx ?_;intros)|apply And.intro|intro vr|(refine ny ?_;intros;simp only [go_sem,kp11,geff,g2,hq0,hbc,hal,hen,Wi.endCon_f,Wi.endCon_c,Wi.srcintCon_f,Wi.methWCon_f,Wi.methICon_f,Wi.src,srcAt_c,Bool.not_false,Bool.not_true,yes])
     all_goals try exact nd
     all_goals (refine nl ?_;simp only [go_sem])
     rw [←hRR]
     exact LeA.tup ⟨LeA.agg ⟨LeA.refl _,LeA.refl _,LeA.full _ _ _,LeA.full _ _ _,LeA.full _ _ _,LeA.full _ _ _,trivial⟩,LeA.refl _,trivial⟩
end Go.Proofs.YtohiagaclfaolaaGreatDoor.Cd

namespace Go.Proofs.YtohiagaclfaolaaGreatDoor.Tx
open Go.Proofs.YtohiagaclfaolaaGreatDoor
open Go Go.Fw Bm
set_option maxRecDepth 20000
def big:Int:=4611686018427387904
noncomputable def con86r (N:Int) (h:∀ m:Int,0≤m→m<N→PC Tryz.prog 86 [.lit (.int .i64 m)] (.lit (.string (bs (Lib.itoa m))))):PCon Tryz.prog where
  f:=86
  c:=fun
   |[.lit (.int .i64 m)]=>some (0≤m∧m<N,.lit (.string (bs (Lib.itoa m))))
   |_=>none
  ok:=by
   intro args p r hc hp
   split at hc
   ·cases hc;exact h _ hp.1 hp.2
   ·cases hc
  fk:=fk86
section
variable {N:Int} {h:∀ m:Int,0≤m→m<N→PC Tryz.prog 86 [.lit (.int .i64 m)] (.lit (.string (bs (Lib.itoa m))))}
theorem con86r_f:(con86r N h).f=86:=rfl
theorem con86r_c {m:Int}:(con86r N h).c [.lit (.int .i64 m)]=some (0≤m∧m<N,.lit (.string (bs (Lib.itoa m)))):=rfl
end
attribute [go_sem] con86r_f con86r_c
noncomputable def Y11 (N:Int) (h:∀ m:Int,0≤m→m<N→PC Tryz.prog 86 [.lit (.int .i64 m)] (.lit (.string (bs (Lib.itoa m))))):Env:=envJ (P:=Tryz.prog) jkV zer (fun _=>false) (fun _=>false) [con86r N h] []
theorem Y11_ok (N:Int) (h:∀ m:Int,0≤m→m<N→PC Tryz.prog 86 [.lit (.int .i64 m)] (.lit (.string (bs (Lib.itoa m))))):EnvOk Tryz.prog (Y11 N h):=envJOk zer_ok
theorem itoa_lt {n:Int} (h0:0≤n) (h1:n<10):Lib.itoa n=[UInt8.ofNat (48+n.toNat)]:=by
  unfold Lib.itoa
  rw [if_neg (by omega),Lib.decDigits,dif_pos (by omega)]
theorem itoa_ge {n q m:Int} (h1: ¬ n<10) (hq:n=10*q+m) (hm:0≤m∧m<10):Lib.itoa n=Lib.itoa q++[UInt8.ofNat (48+m.toNat)]:=by
  unfold Lib.itoa
  rw [if_neg (by omega),if_neg (by omega),Lib.decDigits,dif_neg (by omega)]
  congr 2
  ·congr 1;omega
  ·congr 2;omega
theorem itoa_negI {n:Int} (h:n<0):Lib.itoa n=45::Lib.itoa (-n):=by
  unfold Lib.itoa
  rw [if_pos h,if_neg (by omega)]
  congr 2;omega
theorem dig_bs {m:Int} (h:0≤m∧m<10):bytesOf [48+m]=bs [UInt8.ofNat (48+m.toNat)]:=by
  have e:(48+m).toNat=48+m.toNat:=by omega
  unfold bytesOf bs
  simp only [List.map_cons,List.map_nil,e]
theorem dec_pos (n:Int) (h0:0≤n) (hb:n≤big) (ih:∀ m:Int,0≤m→m<n→PC Tryz.prog 86 [.lit (.int .i64 m)] (.lit (.string (bs (Lib.itoa m))))):PC Tryz.prog 86 [.lit (.int .i64 n)] (.lit (.string (bs (Lib.itoa n)))):=by
  unfold big at hb
  have hm0:=Int.tmod_nonneg (b:=10) h0
  have hm1:=Int.tmod_lt_of_pos n (show (0:Int)<10 by omega)
  have hq:=Int.mul_tdiv_add_tmod n 10
  generalize hmm:n.tmod 10=m at*
  generalize hqq:n.tdiv 10=q at*
  have g1:decide (n<0)=false:=decide_eq_false (by omega)
  have hdb:=dig_bs ⟨hm0,hm1⟩
  have hu8:IntKind.u8.wrap (48+m)=48+m:=by rw [IntKind.wrap_u8];omega
  have hu:u8sOf [AV.lit (.int .u8 (48+m))]=some [48+m]:=rfl
  by_cases h10:n<10
  ·have g2:decide (n<10)=true:=decide_eq_true h10
   have hr:Lib.itoa n=[UInt8.ofNat (48+m.toNat)]:=by rw [itoa_lt h0 h10];congr 3;omega
   refine pcR (Y11_ok n ih) (kp86) Tryz.func86 [.tmp 2] (h:=fun KF=>?_)
   unfold Y11
   with_reducible repeat' first|(refine nx ?_;intros)|apply And.intro|intro vr|(refine ny ?_;intros;simp only [go_sem,kp86,geff,g1,g2,hmm,hqq,hu8,hu,hdb])
   all_goals try exact nd
   all_goals (refine nl ?_;simp only [go_sem])
   exact LeA.of_eq (by rw [hr])
  ·have g2:decide (n<10)=false:=decide_eq_false h10
   have hr:=itoa_ge h10 hq.symm ⟨hm0,hm1⟩
   have hil:=Lib.itoa_length_le q (by omega) (by omega)
   refine pcR (Y11_ok n ih) (kp86) Tryz.func86 [.tmp 2] (h:=fun KF=>?_)
   unfold Y11
   with_reducible repeat' first|(refine nx ?_;intros)|apply And.intro|intro vr|(refine ny ?_;intros;simp only [go_sem,kp86,geff,g1,g2,hmm,hqq,hu8,hu,hdb])
   all_goals try exact nd
   all_goals (refine nl ?_;simp only [go_sem])
   exact LeA.of_eq (by rw [hr])
theorem dec_all:∀ (N:Nat) (n:Int),0≤n→n<N→n≤big→PC Tryz.prog 86 [.lit (.int .i64 n)] (.lit (.string (bs (Lib.itoa n))))
  |0,n,h0,h1,_=>by omega
  |N+1,n,h0,h1,hb=>dec_pos n h0 hb fun m m0 m1=>dec_all N m m0 (by omega) (by omega)
theorem dec_nn {n:Int} (h0:0≤n) (hb:n≤big):PC Tryz.prog 86 [.lit (.int .i64 n)] (.lit (.string (bs (Lib.itoa n)))):=dec_all (n.toNat+1) n h0 (by omega) hb
theorem min_bs (l:List UInt8):(⟨#[45]⟩:ByteArray)++bs l=bs (45::l):=by rw [show (⟨#[45]⟩:ByteArray)=bs [45] from rfl,bs_app];rfl
theorem dec_pc {n:Int} (h: -big≤n∧n≤big):PC Tryz.prog 86 [.lit (.int .i64 n)] (.lit (.string (bs (Lib.itoa n)))):=by
  by_cases h0:0≤n
  ·exact dec_nn h0 h.2
  ·have ih:∀ m:Int,0≤m→m<big+1→PC Tryz.prog 86 [.lit (.int .i64 m)] (.lit (.string (bs (Lib.itoa m)))):=fun m m0 m1=>dec_nn m0 (by omega)
   have g1:decide (n<0)=true:=decide_eq_true (by omega)
   have hr:=itoa_negI (n:=n) (by omega)
   have hz:(0:Int) - n= -n:=by omega
   obtain ⟨hb0,hb1⟩:=h
   have hlt: -n<big+1:=by omega
   have hge:0≤ -n:=by omega
   have hil:=Lib.itoa_length_le (-n) (by omega) (by unfold big at*;omega)
   have h45:(#[45]:Array UInt8).size=1:=rfl
   have hi:inI64 (-n):=by unfold big at*;exact ⟨by omega,by omega⟩
   refine pcR (Y11_ok (big+1) ih) (kp86) Tryz.func86 [.tmp 2] (h:=fun KF=>?_)
   unfold Y11
   with_reducible repeat' first|(refine nx ?_;intros)|apply And.intro|intro vr|(refine ny ?_;intros;simp only [go_sem,kp86,geff,g1,hz,min_bs])
   all_goals try exact nd
   all_goals (refine nl ?_;simp only [go_sem])
   exact LeA.of_eq (by rw [hr])
noncomputable def con86:PCon Tryz.prog where
  f:=86
  c:=fun
   |[.lit (.int .i64 n)]=>some ((-big≤n∧n≤big),.lit (.string (bs (Lib.itoa n))))
   |_=>none
  ok:=by
   intro args p r hc hp
   split at hc
   ·cases hc;exact (dec_pc hp)
   ·cases hc
  fk:=fk86
theorem con86_f:con86.f=86:=rfl
theorem con86_c {n:Int}:con86.c [.lit (.int .i64 n)]=some ((-big≤n∧n≤big),.lit (.string (bs (Lib.itoa n)))):=rfl
attribute [go_sem] con86_f con86_c
end Go.Proofs.YtohiagaclfaolaaGreatDoor.Tx

namespace Go.Proofs.YtohiagaclfaolaaGreatDoor.Tx
open Go.Proofs.YtohiagaclfaolaaGreatDoor
open Go Go.Fw Bm
set_option maxRecDepth 20000
noncomputable def Y12:Env:=envJ (P:=Tryz.prog) jkV zer (fun _=>false) (fun _=>false) [] []
theorem Y12_ok:EnvOk Tryz.prog Y12:=envJOk zer_ok
theorem nb1:(⟨#[99,111,110,115,116]⟩:ByteArray)=bs [99,111,110,115,116]:=rfl
theorem nb2:(⟨#[97,100,100]⟩:ByteArray)=bs [97,100,100]:=rfl
theorem nb3:(⟨#[109,105,110]⟩:ByteArray)=bs [109,105,110]:=rfl
theorem nb4:(⟨#[109,97,120]⟩:ByteArray)=bs [109,97,120]:=rfl
theorem nb5:(⟨#[112,114,105,109]⟩:ByteArray)=bs [112,114,105,109]:=rfl
theorem nb6:(⟨#[108,111,97,100]⟩:ByteArray)=bs [108,111,97,100]:=rfl
theorem nb7:(⟨#[115,116,111,114,101]⟩:ByteArray)=bs [115,116,111,114,101]:=rfl
theorem nb8:(⟨#[109,105,115,115]⟩:ByteArray)=bs [109,105,115,115]:=rfl
theorem nb9:(⟨#[99,104,101,99,107]⟩:ByteArray)=bs [99,104,101,99,107]:=rfl
theorem nb10:(⟨#[102,111,114]⟩:ByteArray)=bs [102,111,114]:=rfl
theorem nb11:(⟨#[105,102]⟩:ByteArray)=bs [105,102]:=rfl
theorem nb12:(⟨#[101,108,115,101]⟩:ByteArray)=bs [101,108,115,101]:=rfl
theorem nb13:(⟨#[101,110,100]⟩:ByteArray)=bs [101,110,100]:=rfl
theorem nb14:(⟨#[119,114,97,112]⟩:ByteArray)=bs [119,114,97,112]:=rfl
theorem nb15:(⟨#[115,107,105,112]⟩:ByteArray)=bs [115,107,105,112]:=rfl
theorem namL_at (k:Nat) (h:k<16):List.getD ([[],[99,111,110,115,116],[97,100,100],[109,105,110],[109,97,120],[112,114,105,109],[108,111,97,100],[115,116,111,114,101],[109,105,115,115],[99,104,101,99,107],[102,111,114],[105,102],[101,108,115,101],[101,110,100],[119,114,97,112],[115,107,105,112]]:List (List UInt8)) k []=ul (namL k):=by
  rcases (show k=0∨k=1∨k=2∨k=3∨k=4∨k=5∨k=6∨k=7∨k=8∨k=9∨k=10∨k=11∨k=12∨k=13∨k=14∨k=15 by omega) with rfl|rfl|rfl|rfl|rfl|rfl|rfl|rfl|rfl|rfl|rfl|rfl|rfl|rfl|rfl|rfl<;>rfl
theorem word_pc {k:Nat} (hk:k<16):PC Tryz.prog 85 [.lit (.int .i64 (k:Int))] (.lit (.string (bs (ul (namL (k:Int)))))):=by
  have hn:=namL_at k hk
  have hk2:(k:Int)<16:=by omega
  refine pcR Y12_ok (kp85) Tryz.func85 [.tmp 2] (h:=fun KF=>?_)
  unfold Y12
  with_reducible repeat' first|(refine nx ?_;intros)|apply And.intro|intro vr|(refine ny ?_;intros;simp only [go_sem,kp85,geff,nb1,nb2,nb3,nb4,nb5,nb6,nb7,nb8,nb9,nb10,nb11,nb12,nb13,nb14,nb15,List.set_cons_zero,List.set_cons_succ,hn,Int.toNat_natCast])
  all_goals try exact nd
  all_goals (refine nl ?_;simp only [go_sem])
  exact LeA.refl _
structure Wd (l:List UInt8) where
  i:Nat
  fr:Nat
  done:List (List UInt8)
  v:Nat
  h:(i≤l.length∧fr≤i∧splitW 32 l=done++splitW 32 (l.drop fr)∧32 ∉ (l.take i).drop fr)∨(i=l.length+1∧fr=l.length+1∧done=splitW 32 l)
theorem bt_eq {l:List UInt8} {i:Nat} {c:UInt8} (h:i<l.length):(bt l i==(c.toNat:Int))=(l.getD i 0==c):=by
  unfold bt
  rw [Bool.eq_iff_iff]
  simp only [beq_iff_eq]
  constructor
  ·intro e;exact UInt8.toNat_inj.1 (by omega)
  ·intro e;rw [e]
theorem drop_at {l:List UInt8} {i:Nat} (h:i<l.length):l.drop i=l.getD i 0::l.drop (i+1):=by
  rw [List.drop_eq_getElem_cons h]
  congr 1
  rw [List.getD_eq_getElem?_getD,List.getElem?_eq_getElem h];rfl
theorem cut_at {l:List UInt8} {i fr:Nat} (h:i≤l.length) (hf:fr≤i):l.drop fr=(l.take i).drop fr++l.drop i:=by
  conv=>lhs;rw [←List.take_append_drop i l]
  rw [List.drop_append_of_le_length (by rw [List.length_take];omega)]
set_option maxHeartbeats 4000000 in
theorem words_pc {l:List UInt8} (hl:l.length≤1000000):PC Tryz.prog 90 [.lit (.string (bs l))] (.sl false 1 (txs (splitW 32 l))):=by
  refine pcR Y12_ok (kp90) Tryz.func90 [.tmp 2] (h:=fun KF=>?_)
  unfold Y12
  with_reducible repeat' first|(refine nx ?_;intros)|apply And.intro|intro vr|(refine ny ?_;intros;simp only [go_sem,kp90,geff])
  all_goals try exact nd
  refine t_loopF (ι:=Wd l) (fun i=>[(5,.lit (.int .i64 i.i)),(4,.lit (.int .i64 i.fr)),(3,.arr 0 i.v)]) (fun i=>[.arr 9 1 (txs i.done) i.v false]) (fun i=>l.length+1 - i.i) ⟨0,0,[],0,.inl ⟨by omega,by omega,rfl,by simp⟩⟩ ?_ ?_
  ·refine (le_nil 3 9 1 rfl).trans ?_
   exact lf
  rintro ⟨i,fr,done,v,h⟩ K0
  rcases h with ⟨h1,h2,h3,h4⟩|⟨rfl,rfl,h3⟩
  ·have k1:decide ((i:Int)≤(l.length:Int))=true:=decide_eq_true (by omega)
   have hdl:done.length≤1000001:=by
     have e:=congrArg List.length h3
     rw [List.length_append,splitW_len] at e
     have:=List.count_le_length (a:=(32:UInt8)) (l:=l)
     omega
   rcases Nat.lt_or_ge i l.length with hc|hc
   ·have k2:((i:Int)==(l.length:Int))=false:=by simp;omega
    have hb:=bt_eq (c:=32) hc
    have h32:(((32:UInt8).toNat:Nat):Int)=32:=rfl
    rw [h32] at hb
    have hd:=cut_at (l:=l) (i:=i) (fr:=fr) (by omega) h2
    rw [drop_at hc] at hd
    cases h5:(l.getD i 0==32) with
    |true=>
     rw [h5] at hb
     have e:l.getD i 0=32:=by simpa using h5
     rw [e] at hd
     have hi1:((i:Int)+1)=((i+1:Nat):Int):=by omega
     with_reducible repeat' first|(refine nx ?_;intros)|apply And.intro|intro vr|(refine ny ?_;intros;simp only [go_sem,kp90,geff,k1,k2,hb,txs_app1,Int.toNat_natCast,yes])
     all_goals try exact nd
     refine ⟨⟨i+1,i+1,done++[(l.take i).drop fr],v+1,.inl ⟨by omega,Nat.le_refl _,?_,by simp⟩⟩,by simp only;omega,?_⟩
     ·rw [h3,hd,splitW_app h4];simp
     first|exact lf|(refine Le.frameS (by first|rfl|(simp only [go_sem];try rfl)) ?_;repeat' (first|exact leF_top _|exact (fun _=>LeR.refl _)|(with_reducible refine leF_sl ?_ ?_)|(refine leF_upd ?_ ?_)))<;>(first|exact LeR.top _|exact LeR.refl _|(refine LeR.of_eq ?_;(try simp only [go_sem]);try rfl)|((try simp only [go_sem]);try rfl))
    |false=>
     rw [h5] at hb
     have e:l.getD i 0≠32:=by simpa using h5
     with_reducible repeat' first|(refine nx ?_;intros)|apply And.intro|intro vr|(refine ny ?_;intros;simp only [go_sem,kp90,geff,k1,k2,hb,Int.toNat_natCast,yes])
     all_goals try exact nd
     refine ⟨⟨i+1,fr,done,v,.inl ⟨by omega,by omega,h3,?_⟩⟩,by simp only;omega,?_⟩
     ·have e2:(l.take (i+1)).drop fr=(l.take i).drop fr++[l.getD i 0]:=by
        rw [List.take_add_one,List.getElem?_eq_getElem hc,List.drop_append_of_le_length (by rw [List.length_take];omega),List.getD_eq_getElem?_getD,List.getElem?_eq_getElem hc];rfl
      rw [e2]
      simp only [List.mem_append,List.mem_singleton,not_or]
      exact ⟨h4,Ne.symm e⟩
     first|exact lf|(refine Le.frameS (by first|rfl|(simp only [go_sem];try rfl)) ?_;repeat' (first|exact leF_top _|exact (fun _=>LeR.refl _)|(with_reducible refine leF_sl ?_ ?_)|(refine leF_upd ?_ ?_)))<;>(first|exact LeR.top _|exact LeR.refl _|(refine LeR.of_eq ?_;(try simp only [go_sem]);try rfl)|((try simp only [go_sem]);try rfl))
   ·have hi:i=l.length:=by omega
    subst hi
    have k2:((l.length:Int)==(l.length:Int))=true:=by simp
    rw [List.take_length] at h4
    with_reducible repeat' first|(refine nx ?_;intros)|apply And.intro|intro vr|(refine ny ?_;intros;simp only [go_sem,kp90,geff,k1,k2,txs_app1,Int.toNat_natCast,yes])
    all_goals try exact nd
    refine ⟨⟨l.length+1,l.length+1,done++[l.drop fr],v+1,.inr ⟨rfl,rfl,?_⟩⟩,by simp only;omega,?_⟩
    ·rw [h3,splitW_one h4]
    first|exact lf|(refine Le.frameS (by first|rfl|(simp only [go_sem];try rfl)) ?_;repeat' (first|exact leF_top _|exact (fun _=>LeR.refl _)|(with_reducible refine leF_sl ?_ ?_)|(refine leF_upd ?_ ?_)))<;>(first|exact LeR.top _|exact LeR.refl _|(refine LeR.of_eq ?_;(try simp only [go_sem]);try rfl)|((try simp only [go_sem]);try rfl))
  ·have k1:decide (((l.length+1:Nat):Int)≤(l.length:Int))=false:=decide_eq_false (by omega)
   subst h3
   with_reducible repeat' first|(refine nx ?_;intros)|apply And.intro|intro vr|(refine ny ?_;intros;simp only [go_sem,kp90,geff,k1])
   all_goals try exact nd
   all_goals (refine nl ?_;simp only [go_sem])
   exact LeA.refl _
end Go.Proofs.YtohiagaclfaolaaGreatDoor.Tx

namespace Go.Proofs.YtohiagaclfaolaaGreatDoor.Tx
open Go.Proofs.YtohiagaclfaolaaGreatDoor
open Go Go.Fw Bm
set_option maxRecDepth 20000
theorem decN_bd:∀ (l:List UInt8) (acc n:Nat),decN acc l=some n→n<(acc+1)*10 ^ l.length
  |[],acc,n,h=>by cases h;simp
  |c::r,acc,n,h=>by
   simp only [decN] at h
   split at h
   ·rename_i hc
    have:=decN_bd r _ n h
    rw [List.length_cons,Nat.pow_succ,Nat.mul_comm (10 ^ r.length) 10,←Nat.mul_assoc]
    refine Nat.lt_of_lt_of_le this (Nat.mul_le_mul_right _ ?_)
    omega
   ·cases h
theorem decN_none:∀ (l:List UInt8) (acc i:Nat),i<l.length→ ¬ (48≤(l.getD i 0).toNat∧(l.getD i 0).toNat≤57)→decN acc l=none
  |c::r,acc,0,_,h=>by
   simp only [decN]
   rw [if_neg (by simpa using h)]
  |c::r,acc,i+1,hi,h=>by
   simp only [decN]
   split
   ·exact decN_none r _ i (by simpa using hi) (by simpa using h)
   ·rfl
theorem decN_step {l:List UInt8} {i n:Nat} (hi:i<l.length) (h:decN 0 (l.take i)=some n) (hc:48≤(l.getD i 0).toNat∧(l.getD i 0).toNat≤57):decN 0 (l.take (i+1))=some (n*10+((l.getD i 0).toNat - 48)):=by
  have e:l.take (i+1)=l.take i++[l.getD i 0]:=by
    rw [List.take_add_one,List.getElem?_eq_getElem hi,List.getD_eq_getElem?_getD,List.getElem?_eq_getElem hi];rfl
  rw [e,decN_app,h]
  simp only [Option.bind_some]
  rw [if_pos hc]
structure Nm (t:List UInt8) where
  i:Nat
  n:Nat
  hi:i≤t.length
  hn:decN 0 (t.take i)=some n
set_option maxHeartbeats 4000000 in
theorem number_tail {t:List UInt8} (h14:t.length≤14) (n:Nat) (i:Nat) (hi:i≤t.length) (h:decN 0 (t.take i)=some n):(n:Int)<100000000000000:=by
  have:=decN_bd _ _ _ h
  rw [List.length_take,Nat.min_eq_left hi] at this
  have h2:10 ^ i≤10 ^ 14:=Nat.pow_le_pow_right (by omega) (by omega)
  omega
def numT (sg:Int) (t:List UInt8):Int:=match decN 0 t with
  |some n=>sg*n
  |none=>0
theorem numS_45 (t:List UInt8):numS (45::t)=if t.length>14 then 0 else numT (-1) t:=rfl
theorem numS_no {l:List UInt8} (h: ¬ l.head? =some 45):numS l=if l.length>14 then 0 else numT 1 l:=by
  simp only [numS,if_neg h];rfl
set_option maxHeartbeats 8000000 in
theorem number_pc {l:List UInt8} (hl:l.length≤1000000):PC Tryz.prog 91 [.lit (.string (bs l))] (.lit (.int .i64 (numS l))):=by
  generalize hR:numS l=R
  cases l with
  |nil=>
   have z1:decide ((0:Int)>0)=false:=by decide
   have z2:decide ((0:Int)>14)=false:=by decide
   have h14:([]:List UInt8).length≤14:=by decide
   rw [numS_no (by simp),if_neg (by decide)] at hR
   unfold numT at hR
   refine pcR Y12_ok (kp91) Tryz.func91 [.tmp 2] (h:=fun KF=>?_)
   unfold Y12
   with_reducible repeat' first|(refine nx ?_;intros)|apply And.intro|intro vr|((first|refine ny ?_|refine t_dwh (h:=fun K KL=>?_));intros;simp only [go_sem,kp91,geff,z1,z2,List.length_nil])
   all_goals try exact nd
   refine t_loopF (ι:=Unit) (fun i=>[(5,.lit (.int .i64 0)),(4,.lit (.int .i64 0))]) (fun i=>[]) (fun i=>0) () ?_ ?_
   ·exact lf
   rintro ⟨⟩ K0
   have k1:decide ((0:Int)<0)=false:=by decide
   have hR2:(0:Int)=R:=hR
   with_reducible repeat' first|(refine nx ?_;intros)|apply And.intro|intro vr|((first|refine ny ?_|refine t_dwh (h:=fun K KL=>?_));intros;simp only [go_sem,kp91,geff,k1,List.length_nil,yes])
   all_goals try exact nd
   all_goals (refine nl ?_;simp only [go_sem])
   exact LeA.of_eq (by rw [←hR2])
  |cons c t=>
   have hcl:(c::t).length=t.length+1:=rfl
   rw [hcl] at hl
   have z1:decide (((t.length+1:Nat):Int)>0)=true:=decide_eq_true (by omega)
   have hb0:bt (c::t) 0=((c.toNat:Nat):Int):=rfl
   have z0:(0:Int)<((t.length+1:Nat):Int):=by omega
   by_cases h45:c=45
   ·subst h45
    have hb1:(bt (45::t) 0==45)=true:=rfl
    have hdr:List.drop 1 ((45:UInt8)::t)=t:=rfl
    have htk:List.take (t.length+1) ((45:UInt8)::t)=(45:UInt8)::t:=List.take_length (l:=(45:UInt8)::t)
    rw [numS_45] at hR
    by_cases h14:t.length>14
    ·rw [if_pos h14] at hR
     have z2:decide ((t.length:Int)>14)=true:=decide_eq_true (by omega)
     refine pcR Y12_ok (kp91) Tryz.func91 [.tmp 2] (h:=fun KF=>?_)
     unfold Y12
     with_reducible repeat' first|(refine nx ?_;intros)|apply And.intro|intro vr|((first|refine ny ?_|refine t_dwh (h:=fun K KL=>?_));intros;simp only [go_sem,kp91,geff,z1,z2,hb1,hdr,htk,List.length_cons])
     all_goals try exact nd
     all_goals (refine nl ?_;simp only [go_sem])
     exact LeA.of_eq (by rw [←hR])
    ·rw [if_neg h14,numT] at hR
     have z2:decide ((t.length:Int)>14)=false:=decide_eq_false (by omega)
     replace h14:t.length≤14:=by omega
     refine pcR Y12_ok (kp91) Tryz.func91 [.tmp 2] (h:=fun KF=>?_)
     unfold Y12
     with_reducible repeat' first|(refine nx ?_;intros)|apply And.intro|intro vr|((first|refine ny ?_|refine t_dwh (h:=fun K KL=>?_));intros;simp only [go_sem,kp91,geff,z1,z2,hb1,hdr,htk,List.length_cons])
     all_goals try exact nd
     refine t_loopF (ι:=Nm t) (fun i=>[(5,.lit (.int .i64 (i.i:Int))),(4,.lit (.int .i64 (i.n:Int)))]) (fun i=>[]) (fun i=>(t).length - i.i) ⟨0,0,by omega,rfl⟩ ?_ ?_
     ·exact lf
     rintro ⟨i,n,hi,hn⟩ K0
     have hb:=number_tail h14 n i hi hn
     rcases Nat.lt_or_ge i (t).length with hc|hc
     ·have k1:decide ((i:Int)<((t).length:Int))=true:=decide_eq_true (by omega)
      have hbt:bt (t) i=((((t).getD i 0).toNat:Nat):Int):=rfl
      have h256:(((t).getD i 0).toNat)<256:=UInt8.toNat_lt _
      by_cases hd:48≤((t).getD i 0).toNat∧((t).getD i 0).toNat≤57
      ·have k2:decide (bt (t) i<48)=false:=decide_eq_false (by omega)
       have k3:decide (bt (t) i>57)=false:=decide_eq_false (by omega)
       have hst:=decN_step hc hn hd
       have hw:IntKind.u8.wrap (bt (t) i - 48)=bt (t) i - 48:=by rw [IntKind.wrap_u8];omega
       have hw2:IntKind.i64.wrap (bt (t) i - 48)=bt (t) i - 48:=by rw [IntKind.wrap_i64];omega
       have hv:(10:Int)*(n:Int)+(bt (t) i - 48)=((n*10+(((t).getD i 0).toNat - 48):Nat):Int):=by omega
       with_reducible repeat' first|(refine nx ?_;intros)|apply And.intro|intro vr|((first|refine ny ?_|refine t_dwh (h:=fun K KL=>?_));intros;simp only [go_sem,kp91,geff,k1,k2,k3,hw,hw2,Int.toNat_natCast,yes])
       all_goals try exact nd
       refine ⟨⟨i+1,n*10+(((t).getD i 0).toNat - 48),by omega,hst⟩,by simp only;omega,?_⟩
       simp only [hv]
       first|exact lf|(refine Le.frameS (by first|rfl|(simp only [go_sem];try rfl)) ?_;repeat' (first|exact leF_top _|exact (fun _=>LeR.refl _)|(with_reducible refine leF_sl ?_ ?_)|(refine leF_upd ?_ ?_)))<;>(first|exact LeR.top _|exact LeR.refl _|(refine LeR.of_eq ?_;(try simp only [go_sem]);try rfl)|((try simp only [go_sem]);try rfl))
      ·have hz:=decN_none (t) 0 i hc hd
       rw [hz] at hR
       by_cases h48:((t).getD i 0).toNat<48
       ·have k2:decide (bt (t) i<48)=true:=decide_eq_true (by omega)
        with_reducible repeat' first|(refine nx ?_;intros)|apply And.intro|intro vr|((first|refine ny ?_|refine t_dwh (h:=fun K KL=>?_));intros;simp only [go_sem,kp91,geff,k1,k2,Int.toNat_natCast,yes])
        all_goals try exact nd
        all_goals (refine nl ?_;simp only [go_sem])
        exact LeA.of_eq (by rw [←hR])
       ·have k2:decide (bt (t) i<48)=false:=decide_eq_false (by omega)
        have k3:decide (bt (t) i>57)=true:=decide_eq_true (by omega)
        with_reducible repeat' first|(refine nx ?_;intros)|apply And.intro|intro vr|((first|refine ny ?_|refine t_dwh (h:=fun K KL=>?_));intros;simp only [go_sem,kp91,geff,k1,k2,k3,Int.toNat_natCast,yes])
        all_goals try exact nd
        all_goals (refine nl ?_;simp only [go_sem])
        exact LeA.of_eq (by rw [←hR])
     ·have hi2:i=(t).length:=by omega
      subst hi2
      have k1:decide (((t).length:Int)<((t).length:Int))=false:=decide_eq_false (by omega)
      rw [List.take_length] at hn
      rw [hn] at hR
      simp only at hR
      with_reducible repeat' first|(refine nx ?_;intros)|apply And.intro|intro vr|((first|refine ny ?_|refine t_dwh (h:=fun K KL=>?_));intros;simp only [go_sem,kp91,geff,k1,Int.toNat_natCast,yes])
      all_goals try exact nd
      all_goals (refine nl ?_;simp only [go_sem])
      exact LeA.of_eq (by rw [←hR])
   ·have hb1:(bt (c::t) 0==45)=false:=by
      rw [hb0]
      simp only [beq_eq_false_iff_ne,ne_eq]
      intro e
      exact h45 (UInt8.toNat_inj.1 (by have:(45:UInt8).toNat=45:=rfl;omega))
    have hh: ¬ (c::t).head? =some 45:=by simpa using h45
    rw [numS_no hh] at hR
    generalize hT:c::t=T at*
    have hTl:T.length=t.length+1:=by rw [←hT];rfl
    have z1:decide ((T.length:Int)>0)=true:=decide_eq_true (by omega)
    have z0:(0:Int)<(T.length:Int):=by omega
    by_cases h14:T.length>14
    ·rw [if_pos h14] at hR
     have z2:decide ((T.length:Int)>14)=true:=decide_eq_true (by omega)
     refine pcR Y12_ok (kp91) Tryz.func91 [.tmp 2] (h:=fun KF=>?_)
     unfold Y12
     with_reducible repeat' first|(refine nx ?_;intros)|apply And.intro|intro vr|((first|refine ny ?_|refine t_dwh (h:=fun K KL=>?_));intros;simp only [go_sem,kp91,geff,z1,z2,hb1])
     all_goals try exact nd
     all_goals (refine nl ?_;simp only [go_sem])
     exact LeA.of_eq (by rw [←hR])
    ·rw [if_neg h14,numT] at hR
     have z2:decide ((T.length:Int)>14)=false:=decide_eq_false (by omega)
     replace h14:T.length≤14:=by omega
     refine pcR Y12_ok (kp91) Tryz.func91 [.tmp 2] (h:=fun KF=>?_)
     unfold Y12
     with_reducible repeat' first|(refine nx ?_;intros)|apply And.intro|intro vr|((first|refine ny ?_|refine t_dwh (h:=fun K KL=>?_));intros;simp only [go_sem,kp91,geff,z1,z2,hb1])
     all_goals try exact nd
     refine t_loopF (ι:=Nm T) (fun i=>[(5,.lit (.int .i64 (i.i:Int))),(4,.lit (.int .i64 (i.n:Int)))]) (fun i=>[]) (fun i=>(T).length - i.i) ⟨0,0,by omega,rfl⟩ ?_ ?_
     ·exact lf
     rintro ⟨i,n,hi,hn⟩ K0
     have hb:=number_tail h14 n i hi hn
     rcases Nat.lt_or_ge i (T).length with hc|hc
     ·have k1:decide ((i:Int)<((T).length:Int))=true:=decide_eq_true (by omega)
      have hbt:bt (T) i=((((T).getD i 0).toNat:Nat):Int):=rfl
      have h256:(((T).getD i 0).toNat)<256:=UInt8.toNat_lt _
      by_cases hd:48≤((T).getD i 0).toNat∧((T).getD i 0).toNat≤57
      ·have k2:decide (bt (T) i<48)=false:=decide_eq_false (by omega)
       have k3:decide (bt (T) i>57)=false:=decide_eq_false (by omega)
       have hst:=decN_step hc hn hd
       have hw:IntKind.u8.wrap (bt (T) i - 48)=bt (T) i - 48:=by rw [IntKind.wrap_u8];omega
       have hw2:IntKind.i64.wrap (bt (T) i - 48)=bt (T) i - 48:=by rw [IntKind.wrap_i64];omega
       have hv:(10:Int)*(n:Int)+(bt (T) i - 48)=((n*10+(((T).getD i 0).toNat - 48):Nat):Int):=by omega
       with_reducible repeat' first|(refine nx ?_;intros)|apply And.intro|intro vr|((first|refine ny ?_|refine t_dwh (h:=fun K KL=>?_));intros;simp only [go_sem,kp91,geff,k1,k2,k3,hw,hw2,Int.toNat_natCast,yes])
       all_goals try exact nd
       refine ⟨⟨i+1,n*10+(((T).getD i 0).toNat - 48),by omega,hst⟩,by simp only;omega,?_⟩
       simp only [hv]
       first|exact lf|(refine Le.frameS (by first|rfl|(simp only [go_sem];try rfl)) ?_;repeat' (first|exact leF_top _|exact (fun _=>LeR.refl _)|(with_reducible refine leF_sl ?_ ?_)|(refine leF_upd ?_ ?_)))<;>(first|exact LeR.top _|exact LeR.refl _|(refine LeR.of_eq ?_;(try simp only [go_sem]);try rfl)|((try simp only [go_sem]);try rfl))
      ·have hz:=decN_none (T) 0 i hc hd
       rw [hz] at hR
       by_cases h48:((T).getD i 0).toNat<48
       ·have k2:decide (bt (T) i<48)=true:=decide_eq_true (by omega)
        with_reducible repeat' first|(refine nx ?_;intros)|apply And.intro|intro vr|((first|refine ny ?_|refine t_dwh (h:=fun K KL=>?_));intros;simp only [go_sem,kp91,geff,k1,k2,Int.toNat_natCast,yes])
        all_goals try exact nd
        all_goals (refine nl ?_;simp only [go_sem])
        exact LeA.of_eq (by rw [←hR])
       ·have k2:decide (bt (T) i<48)=false:=decide_eq_false (by omega)
        have k3:decide (bt (T) i>57)=true:=decide_eq_true (by omega)
        with_reducible repeat' first|(refine nx ?_;intros)|apply And.intro|intro vr|((first|refine ny ?_|refine t_dwh (h:=fun K KL=>?_));intros;simp only [go_sem,kp91,geff,k1,k2,k3,Int.toNat_natCast,yes])
        all_goals try exact nd
        all_goals (refine nl ?_;simp only [go_sem])
        exact LeA.of_eq (by rw [←hR])
     ·have hi2:i=(T).length:=by omega
      subst hi2
      have k1:decide (((T).length:Int)<((T).length:Int))=false:=decide_eq_false (by omega)
      rw [List.take_length] at hn
      rw [hn] at hR
      simp only at hR
      with_reducible repeat' first|(refine nx ?_;intros)|apply And.intro|intro vr|((first|refine ny ?_|refine t_dwh (h:=fun K KL=>?_));intros;simp only [go_sem,kp91,geff,k1,Int.toNat_natCast,yes])
      all_goals try exact nd
      all_goals (refine nl ?_;simp only [go_sem])
      exact LeA.of_eq (by rw [←hR])
end Go.Proofs.YtohiagaclfaolaaGreatDoor.Tx

namespace Go.Proofs.YtohiagaclfaolaaGreatDoor.Tx
open Go.Proofs.YtohiagaclfaolaaGreatDoor
open Go Go.Fw Bm
set_option maxRecDepth 20000
def hdL (x:Ins):List UInt8:=ul (namL x.code)++(if x.code=5 then 32::ul x.prim else [])
def jt (x:Ins) (j:Nat):List UInt8:=Lib.joinTail [32] (restW x j)
theorem jt_succ (x:Ins) (j:Nat):jt x (j+1)=jt x j++(32::opW ((kndS x).getD j 0) (opI x j)):=by
  unfold jt
  rw [←restW_succ]
  simp [Lib.joinTail]
theorem line_jt (x:Ins):lineB x=hdL x++jt x (kndS x).length:=by
  unfold lineB wordsB headW hdL jt
  rw [List.cons_append,Lib.join_cons]
  by_cases h:x.code=5
  ·rw [if_pos h,if_pos h];simp [Lib.joinTail]
  ·rw [if_neg h,if_neg h];simp [Lib.joinTail]
theorem jt_len {x:Ins} {f:List Bool} (h:RtI x f):∀ j,j≤4→(jt x j).length≤j*23
  |0,_=>by simp [jt,restW,Lib.joinTail]
  |j+1,hj=>by
   have:=jt_len h j (by omega)
   have h2:=opW_len (k:=(kndS x).getD j 0) (h.bnd j (by omega))
   rw [jt_succ,List.length_append,List.length_cons]
   omega
noncomputable def con85:PCon Tryz.prog where
  f:=85
  c:=fun
   |[.lit (.int .i64 n)]=>some (0≤n∧n<16,.lit (.string (bs (ul (namL n)))))
   |_=>none
  ok:=by
   intro args p r hc hp
   split at hc
   ·rename_i n
    cases hc
    obtain ⟨k,rfl⟩:∃ k:Nat,n=k:=⟨n.toNat,by omega⟩
    exact word_pc (by omega)
   ·cases hc
  fk:=fk85
theorem con85_f:con85.f=85:=rfl
theorem con85_c {n:Int}:con85.c [.lit (.int .i64 n)]=some (0≤n∧n<16,.lit (.string (bs (ul (namL n))))):=rfl
attribute [go_sem] con85_f con85_c con83_f con83_c con84_f con84_c
noncomputable def Y14:Env:=envJ (P:=Tryz.prog) jkV zer (fun _=>false) (fun _=>false) [con83,con84,con85,con86] []
theorem Y14_ok:EnvOk Tryz.prog Y14:=envJOk zer_ok
set_option maxHeartbeats 16000000 in
theorem rline_pc {x:Ins} {f:List Bool} (h:RtI x f):PC Tryz.prog 51 [opV x] (.lit (.string (bs (lineB x)))):=by
  have hF:=h.form
  have hcode:=h.code
  have hfl:=h.len
  have hf4:=h.len4
  have hbn:=h.bnd
  have hkn:=h.knd
  have hjl:=jt_len h
  have hjs:=jt_succ x
  have hnl:=(name_ok h.code).2.2.1
  have hpl:x.code=5→(ul x.prim).length≤20:=fun e=>(h.prim5 e).2.2
  rw [line_jt x,←hfl]
  have hop:∀ i,opI x i=[x.a,x.b,x.c,x.d].getD i 0:=fun _=>rfl
  obtain ⟨k,p,a,b,c,d⟩:=x
  simp only [opV]
  simp only at hcode hop hnl hpl
  have hV:=formV_some hF
  have hsz:=frB_size f
  have hHe:hdL ⟨k,p,a,b,c,d⟩=ul (namL k)++(if k=5 then 32::ul p else []):=rfl
  generalize jt ⟨k,p,a,b,c,d⟩=J at*
  generalize kndS ⟨k,p,a,b,c,d⟩=L at*
  generalize opI ⟨k,p,a,b,c,d⟩=oI at*
  generalize hdL ⟨k,p,a,b,c,d⟩=HH at*
  generalize hN:ul (namL k)=N at*
  obtain ⟨q,rfl⟩:=bs_ex p
  rw [ul_bs] at hHe hpl
  have hJ0:(J 0).length≤0:=hjl 0 (by omega)
  have hJ0':J 0=[]:=List.length_eq_zero_iff.1 (by omega)
  by_cases h5:k=5
  ·subst h5
   have hk5:((5:Int)==5)=true:=rfl
   have hql:=hpl rfl
   have hHl:HH.length≤41:=by rw [hHe,if_pos rfl,List.length_append,List.length_cons];omega
   have hs0:N++32::q=HH++J 0:=by rw [hJ0',hHe,if_pos rfl];simp
   refine pcR Y14_ok (kp51) Tryz.func51 [.tmp 2] (h:=fun KF=>?_)
   unfold Y14
   with_reducible repeat' first|(refine nx ?_;intros)|apply And.intro|intro vr|(refine ny ?_;intros;simp only [go_sem,kp51,geff,hk5,hV,hN,hs0,List.length_append,List.length_cons,List.length_nil])
   all_goals try exact nd
   refine t_loopF (ι:={q:Nat // q≤f.length}) (fun i=>[(7,.lit (.int .i64 (i.1:Int))),(3,.lit (.string (bs (HH++J i.1))))]) (fun i=>[.box 50 [.lit (.int .i64 5),.lit (.string (bs q)),.lit (.int .i64 a),.lit (.int .i64 b),.lit (.int .i64 c),.lit (.int .i64 d)],.box 114 [.lit (.int .i64 a),.lit (.int .i64 b),.lit (.int .i64 c),.lit (.int .i64 d)]]) (fun i=>f.length - i.1) ⟨0,by omega⟩ ?_ ?_
   ·exact lf
   rintro ⟨i,hi⟩ K0
   rcases Nat.lt_or_ge i f.length with hc|hc
   ·have hJi:=hjl i (by omega)
    have hki:=hkn i hc
    have hji:=hjs i
    rcases (show i=0∨i=1∨i=2∨i=3 by omega) with rfl|rfl|rfl|rfl
    ·have h0:((((0:Nat):Int)):Int)=0:=rfl
     have g1:decide ((0:Int)<(f.length:Int))=true:=decide_eq_true (by omega)
     have ho:oI 0=a:=hop 0
     have hb:=hbn 0 (by omega)
     rw [ho] at hji hb
     have hbg: -big≤a∧a≤big:=by unfold big;omega
     have hbg1:=hbg.1
     have hbg2:=hbg.2
     have hil:=Lib.itoa_length_le a (by omega) (by omega)
     cases hr:f.getD 0 false with
     |true=>
      have g2:strAt (frB f) 0=114:=by rw [frB_at f 0 hc,hr];rfl
      have hk0:L.getD 0 0=0:=hki.1 hr
      rw [hk0] at hji
      have hs:HH++J 0++[32]++[114]++Lib.itoa a=HH++J 1:=by rw [hji];simp [opW]
      with_reducible repeat' first|(refine nx ?_;intros)|apply And.intro|intro vr|(refine ny ?_;intros;simp only [go_sem,kp51,geff,hsz,h0,g1,g2,hs,List.length_append,List.length_cons,List.length_nil,yes])
      all_goals try exact nd
      exact ⟨⟨1,by omega⟩,wf,lf⟩
     |false=>
      have g2:strAt (frB f) 0=110:=by rw [frB_at f 0 hc,hr];rfl
      have hk0: ¬ L.getD 0 0=0:=fun e=>by have:=hki.2 e;rw [hr] at this;cases this
      have hs:HH++J 0++[32]++Lib.itoa a=HH++J 1:=by rw [hji,opW,if_neg hk0];simp
      with_reducible repeat' first|(refine nx ?_;intros)|apply And.intro|intro vr|(refine ny ?_;intros;simp only [go_sem,kp51,geff,hsz,h0,g1,g2,hs,List.length_append,List.length_cons,List.length_nil,yes])
      all_goals try exact nd
      exact ⟨⟨1,by omega⟩,wf,lf⟩
    ·have h0:((((1:Nat):Int)):Int)=1:=rfl
     have g1:decide ((1:Int)<(f.length:Int))=true:=decide_eq_true (by omega)
     have ho:oI 1=b:=hop 1
     have hb:=hbn 1 (by omega)
     rw [ho] at hji hb
     have hbg: -big≤b∧b≤big:=by unfold big;omega
     have hbg1:=hbg.1
     have hbg2:=hbg.2
     have hil:=Lib.itoa_length_le b (by omega) (by omega)
     cases hr:f.getD 1 false with
     |true=>
      have g2:strAt (frB f) 1=114:=by rw [frB_at f 1 hc,hr];rfl
      have hk0:L.getD 1 0=0:=hki.1 hr
      rw [hk0] at hji
      have hs:HH++J 1++[32]++[114]++Lib.itoa b=HH++J 2:=by rw [hji];simp [opW]
      with_reducible repeat' first|(refine nx ?_;intros)|apply And.intro|intro vr|(refine ny ?_;intros;simp only [go_sem,kp51,geff,hsz,h0,g1,g2,hs,List.length_append,List.length_cons,List.length_nil,yes])
      all_goals try exact nd
      exact ⟨⟨2,by omega⟩,wf,lf⟩
     |false=>
      have g2:strAt (frB f) 1=110:=by rw [frB_at f 1 hc,hr];rfl
      have hk0: ¬ L.getD 1 0=0:=fun e=>by have:=hki.2 e;rw [hr] at this;cases this
      have hs:HH++J 1++[32]++Lib.itoa b=HH++J 2:=by rw [hji,opW,if_neg hk0];simp
      with_reducible repeat' first|(refine nx ?_;intros)|apply And.intro|intro vr|(refine ny ?_;intros;simp only [go_sem,kp51,geff,hsz,h0,g1,g2,hs,List.length_append,List.length_cons,List.length_nil,yes])
      all_goals try exact nd
      exact ⟨⟨2,by omega⟩,wf,lf⟩
    ·have h0:((((2:Nat):Int)):Int)=2:=rfl
     have g1:decide ((2:Int)<(f.length:Int))=true:=decide_eq_true (by omega)
     have ho:oI 2=c:=hop 2
     have hb:=hbn 2 (by omega)
     rw [ho] at hji hb
     have hbg: -big≤c∧c≤big:=by unfold big;omega
     have hbg1:=hbg.1
     have hbg2:=hbg.2
     have hil:=Lib.itoa_length_le c (by omega) (by omega)
     cases hr:f.getD 2 false with
     |true=>
      have g2:strAt (frB f) 2=114:=by rw [frB_at f 2 hc,hr];rfl
      have hk0:L.getD 2 0=0:=hki.1 hr
      rw [hk0] at hji
      have hs:HH++J 2++[32]++[114]++Lib.itoa c=HH++J 3:=by rw [hji];simp [opW]
      with_reducible repeat' first|(refine nx ?_;intros)|apply And.intro|intro vr|(refine ny ?_;intros;simp only [go_sem,kp51,geff,hsz,h0,g1,g2,hs,List.length_append,List.length_cons,List.length_nil,yes])
      all_goals try exact nd
      exact ⟨⟨3,by omega⟩,wf,lf⟩
     |false=>
      have g2:strAt (frB f) 2=110:=by rw [frB_at f 2 hc,hr];rfl
      have hk0: ¬ L.getD 2 0=0:=fun e=>by have:=hki.2 e;rw [hr] at this;cases this
      have hs:HH++J 2++[32]++Lib.itoa c=HH++J 3:=by rw [hji,opW,if_neg hk0];simp
      with_reducible repeat' first|(refine nx ?_;intros)|apply And.intro|intro vr|(refine ny ?_;intros;simp only [go_sem,kp51,geff,hsz,h0,g1,g2,hs,List.length_append,List.length_cons,List.length_nil,yes])
      all_goals try exact nd
      exact ⟨⟨3,by omega⟩,wf,lf⟩
    ·have h0:((((3:Nat):Int)):Int)=3:=rfl
     have g1:decide ((3:Int)<(f.length:Int))=true:=decide_eq_true (by omega)
     have ho:oI 3=d:=hop 3
     have hb:=hbn 3 (by omega)
     rw [ho] at hji hb
     have hbg: -big≤d∧d≤big:=by unfold big;omega
     have hbg1:=hbg.1
     have hbg2:=hbg.2
     have hil:=Lib.itoa_length_le d (by omega) (by omega)
     cases hr:f.getD 3 false with
     |true=>
      have g2:strAt (frB f) 3=114:=by rw [frB_at f 3 hc,hr];rfl
      have hk0:L.getD 3 0=0:=hki.1 hr
      rw [hk0] at hji
      have hs:HH++J 3++[32]++[114]++Lib.itoa d=HH++J 4:=by rw [hji];simp [opW]
      with_reducible repeat' first|(refine nx ?_;intros)|apply And.intro|intro vr|(refine ny ?_;intros;simp only [go_sem,kp51,geff,hsz,h0,g1,g2,hs,List.length_append,List.length_cons,List.length_nil,yes])
      all_goals try exact nd
      exact ⟨⟨4,by omega⟩,wf,lf⟩
     |false=>
      have g2:strAt (frB f) 3=110:=by rw [frB_at f 3 hc,hr];rfl
      have hk0: ¬ L.getD 3 0=0:=fun e=>by have:=hki.2 e;rw [hr] at this;cases this
      have hs:HH++J 3++[32]++Lib.itoa d=HH++J 4:=by rw [hji,opW,if_neg hk0];simp
      with_reducible repeat' first|(refine nx ?_;intros)|apply And.intro|intro vr|(refine ny ?_;intros;simp only [go_sem,kp51,geff,hsz,h0,g1,g2,hs,List.length_append,List.length_cons,List.length_nil,yes])
      all_goals try exact nd
      exact ⟨⟨4,by omega⟩,wf,lf⟩
   ·have hi2:i=f.length:=by omega
    subst hi2
    have g1:decide ((f.length:Int)<(f.length:Int))=false:=decide_eq_false (by omega)
    with_reducible repeat' first|(refine nx ?_;intros)|apply And.intro|intro vr|(refine ny ?_;intros;simp only [go_sem,kp51,geff,hsz,g1])
    all_goals try exact nd
    all_goals (refine nl ?_;simp only [go_sem])
    exact LeA.refl _
  ·have hk5:(k==5)=false:=by simpa using h5
   have hHl:HH.length≤41:=by rw [hHe,if_neg h5,List.append_nil];omega
   have hs0:N=HH++J 0:=by rw [hJ0',hHe,if_neg h5];simp
   subst hs0
   refine pcR Y14_ok (kp51) Tryz.func51 [.tmp 2] (h:=fun KF=>?_)
   unfold Y14
   with_reducible repeat' first|(refine nx ?_;intros)|apply And.intro|intro vr|(refine ny ?_;intros;simp only [go_sem,kp51,geff,hk5,hV,hN,List.length_append,List.length_cons,List.length_nil])
   all_goals try exact nd
   refine t_loopF (ι:={q:Nat // q≤f.length}) (fun i=>[(7,.lit (.int .i64 (i.1:Int))),(3,.lit (.string (bs (HH++J i.1))))]) (fun i=>[.box 50 [.lit (.int .i64 k),.lit (.string (bs q)),.lit (.int .i64 a),.lit (.int .i64 b),.lit (.int .i64 c),.lit (.int .i64 d)],.box 114 [.lit (.int .i64 a),.lit (.int .i64 b),.lit (.int .i64 c),.lit (.int .i64 d)]]) (fun i=>f.length - i.1) ⟨0,by omega⟩ ?_ ?_
   ·exact lf
   rintro ⟨i,hi⟩ K0
   rcases Nat.lt_or_ge i f.length with hc|hc
   ·have hJi:=hjl i (by omega)
    have hki:=hkn i hc
    have hji:=hjs i
    rcases (show i=0∨i=1∨i=2∨i=3 by omega) with rfl|rfl|rfl|rfl
    ·have h0:((((0:Nat):Int)):Int)=0:=rfl
     have g1:decide ((0:Int)<(f.length:Int))=true:=decide_eq_true (by omega)
     have ho:oI 0=a:=hop 0
     have hb:=hbn 0 (by omega)
     rw [ho] at hji hb
     have hbg: -big≤a∧a≤big:=by unfold big;omega
     have hbg1:=hbg.1
     have hbg2:=hbg.2
     have hil:=Lib.itoa_length_le a (by omega) (by omega)
     cases hr:f.getD 0 false with
     |true=>
      have g2:strAt (frB f) 0=114:=by rw [frB_at f 0 hc,hr];rfl
      have hk0:L.getD 0 0=0:=hki.1 hr
      rw [hk0] at hji
      have hs:HH++J 0++[32]++[114]++Lib.itoa a=HH++J 1:=by rw [hji];simp [opW]
      with_reducible repeat' first|(refine nx ?_;intros)|apply And.intro|intro vr|(refine ny ?_;intros;simp only [go_sem,kp51,geff,hsz,h0,g1,g2,hs,List.length_append,List.length_cons,List.length_nil,yes])
      all_goals try exact nd
      exact ⟨⟨1,by omega⟩,wf,lf⟩
     |false=>
      have g2:strAt (frB f) 0=110:=by rw [frB_at f 0 hc,hr];rfl
      have hk0: ¬ L.getD 0 0=0:=fun e=>by have:=hki.2 e;rw [hr] at this;cases this
      have hs:HH++J 0++[32]++Lib.itoa a=HH++J 1:=by rw [hji,opW,if_neg hk0];simp
      with_reducible repeat' first|(refine nx ?_;intros)|apply And.intro|intro vr|(refine ny ?_;intros;simp only [go_sem,kp51,geff,hsz,h0,g1,g2,hs,List.length_append,List.length_cons,List.length_nil,yes])
      all_goals try exact nd
      exact ⟨⟨1,by omega⟩,wf,lf⟩
    ·have h0:((((1:Nat):Int)):Int)=1:=rfl
     have g1:decide ((1:Int)<(f.length:Int))=true:=decide_eq_true (by omega)
     have ho:oI 1=b:=hop 1
     have hb:=hbn 1 (by omega)
     rw [ho] at hji hb
     have hbg: -big≤b∧b≤big:=by unfold big;omega
     have hbg1:=hbg.1
     have hbg2:=hbg.2
     have hil:=Lib.itoa_length_le b (by omega) (by omega)
     cases hr:f.getD 1 false with
     |true=>
      have g2:strAt (frB f) 1=114:=by rw [frB_at f 1 hc,hr];rfl
      have hk0:L.getD 1 0=0:=hki.1 hr
      rw [hk0] at hji
      have hs:HH++J 1++[32]++[114]++Lib.itoa b=HH++J 2:=by rw [hji];simp [opW]
      with_reducible repeat' first|(refine nx ?_;intros)|apply And.intro|intro vr|(refine ny ?_;intros;simp only [go_sem,kp51,geff,hsz,h0,g1,g2,hs,List.length_append,List.length_cons,List.length_nil,yes])
      all_goals try exact nd
      exact ⟨⟨2,by omega⟩,wf,lf⟩
     |false=>
      have g2:strAt (frB f) 1=110:=by rw [frB_at f 1 hc,hr];rfl
      have hk0: ¬ L.getD 1 0=0:=fun e=>by have:=hki.2 e;rw [hr] at this;cases this
      have hs:HH++J 1++[32]++Lib.itoa b=HH++J 2:=by rw [hji,opW,if_neg hk0];simp
      with_reducible repeat' first|(refine nx ?_;intros)|apply And.intro|intro vr|(refine ny ?_;intros;simp only [go_sem,kp51,geff,hsz,h0,g1,g2,hs,List.length_append,List.length_cons,List.length_nil,yes])
      all_goals try exact nd
      exact ⟨⟨2,by omega⟩,wf,lf⟩
    ·have h0:((((2:Nat):Int)):Int)=2:=rfl
     have g1:decide ((2:Int)<(f.length:Int))=true:=decide_eq_true (by omega)
     have ho:oI 2=c:=hop 2
     have hb:=hbn 2 (by omega)
     rw [ho] at hji hb
     have hbg: -big≤c∧c≤big:=by unfold big;omega
     have hbg1:=hbg.1
     have hbg2:=hbg.2
     have hil:=Lib.itoa_length_le c (by omega) (by omega)
     cases hr:f.getD 2 false with
     |true=>
      have g2:strAt (frB f) 2=114:=by rw [frB_at f 2 hc,hr];rfl
      have hk0:L.getD 2 0=0:=hki.1 hr
      rw [hk0] at hji
      have hs:HH++J 2++[32]++[114]++Lib.itoa c=HH++J 3:=by rw [hji];simp [opW]
      with_reducible repeat' first|(refine nx ?_;intros)|apply And.intro|intro vr|(refine ny ?_;intros;simp only [go_sem,kp51,geff,hsz,h0,g1,g2,hs,List.length_append,List.length_cons,List.length_nil,yes])
      all_goals try exact nd
      exact ⟨⟨3,by omega⟩,wf,lf⟩
     |false=>
      have g2:strAt (frB f) 2=110:=by rw [frB_at f 2 hc,hr];rfl
      have hk0: ¬ L.getD 2 0=0:=fun e=>by have:=hki.2 e;rw [hr] at this;cases this
      have hs:HH++J 2++[32]++Lib.itoa c=HH++J 3:=by rw [hji,opW,if_neg hk0];simp
      with_reducible repeat' first|(refine nx ?_;intros)|apply And.intro|intro vr|(refine ny ?_;intros;simp only [go_sem,kp51,geff,hsz,h0,g1,g2,hs,List.length_append,List.length_cons,List.length_nil,yes])
      all_goals try exact nd
      exact ⟨⟨3,by omega⟩,wf,lf⟩
    ·have h0:((((3:Nat):Int)):Int)=3:=rfl
     have g1:decide ((3:Int)<(f.length:Int))=true:=decide_eq_true (by omega)
     have ho:oI 3=d:=hop 3
     have hb:=hbn 3 (by omega)
     rw [ho] at hji hb
     have hbg: -big≤d∧d≤big:=by unfold big;omega
     have hbg1:=hbg.1
     have hbg2:=hbg.2
     have hil:=Lib.itoa_length_le d (by omega) (by omega)
     cases hr:f.getD 3 false with
     |true=>
      have g2:strAt (frB f) 3=114:=by rw [frB_at f 3 hc,hr];rfl
      have hk0:L.getD 3 0=0:=hki.1 hr
      rw [hk0] at hji
      have hs:HH++J 3++[32]++[114]++Lib.itoa d=HH++J 4:=by rw [hji];simp [opW]
      with_reducible repeat' first|(refine nx ?_;intros)|apply And.intro|intro vr|(refine ny ?_;intros;simp only [go_sem,kp51,geff,hsz,h0,g1,g2,hs,List.length_append,List.length_cons,List.length_nil,yes])
      all_goals try exact nd
      exact ⟨⟨4,by omega⟩,wf,lf⟩
     |false=>
      have g2:strAt (frB f) 3=110:=by rw [frB_at f 3 hc,hr];rfl
      have hk0: ¬ L.getD 3 0=0:=fun e=>by have:=hki.2 e;rw [hr] at this;cases this
      have hs:HH++J 3++[32]++Lib.itoa d=HH++J 4:=by rw [hji,opW,if_neg hk0];simp
      with_reducible repeat' first|(refine nx ?_;intros)|apply And.intro|intro vr|(refine ny ?_;intros;simp only [go_sem,kp51,geff,hsz,h0,g1,g2,hs,List.length_append,List.length_cons,List.length_nil,yes])
      all_goals try exact nd
      exact ⟨⟨4,by omega⟩,wf,lf⟩
   ·have hi2:i=f.length:=by omega
    subst hi2
    have g1:decide ((f.length:Int)<(f.length:Int))=false:=decide_eq_false (by omega)
    with_reducible repeat' first|(refine nx ?_;intros)|apply And.intro|intro vr|(refine ny ?_;intros;simp only [go_sem,kp51,geff,hsz,g1])
    all_goals try exact nd
    all_goals (refine nl ?_;simp only [go_sem])
    exact LeA.refl _
end Go.Proofs.YtohiagaclfaolaaGreatDoor.Tx
