import Derived.Shelf.Sort.Plain
import Derived.Shelf.Small.Bits
import Derived.Ground.Names2Prog
import Derived.Shelf.Slices.CompactI
import Derived.Test.YtnlimcijgpaegaaProg

set_option linter.all false

namespace Go.Proofs
open Go.Shelf
def Try.lays125_ren:Go.Shelf.Ren:=⟨fun|125=>100|128=>139|129=>140|n=>n,fun|46=>150|3=>3|51=>193|53=>195|4=>4|5=>5|9=>9|n=>n,fun|n=>n⟩
theorem Try.lays125:Go.Proofs.Lays.n125 Try.prog Try.lays125_ren:={
  mixed:=by kernel_rfl
  f125:=Try.func100.trans (congrArg some (by kernel_rfl))
  f128:=Try.func139.trans (congrArg some (by kernel_rfl))
  f129:=Try.func140.trans (congrArg some (by kernel_rfl))
  t3:=Try.underlying3
  a3:=Try.isAgg3
  z3:=Try.sizeOf3
  v3:=Try.zeroValue3
  t4:=Try.underlying4
  a4:=Try.isAgg4
  z4:=Try.sizeOf4
  v4:=Try.zeroValue4
  t5:=Try.underlying5
  a5:=Try.isAgg5
  z5:=Try.sizeOf5
  v5:=Try.zeroValue5
  t9:=Try.underlying9
  a9:=Try.isAgg9
  z9:=Try.sizeOf9
  v9:=Try.zeroValue9
  t46:=Try.underlying150
  a46:=Try.isAgg150
  z46:=Try.sizeOf150
  v46:=Try.zeroValue150
  t51:=Try.underlying193
  a51:=Try.isAgg193
  z51:=Try.sizeOf193
  v51:=Try.zeroValue193
  t53:=Try.underlying195
  a53:=Try.isAgg195
  z53:=Try.sizeOf195
  v53:=Try.zeroValue195}
theorem Try.bits_Len (x:Int) (w:World) (h0:0≤x) (h1:x≤18446744073709551615):
    Calls Try.prog 100 #[.int .u64 x] w fun e w'=>e= .returned (.int .i64 (Lib.bitLen x.toNat))∧w'=w:=Any.bits_Len Try.lays125 x w h0 h1
def Try.lays189_ren:Go.Shelf.Ren:=⟨fun|189=>55|125=>100|257=>99|128=>139|129=>140|294=>130|295=>131|296=>132|297=>133|298=>134|299=>135|216=>136|300=>137|301=>138|328=>159|329=>160|330=>161|331=>162|332=>163|215=>164|343=>172|n=>n,fun|28=>34|3=>3|46=>150|0=>0|51=>193|53=>195|4=>4|183=>186|182=>185|131=>35|5=>5|9=>9|218=>201|222=>205|228=>210|229=>211|n=>n,fun|n=>n⟩
theorem Try.lays189:Go.Proofs.Lays.n189 Try.prog Try.lays189_ren:={
  mixed:=by kernel_rfl
  f125:=Try.func100.trans (congrArg some (by kernel_rfl))
  f128:=Try.func139.trans (congrArg some (by kernel_rfl))
  f129:=Try.func140.trans (congrArg some (by kernel_rfl))
  f189:=Try.func55.trans (congrArg some (by kernel_rfl))
  f215:=Try.func164.trans (congrArg some (by kernel_rfl))
  f216:=Try.func136.trans (congrArg some (by kernel_rfl))
  f257:=Try.func99.trans (congrArg some (by kernel_rfl))
  f294:=Try.func130.trans (congrArg some (by kernel_rfl))
  f295:=Try.func131.trans (congrArg some (by kernel_rfl))
  f296:=Try.func132.trans (congrArg some (by kernel_rfl))
  f297:=Try.func133.trans (congrArg some (by kernel_rfl))
  f298:=Try.func134.trans (congrArg some (by kernel_rfl))
  f299:=Try.func135.trans (congrArg some (by kernel_rfl))
  f300:=Try.func137.trans (congrArg some (by kernel_rfl))
  f301:=Try.func138.trans (congrArg some (by kernel_rfl))
  f328:=Try.func159.trans (congrArg some (by kernel_rfl))
  f329:=Try.func160.trans (congrArg some (by kernel_rfl))
  f330:=Try.func161.trans (congrArg some (by kernel_rfl))
  f331:=Try.func162.trans (congrArg some (by kernel_rfl))
  f332:=Try.func163.trans (congrArg some (by kernel_rfl))
  f343:=Try.func172.trans (congrArg some (by kernel_rfl))
  t0:=Try.underlying0
  a0:=Try.isAgg0
  z0:=Try.sizeOf0
  v0:=Try.zeroValue0
  t3:=Try.underlying3
  a3:=Try.isAgg3
  z3:=Try.sizeOf3
  v3:=Try.zeroValue3
  t4:=Try.underlying4
  a4:=Try.isAgg4
  z4:=Try.sizeOf4
  v4:=Try.zeroValue4
  t5:=Try.underlying5
  a5:=Try.isAgg5
  z5:=Try.sizeOf5
  v5:=Try.zeroValue5
  t9:=Try.underlying9
  a9:=Try.isAgg9
  z9:=Try.sizeOf9
  v9:=Try.zeroValue9
  t28:=Try.underlying34
  a28:=Try.isAgg34
  z28:=Try.sizeOf34
  v28:=Try.zeroValue34
  t46:=Try.underlying150
  a46:=Try.isAgg150
  z46:=Try.sizeOf150
  v46:=Try.zeroValue150
  t51:=Try.underlying193
  a51:=Try.isAgg193
  z51:=Try.sizeOf193
  v51:=Try.zeroValue193
  t53:=Try.underlying195
  a53:=Try.isAgg195
  z53:=Try.sizeOf195
  v53:=Try.zeroValue195
  t131:=Try.underlying35
  a131:=Try.isAgg35
  z131:=Try.sizeOf35
  v131:=Try.zeroValue35
  t182:=Try.underlying185
  a182:=Try.isAgg185
  z182:=Try.sizeOf185
  v182:=Try.zeroValue185
  t183:=Try.underlying186
  a183:=Try.isAgg186
  z183:=Try.sizeOf186
  v183:=Try.zeroValue186
  t218:=Try.underlying201
  a218:=Try.isAgg201
  z218:=Try.sizeOf201
  v218:=Try.zeroValue201
  t222:=Try.underlying205
  a222:=Try.isAgg205
  z222:=Try.sizeOf205
  v222:=Try.zeroValue205
  t228:=Try.underlying210
  a228:=Try.isAgg210
  z228:=Try.sizeOf210
  v228:=Try.zeroValue210
  t229:=Try.underlying211
  a229:=Try.isAgg211
  z229:=Try.sizeOf211
  v229:=Try.zeroValue211}
open Go.Sort Go.RowKit in
theorem Try.slices_Sort_int (blk off cap:Nat) (zs:List Int) (w:World) (hH:Holds (Value.int .i64) w blk off zs.toArray) (hblk:blk<w.heap.size) (hsz:zs.length<4611686018427387904):
    Calls Try.prog 55 #[.slice (some ⟨blk,off,none⟩) zs.length cap] w fun e w'=>
      e= .returned (.tuple #[])∧∃ n os,w'=grow (putRow (Value.int .i64) (Sort.ahead w n) blk off (zs.mergeSort fun x y=>decide (x≤y)).toArray) os:=Any.slices_Sort_int Try.lays189 blk off cap zs w hH hblk hsz
def Try.laysNm220_ren:Go.Shelf.Ren:=⟨fun|20=>57|n=>n,fun|22=>34|3=>3|4=>4|0=>0|n=>n,fun|n=>n⟩
theorem Try.laysNm220:Go.Proofs.Lays2.n20 Try.prog Try.laysNm220_ren:={
  mixed:=by kernel_rfl
  f20:=Try.func57.trans (congrArg some (by kernel_rfl))
  t0:=Try.underlying0
  a0:=Try.isAgg0
  z0:=Try.sizeOf0
  v0:=Try.zeroValue0
  t3:=Try.underlying3
  a3:=Try.isAgg3
  z3:=Try.sizeOf3
  v3:=Try.zeroValue3
  t4:=Try.underlying4
  a4:=Try.isAgg4
  z4:=Try.sizeOf4
  v4:=Try.zeroValue4
  t22:=Try.underlying34
  a22:=Try.isAgg34
  z22:=Try.sizeOf34
  v22:=Try.zeroValue34
  i3:=by kernel_rfl}
open Go.RowKit Go.Lib Go.Sort in
theorem Try.slices_Compact_int (blk off cap:Nat) (zs:List Int) (w:World) (hH:Holds (Value.int .i64) w blk off zs.toArray) (hsz:zs.length≤9223372036854775807) (hcap:zs.length≤cap):
    Calls Try.prog 57 #[.slice (some ⟨blk,off,none⟩) zs.length cap] w fun e w'=>e= .returned (.slice (some ⟨blk,off,none⟩) (Lib.compact zs).length cap)∧∃ q,w'=putRow (Value.int .i64) (Sort.ahead w q) blk off (Lib.compact zs++List.replicate (zs.length - (Lib.compact zs).length) 0).toArray:=Any.slices_Compact_int Try.laysNm220 blk off cap zs w hH hsz hcap
end Go.Proofs
