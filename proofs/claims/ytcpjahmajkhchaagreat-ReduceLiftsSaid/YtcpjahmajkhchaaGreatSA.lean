import Derived.Test.YtcpjahmajkhchaaGreatRows
import Derived.Test.YtcpjahmajkhchaaGreatFwB
import Derived.Lib.AppendZeros
import Derived.Lib.Walk
import Derived.Lib.Slices
import Derived.RangeFuncKeeps
import Derived.RangeFuncBound
import Derived.RangeFuncFrom

set_option linter.all false

namespace Go.Proofs.YtcpjahmajkhchaaGreat
open Go Go.Fw
noncomputable abbrev PG:=Tryz.prog
theorem g2:PG.underlying 2=some (.int .i64)∧szT PG 2=1∧byT PG 2=8∧aggT PG 2=some false∧structOk PG 2=false∧(zeroT PG 2).isSome=true∧zOk PG 2=true∧(PG.underlying 2).isSome=true:=by and_intros<;>kernel_rfl
theorem u3:Tryz.prog.underlying 3=some (.int .i64):=by kernel_rfl
theorem sz3:szT Tryz.prog 3=1:=by kernel_rfl
theorem g3:byT PG 3=8∧aggT PG 3=some false∧structOk PG 3=false∧(zeroT PG 3).isSome=true∧zOk PG 3=true∧(PG.underlying 3).isSome=true:=by and_intros<;>kernel_rfl
theorem g4:PG.underlying 4=some .bool∧szT PG 4=1∧byT PG 4=1∧aggT PG 4=some false∧structOk PG 4=false∧(zeroT PG 4).isSome=true∧zOk PG 4=true∧(PG.underlying 4).isSome=true:=by and_intros<;>kernel_rfl
theorem g5:PG.underlying 5=some (.int .u8)∧szT PG 5=1∧byT PG 5=1∧aggT PG 5=some false∧structOk PG 5=false∧(zeroT PG 5).isSome=true∧zOk PG 5=true∧(PG.underlying 5).isSome=true:=by and_intros<;>kernel_rfl
theorem g6:PG.underlying 6=some (.int .u8)∧szT PG 6=1∧byT PG 6=1∧aggT PG 6=some false∧structOk PG 6=false∧(zeroT PG 6).isSome=true∧zOk PG 6=true∧(PG.underlying 6).isSome=true:=by and_intros<;>kernel_rfl
theorem g7:szT PG 7=4∧byT PG 7=24∧aggT PG 7=some true∧structOk PG 7=true∧fieldT PG 7 0=some (2,0)∧fieldT PG 7 1=some (3,1)∧fieldT PG 7 2=some (4,2)∧fieldT PG 7 3=some (6,3)∧seqK PG 7=some [0,0,2,0]∧(zeroT PG 7).isSome=true∧zOk PG 7=true∧(PG.underlying 7).isSome=true:=by and_intros<;>kernel_rfl
theorem g8:szT PG 8=4∧byT PG 8=24∧aggT PG 8=some true∧structOk PG 8=true∧fieldT PG 8 0=some (2,0)∧fieldT PG 8 1=some (3,1)∧fieldT PG 8 2=some (4,2)∧fieldT PG 8 3=some (6,3)∧seqK PG 8=some [0,0,2,0]∧(zeroT PG 8).isSome=true∧zOk PG 8=true∧(PG.underlying 8).isSome=true:=by and_intros<;>kernel_rfl
theorem u9:Tryz.prog.underlying 9=some .string:=by kernel_rfl
theorem g9:szT PG 9=1∧byT PG 9=16∧aggT PG 9=some false∧structOk PG 9=false∧(zeroT PG 9).isSome=true∧zOk PG 9=true∧(PG.underlying 9).isSome=true:=by and_intros<;>kernel_rfl
theorem g10:PG.underlying 10=some .string∧szT PG 10=1∧byT PG 10=16∧aggT PG 10=some false∧structOk PG 10=false∧(zeroT PG 10).isSome=true∧zOk PG 10=true∧(PG.underlying 10).isSome=true:=by and_intros<;>kernel_rfl
theorem g11:PG.underlying 11=some .string∧szT PG 11=1∧byT PG 11=16∧aggT PG 11=some false∧structOk PG 11=false∧(zeroT PG 11).isSome=true∧zOk PG 11=true∧(PG.underlying 11).isSome=true:=by and_intros<;>kernel_rfl
theorem g12:PG.underlying 12=some (.int .u64)∧szT PG 12=1∧byT PG 12=8∧aggT PG 12=some false∧structOk PG 12=false∧(zeroT PG 12).isSome=true∧zOk PG 12=true∧(PG.underlying 12).isSome=true:=by and_intros<;>kernel_rfl
theorem g13:szT PG 13=2∧byT PG 13=24∧aggT PG 13=some true∧structOk PG 13=true∧fieldT PG 13 0=some (9,0)∧fieldT PG 13 1=some (12,1)∧(zeroT PG 13).isSome=true∧zOk PG 13=true∧(PG.underlying 13).isSome=true:=by and_intros<;>kernel_rfl
theorem g14:szT PG 14=2∧byT PG 14=24∧aggT PG 14=some true∧structOk PG 14=true∧fieldT PG 14 0=some (9,0)∧fieldT PG 14 1=some (12,1)∧(zeroT PG 14).isSome=true∧zOk PG 14=true∧(PG.underlying 14).isSome=true:=by and_intros<;>kernel_rfl
theorem g15:PG.underlying 15=some (.pointer 161)∧szT PG 15=1∧byT PG 15=8∧aggT PG 15=some false∧structOk PG 15=false∧(zeroT PG 15).isSome=true∧zOk PG 15=true∧(PG.underlying 15).isSome=true:=by and_intros<;>kernel_rfl
theorem g16:PG.underlying 16=some (.pointer 164)∧szT PG 16=1∧byT PG 16=8∧aggT PG 16=some false∧structOk PG 16=false∧(zeroT PG 16).isSome=true∧zOk PG 16=true∧(PG.underlying 16).isSome=true:=by and_intros<;>kernel_rfl
theorem g17:PG.underlying 17=some (.pointer 174)∧szT PG 17=1∧byT PG 17=8∧aggT PG 17=some false∧structOk PG 17=false∧(zeroT PG 17).isSome=true∧zOk PG 17=true∧(PG.underlying 17).isSome=true:=by and_intros<;>kernel_rfl
theorem g18:szT PG 18=1∧byT PG 18=8∧aggT PG 18=some true∧structOk PG 18=true∧fieldT PG 18 0=some (17,0)∧(zeroT PG 18).isSome=true∧zOk PG 18=true∧(PG.underlying 18).isSome=true:=by and_intros<;>kernel_rfl
theorem g19:szT PG 19=1∧byT PG 19=8∧aggT PG 19=some true∧structOk PG 19=true∧fieldT PG 19 0=some (17,0)∧(zeroT PG 19).isSome=true∧zOk PG 19=true∧(PG.underlying 19).isSome=true:=by and_intros<;>kernel_rfl
theorem g21:PG.underlying 21=some (.int .i32)∧szT PG 21=1∧byT PG 21=4∧aggT PG 21=some false∧structOk PG 21=false∧(zeroT PG 21).isSome=true∧zOk PG 21=true∧(PG.underlying 21).isSome=true:=by and_intros<;>kernel_rfl
theorem u22:Tryz.prog.underlying 22=some (.slice 78):=by kernel_rfl
theorem g22:szT PG 22=1∧byT PG 22=24∧aggT PG 22=some false∧structOk PG 22=false∧(zeroT PG 22).isSome=true∧zOk PG 22=true∧(PG.underlying 22).isSome=true∧appT PG #[22,22]=some 78:=by and_intros<;>kernel_rfl
theorem u23:Tryz.prog.underlying 23=some (.slice 3):=by kernel_rfl
theorem g23:szT PG 23=1∧byT PG 23=24∧aggT PG 23=some false∧structOk PG 23=false∧(zeroT PG 23).isSome=true∧zOk PG 23=true∧(PG.underlying 23).isSome=true∧appT PG #[23,23]=some 3:=by and_intros<;>kernel_rfl
theorem g30:szT PG 30=3∧byT PG 30=64∧aggT PG 30=some true∧structOk PG 30=true∧fieldT PG 30 0=some (9,0)∧fieldT PG 30 1=some (23,1)∧fieldT PG 30 2=some (23,2)∧(zeroT PG 30).isSome=true∧zOk PG 30=true∧(PG.underlying 30).isSome=true:=by and_intros<;>kernel_rfl
theorem sz31:szT Tryz.prog 31=3:=by kernel_rfl
theorem g31:byT PG 31=64∧structOk PG 31=true∧fieldT PG 31 0=some (9,0)∧fieldT PG 31 1=some (23,1)∧fieldT PG 31 2=some (23,2)∧(zeroT PG 31).isSome=true∧zOk PG 31=true∧(PG.underlying 31).isSome=true:=by and_intros<;>kernel_rfl
theorem ag31:aggT Tryz.prog 31=some true:=by kernel_rfl
theorem g33:PG.underlying 33=some (.int .i64)∧szT PG 33=1∧byT PG 33=8∧aggT PG 33=some false∧structOk PG 33=false∧(zeroT PG 33).isSome=true∧zOk PG 33=true∧(PG.underlying 33).isSome=true:=by and_intros<;>kernel_rfl
theorem g39:PG.underlying 39=some (.array 2 23)∧szT PG 39=2∧byT PG 39=48∧aggT PG 39=some true∧structOk PG 39=false∧(zeroT PG 39).isSome=true∧zOk PG 39=true∧(PG.underlying 39).isSome=true:=by and_intros<;>kernel_rfl
theorem g42:PG.underlying 42=some (.slice 9)∧szT PG 42=1∧byT PG 42=24∧aggT PG 42=some false∧structOk PG 42=false∧(zeroT PG 42).isSome=true∧zOk PG 42=true∧(PG.underlying 42).isSome=true∧appT PG #[42,42]=some 9:=by and_intros<;>kernel_rfl
theorem u49:Tryz.prog.underlying 49=some (.slice 177):=by kernel_rfl
theorem g49:szT PG 49=1∧byT PG 49=24∧aggT PG 49=some false∧structOk PG 49=false∧(zeroT PG 49).isSome=true∧zOk PG 49=true∧(PG.underlying 49).isSome=true∧appT PG #[49,49]=some 177:=by and_intros<;>kernel_rfl
theorem u50:Tryz.prog.underlying 50=some (.slice 23):=by kernel_rfl
theorem g50:szT PG 50=1∧byT PG 50=24∧aggT PG 50=some false∧structOk PG 50=false∧(zeroT PG 50).isSome=true∧zOk PG 50=true∧(PG.underlying 50).isSome=true∧appT PG #[50,50]=some 23:=by and_intros<;>kernel_rfl
theorem g51:szT PG 51=2∧byT PG 51=40∧aggT PG 51=some true∧structOk PG 51=true∧fieldT PG 51 0=some (9,0)∧fieldT PG 51 1=some (49,1)∧(zeroT PG 51).isSome=true∧zOk PG 51=true∧(PG.underlying 51).isSome=true:=by and_intros<;>kernel_rfl
theorem g52:szT PG 52=2∧byT PG 52=40∧aggT PG 52=some true∧structOk PG 52=true∧fieldT PG 52 0=some (9,0)∧fieldT PG 52 1=some (49,1)∧(zeroT PG 52).isSome=true∧zOk PG 52=true∧(PG.underlying 52).isSome=true:=by and_intros<;>kernel_rfl
theorem g53:szT PG 53=3∧byT PG 53=56∧aggT PG 53=some true∧structOk PG 53=true∧fieldT PG 53 0=some (9,0)∧fieldT PG 53 1=some (52,1)∧(zeroT PG 53).isSome=true∧zOk PG 53=true∧(PG.underlying 53).isSome=true:=by and_intros<;>kernel_rfl
theorem g54:szT PG 54=3∧byT PG 54=56∧aggT PG 54=some true∧structOk PG 54=true∧fieldT PG 54 0=some (9,0)∧fieldT PG 54 1=some (52,1)∧(zeroT PG 54).isSome=true∧zOk PG 54=true∧(PG.underlying 54).isSome=true:=by and_intros<;>kernel_rfl
theorem g55:szT PG 55=14∧byT PG 55=272∧aggT PG 55=some true∧structOk PG 55=true∧fieldT PG 55 0=some (9,0)∧fieldT PG 55 1=some (23,1)∧fieldT PG 55 2=some (49,2)∧fieldT PG 55 3=some (50,3)∧fieldT PG 55 4=some (49,4)∧fieldT PG 55 5=some (3,5)∧fieldT PG 55 6=some (31,6)∧fieldT PG 55 7=some (22,9)∧fieldT PG 55 8=some (3,10)∧fieldT PG 55 9=some (54,11)∧(zeroT PG 55).isSome=true∧zOk PG 55=true∧(PG.underlying 55).isSome=true:=by and_intros<;>kernel_rfl
theorem g56:szT PG 56=14∧byT PG 56=272∧aggT PG 56=some true∧structOk PG 56=true∧fieldT PG 56 0=some (9,0)∧fieldT PG 56 1=some (23,1)∧fieldT PG 56 2=some (49,2)∧fieldT PG 56 3=some (50,3)∧fieldT PG 56 4=some (49,4)∧fieldT PG 56 5=some (3,5)∧fieldT PG 56 6=some (31,6)∧fieldT PG 56 7=some (22,9)∧fieldT PG 56 8=some (3,10)∧fieldT PG 56 9=some (54,11)∧(zeroT PG 56).isSome=true∧zOk PG 56=true∧(PG.underlying 56).isSome=true:=by and_intros<;>kernel_rfl
theorem g57:szT PG 57=16∧byT PG 57=320∧aggT PG 57=some true∧structOk PG 57=true∧fieldT PG 57 0=some (56,0)∧fieldT PG 57 1=some (23,14)∧fieldT PG 57 2=some (23,15)∧(zeroT PG 57).isSome=true∧zOk PG 57=true∧(PG.underlying 57).isSome=true:=by and_intros<;>kernel_rfl
theorem g58:szT PG 58=16∧byT PG 58=320∧structOk PG 58=true∧fieldT PG 58 0=some (56,0)∧fieldT PG 58 1=some (23,14)∧fieldT PG 58 2=some (23,15)∧(zeroT PG 58).isSome=true∧zOk PG 58=true∧(PG.underlying 58).isSome=true:=by and_intros<;>kernel_rfl
theorem ag58:aggT Tryz.prog 58=some true:=by kernel_rfl
theorem u59:Tryz.prog.underlying 59=some (.slice 31):=by kernel_rfl
theorem g59:szT PG 59=1∧byT PG 59=24∧aggT PG 59=some false∧structOk PG 59=false∧(zeroT PG 59).isSome=true∧zOk PG 59=true∧(PG.underlying 59).isSome=true∧appT PG #[59,59]=some 31:=by and_intros<;>kernel_rfl
theorem g69:PG.underlying 69=some (.array 3 3)∧szT PG 69=3∧byT PG 69=24∧aggT PG 69=some true∧structOk PG 69=false∧(zeroT PG 69).isSome=true∧zOk PG 69=true∧(PG.underlying 69).isSome=true:=by and_intros<;>kernel_rfl
theorem g70:szT PG 70=4∧byT PG 70=48∧aggT PG 70=some true∧structOk PG 70=true∧fieldT PG 70 0=some (42,0)∧fieldT PG 70 1=some (69,1)∧(zeroT PG 70).isSome=true∧zOk PG 70=true∧(PG.underlying 70).isSome=true:=by and_intros<;>kernel_rfl
theorem g71:szT PG 71=4∧byT PG 71=48∧aggT PG 71=some true∧structOk PG 71=true∧fieldT PG 71 0=some (42,0)∧fieldT PG 71 1=some (69,1)∧(zeroT PG 71).isSome=true∧zOk PG 71=true∧(PG.underlying 71).isSome=true:=by and_intros<;>kernel_rfl
theorem g77:szT PG 77=3∧byT PG 77=48∧aggT PG 77=some true∧structOk PG 77=true∧fieldT PG 77 0=some (9,0)∧fieldT PG 77 1=some (3,1)∧fieldT PG 77 2=some (23,2)∧(zeroT PG 77).isSome=true∧zOk PG 77=true∧(PG.underlying 77).isSome=true:=by and_intros<;>kernel_rfl
theorem sz78:szT Tryz.prog 78=3:=by kernel_rfl
theorem g78:byT PG 78=48∧structOk PG 78=true∧fieldT PG 78 0=some (9,0)∧fieldT PG 78 1=some (3,1)∧fieldT PG 78 2=some (23,2)∧(zeroT PG 78).isSome=true∧zOk PG 78=true∧(PG.underlying 78).isSome=true:=by and_intros<;>kernel_rfl
theorem ag78:aggT Tryz.prog 78=some true:=by kernel_rfl
theorem g91:szT PG 91=3∧byT PG 91=24∧aggT PG 91=some true∧structOk PG 91=true∧fieldT PG 91 0=some (89,0)∧fieldT PG 91 1=some (64,1)∧fieldT PG 91 2=some (90,2)∧(zeroT PG 91).isSome=true∧zOk PG 91=true∧(PG.underlying 91).isSome=true:=by and_intros<;>kernel_rfl
theorem g92:szT PG 92=3∧byT PG 92=24∧aggT PG 92=some true∧structOk PG 92=true∧fieldT PG 92 0=some (89,0)∧fieldT PG 92 1=some (64,1)∧fieldT PG 92 2=some (90,2)∧(zeroT PG 92).isSome=true∧zOk PG 92=true∧(PG.underlying 92).isSome=true:=by and_intros<;>kernel_rfl
theorem g111:PG.underlying 111=some (.slice 92)∧szT PG 111=1∧byT PG 111=24∧aggT PG 111=some false∧structOk PG 111=false∧(zeroT PG 111).isSome=true∧zOk PG 111=true∧(PG.underlying 111).isSome=true∧appT PG #[111,111]=some 92:=by and_intros<;>kernel_rfl
theorem g121:szT PG 121=3∧byT PG 121=56∧aggT PG 121=some true∧structOk PG 121=true∧fieldT PG 121 0=some (9,0)∧fieldT PG 121 1=some (42,1)∧fieldT PG 121 2=some (9,2)∧(zeroT PG 121).isSome=true∧zOk PG 121=true∧(PG.underlying 121).isSome=true:=by and_intros<;>kernel_rfl
theorem g122:szT PG 122=3∧byT PG 122=56∧aggT PG 122=some true∧structOk PG 122=true∧fieldT PG 122 0=some (9,0)∧fieldT PG 122 1=some (42,1)∧fieldT PG 122 2=some (9,2)∧(zeroT PG 122).isSome=true∧zOk PG 122=true∧(PG.underlying 122).isSome=true:=by and_intros<;>kernel_rfl
theorem g123:PG.underlying 123=some (.array 22 122)∧szT PG 123=66∧byT PG 123=1232∧aggT PG 123=some true∧structOk PG 123=false∧(zeroT PG 123).isSome=true∧zOk PG 123=true∧(PG.underlying 123).isSome=true:=by and_intros<;>kernel_rfl
theorem g142:szT PG 142=5∧byT PG 142=64∧aggT PG 142=some true∧structOk PG 142=true∧fieldT PG 142 0=some (9,0)∧fieldT PG 142 1=some (4,1)∧fieldT PG 142 2=some (23,2)∧fieldT PG 142 3=some (140,3)∧fieldT PG 142 4=some (141,4)∧(zeroT PG 142).isSome=true∧zOk PG 142=true∧(PG.underlying 142).isSome=true:=by and_intros<;>kernel_rfl
theorem g143:szT PG 143=5∧byT PG 143=64∧aggT PG 143=some true∧structOk PG 143=true∧fieldT PG 143 0=some (9,0)∧fieldT PG 143 1=some (4,1)∧fieldT PG 143 2=some (23,2)∧fieldT PG 143 3=some (140,3)∧fieldT PG 143 4=some (141,4)∧(zeroT PG 143).isSome=true∧zOk PG 143=true∧(PG.underlying 143).isSome=true:=by and_intros<;>kernel_rfl
theorem g152:PG.underlying 152=some (.slice 143)∧szT PG 152=1∧byT PG 152=24∧aggT PG 152=some false∧structOk PG 152=false∧(zeroT PG 152).isSome=true∧zOk PG 152=true∧(PG.underlying 152).isSome=true∧appT PG #[152,152]=some 143:=by and_intros<;>kernel_rfl
theorem g160:szT PG 160=4∧byT PG 160=40∧aggT PG 160=some true∧structOk PG 160=true∧fieldT PG 160 0=some (17,0)∧fieldT PG 160 1=some (17,1)∧fieldT PG 160 2=some (17,2)∧fieldT PG 160 3=some (9,3)∧(zeroT PG 160).isSome=true∧zOk PG 160=true∧(PG.underlying 160).isSome=true:=by and_intros<;>kernel_rfl
theorem g161:szT PG 161=4∧byT PG 161=40∧aggT PG 161=some true∧structOk PG 161=true∧fieldT PG 161 0=some (17,0)∧fieldT PG 161 1=some (17,1)∧fieldT PG 161 2=some (17,2)∧fieldT PG 161 3=some (9,3)∧(zeroT PG 161).isSome=true∧zOk PG 161=true∧(PG.underlying 161).isSome=true:=by and_intros<;>kernel_rfl
theorem g162:PG.underlying 162=some (.array 0 16)∧szT PG 162=0∧byT PG 162=0∧aggT PG 162=some true∧structOk PG 162=false∧(zeroT PG 162).isSome=true∧zOk PG 162=true∧(PG.underlying 162).isSome=true:=by and_intros<;>kernel_rfl
theorem g163:szT PG 163=0∧byT PG 163=0∧aggT PG 163=some true∧structOk PG 163=true∧fieldT PG 163 0=some (162,0)∧(zeroT PG 163).isSome=true∧zOk PG 163=true∧(PG.underlying 163).isSome=true:=by and_intros<;>kernel_rfl
theorem g164:szT PG 164=0∧byT PG 164=0∧aggT PG 164=some true∧structOk PG 164=true∧fieldT PG 164 0=some (162,0)∧(zeroT PG 164).isSome=true∧zOk PG 164=true∧(PG.underlying 164).isSome=true:=by and_intros<;>kernel_rfl
theorem g166:PG.underlying 166=some (.int .u32)∧szT PG 166=1∧byT PG 166=4∧aggT PG 166=some false∧structOk PG 166=false∧(zeroT PG 166).isSome=true∧zOk PG 166=true∧(PG.underlying 166).isSome=true:=by and_intros<;>kernel_rfl
theorem g167:PG.underlying 167=some (.int .u8)∧szT PG 167=1∧byT PG 167=1∧aggT PG 167=some false∧structOk PG 167=false∧(zeroT PG 167).isSome=true∧zOk PG 167=true∧(PG.underlying 167).isSome=true:=by and_intros<;>kernel_rfl
theorem g168:PG.underlying 168=some (.int .u8)∧szT PG 168=1∧byT PG 168=1∧aggT PG 168=some false∧structOk PG 168=false∧(zeroT PG 168).isSome=true∧zOk PG 168=true∧(PG.underlying 168).isSome=true:=by and_intros<;>kernel_rfl
theorem g170:PG.underlying 170=some (.pointer 5)∧szT PG 170=1∧byT PG 170=8∧aggT PG 170=some false∧structOk PG 170=false∧(zeroT PG 170).isSome=true∧zOk PG 170=true∧(PG.underlying 170).isSome=true:=by and_intros<;>kernel_rfl
theorem g171:PG.underlying 171=some (.int .i32)∧szT PG 171=1∧byT PG 171=4∧aggT PG 171=some false∧structOk PG 171=false∧(zeroT PG 171).isSome=true∧zOk PG 171=true∧(PG.underlying 171).isSome=true:=by and_intros<;>kernel_rfl
theorem g172:PG.underlying 172=some (.int .i32)∧szT PG 172=1∧byT PG 172=4∧aggT PG 172=some false∧structOk PG 172=false∧(zeroT PG 172).isSome=true∧zOk PG 172=true∧(PG.underlying 172).isSome=true:=by and_intros<;>kernel_rfl
theorem g173:szT PG 173=11∧byT PG 173=48∧aggT PG 173=some true∧structOk PG 173=true∧fieldT PG 173 0=some (12,0)∧fieldT PG 173 1=some (12,1)∧fieldT PG 173 2=some (166,2)∧fieldT PG 173 3=some (167,3)∧fieldT PG 173 4=some (5,4)∧fieldT PG 173 5=some (5,5)∧fieldT PG 173 6=some (168,6)∧fieldT PG 173 7=some (169,7)∧fieldT PG 173 8=some (170,8)∧fieldT PG 173 9=some (171,9)∧fieldT PG 173 10=some (172,10)∧(zeroT PG 173).isSome=true∧zOk PG 173=true∧(PG.underlying 173).isSome=true:=by and_intros<;>kernel_rfl
theorem g174:szT PG 174=11∧byT PG 174=48∧aggT PG 174=some true∧structOk PG 174=true∧fieldT PG 174 0=some (12,0)∧fieldT PG 174 1=some (12,1)∧fieldT PG 174 2=some (166,2)∧fieldT PG 174 3=some (167,3)∧fieldT PG 174 4=some (5,4)∧fieldT PG 174 5=some (5,5)∧fieldT PG 174 6=some (168,6)∧fieldT PG 174 7=some (169,7)∧fieldT PG 174 8=some (170,8)∧fieldT PG 174 9=some (171,9)∧fieldT PG 174 10=some (172,10)∧(zeroT PG 174).isSome=true∧zOk PG 174=true∧(PG.underlying 174).isSome=true:=by and_intros<;>kernel_rfl
theorem g175:PG.underlying 175=some (.slice 180)∧szT PG 175=1∧byT PG 175=24∧aggT PG 175=some false∧structOk PG 175=false∧(zeroT PG 175).isSome=true∧zOk PG 175=true∧(PG.underlying 175).isSome=true∧appT PG #[175,175]=some 180:=by and_intros<;>kernel_rfl
theorem g176:szT PG 176=2∧byT PG 176=32∧aggT PG 176=some true∧structOk PG 176=true∧fieldT PG 176 0=some (3,0)∧fieldT PG 176 1=some (175,1)∧(zeroT PG 176).isSome=true∧zOk PG 176=true∧(PG.underlying 176).isSome=true:=by and_intros<;>kernel_rfl
theorem g177:szT PG 177=2∧byT PG 177=32∧aggT PG 177=some true∧structOk PG 177=true∧fieldT PG 177 0=some (3,0)∧fieldT PG 177 1=some (175,1)∧(zeroT PG 177).isSome=true∧zOk PG 177=true∧(PG.underlying 177).isSome=true:=by and_intros<;>kernel_rfl
theorem g179:szT PG 179=2∧byT PG 179=24∧aggT PG 179=some true∧structOk PG 179=true∧fieldT PG 179 0=some (9,0)∧fieldT PG 179 1=some (3,1)∧seqK PG 179=some [1,0]∧(zeroT PG 179).isSome=true∧zOk PG 179=true∧(PG.underlying 179).isSome=true:=by and_intros<;>kernel_rfl
theorem g180:szT PG 180=2∧byT PG 180=24∧aggT PG 180=some true∧structOk PG 180=true∧fieldT PG 180 0=some (9,0)∧fieldT PG 180 1=some (3,1)∧seqK PG 180=some [1,0]∧(zeroT PG 180).isSome=true∧zOk PG 180=true∧(PG.underlying 180).isSome=true:=by and_intros<;>kernel_rfl
theorem g20:isIfT PG 20=true:=by kernel_rfl
def zerL:List (Nat×AV):=[(2,.lit (.int .i64 0)),
  (3,.lit (.int .i64 0)),
  (4,.lit (.bool false)),
  (5,.lit (.int .u8 0)),
  (6,.lit (.int .u8 0)),
  (7,.agg [.lit (.int .i64 0),.lit (.int .i64 0),.lit (.bool false),.lit (.int .u8 0)]),
  (8,.agg [.lit (.int .i64 0),.lit (.int .i64 0),.lit (.bool false),.lit (.int .u8 0)]),
  (9,.lit (.string ByteArray.empty)),
  (10,.lit (.string ByteArray.empty)),
  (11,.lit (.string ByteArray.empty)),
  (12,.lit (.int .u64 0)),
  (13,.agg [.lit (.string ByteArray.empty),.lit (.int .u64 0)]),
  (14,.agg [.lit (.string ByteArray.empty),.lit (.int .u64 0)]),
  (15,.lit (.pointer none)),
  (16,.lit (.pointer none)),
  (17,.lit (.pointer none)),
  (18,.agg [.lit (.pointer none)]),
  (19,.agg [.lit (.pointer none)]),
  (21,.lit (.int .i32 0)),
  (22,.sl true 3 []),
  (23,.sl true 1 []),
  (30,.agg [.lit (.string ByteArray.empty),.sl true 1 [],.sl true 1 []]),
  (31,.agg [.lit (.string ByteArray.empty),.sl true 1 [],.sl true 1 []]),
  (33,.lit (.int .i64 0)),
  (39,.agg [.sl true 1 [],.sl true 1 []]),
  (42,.sl true 1 []),
  (49,.sl true 2 []),
  (50,.sl true 1 []),
  (51,.agg [.lit (.string ByteArray.empty),.sl true 2 []]),
  (52,.agg [.lit (.string ByteArray.empty),.sl true 2 []]),
  (53,.agg [.lit (.string ByteArray.empty),.lit (.string ByteArray.empty),.sl true 2 []]),
  (54,.agg [.lit (.string ByteArray.empty),.lit (.string ByteArray.empty),.sl true 2 []]),
  (55,.agg [.lit (.string ByteArray.empty),.sl true 1 [],.sl true 2 [],.sl true 1 [],.sl true 2 [],.lit (.int .i64 0),.lit (.string ByteArray.empty),.sl true 1 [],.sl true 1 [],.sl true 3 [],.lit (.int .i64 0),.lit (.string ByteArray.empty),.lit (.string ByteArray.empty),.sl true 2 []]),
  (56,.agg [.lit (.string ByteArray.empty),.sl true 1 [],.sl true 2 [],.sl true 1 [],.sl true 2 [],.lit (.int .i64 0),.lit (.string ByteArray.empty),.sl true 1 [],.sl true 1 [],.sl true 3 [],.lit (.int .i64 0),.lit (.string ByteArray.empty),.lit (.string ByteArray.empty),.sl true 2 []]),
  (57,.agg [.lit (.string ByteArray.empty),.sl true 1 [],.sl true 2 [],.sl true 1 [],.sl true 2 [],.lit (.int .i64 0),.lit (.string ByteArray.empty),.sl true 1 [],.sl true 1 [],.sl true 3 [],.lit (.int .i64 0),.lit (.string ByteArray.empty),.lit (.string ByteArray.empty),.sl true 2 [],.sl true 1 [],.sl true 1 []]),
  (58,.agg [.lit (.string ByteArray.empty),.sl true 1 [],.sl true 2 [],.sl true 1 [],.sl true 2 [],.lit (.int .i64 0),.lit (.string ByteArray.empty),.sl true 1 [],.sl true 1 [],.sl true 3 [],.lit (.int .i64 0),.lit (.string ByteArray.empty),.lit (.string ByteArray.empty),.sl true 2 [],.sl true 1 [],.sl true 1 []]),
  (59,.sl true 3 []),
  (69,.agg [.lit (.int .i64 0),.lit (.int .i64 0),.lit (.int .i64 0)]),
  (70,.agg [.sl true 1 [],.lit (.int .i64 0),.lit (.int .i64 0),.lit (.int .i64 0)]),
  (71,.agg [.sl true 1 [],.lit (.int .i64 0),.lit (.int .i64 0),.lit (.int .i64 0)]),
  (77,.agg [.lit (.string ByteArray.empty),.lit (.int .i64 0),.sl true 1 []]),
  (78,.agg [.lit (.string ByteArray.empty),.lit (.int .i64 0),.sl true 1 []]),
  (91,.agg [.lit .nilFunc,.lit .nilFunc,.lit .nilFunc]),
  (92,.agg [.lit .nilFunc,.lit .nilFunc,.lit .nilFunc]),
  (111,.sl true 3 []),
  (121,.agg [.lit (.string ByteArray.empty),.sl true 1 [],.lit (.string ByteArray.empty)]),
  (122,.agg [.lit (.string ByteArray.empty),.sl true 1 [],.lit (.string ByteArray.empty)]),
  (123,.agg [.lit (.string ByteArray.empty),.sl true 1 [],.lit (.string ByteArray.empty),.lit (.string ByteArray.empty),.sl true 1 [],.lit (.string ByteArray.empty),.lit (.string ByteArray.empty),.sl true 1 [],.lit (.string ByteArray.empty),.lit (.string ByteArray.empty),.sl true 1 [],.lit (.string ByteArray.empty),.lit (.string ByteArray.empty),.sl true 1 [],.lit (.string ByteArray.empty),.lit (.string ByteArray.empty),.sl true 1 [],.lit (.string ByteArray.empty),.lit (.string ByteArray.empty),.sl true 1 [],.lit (.string ByteArray.empty),.lit (.string ByteArray.empty),.sl true 1 [],.lit (.string ByteArray.empty),.lit (.string ByteArray.empty),.sl true 1 [],.lit (.string ByteArray.empty),.lit (.string ByteArray.empty),.sl true 1 [],.lit (.string ByteArray.empty),.lit (.string ByteArray.empty),.sl true 1 [],.lit (.string ByteArray.empty),.lit (.string ByteArray.empty),.sl true 1 [],.lit (.string ByteArray.empty),.lit (.string ByteArray.empty),.sl true 1 [],.lit (.string ByteArray.empty),.lit (.string ByteArray.empty),.sl true 1 [],.lit (.string ByteArray.empty),.lit (.string ByteArray.empty),.sl true 1 [],.lit (.string ByteArray.empty),.lit (.string ByteArray.empty),.sl true 1 [],.lit (.string ByteArray.empty),.lit (.string ByteArray.empty),.sl true 1 [],.lit (.string ByteArray.empty),.lit (.string ByteArray.empty),.sl true 1 [],.lit (.string ByteArray.empty),.lit (.string ByteArray.empty),.sl true 1 [],.lit (.string ByteArray.empty),.lit (.string ByteArray.empty),.sl true 1 [],.lit (.string ByteArray.empty),.lit (.string ByteArray.empty),.sl true 1 [],.lit (.string ByteArray.empty),.lit (.string ByteArray.empty),.sl true 1 [],.lit (.string ByteArray.empty)]),
  (142,.agg [.lit (.string ByteArray.empty),.lit (.bool false),.sl true 1 [],.lit .nilFunc,.lit .nilFunc]),
  (143,.agg [.lit (.string ByteArray.empty),.lit (.bool false),.sl true 1 [],.lit .nilFunc,.lit .nilFunc]),
  (152,.sl true 5 []),
  (160,.agg [.lit (.pointer none),.lit (.pointer none),.lit (.pointer none),.lit (.string ByteArray.empty)]),
  (161,.agg [.lit (.pointer none),.lit (.pointer none),.lit (.pointer none),.lit (.string ByteArray.empty)]),
  (166,.lit (.int .u32 0)),
  (167,.lit (.int .u8 0)),
  (168,.lit (.int .u8 0)),
  (170,.lit (.pointer none)),
  (171,.lit (.int .i32 0)),
  (172,.lit (.int .i32 0)),
  (173,.agg [.lit (.int .u64 0),.lit (.int .u64 0),.lit (.int .u32 0),.lit (.int .u8 0),.lit (.int .u8 0),.lit (.int .u8 0),.lit (.int .u8 0),.lit .nilFunc,.lit (.pointer none),.lit (.int .i32 0),.lit (.int .i32 0)]),
  (174,.agg [.lit (.int .u64 0),.lit (.int .u64 0),.lit (.int .u32 0),.lit (.int .u8 0),.lit (.int .u8 0),.lit (.int .u8 0),.lit (.int .u8 0),.lit .nilFunc,.lit (.pointer none),.lit (.int .i32 0),.lit (.int .i32 0)]),
  (175,.sl true 2 []),
  (176,.agg [.lit (.int .i64 0),.sl true 2 []]),
  (177,.agg [.lit (.int .i64 0),.sl true 2 []]),
  (179,.agg [.lit (.string ByteArray.empty),.lit (.int .i64 0)]),
  (180,.agg [.lit (.string ByteArray.empty),.lit (.int .i64 0)])]
def zer (t:TypeId):AV:=lookZ zerL t
theorem zr2:ZerOk Tryz.prog (2,.lit (.int .i64 0)):=fun v h=>by
  rw [show zeroT Tryz.prog 2=some (.int .i64 0) from by kernel_rfl] at h;cases h;exact .lit _
theorem zv2:zer 2= .lit (.int .i64 0):=rfl
theorem zr3:ZerOk Tryz.prog (3,.lit (.int .i64 0)):=fun v h=>by
  rw [show zeroT Tryz.prog 3=some (.int .i64 0) from by kernel_rfl] at h;cases h;exact .lit _
theorem zv3:zer 3= .lit (.int .i64 0):=rfl
theorem zr4:ZerOk Tryz.prog (4,.lit (.bool false)):=fun v h=>by
  rw [show zeroT Tryz.prog 4=some (.bool false) from by kernel_rfl] at h;cases h;exact .lit _
theorem zv4:zer 4= .lit (.bool false):=rfl
theorem zr5:ZerOk Tryz.prog (5,.lit (.int .u8 0)):=fun v h=>by
  rw [show zeroT Tryz.prog 5=some (.int .u8 0) from by kernel_rfl] at h;cases h;exact .lit _
theorem zv5:zer 5= .lit (.int .u8 0):=rfl
theorem zr6:ZerOk Tryz.prog (6,.lit (.int .u8 0)):=fun v h=>by
  rw [show zeroT Tryz.prog 6=some (.int .u8 0) from by kernel_rfl] at h;cases h;exact .lit _
theorem zv6:zer 6= .lit (.int .u8 0):=rfl
theorem zr7:ZerOk Tryz.prog (7,.agg [.lit (.int .i64 0),.lit (.int .i64 0),.lit (.bool false),.lit (.int .u8 0)]):=fun v h=>by
  rw [show zeroT Tryz.prog 7=some (.agg #[(.int .i64 0),(.int .i64 0),(.bool false),(.int .u8 0)]) from by kernel_rfl] at h;cases h
  exact zr_agg _ _ (zl_cons (.lit _) rfl (zl_cons (.lit _) rfl (zl_cons (.lit _) rfl (zl_cons (.lit _) rfl (zl_nil)))))
theorem zv7:zer 7= .agg [.lit (.int .i64 0),.lit (.int .i64 0),.lit (.bool false),.lit (.int .u8 0)]:=rfl
theorem zr8:ZerOk Tryz.prog (8,.agg [.lit (.int .i64 0),.lit (.int .i64 0),.lit (.bool false),.lit (.int .u8 0)]):=fun v h=>by
  rw [show zeroT Tryz.prog 8=some (.agg #[(.int .i64 0),(.int .i64 0),(.bool false),(.int .u8 0)]) from by kernel_rfl] at h;cases h
  exact zr_agg _ _ (zl_cons (.lit _) rfl (zl_cons (.lit _) rfl (zl_cons (.lit _) rfl (zl_cons (.lit _) rfl (zl_nil)))))
theorem zv8:zer 8= .agg [.lit (.int .i64 0),.lit (.int .i64 0),.lit (.bool false),.lit (.int .u8 0)]:=rfl
theorem zr9:ZerOk Tryz.prog (9,.lit (.string ByteArray.empty)):=fun v h=>by
  rw [show zeroT Tryz.prog 9=some (.string ByteArray.empty) from by kernel_rfl] at h;cases h;exact .lit _
theorem zv9:zer 9= .lit (.string ByteArray.empty):=rfl
theorem zr10:ZerOk Tryz.prog (10,.lit (.string ByteArray.empty)):=fun v h=>by
  rw [show zeroT Tryz.prog 10=some (.string ByteArray.empty) from by kernel_rfl] at h;cases h;exact .lit _
theorem zv10:zer 10= .lit (.string ByteArray.empty):=rfl
theorem zr11:ZerOk Tryz.prog (11,.lit (.string ByteArray.empty)):=fun v h=>by
  rw [show zeroT Tryz.prog 11=some (.string ByteArray.empty) from by kernel_rfl] at h;cases h;exact .lit _
theorem zv11:zer 11= .lit (.string ByteArray.empty):=rfl
theorem zr12:ZerOk Tryz.prog (12,.lit (.int .u64 0)):=fun v h=>by
  rw [show zeroT Tryz.prog 12=some (.int .u64 0) from by kernel_rfl] at h;cases h;exact .lit _
theorem zv12:zer 12= .lit (.int .u64 0):=rfl
theorem zr13:ZerOk Tryz.prog (13,.agg [.lit (.string ByteArray.empty),.lit (.int .u64 0)]):=fun v h=>by
  rw [show zeroT Tryz.prog 13=some (.agg #[(.string ByteArray.empty),(.int .u64 0)]) from by kernel_rfl] at h;cases h
  exact zr_agg _ _ (zl_cons (.lit _) rfl (zl_cons (.lit _) rfl (zl_nil)))
theorem zv13:zer 13= .agg [.lit (.string ByteArray.empty),.lit (.int .u64 0)]:=rfl
theorem zr14:ZerOk Tryz.prog (14,.agg [.lit (.string ByteArray.empty),.lit (.int .u64 0)]):=fun v h=>by
  rw [show zeroT Tryz.prog 14=some (.agg #[(.string ByteArray.empty),(.int .u64 0)]) from by kernel_rfl] at h;cases h
  exact zr_agg _ _ (zl_cons (.lit _) rfl (zl_cons (.lit _) rfl (zl_nil)))
theorem zv14:zer 14= .agg [.lit (.string ByteArray.empty),.lit (.int .u64 0)]:=rfl
theorem zr15:ZerOk Tryz.prog (15,.lit (.pointer none)):=fun v h=>by
  rw [show zeroT Tryz.prog 15=some (.pointer none) from by kernel_rfl] at h;cases h;exact .lit _
theorem zv15:zer 15= .lit (.pointer none):=rfl
theorem zr16:ZerOk Tryz.prog (16,.lit (.pointer none)):=fun v h=>by
  rw [show zeroT Tryz.prog 16=some (.pointer none) from by kernel_rfl] at h;cases h;exact .lit _
theorem zv16:zer 16= .lit (.pointer none):=rfl
theorem zr17:ZerOk Tryz.prog (17,.lit (.pointer none)):=fun v h=>by
  rw [show zeroT Tryz.prog 17=some (.pointer none) from by kernel_rfl] at h;cases h;exact .lit _
theorem zv17:zer 17= .lit (.pointer none):=rfl
theorem zr18:ZerOk Tryz.prog (18,.agg [.lit (.pointer none)]):=fun v h=>by
  rw [show zeroT Tryz.prog 18=some (.agg #[(.pointer none)]) from by kernel_rfl] at h;cases h
  exact zr_agg _ _ (zl_cons (.lit _) rfl (zl_nil))
theorem zv18:zer 18= .agg [.lit (.pointer none)]:=rfl
theorem zr19:ZerOk Tryz.prog (19,.agg [.lit (.pointer none)]):=fun v h=>by
  rw [show zeroT Tryz.prog 19=some (.agg #[(.pointer none)]) from by kernel_rfl] at h;cases h
  exact zr_agg _ _ (zl_cons (.lit _) rfl (zl_nil))
theorem zv19:zer 19= .agg [.lit (.pointer none)]:=rfl
theorem zr21:ZerOk Tryz.prog (21,.lit (.int .i32 0)):=fun v h=>by
  rw [show zeroT Tryz.prog 21=some (.int .i32 0) from by kernel_rfl] at h;cases h;exact .lit _
theorem zv21:zer 21= .lit (.int .i32 0):=rfl
theorem zr22:ZerOk Tryz.prog (22,.sl true 3 []):=fun v h=>by
  rw [show zeroT Tryz.prog 22=some (.slice none 0 0) from by kernel_rfl] at h;cases h;exact .nil _ _ _
theorem zv22:zer 22= .sl true 3 []:=rfl
theorem zr23:ZerOk Tryz.prog (23,.sl true 1 []):=fun v h=>by
  rw [show zeroT Tryz.prog 23=some (.slice none 0 0) from by kernel_rfl] at h;cases h;exact .nil _ _ _
theorem zv23:zer 23= .sl true 1 []:=rfl
theorem zr30:ZerOk Tryz.prog (30,.agg [.lit (.string ByteArray.empty),.sl true 1 [],.sl true 1 []]):=fun v h=>by
  rw [show zeroT Tryz.prog 30=some (.agg #[(.string ByteArray.empty),(.slice none 0 0),(.slice none 0 0)]) from by kernel_rfl] at h;cases h
  exact zr_agg _ _ (zl_cons (.lit _) rfl (zl_cons (.nil _ _ _) rfl (zl_cons (.nil _ _ _) rfl (zl_nil))))
theorem zv30:zer 30= .agg [.lit (.string ByteArray.empty),.sl true 1 [],.sl true 1 []]:=rfl
theorem zr31:ZerOk Tryz.prog (31,.agg [.lit (.string ByteArray.empty),.sl true 1 [],.sl true 1 []]):=fun v h=>by
  rw [show zeroT Tryz.prog 31=some (.agg #[(.string ByteArray.empty),(.slice none 0 0),(.slice none 0 0)]) from by kernel_rfl] at h;cases h
  exact zr_agg _ _ (zl_cons (.lit _) rfl (zl_cons (.nil _ _ _) rfl (zl_cons (.nil _ _ _) rfl (zl_nil))))
theorem zv31:zer 31= .agg [.lit (.string ByteArray.empty),.sl true 1 [],.sl true 1 []]:=rfl
theorem zr33:ZerOk Tryz.prog (33,.lit (.int .i64 0)):=fun v h=>by
  rw [show zeroT Tryz.prog 33=some (.int .i64 0) from by kernel_rfl] at h;cases h;exact .lit _
theorem zv33:zer 33= .lit (.int .i64 0):=rfl
theorem zr39:ZerOk Tryz.prog (39,.agg [.sl true 1 [],.sl true 1 []]):=fun v h=>by
  rw [show zeroT Tryz.prog 39=some (.agg #[(.slice none 0 0),(.slice none 0 0)]) from by kernel_rfl] at h;cases h
  exact zr_agg _ _ (zl_cons (.nil _ _ _) rfl (zl_cons (.nil _ _ _) rfl (zl_nil)))
theorem zv39:zer 39= .agg [.sl true 1 [],.sl true 1 []]:=rfl
theorem zr42:ZerOk Tryz.prog (42,.sl true 1 []):=fun v h=>by
  rw [show zeroT Tryz.prog 42=some (.slice none 0 0) from by kernel_rfl] at h;cases h;exact .nil _ _ _
theorem zv42:zer 42= .sl true 1 []:=rfl
theorem zr49:ZerOk Tryz.prog (49,.sl true 2 []):=fun v h=>by
  rw [show zeroT Tryz.prog 49=some (.slice none 0 0) from by kernel_rfl] at h;cases h;exact .nil _ _ _
theorem zv49:zer 49= .sl true 2 []:=rfl
theorem zr50:ZerOk Tryz.prog (50,.sl true 1 []):=fun v h=>by
  rw [show zeroT Tryz.prog 50=some (.slice none 0 0) from by kernel_rfl] at h;cases h;exact .nil _ _ _
theorem zv50:zer 50= .sl true 1 []:=rfl
theorem zr51:ZerOk Tryz.prog (51,.agg [.lit (.string ByteArray.empty),.sl true 2 []]):=fun v h=>by
  rw [show zeroT Tryz.prog 51=some (.agg #[(.string ByteArray.empty),(.slice none 0 0)]) from by kernel_rfl] at h;cases h
  exact zr_agg _ _ (zl_cons (.lit _) rfl (zl_cons (.nil _ _ _) rfl (zl_nil)))
theorem zv51:zer 51= .agg [.lit (.string ByteArray.empty),.sl true 2 []]:=rfl
theorem zr52:ZerOk Tryz.prog (52,.agg [.lit (.string ByteArray.empty),.sl true 2 []]):=fun v h=>by
  rw [show zeroT Tryz.prog 52=some (.agg #[(.string ByteArray.empty),(.slice none 0 0)]) from by kernel_rfl] at h;cases h
  exact zr_agg _ _ (zl_cons (.lit _) rfl (zl_cons (.nil _ _ _) rfl (zl_nil)))
theorem zv52:zer 52= .agg [.lit (.string ByteArray.empty),.sl true 2 []]:=rfl
theorem zr53:ZerOk Tryz.prog (53,.agg [.lit (.string ByteArray.empty),.lit (.string ByteArray.empty),.sl true 2 []]):=fun v h=>by
  rw [show zeroT Tryz.prog 53=some (.agg #[(.string ByteArray.empty),(.string ByteArray.empty),(.slice none 0 0)]) from by kernel_rfl] at h;cases h
  exact zr_agg _ _ (zl_cons (.lit _) rfl (zl_cons (.lit _) rfl (zl_cons (.nil _ _ _) rfl (zl_nil))))
theorem zv53:zer 53= .agg [.lit (.string ByteArray.empty),.lit (.string ByteArray.empty),.sl true 2 []]:=rfl
theorem zr54:ZerOk Tryz.prog (54,.agg [.lit (.string ByteArray.empty),.lit (.string ByteArray.empty),.sl true 2 []]):=fun v h=>by
  rw [show zeroT Tryz.prog 54=some (.agg #[(.string ByteArray.empty),(.string ByteArray.empty),(.slice none 0 0)]) from by kernel_rfl] at h;cases h
  exact zr_agg _ _ (zl_cons (.lit _) rfl (zl_cons (.lit _) rfl (zl_cons (.nil _ _ _) rfl (zl_nil))))
theorem zv54:zer 54= .agg [.lit (.string ByteArray.empty),.lit (.string ByteArray.empty),.sl true 2 []]:=rfl
theorem zr55:ZerOk Tryz.prog (55,.agg [.lit (.string ByteArray.empty),.sl true 1 [],.sl true 2 [],.sl true 1 [],.sl true 2 [],.lit (.int .i64 0),.lit (.string ByteArray.empty),.sl true 1 [],.sl true 1 [],.sl true 3 [],.lit (.int .i64 0),.lit (.string ByteArray.empty),.lit (.string ByteArray.empty),.sl true 2 []]):=fun v h=>by
  rw [show zeroT Tryz.prog 55=some (.agg #[(.string ByteArray.empty),(.slice none 0 0),(.slice none 0 0),(.slice none 0 0),(.slice none 0 0),(.int .i64 0),(.string ByteArray.empty),(.slice none 0 0),(.slice none 0 0),(.slice none 0 0),(.int .i64 0),(.string ByteArray.empty),(.string ByteArray.empty),(.slice none 0 0)]) from by kernel_rfl] at h;cases h
  exact zr_agg _ _ (zl_cons (.lit _) rfl (zl_cons (.nil _ _ _) rfl (zl_cons (.nil _ _ _) rfl (zl_cons (.nil _ _ _) rfl (zl_cons (.nil _ _ _) rfl (zl_cons (.lit _) rfl (zl_cons (.lit _) rfl (zl_cons (.nil _ _ _) rfl (zl_cons (.nil _ _ _) rfl (zl_cons (.nil _ _ _) rfl (zl_cons (.lit _) rfl (zl_cons (.lit _) rfl (zl_cons (.lit _) rfl (zl_cons (.nil _ _ _) rfl (zl_nil)))))))))))))))
theorem zv55:zer 55= .agg [.lit (.string ByteArray.empty),.sl true 1 [],.sl true 2 [],.sl true 1 [],.sl true 2 [],.lit (.int .i64 0),.lit (.string ByteArray.empty),.sl true 1 [],.sl true 1 [],.sl true 3 [],.lit (.int .i64 0),.lit (.string ByteArray.empty),.lit (.string ByteArray.empty),.sl true 2 []]:=rfl
theorem zr56:ZerOk Tryz.prog (56,.agg [.lit (.string ByteArray.empty),.sl true 1 [],.sl true 2 [],.sl true 1 [],.sl true 2 [],.lit (.int .i64 0),.lit (.string ByteArray.empty),.sl true 1 [],.sl true 1 [],.sl true 3 [],.lit (.int .i64 0),.lit (.string ByteArray.empty),.lit (.string ByteArray.empty),.sl true 2 []]):=fun v h=>by
  rw [show zeroT Tryz.prog 56=some (.agg #[(.string ByteArray.empty),(.slice none 0 0),(.slice none 0 0),(.slice none 0 0),(.slice none 0 0),(.int .i64 0),(.string ByteArray.empty),(.slice none 0 0),(.slice none 0 0),(.slice none 0 0),(.int .i64 0),(.string ByteArray.empty),(.string ByteArray.empty),(.slice none 0 0)]) from by kernel_rfl] at h;cases h
  exact zr_agg _ _ (zl_cons (.lit _) rfl (zl_cons (.nil _ _ _) rfl (zl_cons (.nil _ _ _) rfl (zl_cons (.nil _ _ _) rfl (zl_cons (.nil _ _ _) rfl (zl_cons (.lit _) rfl (zl_cons (.lit _) rfl (zl_cons (.nil _ _ _) rfl (zl_cons (.nil _ _ _) rfl (zl_cons (.nil _ _ _) rfl (zl_cons (.lit _) rfl (zl_cons (.lit _) rfl (zl_cons (.lit _) rfl (zl_cons (.nil _ _ _) rfl (zl_nil)))))))))))))))
theorem zv56:zer 56= .agg [.lit (.string ByteArray.empty),.sl true 1 [],.sl true 2 [],.sl true 1 [],.sl true 2 [],.lit (.int .i64 0),.lit (.string ByteArray.empty),.sl true 1 [],.sl true 1 [],.sl true 3 [],.lit (.int .i64 0),.lit (.string ByteArray.empty),.lit (.string ByteArray.empty),.sl true 2 []]:=rfl
theorem zr57:ZerOk Tryz.prog (57,.agg [.lit (.string ByteArray.empty),.sl true 1 [],.sl true 2 [],.sl true 1 [],.sl true 2 [],.lit (.int .i64 0),.lit (.string ByteArray.empty),.sl true 1 [],.sl true 1 [],.sl true 3 [],.lit (.int .i64 0),.lit (.string ByteArray.empty),.lit (.string ByteArray.empty),.sl true 2 [],.sl true 1 [],.sl true 1 []]):=fun v h=>by
  rw [show zeroT Tryz.prog 57=some (.agg #[(.string ByteArray.empty),(.slice none 0 0),(.slice none 0 0),(.slice none 0 0),(.slice none 0 0),(.int .i64 0),(.string ByteArray.empty),(.slice none 0 0),(.slice none 0 0),(.slice none 0 0),(.int .i64 0),(.string ByteArray.empty),(.string ByteArray.empty),(.slice none 0 0),(.slice none 0 0),(.slice none 0 0)]) from by kernel_rfl] at h;cases h
  exact zr_agg _ _ (zl_cons (.lit _) rfl (zl_cons (.nil _ _ _) rfl (zl_cons (.nil _ _ _) rfl (zl_cons (.nil _ _ _) rfl (zl_cons (.nil _ _ _) rfl (zl_cons (.lit _) rfl (zl_cons (.lit _) rfl (zl_cons (.nil _ _ _) rfl (zl_cons (.nil _ _ _) rfl (zl_cons (.nil _ _ _) rfl (zl_cons (.lit _) rfl (zl_cons (.lit _) rfl (zl_cons (.lit _) rfl (zl_cons (.nil _ _ _) rfl (zl_cons (.nil _ _ _) rfl (zl_cons (.nil _ _ _) rfl (zl_nil)))))))))))))))))
theorem zv57:zer 57= .agg [.lit (.string ByteArray.empty),.sl true 1 [],.sl true 2 [],.sl true 1 [],.sl true 2 [],.lit (.int .i64 0),.lit (.string ByteArray.empty),.sl true 1 [],.sl true 1 [],.sl true 3 [],.lit (.int .i64 0),.lit (.string ByteArray.empty),.lit (.string ByteArray.empty),.sl true 2 [],.sl true 1 [],.sl true 1 []]:=rfl
theorem zr58:ZerOk Tryz.prog (58,.agg [.lit (.string ByteArray.empty),.sl true 1 [],.sl true 2 [],.sl true 1 [],.sl true 2 [],.lit (.int .i64 0),.lit (.string ByteArray.empty),.sl true 1 [],.sl true 1 [],.sl true 3 [],.lit (.int .i64 0),.lit (.string ByteArray.empty),.lit (.string ByteArray.empty),.sl true 2 [],.sl true 1 [],.sl true 1 []]):=fun v h=>by
  rw [show zeroT Tryz.prog 58=some (.agg #[(.string ByteArray.empty),(.slice none 0 0),(.slice none 0 0),(.slice none 0 0),(.slice none 0 0),(.int .i64 0),(.string ByteArray.empty),(.slice none 0 0),(.slice none 0 0),(.slice none 0 0),(.int .i64 0),(.string ByteArray.empty),(.string ByteArray.empty),(.slice none 0 0),(.slice none 0 0),(.slice none 0 0)]) from by kernel_rfl] at h;cases h
  exact zr_agg _ _ (zl_cons (.lit _) rfl (zl_cons (.nil _ _ _) rfl (zl_cons (.nil _ _ _) rfl (zl_cons (.nil _ _ _) rfl (zl_cons (.nil _ _ _) rfl (zl_cons (.lit _) rfl (zl_cons (.lit _) rfl (zl_cons (.nil _ _ _) rfl (zl_cons (.nil _ _ _) rfl (zl_cons (.nil _ _ _) rfl (zl_cons (.lit _) rfl (zl_cons (.lit _) rfl (zl_cons (.lit _) rfl (zl_cons (.nil _ _ _) rfl (zl_cons (.nil _ _ _) rfl (zl_cons (.nil _ _ _) rfl (zl_nil)))))))))))))))))
theorem zv58:zer 58= .agg [.lit (.string ByteArray.empty),.sl true 1 [],.sl true 2 [],.sl true 1 [],.sl true 2 [],.lit (.int .i64 0),.lit (.string ByteArray.empty),.sl true 1 [],.sl true 1 [],.sl true 3 [],.lit (.int .i64 0),.lit (.string ByteArray.empty),.lit (.string ByteArray.empty),.sl true 2 [],.sl true 1 [],.sl true 1 []]:=rfl
theorem zr59:ZerOk Tryz.prog (59,.sl true 3 []):=fun v h=>by
  rw [show zeroT Tryz.prog 59=some (.slice none 0 0) from by kernel_rfl] at h;cases h;exact .nil _ _ _
theorem zv59:zer 59= .sl true 3 []:=rfl
theorem zr69:ZerOk Tryz.prog (69,.agg [.lit (.int .i64 0),.lit (.int .i64 0),.lit (.int .i64 0)]):=fun v h=>by
  rw [show zeroT Tryz.prog 69=some (.agg #[(.int .i64 0),(.int .i64 0),(.int .i64 0)]) from by kernel_rfl] at h;cases h
  exact zr_agg _ _ (zl_cons (.lit _) rfl (zl_cons (.lit _) rfl (zl_cons (.lit _) rfl (zl_nil))))
theorem zv69:zer 69= .agg [.lit (.int .i64 0),.lit (.int .i64 0),.lit (.int .i64 0)]:=rfl
theorem zr70:ZerOk Tryz.prog (70,.agg [.sl true 1 [],.lit (.int .i64 0),.lit (.int .i64 0),.lit (.int .i64 0)]):=fun v h=>by
  rw [show zeroT Tryz.prog 70=some (.agg #[(.slice none 0 0),(.int .i64 0),(.int .i64 0),(.int .i64 0)]) from by kernel_rfl] at h;cases h
  exact zr_agg _ _ (zl_cons (.nil _ _ _) rfl (zl_cons (.lit _) rfl (zl_cons (.lit _) rfl (zl_cons (.lit _) rfl (zl_nil)))))
theorem zv70:zer 70= .agg [.sl true 1 [],.lit (.int .i64 0),.lit (.int .i64 0),.lit (.int .i64 0)]:=rfl
theorem zr71:ZerOk Tryz.prog (71,.agg [.sl true 1 [],.lit (.int .i64 0),.lit (.int .i64 0),.lit (.int .i64 0)]):=fun v h=>by
  rw [show zeroT Tryz.prog 71=some (.agg #[(.slice none 0 0),(.int .i64 0),(.int .i64 0),(.int .i64 0)]) from by kernel_rfl] at h;cases h
  exact zr_agg _ _ (zl_cons (.nil _ _ _) rfl (zl_cons (.lit _) rfl (zl_cons (.lit _) rfl (zl_cons (.lit _) rfl (zl_nil)))))
theorem zv71:zer 71= .agg [.sl true 1 [],.lit (.int .i64 0),.lit (.int .i64 0),.lit (.int .i64 0)]:=rfl
theorem zr77:ZerOk Tryz.prog (77,.agg [.lit (.string ByteArray.empty),.lit (.int .i64 0),.sl true 1 []]):=fun v h=>by
  rw [show zeroT Tryz.prog 77=some (.agg #[(.string ByteArray.empty),(.int .i64 0),(.slice none 0 0)]) from by kernel_rfl] at h;cases h
  exact zr_agg _ _ (zl_cons (.lit _) rfl (zl_cons (.lit _) rfl (zl_cons (.nil _ _ _) rfl (zl_nil))))
theorem zv77:zer 77= .agg [.lit (.string ByteArray.empty),.lit (.int .i64 0),.sl true 1 []]:=rfl
theorem zr78:ZerOk Tryz.prog (78,.agg [.lit (.string ByteArray.empty),.lit (.int .i64 0),.sl true 1 []]):=fun v h=>by
  rw [show zeroT Tryz.prog 78=some (.agg #[(.string ByteArray.empty),(.int .i64 0),(.slice none 0 0)]) from by kernel_rfl] at h;cases h
  exact zr_agg _ _ (zl_cons (.lit _) rfl (zl_cons (.lit _) rfl (zl_cons (.nil _ _ _) rfl (zl_nil))))
theorem zv78:zer 78= .agg [.lit (.string ByteArray.empty),.lit (.int .i64 0),.sl true 1 []]:=rfl
theorem zr91:ZerOk Tryz.prog (91,.agg [.lit .nilFunc,.lit .nilFunc,.lit .nilFunc]):=fun v h=>by
  rw [show zeroT Tryz.prog 91=some (.agg #[.nilFunc,.nilFunc,.nilFunc]) from by kernel_rfl] at h;cases h
  exact zr_agg _ _ (zl_cons (.lit _) rfl (zl_cons (.lit _) rfl (zl_cons (.lit _) rfl (zl_nil))))
theorem zv91:zer 91= .agg [.lit .nilFunc,.lit .nilFunc,.lit .nilFunc]:=rfl
theorem zr92:ZerOk Tryz.prog (92,.agg [.lit .nilFunc,.lit .nilFunc,.lit .nilFunc]):=fun v h=>by
  rw [show zeroT Tryz.prog 92=some (.agg #[.nilFunc,.nilFunc,.nilFunc]) from by kernel_rfl] at h;cases h
  exact zr_agg _ _ (zl_cons (.lit _) rfl (zl_cons (.lit _) rfl (zl_cons (.lit _) rfl (zl_nil))))
theorem zv92:zer 92= .agg [.lit .nilFunc,.lit .nilFunc,.lit .nilFunc]:=rfl
theorem zr111:ZerOk Tryz.prog (111,.sl true 3 []):=fun v h=>by
  rw [show zeroT Tryz.prog 111=some (.slice none 0 0) from by kernel_rfl] at h;cases h;exact .nil _ _ _
theorem zv111:zer 111= .sl true 3 []:=rfl
theorem zr121:ZerOk Tryz.prog (121,.agg [.lit (.string ByteArray.empty),.sl true 1 [],.lit (.string ByteArray.empty)]):=fun v h=>by
  rw [show zeroT Tryz.prog 121=some (.agg #[(.string ByteArray.empty),(.slice none 0 0),(.string ByteArray.empty)]) from by kernel_rfl] at h;cases h
  exact zr_agg _ _ (zl_cons (.lit _) rfl (zl_cons (.nil _ _ _) rfl (zl_cons (.lit _) rfl (zl_nil))))
theorem zv121:zer 121= .agg [.lit (.string ByteArray.empty),.sl true 1 [],.lit (.string ByteArray.empty)]:=rfl
theorem zr122:ZerOk Tryz.prog (122,.agg [.lit (.string ByteArray.empty),.sl true 1 [],.lit (.string ByteArray.empty)]):=fun v h=>by
  rw [show zeroT Tryz.prog 122=some (.agg #[(.string ByteArray.empty),(.slice none 0 0),(.string ByteArray.empty)]) from by kernel_rfl] at h;cases h
  exact zr_agg _ _ (zl_cons (.lit _) rfl (zl_cons (.nil _ _ _) rfl (zl_cons (.lit _) rfl (zl_nil))))
theorem zv122:zer 122= .agg [.lit (.string ByteArray.empty),.sl true 1 [],.lit (.string ByteArray.empty)]:=rfl
theorem zr123:ZerOk Tryz.prog (123,.agg [.lit (.string ByteArray.empty),.sl true 1 [],.lit (.string ByteArray.empty),.lit (.string ByteArray.empty),.sl true 1 [],.lit (.string ByteArray.empty),.lit (.string ByteArray.empty),.sl true 1 [],.lit (.string ByteArray.empty),.lit (.string ByteArray.empty),.sl true 1 [],.lit (.string ByteArray.empty),.lit (.string ByteArray.empty),.sl true 1 [],.lit (.string ByteArray.empty),.lit (.string ByteArray.empty),.sl true 1 [],.lit (.string ByteArray.empty),.lit (.string ByteArray.empty),.sl true 1 [],.lit (.string ByteArray.empty),.lit (.string ByteArray.empty),.sl true 1 [],.lit (.string ByteArray.empty),.lit (.string ByteArray.empty),.sl true 1 [],.lit (.string ByteArray.empty),.lit (.string ByteArray.empty),.sl true 1 [],.lit (.string ByteArray.empty),.lit (.string ByteArray.empty),.sl true 1 [],.lit (.string ByteArray.empty),.lit (.string ByteArray.empty),.sl true 1 [],.lit (.string ByteArray.empty),.lit (.string ByteArray.empty),.sl true 1 [],.lit (.string ByteArray.empty),.lit (.string ByteArray.empty),.sl true 1 [],.lit (.string ByteArray.empty),.lit (.string ByteArray.empty),.sl true 1 [],.lit (.string ByteArray.empty),.lit (.string ByteArray.empty),.sl true 1 [],.lit (.string ByteArray.empty),.lit (.string ByteArray.empty),.sl true 1 [],.lit (.string ByteArray.empty),.lit (.string ByteArray.empty),.sl true 1 [],.lit (.string ByteArray.empty),.lit (.string ByteArray.empty),.sl true 1 [],.lit (.string ByteArray.empty),.lit (.string ByteArray.empty),.sl true 1 [],.lit (.string ByteArray.empty),.lit (.string ByteArray.empty),.sl true 1 [],.lit (.string ByteArray.empty),.lit (.string ByteArray.empty),.sl true 1 [],.lit (.string ByteArray.empty)]):=fun v h=>by
  rw [show zeroT Tryz.prog 123=some (.agg #[(.string ByteArray.empty),(.slice none 0 0),(.string ByteArray.empty),(.string ByteArray.empty),(.slice none 0 0),(.string ByteArray.empty),(.string ByteArray.empty),(.slice none 0 0),(.string ByteArray.empty),(.string ByteArray.empty),(.slice none 0 0),(.string ByteArray.empty),(.string ByteArray.empty),(.slice none 0 0),(.string ByteArray.empty),(.string ByteArray.empty),(.slice none 0 0),(.string ByteArray.empty),(.string ByteArray.empty),(.slice none 0 0),(.string ByteArray.empty),(.string ByteArray.empty),(.slice none 0 0),(.string ByteArray.empty),(.string ByteArray.empty),(.slice none 0 0),(.string ByteArray.empty),(.string ByteArray.empty),(.slice none 0 0),(.string ByteArray.empty),(.string ByteArray.empty),(.slice none 0 0),(.string ByteArray.empty),(.string ByteArray.empty),(.slice none 0 0),(.string ByteArray.empty),(.string ByteArray.empty),(.slice none 0 0),(.string ByteArray.empty),(.string ByteArray.empty),(.slice none 0 0),(.string ByteArray.empty),(.string ByteArray.empty),(.slice none 0 0),(.string ByteArray.empty),(.string ByteArray.empty),(.slice none 0 0),(.string ByteArray.empty),(.string ByteArray.empty),(.slice none 0 0),(.string ByteArray.empty),(.string ByteArray.empty),(.slice none 0 0),(.string ByteArray.empty),(.string ByteArray.empty),(.slice none 0 0),(.string ByteArray.empty),(.string ByteArray.empty),(.slice none 0 0),(.string ByteArray.empty),(.string ByteArray.empty),(.slice none 0 0),(.string ByteArray.empty),(.string ByteArray.empty),(.slice none 0 0),(.string ByteArray.empty)]) from by kernel_rfl] at h;cases h
  exact zr_agg _ _ (zl_cons (.lit _) rfl (zl_cons (.nil _ _ _) rfl (zl_cons (.lit _) rfl (zl_cons (.lit _) rfl (zl_cons (.nil _ _ _) rfl (zl_cons (.lit _) rfl (zl_cons (.lit _) rfl (zl_cons (.nil _ _ _) rfl (zl_cons (.lit _) rfl (zl_cons (.lit _) rfl (zl_cons (.nil _ _ _) rfl (zl_cons (.lit _) rfl (zl_cons (.lit _) rfl (zl_cons (.nil _ _ _) rfl (zl_cons (.lit _) rfl (zl_cons (.lit _) rfl (zl_cons (.nil _ _ _) rfl (zl_cons (.lit _) rfl (zl_cons (.lit _) rfl (zl_cons (.nil _ _ _) rfl (zl_cons (.lit _) rfl (zl_cons (.lit _) rfl (zl_cons (.nil _ _ _) rfl (zl_cons (.lit _) rfl (zl_cons (.lit _) rfl (zl_cons (.nil _ _ _) rfl (zl_cons (.lit _) rfl (zl_cons (.lit _) rfl (zl_cons (.nil _ _ _) rfl (zl_cons (.lit _) rfl (zl_cons (.lit _) rfl (zl_cons (.nil _ _ _) rfl (zl_cons (.lit _) rfl (zl_cons (.lit _) rfl (zl_cons (.nil _ _ _) rfl (zl_cons (.lit _) rfl (zl_cons (.lit _) rfl (zl_cons (.nil _ _ _) rfl (zl_cons (.lit _) rfl (zl_cons (.lit _) rfl (zl_cons (.nil _ _ _) rfl (zl_cons (.lit _) rfl (zl_cons (.lit _) rfl (zl_cons (.nil _ _ _) rfl (zl_cons (.lit _) rfl (zl_cons (.lit _) rfl (zl_cons (.nil _ _ _) rfl (zl_cons (.lit _) rfl (zl_cons (.lit _) rfl (zl_cons (.nil _ _ _) rfl (zl_cons (.lit _) rfl (zl_cons (.lit _) rfl (zl_cons (.nil _ _ _) rfl (zl_cons (.lit _) rfl (zl_cons (.lit _) rfl (zl_cons (.nil _ _ _) rfl (zl_cons (.lit _) rfl (zl_cons (.lit _) rfl (zl_cons (.nil _ _ _) rfl (zl_cons (.lit _) rfl (zl_cons (.lit _) rfl (zl_cons (.nil _ _ _) rfl (zl_cons (.lit _) rfl (zl_cons (.lit _) rfl (zl_cons (.nil _ _ _) rfl (zl_cons (.lit _) rfl (zl_nil)))))))))))))))))))))))))))))))))))))))))))))))))))))))))))))))))))
theorem zv123:zer 123= .agg [.lit (.string ByteArray.empty),.sl true 1 [],.lit (.string ByteArray.empty),.lit (.string ByteArray.empty),.sl true 1 [],.lit (.string ByteArray.empty),.lit (.string ByteArray.empty),.sl true 1 [],.lit (.string ByteArray.empty),.lit (.string ByteArray.empty),.sl true 1 [],.lit (.string ByteArray.empty),.lit (.string ByteArray.empty),.sl true 1 [],.lit (.string ByteArray.empty),.lit (.string ByteArray.empty),.sl true 1 [],.lit (.string ByteArray.empty),.lit (.string ByteArray.empty),.sl true 1 [],.lit (.string ByteArray.empty),.lit (.string ByteArray.empty),.sl true 1 [],.lit (.string ByteArray.empty),.lit (.string ByteArray.empty),.sl true 1 [],.lit (.string ByteArray.empty),.lit (.string ByteArray.empty),.sl true 1 [],.lit (.string ByteArray.empty),.lit (.string ByteArray.empty),.sl true 1 [],.lit (.string ByteArray.empty),.lit (.string ByteArray.empty),.sl true 1 [],.lit (.string ByteArray.empty),.lit (.string ByteArray.empty),.sl true 1 [],.lit (.string ByteArray.empty),.lit (.string ByteArray.empty),.sl true 1 [],.lit (.string ByteArray.empty),.lit (.string ByteArray.empty),.sl true 1 [],.lit (.string ByteArray.empty),.lit (.string ByteArray.empty),.sl true 1 [],.lit (.string ByteArray.empty),.lit (.string ByteArray.empty),.sl true 1 [],.lit (.string ByteArray.empty),.lit (.string ByteArray.empty),.sl true 1 [],.lit (.string ByteArray.empty),.lit (.string ByteArray.empty),.sl true 1 [],.lit (.string ByteArray.empty),.lit (.string ByteArray.empty),.sl true 1 [],.lit (.string ByteArray.empty),.lit (.string ByteArray.empty),.sl true 1 [],.lit (.string ByteArray.empty),.lit (.string ByteArray.empty),.sl true 1 [],.lit (.string ByteArray.empty)]:=rfl
theorem zr142:ZerOk Tryz.prog (142,.agg [.lit (.string ByteArray.empty),.lit (.bool false),.sl true 1 [],.lit .nilFunc,.lit .nilFunc]):=fun v h=>by
  rw [show zeroT Tryz.prog 142=some (.agg #[(.string ByteArray.empty),(.bool false),(.slice none 0 0),.nilFunc,.nilFunc]) from by kernel_rfl] at h;cases h
  exact zr_agg _ _ (zl_cons (.lit _) rfl (zl_cons (.lit _) rfl (zl_cons (.nil _ _ _) rfl (zl_cons (.lit _) rfl (zl_cons (.lit _) rfl (zl_nil))))))
theorem zv142:zer 142= .agg [.lit (.string ByteArray.empty),.lit (.bool false),.sl true 1 [],.lit .nilFunc,.lit .nilFunc]:=rfl
theorem zr143:ZerOk Tryz.prog (143,.agg [.lit (.string ByteArray.empty),.lit (.bool false),.sl true 1 [],.lit .nilFunc,.lit .nilFunc]):=fun v h=>by
  rw [show zeroT Tryz.prog 143=some (.agg #[(.string ByteArray.empty),(.bool false),(.slice none 0 0),.nilFunc,.nilFunc]) from by kernel_rfl] at h;cases h
  exact zr_agg _ _ (zl_cons (.lit _) rfl (zl_cons (.lit _) rfl (zl_cons (.nil _ _ _) rfl (zl_cons (.lit _) rfl (zl_cons (.lit _) rfl (zl_nil))))))
theorem zv143:zer 143= .agg [.lit (.string ByteArray.empty),.lit (.bool false),.sl true 1 [],.lit .nilFunc,.lit .nilFunc]:=rfl
theorem zr152:ZerOk Tryz.prog (152,.sl true 5 []):=fun v h=>by
  rw [show zeroT Tryz.prog 152=some (.slice none 0 0) from by kernel_rfl] at h;cases h;exact .nil _ _ _
theorem zv152:zer 152= .sl true 5 []:=rfl
theorem zr160:ZerOk Tryz.prog (160,.agg [.lit (.pointer none),.lit (.pointer none),.lit (.pointer none),.lit (.string ByteArray.empty)]):=fun v h=>by
  rw [show zeroT Tryz.prog 160=some (.agg #[(.pointer none),(.pointer none),(.pointer none),(.string ByteArray.empty)]) from by kernel_rfl] at h;cases h
  exact zr_agg _ _ (zl_cons (.lit _) rfl (zl_cons (.lit _) rfl (zl_cons (.lit _) rfl (zl_cons (.lit _) rfl (zl_nil)))))
theorem zv160:zer 160= .agg [.lit (.pointer none),.lit (.pointer none),.lit (.pointer none),.lit (.string ByteArray.empty)]:=rfl
theorem zr161:ZerOk Tryz.prog (161,.agg [.lit (.pointer none),.lit (.pointer none),.lit (.pointer none),.lit (.string ByteArray.empty)]):=fun v h=>by
  rw [show zeroT Tryz.prog 161=some (.agg #[(.pointer none),(.pointer none),(.pointer none),(.string ByteArray.empty)]) from by kernel_rfl] at h;cases h
  exact zr_agg _ _ (zl_cons (.lit _) rfl (zl_cons (.lit _) rfl (zl_cons (.lit _) rfl (zl_cons (.lit _) rfl (zl_nil)))))
theorem zv161:zer 161= .agg [.lit (.pointer none),.lit (.pointer none),.lit (.pointer none),.lit (.string ByteArray.empty)]:=rfl
theorem zr166:ZerOk Tryz.prog (166,.lit (.int .u32 0)):=fun v h=>by
  rw [show zeroT Tryz.prog 166=some (.int .u32 0) from by kernel_rfl] at h;cases h;exact .lit _
theorem zv166:zer 166= .lit (.int .u32 0):=rfl
theorem zr167:ZerOk Tryz.prog (167,.lit (.int .u8 0)):=fun v h=>by
  rw [show zeroT Tryz.prog 167=some (.int .u8 0) from by kernel_rfl] at h;cases h;exact .lit _
theorem zv167:zer 167= .lit (.int .u8 0):=rfl
theorem zr168:ZerOk Tryz.prog (168,.lit (.int .u8 0)):=fun v h=>by
  rw [show zeroT Tryz.prog 168=some (.int .u8 0) from by kernel_rfl] at h;cases h;exact .lit _
theorem zv168:zer 168= .lit (.int .u8 0):=rfl
theorem zr170:ZerOk Tryz.prog (170,.lit (.pointer none)):=fun v h=>by
  rw [show zeroT Tryz.prog 170=some (.pointer none) from by kernel_rfl] at h;cases h;exact .lit _
theorem zv170:zer 170= .lit (.pointer none):=rfl
theorem zr171:ZerOk Tryz.prog (171,.lit (.int .i32 0)):=fun v h=>by
  rw [show zeroT Tryz.prog 171=some (.int .i32 0) from by kernel_rfl] at h;cases h;exact .lit _
theorem zv171:zer 171= .lit (.int .i32 0):=rfl
theorem zr172:ZerOk Tryz.prog (172,.lit (.int .i32 0)):=fun v h=>by
  rw [show zeroT Tryz.prog 172=some (.int .i32 0) from by kernel_rfl] at h;cases h;exact .lit _
theorem zv172:zer 172= .lit (.int .i32 0):=rfl
theorem zr173:ZerOk Tryz.prog (173,.agg [.lit (.int .u64 0),.lit (.int .u64 0),.lit (.int .u32 0),.lit (.int .u8 0),.lit (.int .u8 0),.lit (.int .u8 0),.lit (.int .u8 0),.lit .nilFunc,.lit (.pointer none),.lit (.int .i32 0),.lit (.int .i32 0)]):=fun v h=>by
  rw [show zeroT Tryz.prog 173=some (.agg #[(.int .u64 0),(.int .u64 0),(.int .u32 0),(.int .u8 0),(.int .u8 0),(.int .u8 0),(.int .u8 0),.nilFunc,(.pointer none),(.int .i32 0),(.int .i32 0)]) from by kernel_rfl] at h;cases h
  exact zr_agg _ _ (zl_cons (.lit _) rfl (zl_cons (.lit _) rfl (zl_cons (.lit _) rfl (zl_cons (.lit _) rfl (zl_cons (.lit _) rfl (zl_cons (.lit _) rfl (zl_cons (.lit _) rfl (zl_cons (.lit _) rfl (zl_cons (.lit _) rfl (zl_cons (.lit _) rfl (zl_cons (.lit _) rfl (zl_nil))))))))))))
theorem zv173:zer 173= .agg [.lit (.int .u64 0),.lit (.int .u64 0),.lit (.int .u32 0),.lit (.int .u8 0),.lit (.int .u8 0),.lit (.int .u8 0),.lit (.int .u8 0),.lit .nilFunc,.lit (.pointer none),.lit (.int .i32 0),.lit (.int .i32 0)]:=rfl
theorem zr174:ZerOk Tryz.prog (174,.agg [.lit (.int .u64 0),.lit (.int .u64 0),.lit (.int .u32 0),.lit (.int .u8 0),.lit (.int .u8 0),.lit (.int .u8 0),.lit (.int .u8 0),.lit .nilFunc,.lit (.pointer none),.lit (.int .i32 0),.lit (.int .i32 0)]):=fun v h=>by
  rw [show zeroT Tryz.prog 174=some (.agg #[(.int .u64 0),(.int .u64 0),(.int .u32 0),(.int .u8 0),(.int .u8 0),(.int .u8 0),(.int .u8 0),.nilFunc,(.pointer none),(.int .i32 0),(.int .i32 0)]) from by kernel_rfl] at h;cases h
  exact zr_agg _ _ (zl_cons (.lit _) rfl (zl_cons (.lit _) rfl (zl_cons (.lit _) rfl (zl_cons (.lit _) rfl (zl_cons (.lit _) rfl (zl_cons (.lit _) rfl (zl_cons (.lit _) rfl (zl_cons (.lit _) rfl (zl_cons (.lit _) rfl (zl_cons (.lit _) rfl (zl_cons (.lit _) rfl (zl_nil))))))))))))
theorem zv174:zer 174= .agg [.lit (.int .u64 0),.lit (.int .u64 0),.lit (.int .u32 0),.lit (.int .u8 0),.lit (.int .u8 0),.lit (.int .u8 0),.lit (.int .u8 0),.lit .nilFunc,.lit (.pointer none),.lit (.int .i32 0),.lit (.int .i32 0)]:=rfl
theorem zr175:ZerOk Tryz.prog (175,.sl true 2 []):=fun v h=>by
  rw [show zeroT Tryz.prog 175=some (.slice none 0 0) from by kernel_rfl] at h;cases h;exact .nil _ _ _
theorem zv175:zer 175= .sl true 2 []:=rfl
theorem zr176:ZerOk Tryz.prog (176,.agg [.lit (.int .i64 0),.sl true 2 []]):=fun v h=>by
  rw [show zeroT Tryz.prog 176=some (.agg #[(.int .i64 0),(.slice none 0 0)]) from by kernel_rfl] at h;cases h
  exact zr_agg _ _ (zl_cons (.lit _) rfl (zl_cons (.nil _ _ _) rfl (zl_nil)))
theorem zv176:zer 176= .agg [.lit (.int .i64 0),.sl true 2 []]:=rfl
theorem zr177:ZerOk Tryz.prog (177,.agg [.lit (.int .i64 0),.sl true 2 []]):=fun v h=>by
  rw [show zeroT Tryz.prog 177=some (.agg #[(.int .i64 0),(.slice none 0 0)]) from by kernel_rfl] at h;cases h
  exact zr_agg _ _ (zl_cons (.lit _) rfl (zl_cons (.nil _ _ _) rfl (zl_nil)))
theorem zv177:zer 177= .agg [.lit (.int .i64 0),.sl true 2 []]:=rfl
theorem zr179:ZerOk Tryz.prog (179,.agg [.lit (.string ByteArray.empty),.lit (.int .i64 0)]):=fun v h=>by
  rw [show zeroT Tryz.prog 179=some (.agg #[(.string ByteArray.empty),(.int .i64 0)]) from by kernel_rfl] at h;cases h
  exact zr_agg _ _ (zl_cons (.lit _) rfl (zl_cons (.lit _) rfl (zl_nil)))
theorem zv179:zer 179= .agg [.lit (.string ByteArray.empty),.lit (.int .i64 0)]:=rfl
theorem zr180:ZerOk Tryz.prog (180,.agg [.lit (.string ByteArray.empty),.lit (.int .i64 0)]):=fun v h=>by
  rw [show zeroT Tryz.prog 180=some (.agg #[(.string ByteArray.empty),(.int .i64 0)]) from by kernel_rfl] at h;cases h
  exact zr_agg _ _ (zl_cons (.lit _) rfl (zl_cons (.lit _) rfl (zl_nil)))
theorem zv180:zer 180= .agg [.lit (.string ByteArray.empty),.lit (.int .i64 0)]:=rfl
theorem zer_ok:∀ t v,zeroT Tryz.prog t=some v→RC (fun _ _=>none) (zer t) v:=zer_sound zerL (zs_cons zr2 (zs_cons zr3 (zs_cons zr4 (zs_cons zr5 (zs_cons zr6 (zs_cons zr7 (zs_cons zr8 (zs_cons zr9 (zs_cons zr10 (zs_cons zr11 (zs_cons zr12 (zs_cons zr13 (zs_cons zr14 (zs_cons zr15 (zs_cons zr16 (zs_cons zr17 (zs_cons zr18 (zs_cons zr19 (zs_cons zr21 (zs_cons zr22 (zs_cons zr23 (zs_cons zr30 (zs_cons zr31 (zs_cons zr33 (zs_cons zr39 (zs_cons zr42 (zs_cons zr49 (zs_cons zr50 (zs_cons zr51 (zs_cons zr52 (zs_cons zr53 (zs_cons zr54 (zs_cons zr55 (zs_cons zr56 (zs_cons zr57 (zs_cons zr58 (zs_cons zr59 (zs_cons zr69 (zs_cons zr70 (zs_cons zr71 (zs_cons zr77 (zs_cons zr78 (zs_cons zr91 (zs_cons zr92 (zs_cons zr111 (zs_cons zr121 (zs_cons zr122 (zs_cons zr123 (zs_cons zr142 (zs_cons zr143 (zs_cons zr152 (zs_cons zr160 (zs_cons zr161 (zs_cons zr166 (zs_cons zr167 (zs_cons zr168 (zs_cons zr170 (zs_cons zr171 (zs_cons zr172 (zs_cons zr173 (zs_cons zr174 (zs_cons zr175 (zs_cons zr176 (zs_cons zr177 (zs_cons zr179 (zs_cons zr180 (zs_nil)))))))))))))))))))))))))))))))))))))))))))))))))))))))))))))))))))
theorem mixed:Tryz.prog.follows .mixedOrders=true:=by kernel_rfl
theorem fk9:fok Tryz.prog 9=true:=by kernel_rfl
theorem fk10:fok Tryz.prog 10=true:=by kernel_rfl
theorem fk11:fok Tryz.prog 11=true:=by kernel_rfl
theorem fk13:fok Tryz.prog 13=true:=by kernel_rfl
theorem fk15:fok Tryz.prog 15=true:=by kernel_rfl
theorem fk16:fok Tryz.prog 16=true:=by kernel_rfl
theorem fk18:fok Tryz.prog 18=true:=by kernel_rfl
theorem fk20:fok Tryz.prog 20=true:=by kernel_rfl
theorem fk22:fok Tryz.prog 22=true:=by kernel_rfl
theorem fk23:fok Tryz.prog 23=true:=by kernel_rfl
theorem fk24:fok Tryz.prog 24=true:=by kernel_rfl
theorem fk25:fok Tryz.prog 25=true:=by kernel_rfl
theorem fk26:fok Tryz.prog 26=true:=by kernel_rfl
theorem fk27:fok Tryz.prog 27=true:=by kernel_rfl
theorem fk28:fok Tryz.prog 28=true:=by kernel_rfl
theorem fk29:fok Tryz.prog 29=true:=by kernel_rfl
theorem fk30:fok Tryz.prog 30=true:=by kernel_rfl
theorem fk31:fok Tryz.prog 31=true:=by kernel_rfl
theorem fk32:fok Tryz.prog 32=true:=by kernel_rfl
theorem fk33:fok Tryz.prog 33=true:=by kernel_rfl
theorem fk34:fok Tryz.prog 34=true:=by kernel_rfl
theorem fk37:fok Tryz.prog 37=true:=by kernel_rfl
theorem fk38:fok Tryz.prog 38=true:=by kernel_rfl
theorem fk40:fok Tryz.prog 40=true:=by kernel_rfl
theorem fk41:fok Tryz.prog 41=true:=by kernel_rfl
theorem fk42:fok Tryz.prog 42=true:=by kernel_rfl
theorem fk43:fok Tryz.prog 43=true:=by kernel_rfl
theorem fk44:fok Tryz.prog 44=true:=by kernel_rfl
theorem fk45:fok Tryz.prog 45=true:=by kernel_rfl
theorem fk46:fok Tryz.prog 46=true:=by kernel_rfl
theorem fk47:fok Tryz.prog 47=true:=by kernel_rfl
theorem fk48:fok Tryz.prog 48=true:=by kernel_rfl
theorem fk50:fok Tryz.prog 50=true:=by kernel_rfl
theorem fk51:fok Tryz.prog 51=true:=by kernel_rfl
theorem fk52:fok Tryz.prog 52=true:=by kernel_rfl
theorem fk53:fok Tryz.prog 53=true:=by kernel_rfl
theorem fk54:fok Tryz.prog 54=true:=by kernel_rfl
theorem fk55:fok Tryz.prog 55=true:=by kernel_rfl
theorem fk56:fok Tryz.prog 56=true:=by kernel_rfl
theorem fk57:fok Tryz.prog 57=true:=by kernel_rfl
theorem fk58:fok Tryz.prog 58=true:=by kernel_rfl
theorem fk59:fok Tryz.prog 59=true:=by kernel_rfl
theorem fk60:fok Tryz.prog 60=true:=by kernel_rfl
theorem fk61:fok Tryz.prog 61=true:=by kernel_rfl
theorem fk62:fok Tryz.prog 62=true:=by kernel_rfl
theorem fk63:fok Tryz.prog 63=true:=by kernel_rfl
theorem fk64:fok Tryz.prog 64=true:=by kernel_rfl
theorem fk65:fok Tryz.prog 65=true:=by kernel_rfl
theorem fk68:fok Tryz.prog 68=true:=by kernel_rfl
theorem fk69:fok Tryz.prog 69=true:=by kernel_rfl
theorem fk70:fok Tryz.prog 70=true:=by kernel_rfl
theorem fk71:fok Tryz.prog 71=true:=by kernel_rfl
theorem fk72:fok Tryz.prog 72=true:=by kernel_rfl
theorem fk73:fok Tryz.prog 73=true:=by kernel_rfl
theorem fk74:fok Tryz.prog 74=true:=by kernel_rfl
theorem fk75:fok Tryz.prog 75=true:=by kernel_rfl
theorem fk77:fok Tryz.prog 77=true:=by kernel_rfl
theorem fk78:fok Tryz.prog 78=true:=by kernel_rfl
theorem fk79:fok Tryz.prog 79=true:=by kernel_rfl
theorem fk80:fok Tryz.prog 80=true:=by kernel_rfl
theorem fk81:fok Tryz.prog 81=true:=by kernel_rfl
theorem fk82:fok Tryz.prog 82=true:=by kernel_rfl
theorem fk83:fok Tryz.prog 83=true:=by kernel_rfl
theorem fk84:fok Tryz.prog 84=true:=by kernel_rfl
theorem fk85:fok Tryz.prog 85=true:=by kernel_rfl
theorem fk86:fok Tryz.prog 86=true:=by kernel_rfl
theorem fk87:fok Tryz.prog 87=true:=by kernel_rfl
theorem fk88:fok Tryz.prog 88=true:=by kernel_rfl
theorem fk89:fok Tryz.prog 89=true:=by kernel_rfl
theorem fk90:fok Tryz.prog 90=true:=by kernel_rfl
theorem fk91:fok Tryz.prog 91=true:=by kernel_rfl
theorem fk92:fok Tryz.prog 92=true:=by kernel_rfl
theorem fk93:fok Tryz.prog 93=true:=by kernel_rfl
theorem fk94:fok Tryz.prog 94=true:=by kernel_rfl
theorem fk95:fok Tryz.prog 95=true:=by kernel_rfl
theorem fk96:fok Tryz.prog 96=true:=by kernel_rfl
theorem fk97:fok Tryz.prog 97=true:=by kernel_rfl
theorem fk98:fok Tryz.prog 98=true:=by kernel_rfl
theorem fk99:fok Tryz.prog 99=true:=by kernel_rfl
theorem fk100:fok Tryz.prog 100=true:=by kernel_rfl
theorem fk101:fok Tryz.prog 101=true:=by kernel_rfl
theorem fk102:fok Tryz.prog 102=true:=by kernel_rfl
theorem fk103:fok Tryz.prog 103=true:=by kernel_rfl
theorem fk104:fok Tryz.prog 104=true:=by kernel_rfl
theorem fk105:fok Tryz.prog 105=true:=by kernel_rfl
theorem fk106:fok Tryz.prog 106=true:=by kernel_rfl
theorem fk107:fok Tryz.prog 107=true:=by kernel_rfl
theorem fk108:fok Tryz.prog 108=true:=by kernel_rfl
theorem fk110:fok Tryz.prog 110=true:=by kernel_rfl
theorem fk111:fok Tryz.prog 111=true:=by kernel_rfl
theorem fk112:fok Tryz.prog 112=true:=by kernel_rfl
theorem fk113:fok Tryz.prog 113=true:=by kernel_rfl
theorem fk114:fok Tryz.prog 114=true:=by kernel_rfl
theorem fk115:fok Tryz.prog 115=true:=by kernel_rfl
theorem fk116:fok Tryz.prog 116=true:=by kernel_rfl
theorem fk117:fok Tryz.prog 117=true:=by kernel_rfl
theorem fk118:fok Tryz.prog 118=true:=by kernel_rfl
theorem fk119:fok Tryz.prog 119=true:=by kernel_rfl
theorem fk120:fok Tryz.prog 120=true:=by kernel_rfl
theorem fk121:fok Tryz.prog 121=true:=by kernel_rfl
theorem fk122:fok Tryz.prog 122=true:=by kernel_rfl
theorem fk123:fok Tryz.prog 123=true:=by kernel_rfl
theorem fk124:fok Tryz.prog 124=true:=by kernel_rfl
theorem fk125:fok Tryz.prog 125=true:=by kernel_rfl
theorem fk126:fok Tryz.prog 126=true:=by kernel_rfl
theorem fk127:fok Tryz.prog 127=true:=by kernel_rfl
theorem fk128:fok Tryz.prog 128=true:=by kernel_rfl
theorem fk129:fok Tryz.prog 129=true:=by kernel_rfl
theorem fk130:fok Tryz.prog 130=true:=by kernel_rfl
theorem fk131:fok Tryz.prog 131=true:=by kernel_rfl
theorem fk132:fok Tryz.prog 132=true:=by kernel_rfl
theorem fk133:fok Tryz.prog 133=true:=by kernel_rfl
theorem fk134:fok Tryz.prog 134=true:=by kernel_rfl
theorem fk135:fok Tryz.prog 135=true:=by kernel_rfl
theorem fk136:fok Tryz.prog 136=true:=by kernel_rfl
theorem fk137:fok Tryz.prog 137=true:=by kernel_rfl
theorem fk138:fok Tryz.prog 138=true:=by kernel_rfl
theorem fk139:fok Tryz.prog 139=true:=by kernel_rfl
theorem fk140:fok Tryz.prog 140=true:=by kernel_rfl
theorem fk141:fok Tryz.prog 141=true:=by kernel_rfl
theorem fk142:fok Tryz.prog 142=true:=by kernel_rfl
theorem fk143:fok Tryz.prog 143=true:=by kernel_rfl
theorem fk144:fok Tryz.prog 144=true:=by kernel_rfl
theorem fk145:fok Tryz.prog 145=true:=by kernel_rfl
theorem fk146:fok Tryz.prog 146=true:=by kernel_rfl
theorem fk147:fok Tryz.prog 147=true:=by kernel_rfl
theorem fk148:fok Tryz.prog 148=true:=by kernel_rfl
theorem fk149:fok Tryz.prog 149=true:=by kernel_rfl
theorem fk150:fok Tryz.prog 150=true:=by kernel_rfl
theorem fk151:fok Tryz.prog 151=true:=by kernel_rfl
theorem fk152:fok Tryz.prog 152=true:=by kernel_rfl
theorem fk153:fok Tryz.prog 153=true:=by kernel_rfl
attribute [go_sem] u3 sz3 u9 u22 u23 sz31 ag31 u49 u50 ag58 u59 sz78 ag78 zv2 zv3 zv4 zv5 zv6 zv7 zv8 zv9 zv10 zv11 zv12 zv13 zv14 zv15 zv16 zv17 zv18 zv19 zv21 zv22 zv23 zv30 zv31 zv33 zv39 zv42 zv49 zv50 zv51 zv52 zv53 zv54 zv55 zv56 zv57 zv58 zv59 zv69 zv70 zv71 zv77 zv78 zv91 zv92 zv111 zv121 zv122 zv123 zv142 zv143 zv152 zv160 zv161 zv166 zv167 zv168 zv170 zv171 zv172 zv173 zv174 zv175 zv176 zv177 zv179 zv180 g2 g3 g4 g5 g6 g7 g8 g9 g10 g11 g12 g13 g14 g15 g16 g17 g18 g19 g21 g22 g23 g30 g31 g33 g39 g42 g49 g50 g51 g52 g53 g54 g55 g56 g57 g58 g59 g69 g70 g71 g77 g78 g91 g92 g111 g121 g122 g123 g142 g143 g152 g160 g161 g162 g163 g164 g166 g167 g168 g170 g171 g172 g173 g174 g175 g176 g177 g179 g180 g20
end Go.Proofs.YtcpjahmajkhchaaGreat

namespace Go.Proofs.YtcpjahmajkhchaaGreat
open Go Go.Fw
set_option maxRecDepth 20000
def sInt:ByteArray:=⟨#[105,110,116]⟩
def sBool:ByteArray:=⟨#[98,111,111,108]⟩
def el (n:Int):Prop:= -2147483648≤n∧n≤2147483647
def vld (s:ByteArray) (n:Int):Bool:=if eqS s sInt=true then decide (-2147483648≤n∧n≤2147483647) else if eqS s sBool=true then decide (n=0∨n=1) else false
def badD (d:Int):Bool:=decide (d<0)||decide (d>4096)
def prodS:List Int→Int→Int×Int
  |[],n=>(n,0)
  |d::t,n=>if n*d>4096 then (0,3) else prodS t (n*d)
def sizeS (l:List Int):Int×Int:=if l.length>6 then (0,13) else if l.any badD=true then (0,2) else if l.any (fun d=>0==d)=true then (0,0) else prodS l 1
structure Arr where
  e:ByteArray
  d:List Int
  x:List Int
def arrV (a:Arr):AV:= .agg [.lit (.string a.e),.sl false 1 (ints .i64 a.d),.sl false 1 (ints .i64 a.x)]
def nilA:Arr:=⟨⟨#[]⟩,[],[]⟩
instance:Inhabited Arr:=⟨nilA⟩
def arrs (l:List Arr):List AV:=l.map arrV
def ofE (a:Arr):Int:=if (eqS a.e sInt||eqS a.e sBool)=false then 12 else if (sizeS a.d).2≠0 then (sizeS a.d).2 else if (a.x.length:Int)≠(sizeS a.d).1 then 1 else if a.x.any (fun n=> !vld a.e n)=true then 2 else 0
def ofS (a:Arr):Arr×Int:=if ofE a=0 then (a,0) else (nilA,ofE a)
def splitS (a:Arr) (r:Int):List Int×List Int×Int:=if ofE a≠0 then ([],[],1) else if r<0∨r>a.d.length then ([],[],13) else (a.d.take (a.d.length - r.toNat),a.d.drop (a.d.length - r.toNat),0)
theorem prodS_bd {l:List Int} {n:Int} (hl:∀ d∈l,0≤d∧d≤4096) (hn:0≤n∧n≤4096):0≤(prodS l n).1∧(prodS l n).1≤4096:=by
  induction l generalizing n with
  |nil=>exact hn
  |cons d t ih=>
   unfold prodS
   split
   ·exact ⟨by decide,by decide⟩
   ·rename_i h
    have h1:=hl d (by simp)
    exact ih (fun x hx=>hl x (by simp [hx])) ⟨Int.mul_nonneg hn.1 h1.1,by omega⟩
theorem bad_no {l:List Int} (h: ¬ l.any badD=true):∀ d∈l,0≤d∧d≤4096:=by
  intro d hd
  have: ¬ badD d=true:=fun hb=>h (List.any_eq_true.2 ⟨d,hd,hb⟩)
  unfold badD at this
  simp only [Bool.or_eq_true,decide_eq_true_eq,not_or] at this
  omega
theorem sizeS_bd (l:List Int):0≤(sizeS l).1∧(sizeS l).1≤4096:=by
  unfold sizeS
  split
  ·exact ⟨by decide,by decide⟩
  split
  ·exact ⟨by decide,by decide⟩
  split
  ·exact ⟨by decide,by decide⟩
  rename_i h _
  exact prodS_bd (bad_no h) ⟨by decide,by decide⟩
theorem arrs_length (l:List Arr):(arrs l).length=l.length:=by simp [arrs]
theorem arrs_getD (l:List Arr) (i:Nat) (h:i<l.length):(arrs l).getD i .top=arrV (l.getD i nilA):=by simp [arrs,List.getD,h]
theorem drop_getD {α:Type} {l:List α} {i:Nat} (z:α) (h:i<l.length):l.drop i=l.getD i z::l.drop (i+1):=by
  rw [List.drop_eq_getElem_cons h];simp [List.getD,h]
end Go.Proofs.YtcpjahmajkhchaaGreat

namespace Go.Proofs.YtcpjahmajkhchaaGreat
open Go Go.Fw
set_option maxRecDepth 20000
noncomputable def E0:Env:=envOf (P:=Tryz.prog) zer (fun _=>false) (fun _=>false) [] []
theorem E0_ok:EnvOk Tryz.prog E0:=envOk zer_ok
theorem eqS_iff {a b:ByteArray}:eqS a b=true ↔ a=b:=by
  unfold eqS
  rw [beq_iff_eq]
  constructor
  ·intro h
   apply ByteArray.ext
   apply Array.ext'
   simpa using h
  ·intro h;rw [h]
theorem eqS_refl (b:ByteArray):eqS b b=true:=eqS_iff.2 rfl
theorem vld_pc {f:FuncId} {s:ByteArray} {n:Int} (hf:f=40∨f=38):PC Tryz.prog f [.lit (.string s),.lit (.int .i64 n)] (.lit (.bool (vld s n))):=by
  unfold vld sInt sBool
  by_cases h1:eqS s ⟨#[105,110,116]⟩=true
  ·have hs:s=⟨#[105,110,116]⟩:=eqS_iff.1 h1
   have h2:eqS s ⟨#[98,111,111,108]⟩=false:=by rw [hs];rfl
   rw [if_pos h1]
   by_cases h3:n≥ -2147483648
   ·have z3:decide (n≥ -2147483648)=true:=decide_eq_true h3
    have e:decide (-2147483648≤n∧n≤2147483647)=decide (n≤2147483647):=by simp;omega
    rw [e]
    rcases hf with rfl|rfl
    ·skip
     refine pcO E0_ok (fun _=>[0,1,4,5,6,14]) Tryz.func40 (h:=fun KF=>?_)
     unfold E0
     repeat' (first
      |(with_reducible first|refine nx ?_|refine t_seq fun K=>?_|refine t_br (fun hc=>?_) fun hc=>?_|refine t_bx ?_|apply And.intro|intro vr)
      |((with_reducible first|refine ny ?_|refine t_dwh (h:=fun K KL=>?_));intros;simp only [go_sem,geff,h1,h2,z3]))
     refine end_ret rfl ?_
     simp only [fin,go_sem]
     exact LeA.refl _
    ·skip
     refine pcO E0_ok (fun _=>[0,1,4,6]) Tryz.func38 (h:=fun KF=>?_)
     unfold E0
     repeat' (first
      |(with_reducible first|refine nx ?_|refine t_seq fun K=>?_|refine t_br (fun hc=>?_) fun hc=>?_|refine t_bx ?_|apply And.intro|intro vr)
      |((with_reducible first|refine ny ?_|refine t_dwh (h:=fun K KL=>?_));intros;simp only [go_sem,geff,h1,h2,z3]))
     refine end_ret rfl ?_
     simp only [fin,go_sem]
     exact LeA.refl _
   ·have z3:decide (n≥ -2147483648)=false:=decide_eq_false h3
    have e:decide (-2147483648≤n∧n≤2147483647)=false:=by simp;omega
    rw [e]
    rcases hf with rfl|rfl
    ·skip
     refine pcO E0_ok (fun _=>[0,1,4,5,6,14]) Tryz.func40 (h:=fun KF=>?_)
     unfold E0
     repeat' (first
      |(with_reducible first|refine nx ?_|refine t_seq fun K=>?_|refine t_br (fun hc=>?_) fun hc=>?_|refine t_bx ?_|apply And.intro|intro vr)
      |((with_reducible first|refine ny ?_|refine t_dwh (h:=fun K KL=>?_));intros;simp only [go_sem,geff,h1,h2,z3]))
     refine end_ret rfl ?_
     simp only [fin,go_sem]
     exact LeA.refl _
    ·skip
     refine pcO E0_ok (fun _=>[0,1,4,6]) Tryz.func38 (h:=fun KF=>?_)
     unfold E0
     repeat' (first
      |(with_reducible first|refine nx ?_|refine t_seq fun K=>?_|refine t_br (fun hc=>?_) fun hc=>?_|refine t_bx ?_|apply And.intro|intro vr)
      |((with_reducible first|refine ny ?_|refine t_dwh (h:=fun K KL=>?_));intros;simp only [go_sem,geff,h1,h2,z3]))
     refine end_ret rfl ?_
     simp only [fin,go_sem]
     exact LeA.refl _
  ·have h1':eqS s ⟨#[105,110,116]⟩=false:=by simpa using h1
   rw [if_neg h1]
   by_cases h2:eqS s ⟨#[98,111,111,108]⟩=true
   ·rw [if_pos h2]
    by_cases h3:n=0
    ·have z3:(n==0)=true:=by rw [beq_iff_eq];exact h3
     have e:decide (n=0∨n=1)=true:=decide_eq_true (.inl h3)
     rw [e]
     rcases hf with rfl|rfl
     ·skip
      refine pcO E0_ok (fun _=>[0,1,4,5,6,14]) Tryz.func40 (h:=fun KF=>?_)
      unfold E0
      repeat' (first
       |(with_reducible first|refine nx ?_|refine t_seq fun K=>?_|refine t_br (fun hc=>?_) fun hc=>?_|refine t_bx ?_|apply And.intro|intro vr)
       |((with_reducible first|refine ny ?_|refine t_dwh (h:=fun K KL=>?_));intros;simp only [go_sem,geff,h1',h2,z3]))
      refine end_ret rfl ?_
      simp only [fin,go_sem]
      exact LeA.refl _
     ·skip
      refine pcO E0_ok (fun _=>[0,1,4,6]) Tryz.func38 (h:=fun KF=>?_)
      unfold E0
      repeat' (first
       |(with_reducible first|refine nx ?_|refine t_seq fun K=>?_|refine t_br (fun hc=>?_) fun hc=>?_|refine t_bx ?_|apply And.intro|intro vr)
       |((with_reducible first|refine ny ?_|refine t_dwh (h:=fun K KL=>?_));intros;simp only [go_sem,geff,h1',h2,z3]))
      refine end_ret rfl ?_
      simp only [fin,go_sem]
      exact LeA.refl _
    ·have z3:(n==0)=false:=by rw [beq_eq_false_iff_ne];exact h3
     have e:decide (n=0∨n=1)=(n==1):=by
       by_cases h4:n=1
       ·subst h4;rfl
       ·rw [decide_eq_false (by omega)];symm;rw [beq_eq_false_iff_ne];exact h4
     rw [e]
     rcases hf with rfl|rfl
     ·skip
      refine pcO E0_ok (fun _=>[0,1,4,5,6,14]) Tryz.func40 (h:=fun KF=>?_)
      unfold E0
      repeat' (first
       |(with_reducible first|refine nx ?_|refine t_seq fun K=>?_|refine t_br (fun hc=>?_) fun hc=>?_|refine t_bx ?_|apply And.intro|intro vr)
       |((with_reducible first|refine ny ?_|refine t_dwh (h:=fun K KL=>?_));intros;simp only [go_sem,geff,h1',h2,z3]))
      refine end_ret rfl ?_
      simp only [fin,go_sem]
      exact LeA.refl _
     ·skip
      refine pcO E0_ok (fun _=>[0,1,4,6]) Tryz.func38 (h:=fun KF=>?_)
      unfold E0
      repeat' (first
       |(with_reducible first|refine nx ?_|refine t_seq fun K=>?_|refine t_br (fun hc=>?_) fun hc=>?_|refine t_bx ?_|apply And.intro|intro vr)
       |((with_reducible first|refine ny ?_|refine t_dwh (h:=fun K KL=>?_));intros;simp only [go_sem,geff,h1',h2,z3]))
      refine end_ret rfl ?_
      simp only [fin,go_sem]
      exact LeA.refl _
   ·have h2':eqS s ⟨#[98,111,111,108]⟩=false:=by simpa using h2
    rw [if_neg h2]
    rcases hf with rfl|rfl
    ·skip
     refine pcO E0_ok (fun _=>[0,1,4,5,6,14]) Tryz.func40 (h:=fun KF=>?_)
     unfold E0
     repeat' (first
      |(with_reducible first|refine nx ?_|refine t_seq fun K=>?_|refine t_br (fun hc=>?_) fun hc=>?_|refine t_bx ?_|apply And.intro|intro vr)
      |((with_reducible first|refine ny ?_|refine t_dwh (h:=fun K KL=>?_));intros;simp only [go_sem,geff,h1',h2']))
     refine end_ret rfl ?_
     simp only [fin,go_sem]
     exact LeA.refl _
    ·skip
     refine pcO E0_ok (fun _=>[0,1,4,6]) Tryz.func38 (h:=fun KF=>?_)
     unfold E0
     repeat' (first
      |(with_reducible first|refine nx ?_|refine t_seq fun K=>?_|refine t_br (fun hc=>?_) fun hc=>?_|refine t_bx ?_|apply And.intro|intro vr)
      |((with_reducible first|refine ny ?_|refine t_dwh (h:=fun K KL=>?_));intros;simp only [go_sem,geff,h1',h2']))
     refine end_ret rfl ?_
     simp only [fin,go_sem]
     exact LeA.refl _
noncomputable def con40:PCon Tryz.prog where
  f:=40
  c:=fun
   |[.lit (.string s),.lit (.int .i64 n)]=>some (True,.lit (.bool (vld s n)))
   |_=>none
  ok:=by
   intro args p r hc hp
   split at hc
   ·cases hc;exact (vld_pc (.inl rfl))
   ·cases hc
  fk:=fk40
theorem con40_f:con40.f=40:=rfl
theorem con40_c {s:ByteArray} {n:Int}:con40.c [.lit (.string s),.lit (.int .i64 n)]=some (True,.lit (.bool (vld s n))):=rfl
noncomputable def con38:PCon Tryz.prog where
  f:=38
  c:=fun
   |[.lit (.string s),.lit (.int .i64 n)]=>some (True,.lit (.bool (vld s n)))
   |_=>none
  ok:=by
   intro args p r hc hp
   split at hc
   ·cases hc;exact (vld_pc (.inr rfl))
   ·cases hc
  fk:=fk38
theorem con38_f:con38.f=38:=rfl
theorem con38_c {s:ByteArray} {n:Int}:con38.c [.lit (.string s),.lit (.int .i64 n)]=some (True,.lit (.bool (vld s n))):=rfl
def idxG (p:Int→Bool):List Int→Int→Int
  |[],_=> -1
  |d::t,i=>if p d=true then i else idxG p t (i+1)
theorem idxG_any (p:Int→Bool):∀ (l:List Int) (i:Int),0≤i→decide (idxG p l i≥0)=l.any p
  |[],_,_=>rfl
  |d::t,i,hi=>by
   unfold idxG
   by_cases h:p d=true
   ·rw [if_pos h,List.any_cons,h,decide_eq_true hi];rfl
   ·rw [if_neg h,idxG_any p t (i+1) (by omega),List.any_cons]
    simp only [Bool.not_eq_true] at h
    rw [h];rfl
theorem index_pc {l:List Int} {v:Int} (hl:l.length≤1000000):PC Tryz.prog 115 [.sl false 1 (ints .i64 l),.lit (.int .i64 v)] (.lit (.int .i64 (idxG (fun d=>v==d) l 0))):=by
  generalize hR:idxG (fun d=>v==d) l 0=R
  refine pcO E0_ok (fun _=>[0,1,4,5,7,8,9,16]) Tryz.func115 (h:=fun KF=>?_)
  unfold E0
  repeat' (first
   |(with_reducible first|refine nx ?_|refine t_seq fun K=>?_|refine t_br (fun hc=>?_) fun hc=>?_|refine t_bx ?_|apply And.intro|intro vr)
   |((with_reducible first|refine ny ?_|refine t_dwh (h:=fun K KL=>?_));intros;simp only [go_sem,geff]))
  refine t_loop (ι:={i:Nat // i≤l.length∧idxG (fun d=>v==d) (l.drop i) i=R}) (fun i=>⟨upd (upd (upd (upd topF 8 (.lit (.int .i64 i.1))) 7 (.lit (.int .i64 l.length))) 1 (.lit (.int .i64 v))) 0 (.sl false 1 (ints .i64 l)),[]⟩) (fun i=>l.length - i.1) ⟨0,by omega,hR⟩ ?_ ?_
  ·skip
   (refine Le.frame ?_;repeat' (first|exact leF_top _|(with_reducible refine leF_sl ?_ ?_)|(refine leF_upd (LeR.of_eq ?_) ?_)))<;>(try (simp only [go_sem];try rfl))
  ·rintro ⟨i,hi,hF⟩ K0
   rcases Nat.lt_or_ge i l.length with hc|hc
   ·have g1:decide ((i:Int)<(l.length:Int))=true:=decide_eq_true (by omega)
    have g2:=ints_getD .i64 l i hc
    rw [drop_getD 0 hc,idxG] at hF
    generalize l.getD i 0=d at g2 hF
    by_cases he:(v==d)=true
    ·rw [if_pos he] at hF
     subst hF
     repeat' (first
      |(with_reducible first|refine nx ?_|refine t_seq fun K=>?_|refine t_br (fun hc=>?_) fun hc=>?_|refine t_bx ?_|apply And.intro|intro vr)
      |((with_reducible first|refine ny ?_|refine t_dwh (h:=fun K KL=>?_));intros;simp only [go_sem,geff,g1,g2,he,Int.toNat_natCast]))
     all_goals try exact om
     refine end_ret rfl ?_
     simp only [fin,go_sem]
     exact LeA.refl _
    ·rw [if_neg he] at hF
     have he':(v==d)=false:=by simpa using he
     repeat' (first
      |(with_reducible first|refine nx ?_|refine t_seq fun K=>?_|refine t_br (fun hc=>?_) fun hc=>?_|refine t_bx ?_|apply And.intro|intro vr)
      |((with_reducible first|refine ny ?_|refine t_dwh (h:=fun K KL=>?_));intros;simp only [go_sem,geff,g1,g2,he',Int.toNat_natCast]))
     all_goals try exact om
     refine ⟨⟨i+1,by omega,by rw [←hF];congr 1⟩,by simp only;omega,?_⟩
     (refine Le.frame ?_;repeat' (first|exact leF_top _|(with_reducible refine leF_sl ?_ ?_)|(refine leF_upd (LeR.of_eq ?_) ?_)))<;>(try (simp only [go_sem];try rfl))
   ·have g1:decide ((i:Int)<(l.length:Int))=false:=decide_eq_false (by omega)
    rw [List.drop_eq_nil_of_le hc,idxG] at hF
    subst hF
    repeat' (first
     |(with_reducible first|refine nx ?_|refine t_seq fun K=>?_|refine t_br (fun hc=>?_) fun hc=>?_|refine t_bx ?_|apply And.intro|intro vr)
     |((with_reducible first|refine ny ?_|refine t_dwh (h:=fun K KL=>?_));intros;simp only [go_sem,geff,g1]))
    refine end_ret rfl ?_
    simp only [fin,go_sem]
    exact LeA.refl _
noncomputable def con115:PCon Tryz.prog where
  f:=115
  c:=fun
   |[xl,.lit (.int .i64 v)]=>match slK .i64 xl with|some l=>some (l.length≤1000000,.lit (.int .i64 (idxG (fun d=>v==d) l 0)))|_=>none
   |_=>none
  ok:=by
   intro args p r hc hp
   split at hc
   ·split at hc
    ·rename_i hl
     cases hc
     exact PC.weak (index_pc hp) ⟨slK_le hl,LeA.refl _,trivial⟩
    ·cases hc
   ·cases hc
  fk:=fk115
theorem con115_f:con115.f=115:=rfl
theorem con115_c {xl:AV} {v:Int}:con115.c [xl,.lit (.int .i64 v)]=match slK .i64 xl with|some l=>some (l.length≤1000000,.lit (.int .i64 (idxG (fun d=>v==d) l 0)))|_=>none:=rfl
noncomputable def E1:Env:=envOf (P:=Tryz.prog) zer (fun _=>false) (fun _=>false) [con115] []
theorem E1_ok:EnvOk Tryz.prog E1:=envOk zer_ok
theorem contains_pc {l:List Int} {v:Int} (hl:l.length≤1000000):PC Tryz.prog 92 [.sl false 1 (ints .i64 l),.lit (.int .i64 v)] (.lit (.bool (l.any fun d=>v==d))):=by
  have h:=idxG_any (fun d=>v==d) l 0 (by omega)
  refine pcO E1_ok (fun _=>[0,1,4]) Tryz.func92 (h:=fun KF=>?_)
  unfold E1
  repeat' (first
   |(with_reducible first|refine nx ?_|refine t_seq fun K=>?_|refine t_br (fun hc=>?_) fun hc=>?_|refine t_bx ?_|apply And.intro|intro vr)
   |((with_reducible first|refine ny ?_|refine t_dwh (h:=fun K KL=>?_));intros;simp only [go_sem,geff,con115_f,con115_c,slK_sl,h]))
  all_goals try exact om
  refine end_ret rfl ?_
  simp only [fin,go_sem]
  exact LeA.refl _
noncomputable def con92:PCon Tryz.prog where
  f:=92
  c:=fun
   |[xl,.lit (.int .i64 v)]=>match slK .i64 xl with|some l=>some (l.length≤1000000,.lit (.bool (l.any fun d=>v==d)))|_=>none
   |_=>none
  ok:=by
   intro args p r hc hp
   split at hc
   ·split at hc
    ·rename_i hl
     cases hc
     exact PC.weak (contains_pc hp) ⟨slK_le hl,LeA.refl _,trivial⟩
    ·cases hc
   ·cases hc
  fk:=fk92
theorem con92_f:con92.f=92:=rfl
theorem con92_c {xl:AV} {v:Int}:con92.c [xl,.lit (.int .i64 v)]=match slK .i64 xl with|some l=>some (l.length≤1000000,.lit (.bool (l.any fun d=>v==d)))|_=>none:=rfl
theorem clone_pc {l:List Int} (hl:l.length≤1000000):PC Tryz.prog 71 [.sl false 1 (ints .i64 l)] (.sl false 1 (ints .i64 l)):=by
  refine pcO E0_ok (fun _=>[0,2,4]) Tryz.func71 (h:=fun KF=>?_)
  unfold E0
  repeat' (first
   |(with_reducible first|refine nx ?_|refine t_seq fun K=>?_|refine t_br (fun hc=>?_) fun hc=>?_|refine t_bx ?_|apply And.intro|intro vr)
   |((with_reducible first|refine ny ?_|refine t_dwh (h:=fun K KL=>?_));intros;simp only [go_sem,geff]))
  all_goals try exact om
  ·skip
   refine end_ret rfl ?_
   simp only [fin,go_sem]
   rw [show ints .i64 l=[] from by assumption]
   exact LeA.nil false 1
  ·skip
   refine end_ret rfl ?_
   simp only [fin,go_sem]
   exact LeA.refl _
noncomputable def con71:PCon Tryz.prog where
  f:=71
  c:=fun
   |[xl]=>match slK .i64 xl with|some l=>some (l.length≤1000000,.sl false 1 (ints .i64 l))|_=>none
   |_=>none
  ok:=by
   intro args p r hc hp
   split at hc
   ·split at hc
    ·rename_i hl
     cases hc
     exact PC.weak (clone_pc hp) ⟨slK_le hl,trivial⟩
    ·cases hc
   ·cases hc
  fk:=fk71
theorem con71_f:con71.f=71:=rfl
theorem con71_c {xl:AV}:con71.c [xl]=match slK .i64 xl with|some l=>some (l.length≤1000000,.sl false 1 (ints .i64 l))|_=>none:=rfl
theorem copy_pc {l:List Int} (hl:l.length≤1000000):PC Tryz.prog 72 [.sl false 1 (ints .i64 l)] (.sl false 1 (ints .i64 l)):=by
  refine pcO E0_ok (fun _=>[0,2]) Tryz.func72 (h:=fun KF=>?_)
  unfold E0
  repeat' (first
   |(with_reducible first|refine nx ?_|refine t_seq fun K=>?_|refine t_br (fun hc=>?_) fun hc=>?_|refine t_bx ?_|apply And.intro|intro vr)
   |((with_reducible first|refine ny ?_|refine t_dwh (h:=fun K KL=>?_));intros;simp only [go_sem,geff]))
  all_goals try exact om
  refine end_ret rfl ?_
  simp only [fin,go_sem]
  exact LeA.refl _
noncomputable def con72:PCon Tryz.prog where
  f:=72
  c:=fun
   |[xl]=>match slK .i64 xl with|some l=>some (l.length≤1000000,.sl false 1 (ints .i64 l))|_=>none
   |_=>none
  ok:=by
   intro args p r hc hp
   split at hc
   ·split at hc
    ·rename_i hl
     cases hc
     exact PC.weak (copy_pc hp) ⟨slK_le hl,trivial⟩
    ·cases hc
   ·cases hc
  fk:=fk72
theorem con72_f:con72.f=72:=rfl
theorem con72_c {xl:AV}:con72.c [xl]=match slK .i64 xl with|some l=>some (l.length≤1000000,.sl false 1 (ints .i64 l))|_=>none:=rfl
theorem drop_ne {l m:List Int} {i:Nat} (hl:i<l.length) (hm:i<m.length) (h:(l.getD i 0 !=m.getD i 0)=true):decide (l.drop i=m.drop i)=false:=by
  rw [drop_getD 0 hl,drop_getD 0 hm]
  rw [bne_iff_ne] at h
  exact decide_eq_false fun e=>h (List.cons.inj e).1
theorem drop_eq {l m:List Int} {i:Nat} (hl:i<l.length) (hm:i<m.length) (h:(l.getD i 0 !=m.getD i 0)=false):decide (l.drop i=m.drop i)=decide (l.drop (i+1)=m.drop (i+1)):=by
  rw [drop_getD 0 hl,drop_getD 0 hm]
  rw [bne_eq_false_iff_eq] at h
  rw [h]
  simp
theorem equal_pc {l m:List Int} (hl:l.length≤1000000):PC Tryz.prog 81 [.sl false 1 (ints .i64 l),.sl false 1 (ints .i64 m)] (.lit (.bool (decide (l=m)))):=by
  by_cases hn:l.length=m.length
  ·have g0:((l.length:Int) !=(m.length:Int))=false:=by rw [bne_eq_false_iff_eq];omega
   generalize hR:decide (l=m)=R
   refine pcO E0_ok (fun _=>[0,1,4,5,10,12,13,14,24]) Tryz.func81 (h:=fun KF=>?_)
   unfold E0
   repeat' (first
    |(with_reducible first|refine nx ?_|refine t_seq fun K=>?_|refine t_br (fun hc=>?_) fun hc=>?_|refine t_bx ?_|apply And.intro|intro vr)
    |((with_reducible first|refine ny ?_|refine t_dwh (h:=fun K KL=>?_));intros;simp only [go_sem,geff,g0]))
   refine t_loop (ι:={i:Nat // i≤l.length∧decide (l.drop i=m.drop i)=R}) (fun i=>⟨upd (upd (upd (upd topF 1 (.sl false 1 (ints .i64 m))) 0 (.sl false 1 (ints .i64 l))) 13 (.lit (.int .i64 i.1))) 12 (.lit (.int .i64 l.length)),[]⟩) (fun i=>l.length - i.1) ⟨0,by omega,hR⟩ ?_ ?_
   ·skip
    (refine Le.frame ?_;repeat' (first|exact leF_top _|(with_reducible refine leF_sl ?_ ?_)|(refine leF_upd (LeR.of_eq ?_) ?_)))<;>(try (simp only [go_sem];try rfl))
   ·rintro ⟨i,hi,hF⟩ K0
    rcases Nat.lt_or_ge i l.length with hc|hc
    ·have g1:decide ((i:Int)<(l.length:Int))=true:=decide_eq_true (by omega)
     have g2:=ints_getD .i64 l i hc
     have g3:=ints_getD .i64 m i (by omega)
     by_cases he:(l.getD i 0 !=m.getD i 0)=true
     ·rw [drop_ne hc (by omega) he] at hF
      subst hF
      repeat' (first
       |(with_reducible first|refine nx ?_|refine t_seq fun K=>?_|refine t_br (fun hc=>?_) fun hc=>?_|refine t_bx ?_|apply And.intro|intro vr)
       |((with_reducible first|refine ny ?_|refine t_dwh (h:=fun K KL=>?_));intros;simp only [go_sem,geff,g1,g2,g3,he,Int.toNat_natCast]))
      all_goals try exact om
      refine end_ret rfl ?_
      simp only [fin,go_sem]
      exact LeA.refl _
     ·have he':(l.getD i 0 !=m.getD i 0)=false:=by simpa using he
      rw [drop_eq hc (by omega) he'] at hF
      repeat' (first
       |(with_reducible first|refine nx ?_|refine t_seq fun K=>?_|refine t_br (fun hc=>?_) fun hc=>?_|refine t_bx ?_|apply And.intro|intro vr)
       |((with_reducible first|refine ny ?_|refine t_dwh (h:=fun K KL=>?_));intros;simp only [go_sem,geff,g1,g2,g3,he',Int.toNat_natCast]))
      all_goals try exact om
      refine ⟨⟨i+1,by omega,hF⟩,by simp only;omega,?_⟩
      (refine Le.frame ?_;repeat' (first|exact leF_top _|(with_reducible refine leF_sl ?_ ?_)|(refine leF_upd (LeR.of_eq ?_) ?_)))<;>(try (simp only [go_sem];try rfl))
    ·have g1:decide ((i:Int)<(l.length:Int))=false:=decide_eq_false (by omega)
     rw [List.drop_eq_nil_of_le hc,List.drop_eq_nil_of_le (by omega)] at hF
     subst hF
     repeat' (first
      |(with_reducible first|refine nx ?_|refine t_seq fun K=>?_|refine t_br (fun hc=>?_) fun hc=>?_|refine t_bx ?_|apply And.intro|intro vr)
      |((with_reducible first|refine ny ?_|refine t_dwh (h:=fun K KL=>?_));intros;simp only [go_sem,geff,g1]))
     refine end_ret rfl ?_
     simp only [fin,go_sem]
     exact LeA.refl _
  ·have g0:((l.length:Int) !=(m.length:Int))=true:=by rw [bne_iff_ne];omega
   have:decide (l=m)=false:=decide_eq_false fun e=>hn (by rw [e])
   rw [this]
   refine pcO E0_ok (fun _=>[0,1,4,5,10,12,13,14,24]) Tryz.func81 (h:=fun KF=>?_)
   unfold E0
   repeat' (first
    |(with_reducible first|refine nx ?_|refine t_seq fun K=>?_|refine t_br (fun hc=>?_) fun hc=>?_|refine t_bx ?_|apply And.intro|intro vr)
    |((with_reducible first|refine ny ?_|refine t_dwh (h:=fun K KL=>?_));intros;simp only [go_sem,geff,g0]))
   refine end_ret rfl ?_
   simp only [fin,go_sem]
   exact LeA.refl _
noncomputable def con81:PCon Tryz.prog where
  f:=81
  c:=fun
   |[xl,xm]=>match slK .i64 xl,slK .i64 xm with|some l,some m=>some (l.length≤1000000,.lit (.bool (decide (l=m))))|_,_=>none
   |_=>none
  ok:=by
   intro args p r hc hp
   split at hc
   ·split at hc
    ·rename_i hl hm
     cases hc
     exact PC.weak (equal_pc hp) ⟨slK_le hl,slK_le hm,trivial⟩
    ·cases hc
   ·cases hc
  fk:=fk81
theorem con81_f:con81.f=81:=rfl
theorem con81_c {xl:AV} {xm:AV}:con81.c [xl,xm]=match slK .i64 xl,slK .i64 xm with|some l,some m=>some (l.length≤1000000,.lit (.bool (decide (l=m))))|_,_=>none:=rfl
theorem same_pc {l m:List Int} (hl:l.length≤1000000):PC Tryz.prog 26 [.sl false 1 (ints .i64 l),.sl false 1 (ints .i64 m)] (.lit (.bool (decide (l=m)))):=by
  by_cases hn:l.length=m.length
  ·have g0:((l.length:Int) !=(m.length:Int))=false:=by rw [bne_eq_false_iff_eq];omega
   generalize hR:decide (l=m)=R
   refine pcO E0_ok (fun _=>[0,1,4,5,10,14,25]) Tryz.func26 (h:=fun KF=>?_)
   unfold E0
   repeat' (first
    |(with_reducible first|refine nx ?_|refine t_seq fun K=>?_|refine t_br (fun hc=>?_) fun hc=>?_|refine t_bx ?_|apply And.intro|intro vr)
    |((with_reducible first|refine ny ?_|refine t_dwh (h:=fun K KL=>?_));intros;simp only [go_sem,geff,g0]))
   refine t_loop (ι:={i:Nat // i≤l.length∧decide (l.drop i=m.drop i)=R}) (fun i=>⟨upd (upd (upd topF 1 (.sl false 1 (ints .i64 m))) 0 (.sl false 1 (ints .i64 l))) 5 (.lit (.int .i64 i.1)),[]⟩) (fun i=>l.length - i.1) ⟨0,by omega,hR⟩ ?_ ?_
   ·skip
    (refine Le.frame ?_;repeat' (first|exact leF_top _|(with_reducible refine leF_sl ?_ ?_)|(refine leF_upd (LeR.of_eq ?_) ?_)))<;>(try (simp only [go_sem];try rfl))
   ·rintro ⟨i,hi,hF⟩ K0
    rcases Nat.lt_or_ge i l.length with hc|hc
    ·have g1:decide ((i:Int)<(l.length:Int))=true:=decide_eq_true (by omega)
     have g2:=ints_getD .i64 l i hc
     have g3:=ints_getD .i64 m i (by omega)
     by_cases he:(l.getD i 0 !=m.getD i 0)=true
     ·rw [drop_ne hc (by omega) he] at hF
      subst hF
      repeat' (first
       |(with_reducible first|refine nx ?_|refine t_seq fun K=>?_|refine t_br (fun hc=>?_) fun hc=>?_|refine t_bx ?_|apply And.intro|intro vr)
       |((with_reducible first|refine ny ?_|refine t_dwh (h:=fun K KL=>?_));intros;simp only [go_sem,geff,g1,g2,g3,he,Int.toNat_natCast]))
      all_goals try exact om
      refine end_ret rfl ?_
      simp only [fin,go_sem]
      exact LeA.refl _
     ·have he':(l.getD i 0 !=m.getD i 0)=false:=by simpa using he
      rw [drop_eq hc (by omega) he'] at hF
      repeat' (first
       |(with_reducible first|refine nx ?_|refine t_seq fun K=>?_|refine t_br (fun hc=>?_) fun hc=>?_|refine t_bx ?_|apply And.intro|intro vr)
       |((with_reducible first|refine ny ?_|refine t_dwh (h:=fun K KL=>?_));intros;simp only [go_sem,geff,g1,g2,g3,he',Int.toNat_natCast]))
      all_goals try exact om
      refine ⟨⟨i+1,by omega,hF⟩,by simp only;omega,?_⟩
      (refine Le.frame ?_;repeat' (first|exact leF_top _|(with_reducible refine leF_sl ?_ ?_)|(refine leF_upd (LeR.of_eq ?_) ?_)))<;>(try (simp only [go_sem];try rfl))
    ·have g1:decide ((i:Int)<(l.length:Int))=false:=decide_eq_false (by omega)
     rw [List.drop_eq_nil_of_le hc,List.drop_eq_nil_of_le (by omega)] at hF
     subst hF
     repeat' (first
      |(with_reducible first|refine nx ?_|refine t_seq fun K=>?_|refine t_br (fun hc=>?_) fun hc=>?_|refine t_bx ?_|apply And.intro|intro vr)
      |((with_reducible first|refine ny ?_|refine t_dwh (h:=fun K KL=>?_));intros;simp only [go_sem,geff,g1]))
     refine end_ret rfl ?_
     simp only [fin,go_sem]
     exact LeA.refl _
  ·have g0:((l.length:Int) !=(m.length:Int))=true:=by rw [bne_iff_ne];omega
   have:decide (l=m)=false:=decide_eq_false fun e=>hn (by rw [e])
   rw [this]
   refine pcO E0_ok (fun _=>[0,1,4,5,10,14,25]) Tryz.func26 (h:=fun KF=>?_)
   unfold E0
   repeat' (first
    |(with_reducible first|refine nx ?_|refine t_seq fun K=>?_|refine t_br (fun hc=>?_) fun hc=>?_|refine t_bx ?_|apply And.intro|intro vr)
    |((with_reducible first|refine ny ?_|refine t_dwh (h:=fun K KL=>?_));intros;simp only [go_sem,geff,g0]))
   refine end_ret rfl ?_
   simp only [fin,go_sem]
   exact LeA.refl _
noncomputable def con26:PCon Tryz.prog where
  f:=26
  c:=fun
   |[xl,xm]=>match slK .i64 xl,slK .i64 xm with|some l,some m=>some (l.length≤1000000,.lit (.bool (decide (l=m))))|_,_=>none
   |_=>none
  ok:=by
   intro args p r hc hp
   split at hc
   ·split at hc
    ·rename_i hl hm
     cases hc
     exact PC.weak (same_pc hp) ⟨slK_le hl,slK_le hm,trivial⟩
    ·cases hc
   ·cases hc
  fk:=fk26
theorem con26_f:con26.f=26:=rfl
theorem con26_c {xl:AV} {xm:AV}:con26.c [xl,xm]=match slK .i64 xl,slK .i64 xm with|some l,some m=>some (l.length≤1000000,.lit (.bool (decide (l=m))))|_,_=>none:=rfl
end Go.Proofs.YtcpjahmajkhchaaGreat

namespace Go.Proofs.YtcpjahmajkhchaaGreat
open Go Go.Fw
set_option maxRecDepth 20000
def szV (p:Int×Int):AV:= .tup [.lit (.int .i64 p.1),.lit (.int .i64 p.2)]
theorem mul_bd {n d:Int} (hn:0≤n∧n≤4096) (hd:0≤d∧d≤4096):0≤n*d∧n*d≤16777216:=by
  constructor
  ·exact Int.mul_nonneg hn.1 hd.1
  ·have:=Int.mul_le_mul hn.2 hd.2 hd.1 (by omega)
   omega
structure Ls (l:List Int) (G:Int×Int) where
  i:Nat
  n:Int
  hi:i≤l.length
  hn:0≤n∧n≤4096
  hF:prodS (l.drop i) n=G
noncomputable def E2:Env:=envOf (P:=Tryz.prog) zer (fun _=>false) (fun _=>false) [con92] []
theorem E2_ok:EnvOk Tryz.prog E2:=envOk zer_ok
set_option maxHeartbeats 1000000 in
theorem size_pc {l:List Int} (hl:l.length≤1000000):PC Tryz.prog 69 [.sl false 1 (ints .i64 l)] (szV (sizeS l)):=by
  unfold sizeS
  by_cases h6:l.length>6
  ·have g0:decide ((l.length:Int)>6)=true:=decide_eq_true (by omega)
   rw [if_pos h6]
   refine pcO E2_ok (fun _=>[0,2,3,5,6,8,11,12,13,14,15,23,26,27,28,29,30,37]) Tryz.func69 (h:=fun KF=>?_)
   unfold E2
   repeat' (first
    |(with_reducible first|refine nx ?_|refine t_seq fun K=>?_|refine t_br (fun hc=>?_) fun hc=>?_|refine t_bx ?_|apply And.intro|intro vr)
    |((with_reducible first|refine ny ?_|refine t_dwh (h:=fun K KL=>?_));intros;simp only [go_sem,geff,con92_f,g0]))
   refine end_ret rfl ?_
   simp only [fin,go_sem,szV]
   exact LeA.refl _
  ·have g0:decide ((l.length:Int)>6)=false:=decide_eq_false (by omega)
   rw [if_neg h6]
   generalize hB:l.any badD=Bb
   generalize hG:prodS l 1=G
   refine pcO E2_ok (fun _=>[0,2,3,5,6,8,11,12,13,14,15,23,26,27,28,29,30,37]) Tryz.func69 (h:=fun KF=>?_)
   unfold E2
   repeat' (first
    |(with_reducible first|refine nx ?_|refine t_seq fun K=>?_|refine t_br (fun hc=>?_) fun hc=>?_|refine t_bx ?_|apply And.intro|intro vr)
    |((with_reducible first|refine ny ?_|refine t_dwh (h:=fun K KL=>?_));intros;simp only [go_sem,geff,con92_f,g0]))
   refine t_loop (ι:={i:Nat // i≤l.length∧(l.drop i).any badD=Bb}) (fun i=>⟨upd (upd (upd (upd topF 14 (.lit (.int .i64 i.1))) 13 (.lit (.int .i64 l.length))) 12 (.sl false 1 (ints .i64 l))) 0 (.sl false 1 (ints .i64 l)),[]⟩) (fun i=>l.length - i.1) ⟨0,by omega,hB⟩ ?_ ?_
   ·skip
    (refine Le.frame ?_;repeat' (first|exact leF_top _|(with_reducible refine leF_sl ?_ ?_)|(refine leF_upd (LeR.of_eq ?_) ?_)))<;>(try (simp only [go_sem];try rfl))
   ·rintro ⟨i,hi,hF⟩ K0
    rcases Nat.lt_or_ge i l.length with hc|hc
    ·have g1:decide ((i:Int)<(l.length:Int))=true:=decide_eq_true (by omega)
     have g2:=ints_getD .i64 l i hc
     rw [drop_getD 0 hc,List.any_cons] at hF
     generalize l.getD i 0=d at g2 hF
     rw [show badD d=(decide (d<0)||decide (d>4096)) from rfl] at hF
     by_cases d1:d<0
     ·have d1':decide (d<0)=true:=decide_eq_true d1
      have:Bb=true:=by rw [←hF,d1'];rfl
      subst this
      repeat' (first
       |(with_reducible first|refine nx ?_|refine t_seq fun K=>?_|refine t_br (fun hc=>?_) fun hc=>?_|refine t_bx ?_|apply And.intro|intro vr)
       |((with_reducible first|refine ny ?_|refine t_dwh (h:=fun K KL=>?_));intros;simp only [go_sem,geff,con92_f,g1,g2,d1',Int.toNat_natCast]))
      all_goals try exact om
      refine end_ret rfl ?_
      simp only [fin,go_sem,szV]
      exact LeA.refl _
     ·have d1':decide (d<0)=false:=decide_eq_false d1
      by_cases d2:d>4096
      ·have d2':decide (d>4096)=true:=decide_eq_true d2
       have:Bb=true:=by rw [←hF,d1',d2'];rfl
       subst this
       repeat' (first
        |(with_reducible first|refine nx ?_|refine t_seq fun K=>?_|refine t_br (fun hc=>?_) fun hc=>?_|refine t_bx ?_|apply And.intro|intro vr)
        |((with_reducible first|refine ny ?_|refine t_dwh (h:=fun K KL=>?_));intros;simp only [go_sem,geff,con92_f,g1,g2,d1',d2',Int.toNat_natCast]))
       all_goals try exact om
       refine end_ret rfl ?_
       simp only [fin,go_sem,szV]
       exact LeA.refl _
      ·have d2':decide (d>4096)=false:=decide_eq_false d2
       rw [d1',d2',Bool.false_or,Bool.false_or] at hF
       repeat' (first
        |(with_reducible first|refine nx ?_|refine t_seq fun K=>?_|refine t_br (fun hc=>?_) fun hc=>?_|refine t_bx ?_|apply And.intro|intro vr)
        |((with_reducible first|refine ny ?_|refine t_dwh (h:=fun K KL=>?_));intros;simp only [go_sem,geff,con92_f,g1,g2,d1',d2',Int.toNat_natCast]))
       all_goals try exact om
       refine ⟨⟨i+1,by omega,hF⟩,by simp only;omega,?_⟩
       (refine Le.frame ?_;repeat' (first|exact leF_top _|(with_reducible refine leF_sl ?_ ?_)|(refine leF_upd (LeR.of_eq ?_) ?_)))<;>(try (simp only [go_sem];try rfl))
    ·have g1:decide ((i:Int)<(l.length:Int))=false:=decide_eq_false (by omega)
     rw [List.drop_eq_nil_of_le hc,List.any_nil] at hF
     subst hF
     have hd:=bad_no (by rw [hB];simp)
     by_cases h0:(l.any fun d=>0==d)=true
     ·skip
      repeat' (first
       |(with_reducible first|refine nx ?_|refine t_seq fun K=>?_|refine t_br (fun hc=>?_) fun hc=>?_|refine t_bx ?_|apply And.intro|intro vr)
       |((with_reducible first|refine ny ?_|refine t_dwh (h:=fun K KL=>?_));intros;simp only [go_sem,geff,con92_f,con92_c,slK_sl,g1,h0]))
      all_goals try exact om
      refine end_ret rfl ?_
      simp only [fin,go_sem,szV,h0,Bool.false_eq_true]
      exact LeA.refl _
     ·have h0':(l.any fun d=>0==d)=false:=Bool.eq_false_iff.2 h0
      repeat' (first
       |(with_reducible first|refine nx ?_|refine t_seq fun K=>?_|refine t_br (fun hc=>?_) fun hc=>?_|refine t_bx ?_|apply And.intro|intro vr)
       |((with_reducible first|refine ny ?_|refine t_dwh (h:=fun K KL=>?_));intros;simp only [go_sem,geff,con92_f,con92_c,slK_sl,g1,h0']))
      all_goals try exact om
      refine t_loop (ι:=Ls l G) (fun i=>⟨upd (upd (upd (upd topF 29 (.lit (.int .i64 i.i))) 28 (.lit (.int .i64 l.length))) 27 (.sl false 1 (ints .i64 l))) 6 (.lit (.int .i64 i.n)),[]⟩) (fun i=>l.length - i.i) ⟨0,1,by omega,by omega,hG⟩ ?_ ?_
      ·skip
       (refine Le.frame ?_;repeat' (first|exact leF_top _|(with_reducible refine leF_sl ?_ ?_)|(refine leF_upd (LeR.of_eq ?_) ?_)))<;>(try (simp only [go_sem];try rfl))
      ·rintro ⟨i,n,hi,hn,hF⟩ K1
       rcases Nat.lt_or_ge i l.length with hc|hc
       ·have g1:decide ((i:Int)<(l.length:Int))=true:=decide_eq_true (by omega)
        have g2:=ints_getD .i64 l i hc
        have hd':=hd (l.getD i 0) (by rw [List.getD_eq_getElem?_getD,List.getElem?_eq_getElem hc];exact List.getElem_mem _)
        rw [drop_getD 0 hc,prodS] at hF
        generalize l.getD i 0=d at g2 hF hd'
        have hb:=mul_bd hn hd'
        by_cases hp:n*d>4096
        ·have hp':decide (n*d>4096)=true:=decide_eq_true hp
         rw [if_pos hp] at hF
         subst hF
         repeat' (first
          |(with_reducible first|refine nx ?_|refine t_seq fun K=>?_|refine t_br (fun hc=>?_) fun hc=>?_|refine t_bx ?_|apply And.intro|intro vr)
          |((with_reducible first|refine ny ?_|refine t_dwh (h:=fun K KL=>?_));intros;simp only [go_sem,geff,con92_f,g1,g2,hp',Int.toNat_natCast]))
         all_goals try exact om
         refine end_ret rfl ?_
         simp only [fin,go_sem,szV,h0',Bool.false_eq_true]
         exact LeA.refl _
        ·have hp':decide (n*d>4096)=false:=decide_eq_false hp
         rw [if_neg hp] at hF
         repeat' (first
          |(with_reducible first|refine nx ?_|refine t_seq fun K=>?_|refine t_br (fun hc=>?_) fun hc=>?_|refine t_bx ?_|apply And.intro|intro vr)
          |((with_reducible first|refine ny ?_|refine t_dwh (h:=fun K KL=>?_));intros;simp only [go_sem,geff,con92_f,g1,g2,hp',Int.toNat_natCast]))
         all_goals try exact om
         refine ⟨⟨i+1,n*d,by omega,by omega,hF⟩,by simp only;omega,?_⟩
         (refine Le.frame ?_;repeat' (first|exact leF_top _|(with_reducible refine leF_sl ?_ ?_)|(refine leF_upd (LeR.of_eq ?_) ?_)))<;>(try (simp only [go_sem];try rfl))
       ·have g1:decide ((i:Int)<(l.length:Int))=false:=decide_eq_false (by omega)
        rw [List.drop_eq_nil_of_le hc,prodS] at hF
        subst hF
        repeat' (first
         |(with_reducible first|refine nx ?_|refine t_seq fun K=>?_|refine t_br (fun hc=>?_) fun hc=>?_|refine t_bx ?_|apply And.intro|intro vr)
         |((with_reducible first|refine ny ?_|refine t_dwh (h:=fun K KL=>?_));intros;simp only [go_sem,geff,con92_f,g1]))
        refine end_ret rfl ?_
        simp only [fin,go_sem,szV,h0',Bool.false_eq_true]
        exact LeA.refl _
noncomputable def con69:PCon Tryz.prog where
  f:=69
  c:=fun
   |[xl]=>match slK .i64 xl with|some l=>some (l.length≤1000000,szV (sizeS l))|_=>none
   |_=>none
  ok:=by
   intro args p r hc hp
   split at hc
   ·split at hc
    ·rename_i hl
     cases hc
     exact PC.weak (size_pc hp) ⟨slK_le hl,trivial⟩
    ·cases hc
   ·cases hc
  fk:=fk69
theorem con69_f:con69.f=69:=rfl
theorem con69_c {xl:AV}:con69.c [xl]=match slK .i64 xl with|some l=>some (l.length≤1000000,szV (sizeS l))|_=>none:=rfl
set_option maxHeartbeats 1000000 in
theorem rsize_pc {l:List Int} (hl:l.length≤1000000):PC Tryz.prog 50 [.sl false 1 (ints .i64 l)] (szV (sizeS l)):=by
  unfold sizeS
  by_cases h6:l.length>6
  ·have g0:decide ((l.length:Int)>6)=true:=decide_eq_true (by omega)
   rw [if_pos h6]
   refine pcO E0_ok (fun _=>[0,2,3,4,5,6,7,10,14,28,37,41,51]) Tryz.func50 (h:=fun KF=>?_)
   unfold E0
   repeat' (first
    |(with_reducible first|refine nx ?_|refine t_seq fun K=>?_|refine t_br (fun hc=>?_) fun hc=>?_|refine t_bx ?_|apply And.intro|intro vr)
    |((with_reducible first|refine ny ?_|refine t_dwh (h:=fun K KL=>?_));intros;simp only [go_sem,geff,g0]))
   refine end_ret rfl ?_
   simp only [fin,go_sem,szV]
   exact LeA.refl _
  ·have g0:decide ((l.length:Int)>6)=false:=decide_eq_false (by omega)
   rw [if_neg h6]
   generalize hB:l.any badD=Bb
   generalize hG:prodS l 1=G
   generalize hZ:(l.any fun d=>0==d)=Z
   refine pcO E0_ok (fun _=>[0,2,3,4,5,6,7,10,14,28,37,41,51]) Tryz.func50 (h:=fun KF=>?_)
   unfold E0
   repeat' (first
    |(with_reducible first|refine nx ?_|refine t_seq fun K=>?_|refine t_br (fun hc=>?_) fun hc=>?_|refine t_bx ?_|apply And.intro|intro vr)
    |((with_reducible first|refine ny ?_|refine t_dwh (h:=fun K KL=>?_));intros;simp only [go_sem,geff,g0]))
   refine t_loop (ι:={i:Nat×Bool // i.1≤l.length∧(l.drop i.1).any badD=Bb∧(i.2||(l.drop i.1).any fun d=>0==d)=Z}) (fun i=>⟨upd (upd (upd topF 5 (.lit (.int .i64 i.1.1))) 4 (.lit (.bool i.1.2))) 0 (.sl false 1 (ints .i64 l)),[]⟩) (fun i=>l.length - i.1.1) ⟨(0,false),by simp,hB,by simpa using hZ⟩ ?_ ?_
   ·skip
    (refine Le.frame ?_;repeat' (first|exact leF_top _|(with_reducible refine leF_sl ?_ ?_)|(refine leF_upd (LeR.of_eq ?_) ?_)))<;>(try (simp only [go_sem];try rfl))
   ·rintro ⟨⟨i,z⟩,hi,hF,hY⟩ K0
    simp only at hi hF hY
    rcases Nat.lt_or_ge i l.length with hc|hc
    ·have g1:decide ((i:Int)<(l.length:Int))=true:=decide_eq_true (by omega)
     have g2:=ints_getD .i64 l i hc
     rw [drop_getD 0 hc,List.any_cons] at hF
     rw [drop_getD 0 hc,List.any_cons,←Bool.or_assoc] at hY
     generalize l.getD i 0=d at g2 hF hY
     rw [show badD d=(decide (d<0)||decide (d>4096)) from rfl] at hF
     by_cases d1:d<0
     ·have d1':decide (d<0)=true:=decide_eq_true d1
      have:Bb=true:=by rw [←hF,d1'];rfl
      subst this
      repeat' (first
       |(with_reducible first|refine nx ?_|refine t_seq fun K=>?_|refine t_br (fun hc=>?_) fun hc=>?_|refine t_bx ?_|apply And.intro|intro vr)
       |((with_reducible first|refine ny ?_|refine t_dwh (h:=fun K KL=>?_));intros;simp only [go_sem,geff,g1,g2,d1',Int.toNat_natCast]))
      all_goals try exact om
      refine end_ret rfl ?_
      simp only [fin,go_sem,szV]
      exact LeA.refl _
     ·have d1':decide (d<0)=false:=decide_eq_false d1
      by_cases d2:d>4096
      ·have d2':decide (d>4096)=true:=decide_eq_true d2
       have:Bb=true:=by rw [←hF,d1',d2'];rfl
       subst this
       repeat' (first
        |(with_reducible first|refine nx ?_|refine t_seq fun K=>?_|refine t_br (fun hc=>?_) fun hc=>?_|refine t_bx ?_|apply And.intro|intro vr)
        |((with_reducible first|refine ny ?_|refine t_dwh (h:=fun K KL=>?_));intros;simp only [go_sem,geff,g1,g2,d1',d2',Int.toNat_natCast]))
       all_goals try exact om
       refine end_ret rfl ?_
       simp only [fin,go_sem,szV]
       exact LeA.refl _
      ·have d2':decide (d>4096)=false:=decide_eq_false d2
       rw [d1',d2',Bool.false_or,Bool.false_or] at hF
       cases z
       ·by_cases e0:(d==0)=true
        ·have e1:(0==d)=true:=by rw [beq_iff_eq] at e0 ⊢;exact e0.symm
         rw [e1] at hY
         repeat' (first
          |(with_reducible first|refine nx ?_|refine t_seq fun K=>?_|refine t_br (fun hc=>?_) fun hc=>?_|refine t_bx ?_|apply And.intro|intro vr)
          |((with_reducible first|refine ny ?_|refine t_dwh (h:=fun K KL=>?_));intros;simp only [go_sem,geff,g1,g2,d1',d2',e0,Int.toNat_natCast]))
         all_goals try exact om
         refine ⟨⟨(i+1,true),by simp only;omega,hF,hY⟩,by simp only;omega,?_⟩
         (refine Le.frame ?_;repeat' (first|exact leF_top _|(with_reducible refine leF_sl ?_ ?_)|(refine leF_upd (LeR.of_eq ?_) ?_)))<;>(try (simp only [go_sem];try rfl))
        ·have e0':(d==0)=false:=by simpa using e0
         have e1:(0==d)=false:=by rw [beq_eq_false_iff_ne] at e0' ⊢;exact fun h=>e0' h.symm
         rw [e1] at hY
         repeat' (first
          |(with_reducible first|refine nx ?_|refine t_seq fun K=>?_|refine t_br (fun hc=>?_) fun hc=>?_|refine t_bx ?_|apply And.intro|intro vr)
          |((with_reducible first|refine ny ?_|refine t_dwh (h:=fun K KL=>?_));intros;simp only [go_sem,geff,g1,g2,d1',d2',e0',Int.toNat_natCast]))
         all_goals try exact om
         refine ⟨⟨(i+1,false),by simp only;omega,hF,hY⟩,by simp only;omega,?_⟩
         (refine Le.frame ?_;repeat' (first|exact leF_top _|(with_reducible refine leF_sl ?_ ?_)|(refine leF_upd (LeR.of_eq ?_) ?_)))<;>(try (simp only [go_sem];try rfl))
       ·skip
        repeat' (first
         |(with_reducible first|refine nx ?_|refine t_seq fun K=>?_|refine t_br (fun hc=>?_) fun hc=>?_|refine t_bx ?_|apply And.intro|intro vr)
         |((with_reducible first|refine ny ?_|refine t_dwh (h:=fun K KL=>?_));intros;simp only [go_sem,geff,g1,g2,d1',d2',Int.toNat_natCast]))
        all_goals try exact om
        refine ⟨⟨(i+1,true),by simp only;omega,hF,by rw [←hY];simp⟩,by simp only;omega,?_⟩
        (refine Le.frame ?_;repeat' (first|exact leF_top _|(with_reducible refine leF_sl ?_ ?_)|(refine leF_upd (LeR.of_eq ?_) ?_)))<;>(try (simp only [go_sem];try rfl))
    ·have g1:decide ((i:Int)<(l.length:Int))=false:=decide_eq_false (by omega)
     rw [List.drop_eq_nil_of_le hc,List.any_nil] at hF
     rw [List.drop_eq_nil_of_le hc,List.any_nil,Bool.or_false] at hY
     subst hF
     have hd:=bad_no (by rw [hB];simp)
     cases z
     ·subst hY
      repeat' (first
       |(with_reducible first|refine nx ?_|refine t_seq fun K=>?_|refine t_br (fun hc=>?_) fun hc=>?_|refine t_bx ?_|apply And.intro|intro vr)
       |((with_reducible first|refine ny ?_|refine t_dwh (h:=fun K KL=>?_));intros;simp only [go_sem,geff,g1]))
      refine t_loop (ι:=Ls l G) (fun i=>⟨upd (upd (upd topF 7 (.lit (.int .i64 i.i))) 6 (.lit (.int .i64 i.n))) 0 (.sl false 1 (ints .i64 l)),[]⟩) (fun i=>l.length - i.i) ⟨0,1,by omega,by omega,hG⟩ ?_ ?_
      ·skip
       (refine Le.frame ?_;repeat' (first|exact leF_top _|(with_reducible refine leF_sl ?_ ?_)|(refine leF_upd (LeR.of_eq ?_) ?_)))<;>(try (simp only [go_sem];try rfl))
      ·rintro ⟨i,n,hi,hn,hF⟩ K1
       rcases Nat.lt_or_ge i l.length with hc|hc
       ·have g1:decide ((i:Int)<(l.length:Int))=true:=decide_eq_true (by omega)
        have g2:=ints_getD .i64 l i hc
        have hd':=hd (l.getD i 0) (by rw [List.getD_eq_getElem?_getD,List.getElem?_eq_getElem hc];exact List.getElem_mem _)
        rw [drop_getD 0 hc,prodS] at hF
        generalize l.getD i 0=d at g2 hF hd'
        have hb:=mul_bd hn hd'
        by_cases hp:n*d>4096
        ·have hp':decide (n*d>4096)=true:=decide_eq_true hp
         rw [if_pos hp] at hF
         subst hF
         repeat' (first
          |(with_reducible first|refine nx ?_|refine t_seq fun K=>?_|refine t_br (fun hc=>?_) fun hc=>?_|refine t_bx ?_|apply And.intro|intro vr)
          |((with_reducible first|refine ny ?_|refine t_dwh (h:=fun K KL=>?_));intros;simp only [go_sem,geff,g1,g2,hp',Int.toNat_natCast]))
         all_goals try exact om
         refine end_ret rfl ?_
         simp only [fin,go_sem,szV,Bool.false_eq_true]
         exact LeA.refl _
        ·have hp':decide (n*d>4096)=false:=decide_eq_false hp
         rw [if_neg hp] at hF
         repeat' (first
          |(with_reducible first|refine nx ?_|refine t_seq fun K=>?_|refine t_br (fun hc=>?_) fun hc=>?_|refine t_bx ?_|apply And.intro|intro vr)
          |((with_reducible first|refine ny ?_|refine t_dwh (h:=fun K KL=>?_));intros;simp only [go_sem,geff,g1,g2,hp',Int.toNat_natCast]))
         all_goals try exact om
         refine ⟨⟨i+1,n*d,by omega,by omega,hF⟩,by simp only;omega,?_⟩
         (refine Le.frame ?_;repeat' (first|exact leF_top _|(with_reducible refine leF_sl ?_ ?_)|(refine leF_upd (LeR.of_eq ?_) ?_)))<;>(try (simp only [go_sem];try rfl))
       ·have g1:decide ((i:Int)<(l.length:Int))=false:=decide_eq_false (by omega)
        rw [List.drop_eq_nil_of_le hc,prodS] at hF
        subst hF
        repeat' (first
         |(with_reducible first|refine nx ?_|refine t_seq fun K=>?_|refine t_br (fun hc=>?_) fun hc=>?_|refine t_bx ?_|apply And.intro|intro vr)
         |((with_reducible first|refine ny ?_|refine t_dwh (h:=fun K KL=>?_));intros;simp only [go_sem,geff,g1]))
        refine end_ret rfl ?_
        simp only [fin,go_sem,szV,Bool.false_eq_true]
        exact LeA.refl _
     ·subst hY
      repeat' (first
       |(with_reducible first|refine nx ?_|refine t_seq fun K=>?_|refine t_br (fun hc=>?_) fun hc=>?_|refine t_bx ?_|apply And.intro|intro vr)
       |((with_reducible first|refine ny ?_|refine t_dwh (h:=fun K KL=>?_));intros;simp only [go_sem,geff,g1]))
      refine end_ret rfl ?_
      simp only [fin,go_sem,szV,Bool.false_eq_true]
      exact LeA.refl _
noncomputable def con50:PCon Tryz.prog where
  f:=50
  c:=fun
   |[xl]=>match slK .i64 xl with|some l=>some (l.length≤1000000,szV (sizeS l))|_=>none
   |_=>none
  ok:=by
   intro args p r hc hp
   split at hc
   ·split at hc
    ·rename_i hl
     cases hc
     exact PC.weak (rsize_pc hp) ⟨slK_le hl,trivial⟩
    ·cases hc
   ·cases hc
  fk:=fk50
theorem con50_f:con50.f=50:=rfl
theorem con50_c {xl:AV}:con50.c [xl]=match slK .i64 xl with|some l=>some (l.length≤1000000,szV (sizeS l))|_=>none:=rfl
end Go.Proofs.YtcpjahmajkhchaaGreat

namespace Go.Proofs.YtcpjahmajkhchaaGreat
open Go Go.Fw
set_option maxRecDepth 20000
theorem LeL.len:∀ {xs ys:List AV},LeL xs ys→xs.length=ys.length
  |[],[],_=>rfl
  |_::_,_::_,h=>by simp [LeL.len h.2]
  |[],_::_,h=>h.elim
  |_::_,[],h=>h.elim
theorem LeA.agg {xs ys:List AV} (h:LeL xs ys):LeA (.agg xs) (.agg ys):=fun C v hv=>by
  cases hv with
  |agg _ vs hl h1 hh=>exact .agg ys vs (h.rl ⟨hl,hh⟩).1 (fun i hi=>h1 i (by rw [LeL.len h];exact hi)) (h.rl ⟨hl,hh⟩).2
theorem LeL.refl:∀ (xs:List AV),LeL xs xs
  |[]=>trivial
  |x::xs=>⟨LeA.refl x,LeL.refl xs⟩
theorem LeL.append:∀ {xs ys us vs:List AV},LeL xs ys→LeL us vs→LeL (xs++us) (ys++vs)
  |[],[],_,_,_,h=>h
  |_::_,_::_,_,_,h,h'=>⟨h.1,LeL.append h.2 h'⟩
  |[],_::_,_,_,h,_=>h.elim
  |_::_,[],_,_,h,_=>h.elim
theorem LeL.get:∀ {xs ys:List AV},LeL xs ys→∀ i,LeA (xs.getD i .top) (ys.getD i .top)
  |[],[],_,_=>LeA.refl _
  |x::xs,y::ys,h,0=>by simpa using h.1
  |x::xs,y::ys,h,i+1=>by simpa using LeL.get h.2 i
  |[],_::_,h,_=>h.elim
  |_::_,[],h,_=>h.elim
theorem LeA.sl {b:Bool} {sz:Nat} {xs ys:List AV} (hl:xs.length=ys.length) (hw:∀ y∈ys,y.cells.length=sz) (h:LeL (flat xs) (flat ys)):LeA (.sl b sz xs) (.sl false sz ys):=fun C v hv=>by
  cases hv with
  |nil full sz a=>
   have:ys=[]:=List.eq_nil_of_length_eq_zero (by simpa using hl.symm)
   subst this
   exact .nil false sz a
  |sl full sz xs bb off cap f hc hm hf hw' hC h1 hR=>
   rw [hl]
   exact .sl false sz ys bb off cap f (by rw [←hl];exact hc) hm (by simp) hw (fun j hj=>hC j (by rw [LeL.len h];exact hj)) (fun j hj=>h1 j (by rw [LeL.len h];exact hj))
     (fun j hj=>LeL.get h j _ _ (hR j (by rw [LeL.len h];exact hj)))
def arrOf:AV→Option Arr
  |.agg [.lit (.string e),x,y]=>match slK .i64 x,slK .i64 y with
   |some d,some w=>some ⟨e,d,w⟩
   |_,_=>none
  |_=>none
theorem arrOf_agg {e:ByteArray} {x y:AV}:arrOf (.agg [.lit (.string e),x,y])=match slK .i64 x,slK .i64 y with
    |some d,some w=>some ⟨e,d,w⟩
    |_,_=>none:=rfl
theorem arrOf_V (a:Arr):arrOf (arrV a)=some a:=by simp [arrV,arrOf,slK_sl]
theorem arrOf_inv {x:AV} {a:Arr} (h:arrOf x=some a):∃ p q,x= .agg [.lit (.string a.e),p,q]∧LeA p (.sl false 1 (ints .i64 a.d))∧LeA q (.sl false 1 (ints .i64 a.x)):=by
  unfold arrOf at h
  split at h
  ·split at h
   ·rename_i h1 h2
    cases h
    exact ⟨_,_,rfl,slK_le h1,slK_le h2⟩
   ·cases h
  ·cases h
theorem arrOf_le {x:AV} {a:Arr} (h:arrOf x=some a):LeA x (arrV a):=by
  obtain ⟨p,q,rfl,h1,h2⟩:=arrOf_inv h
  exact LeA.agg ⟨LeA.refl _,h1,h2,trivial⟩
def arrL:List AV→Option (List Arr)
  |[]=>some []
  |x::xs=>match arrOf x,arrL xs with
   |some a,some l=>some (a::l)
   |_,_=>none
theorem arrL_nil:arrL []=some []:=rfl
theorem arrL_cons {x:AV} {xs:List AV}:arrL (x::xs)=match arrOf x,arrL xs with
    |some a,some l=>some (a::l)
    |_,_=>none:=rfl
theorem arrL_arrs:∀ l:List Arr,arrL (arrs l)=some l
  |[]=>rfl
  |a::l=>by
   have:=arrL_arrs l
   unfold arrs at this ⊢
   rw [List.map_cons,arrL_cons,arrOf_V,this]
theorem arrL_inv:∀ {xs:List AV} {l:List Arr},arrL xs=some l→xs.length=l.length∧LeL (flat xs) (flat (arrs l))
  |[],l,h=>by cases h;exact ⟨rfl,trivial⟩
  |x::xs,l,h=>by
   rw [arrL_cons] at h
   split at h
   ·rename_i a m h1 h2
    cases h
    obtain ⟨e1,e2⟩:=arrL_inv h2
    obtain ⟨p,q,rfl,g1,g2⟩:=arrOf_inv h1
    refine ⟨by simp [e1],?_⟩
    have:LeL (AV.cells (.agg [.lit (.string a.e),p,q])) (AV.cells (arrV a)):=⟨LeA.refl _,g1,g2,trivial⟩
    exact LeL.append this e2
   ·cases h
theorem arrs_wid (l:List Arr):∀ y∈arrs l,y.cells.length=3:=by
  intro y hy
  obtain ⟨a,_,rfl⟩:=List.mem_map.1 hy
  rfl
def arrsOf (x:AV):Option (List Arr):=(slA 3 x).bind arrL
theorem arrsOf_le {x:AV} {l:List Arr} (h:arrsOf x=some l):LeA x (.sl false 3 (arrs l)):=by
  unfold arrsOf at h
  cases hx:slA 3 x with
  |none=>rw [hx] at h;cases h
  |some xs=>
   rw [hx] at h
   obtain ⟨h1,h2⟩:=arrL_inv (l:=l) h
   intro C v hv
   exact LeA.sl (b:=false) (by rw [arrs_length];exact h1) (arrs_wid l) h2 C v (slA_le hx C v hv)
theorem arrsOf_nil:arrsOf (.lit (.slice none 0 0))=some []:=rfl
theorem arrsOf_sl {b:Bool} {l:List Arr}:arrsOf (.sl b 3 (arrs l))=some l:=by simp [arrsOf,slA,arrL_arrs]
theorem arrsOf_x {b:Bool} {xs:List AV}:arrsOf (.sl b 3 xs)=arrL xs:=by simp [arrsOf,slA]
def aeV (p:Arr×Int):AV:= .tup [arrV p.1,.lit (.int .i64 p.2)]
end Go.Proofs.YtcpjahmajkhchaaGreat

namespace Go.Proofs.YtcpjahmajkhchaaGreat
open Go Go.Fw
set_option maxRecDepth 20000
noncomputable def E3:Env:=envOf (P:=Tryz.prog) zer (fun _=>false) (fun _=>false) [con40] []
theorem E3_ok:EnvOk Tryz.prog E3:=envOk zer_ok
theorem notel_ec {σ:List AObj} {o:Nat} {e:ByteArray} {n:Int} (ho:σ[o]? =some (.box 9 [.lit (.string e)])) {k:AV→List AObj→Prop} (hk:k (.lit (.bool (!vld e n))) σ):EC Tryz.prog 94 [.lit (.int .i64 n),.ref o 0] σ k:=by
  refine ecO E3_ok (fun _=>[0,1,3]) Tryz.func94 (h:=fun KF=>?_)
  unfold E3
  repeat' (first
   |(with_reducible first|refine nx ?_|refine t_seq fun K=>?_|refine t_br (fun hc=>?_) fun hc=>?_|refine t_bx ?_|apply And.intro|intro vr)
   |((with_reducible first|refine ny ?_|refine t_dwh (h:=fun K KL=>?_));intros;simp only [go_sem,geff,con40_f,con40_c,ho]))
  refine end_ret rfl ?_
  simp only [go_sem]
  exact hk
noncomputable def con94:ECon Tryz.prog where
  f:=94
  c:=fun args σ k=>match args with
   |[.lit (.int .i64 n),.ref o 0]=>match σ[o]? with
    |some (.box 9 [.lit (.string e)])=>k (.lit (.bool (!vld e n))) σ
    |_=>False
   |_=>False
  ok:=by
   intro args σ k h
   split at h
   ·split at h
    ·rename_i ho
     exact notel_ec ho h
    ·exact h.elim
   ·exact h.elim
  fk:=fk94
theorem con94_f:con94.f=94:=rfl
theorem con94_c {σ:List AObj} {k:AV→List AObj→Prop} {o:Nat} {n:Int}:con94.c [.lit (.int .i64 n),.ref o 0] σ k=match σ[o]? with
      |some (.box 9 [.lit (.string e)])=>k (.lit (.bool (!vld e n))) σ
      |_=>False:=rfl
noncomputable def E4:Env:=envOf (P:=Tryz.prog) zer (fun _=>false) (fun _=>false) [] [con94]
theorem E4_ok:EnvOk Tryz.prog E4:=envOk zer_ok
theorem indexf_ec {σ:List AObj} {o:Nat} {e:ByteArray} {l:List Int} (hl:l.length≤1000000) (ho:σ[o]? =some (.box 9 [.lit (.string e)])) {k:AV→List AObj→Prop} (hk:k (.lit (.int .i64 (idxG (fun n=> !vld e n) l 0))) σ):
    EC Tryz.prog 116 [.sl false 1 (ints .i64 l),.fn (.func 94) [] [.ref o 0]] σ k:=by
  generalize hR:idxG (fun n=> !vld e n) l 0=R at hk
  refine ecO E4_ok (fun _=>[0,1,4,5,7,8,9,16]) Tryz.func116 (h:=fun KF=>?_)
  unfold E4
  repeat' (first
   |(with_reducible first|refine nx ?_|refine t_seq fun K=>?_|refine t_br (fun hc=>?_) fun hc=>?_|refine t_bx ?_|apply And.intro|intro vr)
   |((with_reducible first|refine ny ?_|refine t_dwh (h:=fun K KL=>?_));intros;simp only [go_sem,geff,con94_f]))
  refine t_loop (ι:={i:Nat // i≤l.length∧idxG (fun n=> !vld e n) (l.drop i) i=R}) (fun i=>⟨upd (upd (upd (upd topF 8 (.lit (.int .i64 i.1))) 7 (.lit (.int .i64 l.length))) 1 (.fn (.func 94) [] [.ref o 0])) 0 (.sl false 1 (ints .i64 l)),σ⟩) (fun i=>l.length - i.1) ⟨0,by omega,hR⟩ ?_ ?_
  ·skip
   (refine Le.frame ?_;repeat' (first|exact leF_top _|(with_reducible refine leF_sl ?_ ?_)|(refine leF_upd (LeR.of_eq ?_) ?_)))<;>(try (simp only [go_sem];try rfl))
  ·rintro ⟨i,hi,hF⟩ K0
   rcases Nat.lt_or_ge i l.length with hc|hc
   ·have g1:decide ((i:Int)<(l.length:Int))=true:=decide_eq_true (by omega)
    have g2:=ints_getD .i64 l i hc
    rw [drop_getD 0 hc,idxG] at hF
    generalize l.getD i 0=d at g2 hF
    by_cases he:vld e d=true
    ·rw [if_neg (by simp [he])] at hF
     repeat' (first
      |(with_reducible first|refine nx ?_|refine t_seq fun K=>?_|refine t_br (fun hc=>?_) fun hc=>?_|refine t_bx ?_|apply And.intro|intro vr)
      |((with_reducible first|refine ny ?_|refine t_dwh (h:=fun K KL=>?_));intros;simp only [go_sem,geff,con94_f,con94_c,ho,g1,g2,he,Int.toNat_natCast,Bool.not_true]))
     all_goals try exact om
     refine ⟨⟨i+1,by omega,by rw [←hF];congr 1⟩,by simp only;omega,?_⟩
     (refine Le.frame ?_;repeat' (first|exact leF_top _|(with_reducible refine leF_sl ?_ ?_)|(refine leF_upd (LeR.of_eq ?_) ?_)))<;>(try (simp only [go_sem];try rfl))
    ·have he':vld e d=false:=by simpa using he
     rw [if_pos (by simp [he'])] at hF
     subst hF
     repeat' (first
      |(with_reducible first|refine nx ?_|refine t_seq fun K=>?_|refine t_br (fun hc=>?_) fun hc=>?_|refine t_bx ?_|apply And.intro|intro vr)
      |((with_reducible first|refine ny ?_|refine t_dwh (h:=fun K KL=>?_));intros;simp only [go_sem,geff,con94_f,con94_c,ho,g1,g2,he',Int.toNat_natCast,Bool.not_false]))
     all_goals try exact om
     refine end_ret rfl ?_
     simp only [go_sem]
     exact hk
   ·have g1:decide ((i:Int)<(l.length:Int))=false:=decide_eq_false (by omega)
    rw [List.drop_eq_nil_of_le hc,idxG] at hF
    subst hF
    repeat' (first
     |(with_reducible first|refine nx ?_|refine t_seq fun K=>?_|refine t_br (fun hc=>?_) fun hc=>?_|refine t_bx ?_|apply And.intro|intro vr)
     |((with_reducible first|refine ny ?_|refine t_dwh (h:=fun K KL=>?_));intros;simp only [go_sem,geff,con94_f,g1]))
    refine end_ret rfl ?_
    simp only [go_sem]
    exact hk
noncomputable def con116:ECon Tryz.prog where
  f:=116
  c:=fun args σ k=>match args with
   |[x,.fn (.func 94) [] [.ref o 0]]=>match slK .i64 x,σ[o]? with
    |some l,some (.box 9 [.lit (.string e)])=>l.length≤1000000∧k (.lit (.int .i64 (idxG (fun n=> !vld e n) l 0))) σ
    |_,_=>False
   |_=>False
  ok:=by
   intro args σ k h
   split at h
   ·split at h
    ·rename_i hx ho
     exact EC.weak (indexf_ec h.1 ho h.2) (LeRL.cons (slK_leR hx) (LeRL.cons (LeR.refl _) LeRL.nil))
    ·exact h.elim
   ·exact h.elim
  fk:=fk116
theorem con116_f:con116.f=116:=rfl
theorem con116_c {σ:List AObj} {k:AV→List AObj→Prop} {x:AV} {o:Nat}:con116.c [x,.fn (.func 94) [] [.ref o 0]] σ k=match slK .i64 x,σ[o]? with
      |some l,some (.box 9 [.lit (.string e)])=>l.length≤1000000∧k (.lit (.int .i64 (idxG (fun n=> !vld e n) l 0))) σ
      |_,_=>False:=rfl
noncomputable def E5:Env:=envOf (P:=Tryz.prog) zer (fun _=>false) (fun _=>false) [] [con116]
theorem E5_ok:EnvOk Tryz.prog E5:=envOk zer_ok
theorem containsf_ec {σ:List AObj} {o:Nat} {e:ByteArray} {l:List Int} (hl:l.length≤1000000) (ho:σ[o]? =some (.box 9 [.lit (.string e)])) {k:AV→List AObj→Prop} (hk:k (.lit (.bool (l.any fun n=> !vld e n))) σ):
    EC Tryz.prog 93 [.sl false 1 (ints .i64 l),.fn (.func 94) [] [.ref o 0]] σ k:=by
  rw [←idxG_any _ l 0 (by omega)] at hk
  refine ecO E5_ok (fun _=>[0,1,4]) Tryz.func93 (h:=fun KF=>?_)
  unfold E5
  repeat' (first
   |(with_reducible first|refine nx ?_|refine t_seq fun K=>?_|refine t_br (fun hc=>?_) fun hc=>?_|refine t_bx ?_|apply And.intro|intro vr)
   |((with_reducible first|refine ny ?_|refine t_dwh (h:=fun K KL=>?_));intros;simp only [go_sem,geff,con116_f,con116_c,slK_sl,ho]))
  all_goals try exact om
  refine end_ret rfl ?_
  simp only [go_sem]
  exact hk
noncomputable def con93:ECon Tryz.prog where
  f:=93
  c:=fun args σ k=>match args with
   |[x,.fn (.func 94) [] [.ref o 0]]=>match slK .i64 x,σ[o]? with
    |some l,some (.box 9 [.lit (.string e)])=>l.length≤1000000∧k (.lit (.bool (l.any fun n=> !vld e n))) σ
    |_,_=>False
   |_=>False
  ok:=by
   intro args σ k h
   split at h
   ·split at h
    ·rename_i hx ho
     exact EC.weak (containsf_ec h.1 ho h.2) (LeRL.cons (slK_leR hx) (LeRL.cons (LeR.refl _) LeRL.nil))
    ·exact h.elim
   ·exact h.elim
  fk:=fk93
theorem con93_f:con93.f=93:=rfl
theorem con93_c {σ:List AObj} {k:AV→List AObj→Prop} {x:AV} {o:Nat}:con93.c [x,.fn (.func 94) [] [.ref o 0]] σ k=match slK .i64 x,σ[o]? with
      |some l,some (.box 9 [.lit (.string e)])=>l.length≤1000000∧k (.lit (.bool (l.any fun n=> !vld e n))) σ
      |_,_=>False:=rfl
noncomputable def E6:Env:=envOf (P:=Tryz.prog) zer (fun _=>false) (fun _=>false) [] [con93]
theorem E6_ok:EnvOk Tryz.prog E6:=envOk zer_ok
theorem elements_pc {e:ByteArray} {l:List Int} (hl:l.length≤1000000):PC Tryz.prog 70 [.lit (.string e),.sl false 1 (ints .i64 l)] (.lit (.bool (!(l.any fun n=> !vld e n)))):=by
  refine pcO E6_ok (fun _=>[1,2,4]) Tryz.func70 (h:=fun KF=>?_)
  unfold E6
  repeat' (first
   |(with_reducible first|refine nx ?_|refine t_seq fun K=>?_|refine t_br (fun hc=>?_) fun hc=>?_|refine t_bx ?_|apply And.intro|intro vr)
   |((with_reducible first|refine ny ?_|refine t_dwh (h:=fun K KL=>?_));intros;simp only [go_sem,geff,con93_f,con93_c,slK_sl]))
  all_goals try exact om
  refine end_ret rfl ?_
  simp only [fin,go_sem]
  exact LeA.refl _
noncomputable def con70:PCon Tryz.prog where
  f:=70
  c:=fun
   |[.lit (.string e),xl]=>match slK .i64 xl with|some l=>some (l.length≤1000000,.lit (.bool (!(l.any fun n=> !vld e n))))|_=>none
   |_=>none
  ok:=by
   intro args p r hc hp
   split at hc
   ·split at hc
    ·rename_i hl
     cases hc
     exact PC.weak (elements_pc hp) ⟨LeA.refl _,slK_le hl,trivial⟩
    ·cases hc
   ·cases hc
  fk:=fk70
theorem con70_f:con70.f=70:=rfl
theorem con70_c {e:ByteArray} {xl:AV}:con70.c [.lit (.string e),xl]=match slK .i64 xl with|some l=>some (l.length≤1000000,.lit (.bool (!(l.any fun n=> !vld e n))))|_=>none:=rfl
theorem szV_def {p:Int×Int}:szV p= .tup [.lit (.int .i64 p.1),.lit (.int .i64 p.2)]:=rfl
theorem arrV_def {a:Arr}:arrV a= .agg [.lit (.string a.e),.sl false 1 (ints .i64 a.d),.sl false 1 (ints .i64 a.x)]:=rfl
theorem nilA_le:LeA (.agg [.lit (.string ByteArray.empty),.sl true 1 [],.sl true 1 []]) (arrV nilA):=LeA.agg ⟨LeA.of_eq rfl,LeA.full _ _ _,LeA.full _ _ _,trivial⟩
theorem nilAe_le {e:Int}:LeA (.tup [.agg [.lit (.string ByteArray.empty),.sl true 1 [],.sl true 1 []],.lit (.int .i64 e)]) (aeV (nilA,e)):=LeA.tup ⟨nilA_le,LeA.refl _,trivial⟩
def tyOk (e:ByteArray):Bool:=eqS e ⟨#[105,110,116]⟩||eqS e ⟨#[98,111,111,108]⟩
def bad (a:Arr):Bool:=a.x.any fun n=> !vld a.e n
theorem ofE_ty {a:Arr} (h:tyOk a.e=false):ofE a=12:=if_pos h
theorem ofE_sz {a:Arr} (h:tyOk a.e=true) (h2:(sizeS a.d).2≠0):ofE a=(sizeS a.d).2:=by
  unfold ofE;rw [if_neg (show ¬ (eqS a.e sInt||eqS a.e sBool)=false from fun e=>by have e:tyOk a.e=false:=e;rw [h] at e;cases e),if_pos h2]
theorem ofE_len {a:Arr} (h:tyOk a.e=true) (h2:(sizeS a.d).2=0) (h3:(a.x.length:Int)≠(sizeS a.d).1):ofE a=1:=by
  unfold ofE;rw [if_neg (show ¬ (eqS a.e sInt||eqS a.e sBool)=false from fun e=>by have e:tyOk a.e=false:=e;rw [h] at e;cases e),if_neg (by simpa using h2),if_pos h3]
theorem ofE_el {a:Arr} (h:tyOk a.e=true) (h2:(sizeS a.d).2=0) (h3:(a.x.length:Int)=(sizeS a.d).1):ofE a=if bad a=true then 2 else 0:=by
  unfold ofE;rw [if_neg (show ¬ (eqS a.e sInt||eqS a.e sBool)=false from fun e=>by have e:tyOk a.e=false:=e;rw [h] at e;cases e),if_neg (by simpa using h2),if_neg (by simpa using h3)];rfl
theorem ofS_err {a:Arr} {e:Int} (h:ofE a=e) (h0:e≠0):ofS a=(nilA,e):=by unfold ofS;rw [h,if_neg h0]
theorem ofS_ok {a:Arr} (h:ofE a=0):ofS a=(a,0):=by unfold ofS;rw [if_pos h]
noncomputable def E7:Env:=envOf (P:=Tryz.prog) zer (fun _=>false) (fun _=>false) [con71,con69,con70] []
theorem E7_ok:EnvOk Tryz.prog E7:=envOk zer_ok
set_option maxRecDepth 20000 in
set_option maxHeartbeats 2000000 in
theorem of_pc {e:ByteArray} {d x:List Int} (hd:d.length≤1000000) (hx:x.length≤1000000):PC Tryz.prog 47 [.lit (.string e),.sl false 1 (ints .i64 d),.sl false 1 (ints .i64 x)] (aeV (ofS ⟨e,d,x⟩)):=by
  have hz:=sizeS_bd d
  by_cases t:tyOk e=true
  ·generalize hS:sizeS d=s at hz
   obtain ⟨n,er⟩:=s
   simp only at hz
   have hS1:(sizeS d).1=n:=by rw [hS]
   have hS2:(sizeS d).2=er:=by rw [hS]
   by_cases t1:eqS e ⟨#[105,110,116]⟩=true
   ·skip
    by_cases e0:er=0
    ·subst e0
     by_cases hn:(x.length:Int)=n
     ·have n1:((x.length:Int) !=n)=false:=by rw [bne_eq_false_iff_eq];exact hn
      by_cases hb:bad ⟨e,d,x⟩=true
      ·rw [ofS_err (e:=2) (by rw [ofE_el t hS2 (by rw [hS1];exact hn),if_pos hb]) (by decide)]
       have hb':(x.any fun n=> !vld e n)=true:=hb
       refine pcO E7_ok (fun _=>[0,1,2,6,7,8,9,15,22,27,33]) Tryz.func47 (h:=fun KF=>?_)
       unfold E7
       repeat' (first
        |(with_reducible first|refine nx ?_|refine t_seq fun K=>?_|refine t_br (fun hc=>?_) fun hc=>?_|refine t_bx ?_|apply And.intro|intro vr)
        |((with_reducible first|refine ny ?_|refine t_dwh (h:=fun K KL=>?_));intros;simp only [go_sem,geff,con71_f,con69_f,con70_f,con71_c,con69_c,con70_c,slK_sl,t1,hS,szV_def,n1,hb',Bool.not_true]))
       all_goals try exact om
       refine end_ret rfl ?_
       simp only [fin,go_sem]
       exact nilAe_le
      ·rw [ofS_ok (by rw [ofE_el t hS2 (by rw [hS1];exact hn),if_neg hb])]
       have hb':(x.any fun n=> !vld e n)=false:=Bool.eq_false_iff.2 hb
       refine pcO E7_ok (fun _=>[0,1,2,6,7,8,9,15,22,27,33]) Tryz.func47 (h:=fun KF=>?_)
       unfold E7
       repeat' (first
        |(with_reducible first|refine nx ?_|refine t_seq fun K=>?_|refine t_br (fun hc=>?_) fun hc=>?_|refine t_bx ?_|apply And.intro|intro vr)
        |((with_reducible first|refine ny ?_|refine t_dwh (h:=fun K KL=>?_));intros;simp only [go_sem,geff,con71_f,con69_f,con70_f,con71_c,con69_c,con70_c,slK_sl,t1,hS,szV_def,n1,hb',Bool.not_false]))
       all_goals try exact om
       refine end_ret rfl ?_
       simp only [fin,go_sem]
       exact LeA.refl _
     ·have n1:((x.length:Int) !=n)=true:=by rw [bne_iff_ne];exact hn
      rw [ofS_err (e:=1) (ofE_len t hS2 (by rw [hS1];exact hn)) (by decide)]
      refine pcO E7_ok (fun _=>[0,1,2,6,7,8,9,15,22,27,33]) Tryz.func47 (h:=fun KF=>?_)
      unfold E7
      repeat' (first
       |(with_reducible first|refine nx ?_|refine t_seq fun K=>?_|refine t_br (fun hc=>?_) fun hc=>?_|refine t_bx ?_|apply And.intro|intro vr)
       |((with_reducible first|refine ny ?_|refine t_dwh (h:=fun K KL=>?_));intros;simp only [go_sem,geff,con71_f,con69_f,con70_f,con71_c,con69_c,con70_c,slK_sl,t1,hS,szV_def,n1]))
      all_goals try exact om
      refine end_ret rfl ?_
      simp only [fin,go_sem]
      exact nilAe_le
    ·have e1:(er !=0)=true:=by rw [bne_iff_ne];exact e0
     rw [ofS_err (by rw [ofE_sz t (by rw [hS2];exact e0)]) (by rw [hS2];exact e0)]
     refine pcO E7_ok (fun _=>[0,1,2,6,7,8,9,15,22,27,33]) Tryz.func47 (h:=fun KF=>?_)
     unfold E7
     repeat' (first
      |(with_reducible first|refine nx ?_|refine t_seq fun K=>?_|refine t_br (fun hc=>?_) fun hc=>?_|refine t_bx ?_|apply And.intro|intro vr)
      |((with_reducible first|refine ny ?_|refine t_dwh (h:=fun K KL=>?_));intros;simp only [go_sem,geff,con71_f,con69_f,con70_f,con71_c,con69_c,con70_c,slK_sl,t1,hS,szV_def,e1]))
     all_goals try exact om
     refine end_ret rfl ?_
     simp only [fin,go_sem,hS]
     exact nilAe_le
   ·have t2:eqS e ⟨#[98,111,111,108]⟩=true:=by unfold tyOk at t;rw [Bool.or_eq_true] at t;exact t.resolve_left t1
    have t1':eqS e ⟨#[105,110,116]⟩=false:=by simpa using t1
    by_cases e0:er=0
    ·subst e0
     by_cases hn:(x.length:Int)=n
     ·have n1:((x.length:Int) !=n)=false:=by rw [bne_eq_false_iff_eq];exact hn
      by_cases hb:bad ⟨e,d,x⟩=true
      ·rw [ofS_err (e:=2) (by rw [ofE_el t hS2 (by rw [hS1];exact hn),if_pos hb]) (by decide)]
       have hb':(x.any fun n=> !vld e n)=true:=hb
       refine pcO E7_ok (fun _=>[0,1,2,6,7,8,9,15,22,27,33]) Tryz.func47 (h:=fun KF=>?_)
       unfold E7
       repeat' (first
        |(with_reducible first|refine nx ?_|refine t_seq fun K=>?_|refine t_br (fun hc=>?_) fun hc=>?_|refine t_bx ?_|apply And.intro|intro vr)
        |((with_reducible first|refine ny ?_|refine t_dwh (h:=fun K KL=>?_));intros;simp only [go_sem,geff,con71_f,con69_f,con70_f,con71_c,con69_c,con70_c,slK_sl,t1',t2,hS,szV_def,n1,hb',Bool.not_true]))
       all_goals try exact om
       refine end_ret rfl ?_
       simp only [fin,go_sem]
       exact nilAe_le
      ·rw [ofS_ok (by rw [ofE_el t hS2 (by rw [hS1];exact hn),if_neg hb])]
       have hb':(x.any fun n=> !vld e n)=false:=Bool.eq_false_iff.2 hb
       refine pcO E7_ok (fun _=>[0,1,2,6,7,8,9,15,22,27,33]) Tryz.func47 (h:=fun KF=>?_)
       unfold E7
       repeat' (first
        |(with_reducible first|refine nx ?_|refine t_seq fun K=>?_|refine t_br (fun hc=>?_) fun hc=>?_|refine t_bx ?_|apply And.intro|intro vr)
        |((with_reducible first|refine ny ?_|refine t_dwh (h:=fun K KL=>?_));intros;simp only [go_sem,geff,con71_f,con69_f,con70_f,con71_c,con69_c,con70_c,slK_sl,t1',t2,hS,szV_def,n1,hb',Bool.not_false]))
       all_goals try exact om
       refine end_ret rfl ?_
       simp only [fin,go_sem]
       exact LeA.refl _
     ·have n1:((x.length:Int) !=n)=true:=by rw [bne_iff_ne];exact hn
      rw [ofS_err (e:=1) (ofE_len t hS2 (by rw [hS1];exact hn)) (by decide)]
      refine pcO E7_ok (fun _=>[0,1,2,6,7,8,9,15,22,27,33]) Tryz.func47 (h:=fun KF=>?_)
      unfold E7
      repeat' (first
       |(with_reducible first|refine nx ?_|refine t_seq fun K=>?_|refine t_br (fun hc=>?_) fun hc=>?_|refine t_bx ?_|apply And.intro|intro vr)
       |((with_reducible first|refine ny ?_|refine t_dwh (h:=fun K KL=>?_));intros;simp only [go_sem,geff,con71_f,con69_f,con70_f,con71_c,con69_c,con70_c,slK_sl,t1',t2,hS,szV_def,n1]))
      all_goals try exact om
      refine end_ret rfl ?_
      simp only [fin,go_sem]
      exact nilAe_le
    ·have e1:(er !=0)=true:=by rw [bne_iff_ne];exact e0
     rw [ofS_err (by rw [ofE_sz t (by rw [hS2];exact e0)]) (by rw [hS2];exact e0)]
     refine pcO E7_ok (fun _=>[0,1,2,6,7,8,9,15,22,27,33]) Tryz.func47 (h:=fun KF=>?_)
     unfold E7
     repeat' (first
      |(with_reducible first|refine nx ?_|refine t_seq fun K=>?_|refine t_br (fun hc=>?_) fun hc=>?_|refine t_bx ?_|apply And.intro|intro vr)
      |((with_reducible first|refine ny ?_|refine t_dwh (h:=fun K KL=>?_));intros;simp only [go_sem,geff,con71_f,con69_f,con70_f,con71_c,con69_c,con70_c,slK_sl,t1',t2,hS,szV_def,e1]))
     all_goals try exact om
     refine end_ret rfl ?_
     simp only [fin,go_sem,hS]
     exact nilAe_le
  ·have t':tyOk e=false:=by simpa using t
   have t1:eqS e ⟨#[105,110,116]⟩=false:=(Bool.or_eq_false_iff.1 t').1
   have t2:eqS e ⟨#[98,111,111,108]⟩=false:=(Bool.or_eq_false_iff.1 t').2
   rw [ofS_err (ofE_ty t') (by decide)]
   refine pcO E7_ok (fun _=>[0,1,2,6,7,8,9,15,22,27,33]) Tryz.func47 (h:=fun KF=>?_)
   unfold E7
   repeat' (first
    |(with_reducible first|refine nx ?_|refine t_seq fun K=>?_|refine t_br (fun hc=>?_) fun hc=>?_|refine t_bx ?_|apply And.intro|intro vr)
    |((with_reducible first|refine ny ?_|refine t_dwh (h:=fun K KL=>?_));intros;simp only [go_sem,geff,con71_f,con69_f,con70_f,con71_c,con69_c,con70_c,t1,t2]))
   all_goals try exact om
   refine end_ret rfl ?_
   simp only [fin,go_sem]
   exact nilAe_le
noncomputable def con47:PCon Tryz.prog where
  f:=47
  c:=fun
   |[.lit (.string e),xd,xx]=>match slK .i64 xd,slK .i64 xx with|some d,some x=>some (d.length≤1000000∧x.length≤1000000,aeV (ofS ⟨e,d,x⟩))|_,_=>none
   |_=>none
  ok:=by
   intro args p r hc hp
   split at hc
   ·split at hc
    ·rename_i hd hx
     cases hc
     exact PC.weak ((fun hp:_∧_=>of_pc hp.1 hp.2) hp) ⟨LeA.refl _,slK_le hd,slK_le hx,trivial⟩
    ·cases hc
   ·cases hc
  fk:=fk47
theorem con47_f:con47.f=47:=rfl
theorem con47_c {e:ByteArray} {xd:AV} {xx:AV}:con47.c [.lit (.string e),xd,xx]=match slK .i64 xd,slK .i64 xx with|some d,some x=>some (d.length≤1000000∧x.length≤1000000,aeV (ofS ⟨e,d,x⟩))|_,_=>none:=rfl
noncomputable def E8:Env:=envOf (P:=Tryz.prog) zer (fun _=>false) (fun _=>false) [con72,con50,con38] []
theorem E8_ok:EnvOk Tryz.prog E8:=envOk zer_ok
set_option maxRecDepth 20000 in
set_option maxHeartbeats 2000000 in
theorem rof_pc {e:ByteArray} {d x:List Int} (hd:d.length≤1000000) (hx:x.length≤1000000):PC Tryz.prog 48 [.lit (.string e),.sl false 1 (ints .i64 d),.sl false 1 (ints .i64 x)] (aeV (ofS ⟨e,d,x⟩)):=by
  have hz:=sizeS_bd d
  by_cases t:tyOk e=true
  ·generalize hS:sizeS d=s at hz
   obtain ⟨n,er⟩:=s
   simp only at hz
   have hS1:(sizeS d).1=n:=by rw [hS]
   have hS2:(sizeS d).2=er:=by rw [hS]
   by_cases t1:eqS e ⟨#[105,110,116]⟩=true
   ·skip
    by_cases e0:er=0
    ·subst e0
     by_cases hn:(x.length:Int)=n
     ·have n1:((x.length:Int) !=n)=false:=by rw [bne_eq_false_iff_eq];exact hn
      have hO:=ofE_el (a:=⟨e,d,x⟩) t hS2 (by rw [hS1];exact hn)
      unfold bad at hO
      simp only at hO
      generalize hB:(x.any fun n=> !vld e n)=Bb at hO
      generalize hG:aeV (ofS ⟨e,d,x⟩)=G
      refine pcO E8_ok (fun _=>[0,1,2,6,7,8,9,10,16,24,30,35,44]) Tryz.func48 (h:=fun KF=>?_)
      unfold E8
      repeat' (first
       |(with_reducible first|refine nx ?_|refine t_seq fun K=>?_|refine t_br (fun hc=>?_) fun hc=>?_|refine t_bx ?_|apply And.intro|intro vr)
       |((with_reducible first|refine ny ?_|refine t_dwh (h:=fun K KL=>?_));intros;simp only [go_sem,geff,con72_f,con50_f,con38_f,con72_c,con50_c,con38_c,slK_sl,t1,hS,szV_def,n1]))
      all_goals try exact om
      refine t_loop (ι:={i:Nat // i≤x.length∧((x.drop i).any fun n=> !vld e n)=Bb}) (fun i=>⟨upd (upd (upd (upd (upd topF 10 (.lit (.int .i64 i.1))) 6 (.ref 0 0)) 2 (.sl false 1 (ints .i64 x))) 1 (.sl false 1 (ints .i64 d))) 0 (.lit (.string e)),[AObj.box 31 [AV.lit (Value.string ByteArray.empty),AV.sl true 1 [],AV.sl true 1 []]]⟩) (fun i=>x.length - i.1) ⟨0,by omega,hB⟩ ?_ ?_
      ·skip
       (refine Le.frame ?_;repeat' (first|exact leF_top _|(with_reducible refine leF_sl ?_ ?_)|(refine leF_upd (LeR.of_eq ?_) ?_)))<;>(try (simp only [go_sem];try rfl))
      ·rintro ⟨i,hi,hF⟩ K0
       rcases Nat.lt_or_ge i x.length with hc|hc
       ·have g1:decide ((i:Int)<(x.length:Int))=true:=decide_eq_true (by omega)
        have g2:=ints_getD .i64 x i hc
        rw [drop_getD 0 hc,List.any_cons] at hF
        generalize x.getD i 0=v at g2 hF
        by_cases hv:vld e v=true
        ·rw [hv,Bool.not_true,Bool.false_or] at hF
         repeat' (first
          |(with_reducible first|refine nx ?_|refine t_seq fun K=>?_|refine t_br (fun hc=>?_) fun hc=>?_|refine t_bx ?_|apply And.intro|intro vr)
          |((with_reducible first|refine ny ?_|refine t_dwh (h:=fun K KL=>?_));intros;simp only [go_sem,geff,con72_f,con50_f,con38_f,con72_c,con50_c,con38_c,g1,g2,hv,Int.toNat_natCast,Bool.not_true]))
         all_goals try exact om
         refine ⟨⟨i+1,by omega,hF⟩,by simp only;omega,?_⟩
         (refine Le.frame ?_;repeat' (first|exact leF_top _|(with_reducible refine leF_sl ?_ ?_)|(refine leF_upd (LeR.of_eq ?_) ?_)))<;>(try (simp only [go_sem];try rfl))
        ·have hv':vld e v=false:=by simpa using hv
         rw [hv',Bool.not_false,Bool.true_or] at hF
         subst hF
         rw [if_pos rfl] at hO
         rw [ofS_err hO (by decide)] at hG
         subst hG
         repeat' (first
          |(with_reducible first|refine nx ?_|refine t_seq fun K=>?_|refine t_br (fun hc=>?_) fun hc=>?_|refine t_bx ?_|apply And.intro|intro vr)
          |((with_reducible first|refine ny ?_|refine t_dwh (h:=fun K KL=>?_));intros;simp only [go_sem,geff,con72_f,con50_f,con38_f,con72_c,con50_c,con38_c,g1,g2,hv',Int.toNat_natCast,Bool.not_false]))
         all_goals try exact om
         refine end_ret rfl ?_
         simp only [fin,go_sem]
         exact nilAe_le
       ·have g1:decide ((i:Int)<(x.length:Int))=false:=decide_eq_false (by omega)
        rw [List.drop_eq_nil_of_le hc,List.any_nil] at hF
        subst hF
        rw [if_neg (by decide)] at hO
        rw [ofS_ok hO] at hG
        subst hG
        repeat' (first
         |(with_reducible first|refine nx ?_|refine t_seq fun K=>?_|refine t_br (fun hc=>?_) fun hc=>?_|refine t_bx ?_|apply And.intro|intro vr)
         |((with_reducible first|refine ny ?_|refine t_dwh (h:=fun K KL=>?_));intros;simp only [go_sem,geff,con72_f,con50_f,con38_f,con72_c,con50_c,con38_c,g1,slK_sl]))
        all_goals try exact om
        refine end_ret rfl ?_
        simp only [fin,go_sem]
        exact LeA.refl _
     ·have n1:((x.length:Int) !=n)=true:=by rw [bne_iff_ne];exact hn
      rw [ofS_err (e:=1) (ofE_len t hS2 (by rw [hS1];exact hn)) (by decide)]
      refine pcO E8_ok (fun _=>[0,1,2,6,7,8,9,10,16,24,30,35,44]) Tryz.func48 (h:=fun KF=>?_)
      unfold E8
      repeat' (first
       |(with_reducible first|refine nx ?_|refine t_seq fun K=>?_|refine t_br (fun hc=>?_) fun hc=>?_|refine t_bx ?_|apply And.intro|intro vr)
       |((with_reducible first|refine ny ?_|refine t_dwh (h:=fun K KL=>?_));intros;simp only [go_sem,geff,con72_f,con50_f,con38_f,con72_c,con50_c,con38_c,slK_sl,t1,hS,szV_def,n1]))
      all_goals try exact om
      refine end_ret rfl ?_
      simp only [fin,go_sem]
      exact nilAe_le
    ·have e1:(er !=0)=true:=by rw [bne_iff_ne];exact e0
     rw [ofS_err (by rw [ofE_sz t (by rw [hS2];exact e0)]) (by rw [hS2];exact e0)]
     refine pcO E8_ok (fun _=>[0,1,2,6,7,8,9,10,16,24,30,35,44]) Tryz.func48 (h:=fun KF=>?_)
     unfold E8
     repeat' (first
      |(with_reducible first|refine nx ?_|refine t_seq fun K=>?_|refine t_br (fun hc=>?_) fun hc=>?_|refine t_bx ?_|apply And.intro|intro vr)
      |((with_reducible first|refine ny ?_|refine t_dwh (h:=fun K KL=>?_));intros;simp only [go_sem,geff,con72_f,con50_f,con38_f,con72_c,con50_c,con38_c,slK_sl,t1,hS,szV_def,e1]))
     all_goals try exact om
     refine end_ret rfl ?_
     simp only [fin,go_sem,hS]
     exact nilAe_le
   ·have t2:eqS e ⟨#[98,111,111,108]⟩=true:=by unfold tyOk at t;rw [Bool.or_eq_true] at t;exact t.resolve_left t1
    have t1':eqS e ⟨#[105,110,116]⟩=false:=by simpa using t1
    by_cases e0:er=0
    ·subst e0
     by_cases hn:(x.length:Int)=n
     ·have n1:((x.length:Int) !=n)=false:=by rw [bne_eq_false_iff_eq];exact hn
      have hO:=ofE_el (a:=⟨e,d,x⟩) t hS2 (by rw [hS1];exact hn)
      unfold bad at hO
      simp only at hO
      generalize hB:(x.any fun n=> !vld e n)=Bb at hO
      generalize hG:aeV (ofS ⟨e,d,x⟩)=G
      refine pcO E8_ok (fun _=>[0,1,2,6,7,8,9,10,16,24,30,35,44]) Tryz.func48 (h:=fun KF=>?_)
      unfold E8
      repeat' (first
       |(with_reducible first|refine nx ?_|refine t_seq fun K=>?_|refine t_br (fun hc=>?_) fun hc=>?_|refine t_bx ?_|apply And.intro|intro vr)
       |((with_reducible first|refine ny ?_|refine t_dwh (h:=fun K KL=>?_));intros;simp only [go_sem,geff,con72_f,con50_f,con38_f,con72_c,con50_c,con38_c,slK_sl,t1',t2,hS,szV_def,n1]))
      all_goals try exact om
      refine t_loop (ι:={i:Nat // i≤x.length∧((x.drop i).any fun n=> !vld e n)=Bb}) (fun i=>⟨upd (upd (upd (upd (upd topF 10 (.lit (.int .i64 i.1))) 6 (.ref 0 0)) 2 (.sl false 1 (ints .i64 x))) 1 (.sl false 1 (ints .i64 d))) 0 (.lit (.string e)),[AObj.box 31 [AV.lit (Value.string ByteArray.empty),AV.sl true 1 [],AV.sl true 1 []]]⟩) (fun i=>x.length - i.1) ⟨0,by omega,hB⟩ ?_ ?_
      ·skip
       (refine Le.frame ?_;repeat' (first|exact leF_top _|(with_reducible refine leF_sl ?_ ?_)|(refine leF_upd (LeR.of_eq ?_) ?_)))<;>(try (simp only [go_sem];try rfl))
      ·rintro ⟨i,hi,hF⟩ K0
       rcases Nat.lt_or_ge i x.length with hc|hc
       ·have g1:decide ((i:Int)<(x.length:Int))=true:=decide_eq_true (by omega)
        have g2:=ints_getD .i64 x i hc
        rw [drop_getD 0 hc,List.any_cons] at hF
        generalize x.getD i 0=v at g2 hF
        by_cases hv:vld e v=true
        ·rw [hv,Bool.not_true,Bool.false_or] at hF
         repeat' (first
          |(with_reducible first|refine nx ?_|refine t_seq fun K=>?_|refine t_br (fun hc=>?_) fun hc=>?_|refine t_bx ?_|apply And.intro|intro vr)
          |((with_reducible first|refine ny ?_|refine t_dwh (h:=fun K KL=>?_));intros;simp only [go_sem,geff,con72_f,con50_f,con38_f,con72_c,con50_c,con38_c,g1,g2,hv,Int.toNat_natCast,Bool.not_true]))
         all_goals try exact om
         refine ⟨⟨i+1,by omega,hF⟩,by simp only;omega,?_⟩
         (refine Le.frame ?_;repeat' (first|exact leF_top _|(with_reducible refine leF_sl ?_ ?_)|(refine leF_upd (LeR.of_eq ?_) ?_)))<;>(try (simp only [go_sem];try rfl))
        ·have hv':vld e v=false:=by simpa using hv
         rw [hv',Bool.not_false,Bool.true_or] at hF
         subst hF
         rw [if_pos rfl] at hO
         rw [ofS_err hO (by decide)] at hG
         subst hG
         repeat' (first
          |(with_reducible first|refine nx ?_|refine t_seq fun K=>?_|refine t_br (fun hc=>?_) fun hc=>?_|refine t_bx ?_|apply And.intro|intro vr)
          |((with_reducible first|refine ny ?_|refine t_dwh (h:=fun K KL=>?_));intros;simp only [go_sem,geff,con72_f,con50_f,con38_f,con72_c,con50_c,con38_c,g1,g2,hv',Int.toNat_natCast,Bool.not_false]))
         all_goals try exact om
         refine end_ret rfl ?_
         simp only [fin,go_sem]
         exact nilAe_le
       ·have g1:decide ((i:Int)<(x.length:Int))=false:=decide_eq_false (by omega)
        rw [List.drop_eq_nil_of_le hc,List.any_nil] at hF
        subst hF
        rw [if_neg (by decide)] at hO
        rw [ofS_ok hO] at hG
        subst hG
        repeat' (first
         |(with_reducible first|refine nx ?_|refine t_seq fun K=>?_|refine t_br (fun hc=>?_) fun hc=>?_|refine t_bx ?_|apply And.intro|intro vr)
         |((with_reducible first|refine ny ?_|refine t_dwh (h:=fun K KL=>?_));intros;simp only [go_sem,geff,con72_f,con50_f,con38_f,con72_c,con50_c,con38_c,g1,slK_sl]))
        all_goals try exact om
        refine end_ret rfl ?_
        simp only [fin,go_sem]
        exact LeA.refl _
     ·have n1:((x.length:Int) !=n)=true:=by rw [bne_iff_ne];exact hn
      rw [ofS_err (e:=1) (ofE_len t hS2 (by rw [hS1];exact hn)) (by decide)]
      refine pcO E8_ok (fun _=>[0,1,2,6,7,8,9,10,16,24,30,35,44]) Tryz.func48 (h:=fun KF=>?_)
      unfold E8
      repeat' (first
       |(with_reducible first|refine nx ?_|refine t_seq fun K=>?_|refine t_br (fun hc=>?_) fun hc=>?_|refine t_bx ?_|apply And.intro|intro vr)
       |((with_reducible first|refine ny ?_|refine t_dwh (h:=fun K KL=>?_));intros;simp only [go_sem,geff,con72_f,con50_f,con38_f,con72_c,con50_c,con38_c,slK_sl,t1',t2,hS,szV_def,n1]))
      all_goals try exact om
      refine end_ret rfl ?_
      simp only [fin,go_sem]
      exact nilAe_le
    ·have e1:(er !=0)=true:=by rw [bne_iff_ne];exact e0
     rw [ofS_err (by rw [ofE_sz t (by rw [hS2];exact e0)]) (by rw [hS2];exact e0)]
     refine pcO E8_ok (fun _=>[0,1,2,6,7,8,9,10,16,24,30,35,44]) Tryz.func48 (h:=fun KF=>?_)
     unfold E8
     repeat' (first
      |(with_reducible first|refine nx ?_|refine t_seq fun K=>?_|refine t_br (fun hc=>?_) fun hc=>?_|refine t_bx ?_|apply And.intro|intro vr)
      |((with_reducible first|refine ny ?_|refine t_dwh (h:=fun K KL=>?_));intros;simp only [go_sem,geff,con72_f,con50_f,con38_f,con72_c,con50_c,con38_c,slK_sl,t1',t2,hS,szV_def,e1]))
     all_goals try exact om
     refine end_ret rfl ?_
     simp only [fin,go_sem,hS]
     exact nilAe_le
  ·have t':tyOk e=false:=by simpa using t
   have t1:eqS e ⟨#[105,110,116]⟩=false:=(Bool.or_eq_false_iff.1 t').1
   have t2:eqS e ⟨#[98,111,111,108]⟩=false:=(Bool.or_eq_false_iff.1 t').2
   rw [ofS_err (ofE_ty t') (by decide)]
   refine pcO E8_ok (fun _=>[0,1,2,6,7,8,9,10,16,24,30,35,44]) Tryz.func48 (h:=fun KF=>?_)
   unfold E8
   repeat' (first
    |(with_reducible first|refine nx ?_|refine t_seq fun K=>?_|refine t_br (fun hc=>?_) fun hc=>?_|refine t_bx ?_|apply And.intro|intro vr)
    |((with_reducible first|refine ny ?_|refine t_dwh (h:=fun K KL=>?_));intros;simp only [go_sem,geff,con72_f,con50_f,con38_f,con72_c,con50_c,con38_c,t1,t2]))
   all_goals try exact om
   refine end_ret rfl ?_
   simp only [fin,go_sem]
   exact nilAe_le
noncomputable def con48:PCon Tryz.prog where
  f:=48
  c:=fun
   |[.lit (.string e),xd,xx]=>match slK .i64 xd,slK .i64 xx with|some d,some x=>some (d.length≤1000000∧x.length≤1000000,aeV (ofS ⟨e,d,x⟩))|_,_=>none
   |_=>none
  ok:=by
   intro args p r hc hp
   split at hc
   ·split at hc
    ·rename_i hd hx
     cases hc
     exact PC.weak ((fun hp:_∧_=>rof_pc hp.1 hp.2) hp) ⟨LeA.refl _,slK_le hd,slK_le hx,trivial⟩
    ·cases hc
   ·cases hc
  fk:=fk48
theorem con48_f:con48.f=48:=rfl
theorem con48_c {e:ByteArray} {xd:AV} {xx:AV}:con48.c [.lit (.string e),xd,xx]=match slK .i64 xd,slK .i64 xx with|some d,some x=>some (d.length≤1000000∧x.length≤1000000,aeV (ofS ⟨e,d,x⟩))|_,_=>none:=rfl
theorem aeV_def {p:Arr×Int}:aeV p= .tup [arrV p.1,.lit (.int .i64 p.2)]:=rfl
theorem ofS_snd (a:Arr):(ofS a).2=ofE a:=by
  unfold ofS
  split
  ·rename_i h;exact h.symm
  ·rfl
noncomputable def E9:Env:=envOf (P:=Tryz.prog) zer (fun _=>false) (fun _=>false) [con48,con47] []
theorem E9_ok:EnvOk Tryz.prog E9:=envOk zer_ok
theorem valid_pc {a:Arr} (hd:a.d.length≤1000000) (hx:a.x.length≤1000000):PC Tryz.prog 45 [arrV a] (.lit (.bool (ofE a==0))):=by
  rw [←ofS_snd]
  refine pcO E9_ok (fun _=>[1,2,4]) Tryz.func45 (h:=fun KF=>?_)
  unfold E9
  repeat' (first
   |(with_reducible first|refine nx ?_|refine t_seq fun K=>?_|refine t_br (fun hc=>?_) fun hc=>?_|refine t_bx ?_|apply And.intro|intro vr)
   |((with_reducible first|refine ny ?_|refine t_dwh (h:=fun K KL=>?_));intros;simp only [go_sem,geff,con48_f,con47_f,con47_c,slK_sl,arrV_def,aeV_def]))
  all_goals try exact om
  refine end_ret rfl ?_
  simp only [fin,go_sem]
  exact LeA.refl _
theorem rvalid_pc {a:Arr} (hd:a.d.length≤1000000) (hx:a.x.length≤1000000):PC Tryz.prog 22 [arrV a] (.lit (.bool (ofE a==0))):=by
  rw [←ofS_snd]
  refine pcO E9_ok (fun _=>[1,2,4]) Tryz.func22 (h:=fun KF=>?_)
  unfold E9
  repeat' (first
   |(with_reducible first|refine nx ?_|refine t_seq fun K=>?_|refine t_br (fun hc=>?_) fun hc=>?_|refine t_bx ?_|apply And.intro|intro vr)
   |((with_reducible first|refine ny ?_|refine t_dwh (h:=fun K KL=>?_));intros;simp only [go_sem,geff,con48_f,con47_f,con48_c,slK_sl,arrV_def,aeV_def]))
  all_goals try exact om
  refine end_ret rfl ?_
  simp only [fin,go_sem]
  exact LeA.refl _
noncomputable def con45:PCon Tryz.prog where
  f:=45
  c:=fun
   |[xa]=>match arrOf xa with|some a=>some (a.d.length≤1000000∧a.x.length≤1000000,.lit (.bool (ofE a==0)))|_=>none
   |_=>none
  ok:=by
   intro args p r hc hp
   split at hc
   ·split at hc
    ·rename_i ha
     cases hc
     exact PC.weak ((fun hp:_∧_=>valid_pc hp.1 hp.2) hp) ⟨arrOf_le ha,trivial⟩
    ·cases hc
   ·cases hc
  fk:=fk45
theorem con45_f:con45.f=45:=rfl
theorem con45_c {xa:AV}:con45.c [xa]=match arrOf xa with|some a=>some (a.d.length≤1000000∧a.x.length≤1000000,.lit (.bool (ofE a==0)))|_=>none:=rfl
noncomputable def con22:PCon Tryz.prog where
  f:=22
  c:=fun
   |[xa]=>match arrOf xa with|some a=>some (a.d.length≤1000000∧a.x.length≤1000000,.lit (.bool (ofE a==0)))|_=>none
   |_=>none
  ok:=by
   intro args p r hc hp
   split at hc
   ·split at hc
    ·rename_i ha
     cases hc
     exact PC.weak ((fun hp:_∧_=>rvalid_pc hp.1 hp.2) hp) ⟨arrOf_le ha,trivial⟩
    ·cases hc
   ·cases hc
  fk:=fk22
theorem con22_f:con22.f=22:=rfl
theorem con22_c {xa:AV}:con22.c [xa]=match arrOf xa with|some a=>some (a.d.length≤1000000∧a.x.length≤1000000,.lit (.bool (ofE a==0)))|_=>none:=rfl
end Go.Proofs.YtcpjahmajkhchaaGreat

namespace Go.Proofs.YtcpjahmajkhchaaGreat
open Go Go.Fw
set_option maxRecDepth 20000
def okA (a:Arr):Prop:=a.d.length≤1000000∧a.x.length≤1000000
def spV (p:List Int×List Int×Int):AV:= .tup [.sl false 1 (ints .i64 p.1),.sl false 1 (ints .i64 p.2.1),.lit (.int .i64 p.2.2)]
theorem spV_def {p:List Int×List Int×Int}:spV p= .tup [.sl false 1 (ints .i64 p.1),.sl false 1 (ints .i64 p.2.1),.lit (.int .i64 p.2.2)]:=rfl
theorem spE_le {e:Int}:LeA (.tup [.lit (.slice none 0 0),.lit (.slice none 0 0),.lit (.int .i64 e)]) (spV ([],[],e)):=LeA.tup ⟨LeA.nil _ _,LeA.nil _ _,LeA.refl _,trivial⟩
theorem bne0 {n:Int} (h:n≠0):(n==0)=false:=beq_eq_false_iff_ne.2 h
noncomputable def E10:Env:=envOf (P:=Tryz.prog) zer (fun t=>t==15) (fun _=>false) [con45,con71] []
theorem E10_ok:EnvOk Tryz.prog E10:=envOk zer_ok
set_option maxRecDepth 20000 in
set_option maxHeartbeats 1000000 in
theorem split_pc {a:Arr} {r:Int} (ha:okA a) (hr:inI64 r):PC Tryz.prog 77 [arrV a,.lit (.int .i64 r)] (spV (splitS a r)):=by
  obtain ⟨hd,hx⟩:=ha
  unfold splitS
  by_cases h0:ofE a=0
  ·have e0:(ofE a==0)=true:=by rw [h0];rfl
   rw [if_neg (by simpa using h0)]
   by_cases h1:r<0
   ·have r1:decide (r<0)=true:=decide_eq_true h1
    rw [if_pos (.inl h1)]
    refine pcO E10_ok (fun _=>[1,2,4,5,6,7,10,21]) Tryz.func77 (h:=fun KF=>?_)
    unfold E10
    repeat' (first
     |(with_reducible first|refine nx ?_|refine t_seq fun K=>?_|refine t_br (fun hc=>?_) fun hc=>?_|refine t_bx ?_|apply And.intro|intro vr)
     |((with_reducible first|refine ny ?_|refine t_dwh (h:=fun K KL=>?_));intros;simp only [go_sem,geff,con45_f,con45_c,con71_f,con71_c,arrV_def,arrOf_agg,slK_sl,e0,r1,Bool.not_true]))
    all_goals try exact om
    refine end_ret rfl ?_
    simp only [fin,go_sem]
    exact spE_le
   ·have r1:decide (r<0)=false:=decide_eq_false h1
    have hw:IntKind.i64.wrap ((a.d.length:Int) - r)=(a.d.length:Int) - r:=wrap_i64 (by unfold inI64 at*;omega)
    by_cases h2:r>a.d.length
    ·have r2:decide ((a.d.length:Int) - r<0)=true:=decide_eq_true (by omega)
     have r3:decide (r>(a.d.length:Int))=true:=decide_eq_true (by omega)
     rw [if_pos (.inr h2)]
     refine pcO E10_ok (fun _=>[1,2,4,5,6,7,10,21]) Tryz.func77 (h:=fun KF=>?_)
     unfold E10
     repeat' (first
      |(with_reducible first|refine nx ?_|refine t_seq fun K=>?_|refine t_br (fun hc=>?_) fun hc=>?_|refine t_bx ?_|apply And.intro|intro vr)
      |((with_reducible first|refine ny ?_|refine t_dwh (h:=fun K KL=>?_));intros;simp only [go_sem,geff,con45_f,con45_c,con71_f,con71_c,arrV_def,arrOf_agg,slK_sl,e0,r1,r2,r3,hw,Bool.not_true]))
     all_goals try exact om
     refine end_ret rfl ?_
     simp only [fin,go_sem]
     exact spE_le
    ·have r2:decide ((a.d.length:Int) - r<0)=false:=decide_eq_false (by omega)
     have r3:decide (r>(a.d.length:Int))=false:=decide_eq_false (by omega)
     rw [if_neg (by omega)]
     have hk:((a.d.length:Int) - r).toNat=a.d.length - r.toNat:=by omega
     refine pcO E10_ok (fun _=>[1,2,4,5,6,7,10,21]) Tryz.func77 (h:=fun KF=>?_)
     unfold E10
     repeat' (first
      |(with_reducible first|refine nx ?_|refine t_seq fun K=>?_|refine t_br (fun hc=>?_) fun hc=>?_|refine t_bx ?_|apply And.intro|intro vr)
      |((with_reducible first|refine ny ?_|refine t_dwh (h:=fun K KL=>?_));intros;simp only [go_sem,geff,con45_f,con45_c,con71_f,con71_c,arrV_def,arrOf_agg,slK_sl,e0,r1,r2,r3,hw,hk,Bool.not_true,Bool.false_and,Int.toNat_natCast,List.take_length]))
     all_goals try exact om
     all_goals try (simp only [List.length_take,List.length_drop];omega)
     refine end_ret rfl ?_
     simp only [fin,go_sem]
     exact LeA.refl _
  ·have e0:(ofE a==0)=false:=bne0 h0
   rw [if_pos (by simpa using h0)]
   refine pcO E10_ok (fun _=>[1,2,4,5,6,7,10,21]) Tryz.func77 (h:=fun KF=>?_)
   unfold E10
   repeat' (first
    |(with_reducible first|refine nx ?_|refine t_seq fun K=>?_|refine t_br (fun hc=>?_) fun hc=>?_|refine t_bx ?_|apply And.intro|intro vr)
    |((with_reducible first|refine ny ?_|refine t_dwh (h:=fun K KL=>?_));intros;simp only [go_sem,geff,con45_f,con45_c,con71_f,con71_c,arrV_def,arrOf_agg,slK_sl,e0,Bool.not_false]))
   all_goals try exact om
   refine end_ret rfl ?_
   simp only [fin,go_sem]
   exact spE_le
noncomputable def con77:PCon Tryz.prog where
  f:=77
  c:=fun
   |[xa,.lit (.int .i64 r)]=>match arrOf xa with|some a=>some (okA a∧inI64 r,spV (splitS a r))|_=>none
   |_=>none
  ok:=by
   intro args p r hc hp
   split at hc
   ·split at hc
    ·rename_i ha
     cases hc
     exact PC.weak ((fun hp:_∧_=>split_pc hp.1 hp.2) hp) ⟨arrOf_le ha,LeA.refl _,trivial⟩
    ·cases hc
   ·cases hc
  fk:=fk77
theorem con77_f:con77.f=77:=rfl
theorem con77_c {xa:AV} {r:Int}:con77.c [xa,.lit (.int .i64 r)]=match arrOf xa with|some a=>some (okA a∧inI64 r,spV (splitS a r))|_=>none:=rfl
noncomputable def E11:Env:=envOf (P:=Tryz.prog) zer (fun t=>t==24) (fun _=>false) [con22,con72] []
theorem E11_ok:EnvOk Tryz.prog E11:=envOk zer_ok
set_option maxRecDepth 20000 in
set_option maxHeartbeats 1000000 in
theorem rsplit_pc {a:Arr} {r:Int} (ha:okA a) (hr:inI64 r):PC Tryz.prog 62 [arrV a,.lit (.int .i64 r)] (spV (splitS a r)):=by
  obtain ⟨hd,hx⟩:=ha
  unfold splitS
  by_cases h0:ofE a=0
  ·have e0:(ofE a==0)=true:=by rw [h0];rfl
   rw [if_neg (by simpa using h0)]
   by_cases h1:r<0
   ·have r1:decide (r<0)=true:=decide_eq_true h1
    rw [if_pos (.inl h1)]
    refine pcO E11_ok (fun _=>[1,2,4,5,6,7,10,19]) Tryz.func62 (h:=fun KF=>?_)
    unfold E11
    repeat' (first
     |(with_reducible first|refine nx ?_|refine t_seq fun K=>?_|refine t_br (fun hc=>?_) fun hc=>?_|refine t_bx ?_|apply And.intro|intro vr)
     |((with_reducible first|refine ny ?_|refine t_dwh (h:=fun K KL=>?_));intros;simp only [go_sem,geff,con22_f,con22_c,con72_f,con72_c,arrV_def,arrOf_agg,slK_sl,e0,r1,Bool.not_true]))
    all_goals try exact om
    refine end_ret rfl ?_
    simp only [fin,go_sem]
    exact spE_le
   ·have r1:decide (r<0)=false:=decide_eq_false h1
    have hw:IntKind.i64.wrap ((a.d.length:Int) - r)=(a.d.length:Int) - r:=wrap_i64 (by unfold inI64 at*;omega)
    by_cases h2:r>a.d.length
    ·have r2:decide ((a.d.length:Int) - r<0)=true:=decide_eq_true (by omega)
     have r3:decide (r>(a.d.length:Int))=true:=decide_eq_true (by omega)
     rw [if_pos (.inr h2)]
     refine pcO E11_ok (fun _=>[1,2,4,5,6,7,10,19]) Tryz.func62 (h:=fun KF=>?_)
     unfold E11
     repeat' (first
      |(with_reducible first|refine nx ?_|refine t_seq fun K=>?_|refine t_br (fun hc=>?_) fun hc=>?_|refine t_bx ?_|apply And.intro|intro vr)
      |((with_reducible first|refine ny ?_|refine t_dwh (h:=fun K KL=>?_));intros;simp only [go_sem,geff,con22_f,con22_c,con72_f,con72_c,arrV_def,arrOf_agg,slK_sl,e0,r1,r2,r3,hw,Bool.not_true]))
     all_goals try exact om
     refine end_ret rfl ?_
     simp only [fin,go_sem]
     exact spE_le
    ·have r2:decide ((a.d.length:Int) - r<0)=false:=decide_eq_false (by omega)
     have r3:decide (r>(a.d.length:Int))=false:=decide_eq_false (by omega)
     rw [if_neg (by omega)]
     have hk:((a.d.length:Int) - r).toNat=a.d.length - r.toNat:=by omega
     refine pcO E11_ok (fun _=>[1,2,4,5,6,7,10,19]) Tryz.func62 (h:=fun KF=>?_)
     unfold E11
     repeat' (first
      |(with_reducible first|refine nx ?_|refine t_seq fun K=>?_|refine t_br (fun hc=>?_) fun hc=>?_|refine t_bx ?_|apply And.intro|intro vr)
      |((with_reducible first|refine ny ?_|refine t_dwh (h:=fun K KL=>?_));intros;simp only [go_sem,geff,con22_f,con22_c,con72_f,con72_c,arrV_def,arrOf_agg,slK_sl,e0,r1,r2,r3,hw,hk,Bool.not_true,Bool.false_and,Int.toNat_natCast,List.take_length]))
     all_goals try exact om
     all_goals try (simp only [List.length_take,List.length_drop];omega)
     refine end_ret rfl ?_
     simp only [fin,go_sem]
     exact LeA.refl _
  ·have e0:(ofE a==0)=false:=bne0 h0
   rw [if_pos (by simpa using h0)]
   refine pcO E11_ok (fun _=>[1,2,4,5,6,7,10,19]) Tryz.func62 (h:=fun KF=>?_)
   unfold E11
   repeat' (first
    |(with_reducible first|refine nx ?_|refine t_seq fun K=>?_|refine t_br (fun hc=>?_) fun hc=>?_|refine t_bx ?_|apply And.intro|intro vr)
    |((with_reducible first|refine ny ?_|refine t_dwh (h:=fun K KL=>?_));intros;simp only [go_sem,geff,con22_f,con22_c,con72_f,con72_c,arrV_def,arrOf_agg,slK_sl,e0,Bool.not_false]))
   all_goals try exact om
   refine end_ret rfl ?_
   simp only [fin,go_sem]
   exact spE_le
noncomputable def con62:PCon Tryz.prog where
  f:=62
  c:=fun
   |[xa,.lit (.int .i64 r)]=>match arrOf xa with|some a=>some (okA a∧inI64 r,spV (splitS a r))|_=>none
   |_=>none
  ok:=by
   intro args p r hc hp
   split at hc
   ·split at hc
    ·rename_i ha
     cases hc
     exact PC.weak ((fun hp:_∧_=>rsplit_pc hp.1 hp.2) hp) ⟨arrOf_le ha,LeA.refl _,trivial⟩
    ·cases hc
   ·cases hc
  fk:=fk62
theorem con62_f:con62.f=62:=rfl
theorem con62_c {xa:AV} {r:Int}:con62.c [xa,.lit (.int .i64 r)]=match arrOf xa with|some a=>some (okA a∧inI64 r,spV (splitS a r))|_=>none:=rfl
def fewA (a:Arr) (n:Int):Bool:=decide ((a.e.size:Int)≤20)&&(decide ((a.d.length:Int)≤8)&&decide ((a.x.length:Int)≤n))
theorem few_pc {a:Arr} {n:Int}:PC Tryz.prog 15 [arrV a,.lit (.int .i64 n)] (.lit (.bool (fewA a n))):=by
  unfold fewA
  by_cases h1:(a.e.size:Int)≤20
  ·have e1:decide ((a.e.size:Int)≤20)=true:=decide_eq_true h1
   by_cases h2:(a.d.length:Int)≤8
   ·have e2:decide ((a.d.length:Int)≤8)=true:=decide_eq_true h2
    rw [e1,e2]
    refine pcO E0_ok (fun _=>[1,2,4]) Tryz.func15 (h:=fun KF=>?_)
    unfold E0
    repeat' (first
     |(with_reducible first|refine nx ?_|refine t_seq fun K=>?_|refine t_br (fun hc=>?_) fun hc=>?_|refine t_bx ?_|apply And.intro|intro vr)
     |((with_reducible first|refine ny ?_|refine t_dwh (h:=fun K KL=>?_));intros;simp only [go_sem,geff,arrV_def,e1,e2]))
    all_goals try exact om
    refine end_ret rfl ?_
    simp only [fin,go_sem]
    exact LeA.refl _
   ·have e2:decide ((a.d.length:Int)≤8)=false:=decide_eq_false h2
    rw [e1,e2]
    refine pcO E0_ok (fun _=>[1,2,4]) Tryz.func15 (h:=fun KF=>?_)
    unfold E0
    repeat' (first
     |(with_reducible first|refine nx ?_|refine t_seq fun K=>?_|refine t_br (fun hc=>?_) fun hc=>?_|refine t_bx ?_|apply And.intro|intro vr)
     |((with_reducible first|refine ny ?_|refine t_dwh (h:=fun K KL=>?_));intros;simp only [go_sem,geff,arrV_def,e1,e2]))
    all_goals try exact om
    refine end_ret rfl ?_
    simp only [fin,go_sem]
    exact LeA.refl _
  ·have e1:decide ((a.e.size:Int)≤20)=false:=decide_eq_false h1
   rw [e1]
   refine pcO E0_ok (fun _=>[1,2,4]) Tryz.func15 (h:=fun KF=>?_)
   unfold E0
   repeat' (first
    |(with_reducible first|refine nx ?_|refine t_seq fun K=>?_|refine t_br (fun hc=>?_) fun hc=>?_|refine t_bx ?_|apply And.intro|intro vr)
    |((with_reducible first|refine ny ?_|refine t_dwh (h:=fun K KL=>?_));intros;simp only [go_sem,geff,arrV_def,e1]))
   all_goals try exact om
   refine end_ret rfl ?_
   simp only [fin,go_sem]
   exact LeA.refl _
noncomputable def con15:PCon Tryz.prog where
  f:=15
  c:=fun
   |[xa,.lit (.int .i64 n)]=>match arrOf xa with|some a=>some (True,.lit (.bool (fewA a n)))|_=>none
   |_=>none
  ok:=by
   intro args p r hc hp
   split at hc
   ·split at hc
    ·rename_i ha
     cases hc
     exact PC.weak few_pc ⟨arrOf_le ha,LeA.refl _,trivial⟩
    ·cases hc
   ·cases hc
  fk:=fk15
theorem con15_f:con15.f=15:=rfl
theorem con15_c {xa:AV} {n:Int}:con15.c [xa,.lit (.int .i64 n)]=match arrOf xa with|some a=>some (True,.lit (.bool (fewA a n)))|_=>none:=rfl
def zerosS (e:ByteArray) (d:List Int):Arr×Int:=if tyOk e=false then (nilA,12) else if (sizeS d).2≠0 then (nilA,(sizeS d).2) else ofS ⟨e,d,List.replicate (sizeS d).1.toNat 0⟩
theorem rep_ints (m:Nat):List.replicate m (AV.lit (.int .i64 0))=ints .i64 (List.replicate m 0):=by simp [ints]
end Go.Proofs.YtcpjahmajkhchaaGreat

namespace Go.Proofs.YtcpjahmajkhchaaGreat
open Go Go.Fw
set_option maxRecDepth 20000
theorem le_nil {n0:Nat} {f:Nat→AV} {σ:List AObj} (i e sz:Nat) (h:f i= .lit (.slice none 0 0)):Le n0 ⟨f,σ⟩ ⟨upd f i (.arr σ.length 0),σ++[.arr e sz [] 0 false]⟩:=by
  intro cx G w N a _ hr hf
  obtain ⟨G',h1,h2,h3⟩:=Rel.newEmpty hr e sz none
  refine ⟨G',h2,hf.size,hf.defers,fun j=>?_⟩
  have hj:R G' (f j) (a.tmps.getD j undef):=(hf.rel j).mono h1
  simp only [upd]
  split
  ·rename_i e;subst e;rw [h] at hj;rw [hj.lit_inv];exact h3
  ·exact hj
def frameG:List Arr→List Int→List Int→List Bool→List Int×List Bool×Int
  |a::l,r::rs,fr,fd=>
   if (splitS a r).2.2≠0 then ([],[],(splitS a r).2.2)
   else if (splitS a r).1=[] then frameG l rs fr (fd++[false])
   else if fr=[] then frameG l rs (splitS a r).1 (fd++[true])
   else if (splitS a r).1.length≠fr.length then ([],[],13)
   else if (splitS a r).1≠fr then ([],[],14)
   else frameG l rs fr (fd++[true])
  |_,_,fr,fd=>(fr,fd,0)
def frameS (l:List Arr) (rs:List Int):List Int×List Bool×Int:=if l.length≠rs.length then ([],[],1) else frameG l rs [] []
theorem splitS_len {a:Arr} (r:Int) (h:okA a):(splitS a r).1.length≤1000000∧(splitS a r).2.1.length≤1000000:=by
  have:=h.1
  unfold splitS
  split
  ·simp
  split
  ·simp
  ·simp only [List.length_take,List.length_drop];omega
theorem len0 {α:Type} {l:List α} (h:l≠[]):l.length≠0:=fun e=>h (List.eq_nil_of_length_eq_zero e)
theorem getD_mem {α:Type} {l:List α} {i:Nat} (z:α) (h:i<l.length):l.getD i z∈l:=by
  rw [List.getD_eq_getElem?_getD,List.getElem?_eq_getElem h];exact List.getElem_mem _
end Go.Proofs.YtcpjahmajkhchaaGreat

namespace Go.Proofs.YtcpjahmajkhchaaGreat
open Go Go.Fw
set_option maxRecDepth 20000
def fieldTs (P:Program) (t:TypeId):List TypeId:=match P.underlying t with
  |some (.struct fs)=>fs.toList.map (·.type)
  |_=>[]
theorem struct_of {P:Program} {t:TypeId} {ts:List TypeId} (hne:ts≠[]) (h:fieldTs P t=ts):∃ fs:Array Field,P.underlying t=some (.struct fs)∧fs.toList.map (·.type)=ts:=by
  unfold fieldTs at h
  split at h
  ·rename_i e;exact ⟨_,e,h⟩
  ·exact absurd h.symm hne
theorem sh_fields {P:Program} {t:TypeId} {ts:List TypeId} {xs:List AV} (hne:ts≠[]) (ht:fieldTs P t=ts) (h:Sh P t xs):
    ∃ xss:List (List AV),xs=xss.flatten∧xss.length=ts.length∧∀ (i:Nat) (u:TypeId) (ys:List AV),ts[i]? =some u→xss[i]? =some ys→Sh P u ys:=by
  obtain ⟨fs,hf,hm⟩:=struct_of hne ht
  obtain ⟨xss,h1,h2,h3⟩:=sh_struct hf h
  refine ⟨xss,h1,by rw [h2,←hm];simp,fun i u ys hu hy=>?_⟩
  rw [←hm,List.getElem?_map] at hu
  cases hi:fs.toList[i]? with
  |none=>rw [hi] at hu;cases hu
  |some f=>rw [hi] at hu;cases hu;exact h3 i f ys hi hy
theorem sh_three {P:Program} {t a b c:TypeId} {xs:List AV} (ht:fieldTs P t=[a,b,c]) (h:Sh P t xs):∃ p q r,xs=p++(q++r)∧Sh P a p∧Sh P b q∧Sh P c r:=by
  obtain ⟨xss,h1,h2,h3⟩:=sh_fields (by simp) ht h
  match xss,h2 with
  |[p,q,r],_=>exact ⟨p,q,r,by simpa using h1,h3 0 a p rfl rfl,h3 1 b q rfl rfl,h3 2 c r rfl rfl⟩
theorem sh_two {P:Program} {t a b:TypeId} {xs:List AV} (ht:fieldTs P t=[a,b]) (h:Sh P t xs):∃ p q,xs=p++q∧Sh P a p∧Sh P b q:=by
  obtain ⟨xss,h1,h2,h3⟩:=sh_fields (by simp) ht h
  match xss,h2 with
  |[p,q],_=>exact ⟨p,q,by simpa using h1,h3 0 a p rfl rfl,h3 1 b q rfl rfl⟩
theorem ft31:fieldTs Tryz.prog 31=[9,23,23]:=by kernel_rfl
def okW (a:Arr):Prop:=(∀ n∈a.d,inI64 n)∧(∀ n∈a.x,inI64 n)∧a.d.length≤maxLen∧a.x.length≤maxLen
theorem shv_arr {x:AV} (h:ShV Tryz.prog 31 x):∃ a:Arr,x=arrV a∧okW a:=by
  obtain ⟨c,rfl,hc⟩:=shv_agg ag31 h
  obtain ⟨p,q,r,rfl,hp,hq,hr⟩:=sh_three ft31 hc
  obtain ⟨s,rfl,hs⟩:=sh_str u9 hp
  obtain ⟨d,rfl,hd,hd'⟩:=sh_ints u23 u3 sz3 hq
  obtain ⟨w,rfl,hw,hw'⟩:=sh_ints u23 u3 sz3 hr
  exact ⟨⟨s,d,w⟩,rfl,fun n hn=>wf_i64 (hd' n hn),fun n hn=>wf_i64 (hw' n hn),hd,hw⟩
theorem list_arrs {q:Arr→Prop}:∀ {ys:List AV},(∀ y∈ys,∃ a,y=arrV a∧q a)→∃ l:List Arr,ys=arrs l∧∀ a∈l,q a
  |[],_=>⟨[],rfl,by simp⟩
  |y::ys,h=>by
   obtain ⟨n,rfl,hn⟩:=h y (by simp)
   obtain ⟨l,rfl,hl⟩:=list_arrs (ys:=ys) fun z hz=>h z (by simp [hz])
   exact ⟨n::l,rfl,fun m hm=>by rcases List.mem_cons.1 hm with rfl|hm;exact hn;exact hl m hm⟩
theorem shv_arrs {x:AV} (h:ShV Tryz.prog 59 x):∃ l:List Arr,x= .sl false 3 (arrs l)∧l.length≤maxLen∧∀ a∈l,okW a:=by
  obtain ⟨ys,rfl,hl,hy⟩:=shv_slice u59 h
  obtain ⟨l,rfl,hq⟩:=list_arrs fun y hm=>shv_arr (hy y hm)
  exact ⟨l,by rw [sz31],by simpa [arrs] using hl,hq⟩
end Go.Proofs.YtcpjahmajkhchaaGreat

namespace Go.Proofs.YtcpjahmajkhchaaGreat
open Go Go.Fw
set_option maxRecDepth 20000
theorem dself {α:Type} [DecidableEq α] (a:α):decide (a=a)=true:=decide_eq_true rfl
end Go.Proofs.YtcpjahmajkhchaaGreat

namespace Go.Fw
end Go.Fw
namespace Go.Proofs.YtcpjahmajkhchaaGreat
open Go Go.Fw
set_option maxRecDepth 20000
def prI:List Int→Int
  |[]=>1
  |d::t=>d*prI t
def dimOk (l:List Int):Prop:=∀ x∈l,0≤x∧x≤4096
theorem prI_app:∀ l m:List Int,prI (l++m)=prI l*prI m
  |[],m=>by simp [prI]
  |d::t,m=>by simp [prI,prI_app t m,Int.mul_assoc]
theorem prI_nonneg:∀ {l:List Int},dimOk l→0≤prI l
  |[],_=>by decide
  |d::t,h=>Int.mul_nonneg (h d (by simp)).1 (prI_nonneg fun x hx=>h x (by simp [hx]))
theorem prI_pos:∀ {l:List Int},(∀ x∈l,1≤x)→1≤prI l
  |[],_=>by decide
  |d::t,h=>by
   have h1:=h d (by simp)
   have h2:=prI_pos (l:=t) fun x hx=>h x (by simp [hx])
   have:=Int.mul_le_mul h1 h2 (by omega) (by omega)
   simpa [prI] using this
theorem prI_zero:∀ {l:List Int},(l.any fun d=>0==d)=true→prI l=0
  |[],h=>by simp at h
  |d::t,h=>by
   rw [List.any_cons,Bool.or_eq_true] at h
   rcases h with h|h
   ·rw [beq_iff_eq] at h;rw [prI,←h,Int.zero_mul]
   ·rw [prI,prI_zero h,Int.mul_zero]
theorem prI_pow:∀ {l:List Int},dimOk l→prI l≤4096 ^ l.length
  |[],_=>by decide
  |d::t,h=>by
   have h1:=h d (by simp)
   have ht:dimOk t:=fun x hx=>h x (by simp [hx])
   have h2:=prI_pow ht
   have h0:=prI_nonneg ht
   have:=Int.mul_le_mul h1.2 h2 h0 (by omega)
   rw [prI,List.length_cons,Int.pow_succ,Int.mul_comm _ 4096]
   exact this
theorem prodS_eq:∀ {l:List Int} {m n:Int},prodS l m=(n,0)→n=m*prI l
  |[],m,n,h=>by simp only [prodS,Prod.mk.injEq] at h;rw [prI];omega
  |d::t,m,n,h=>by
   unfold prodS at h
   split at h
   ·cases h
   ·rw [prI,←Int.mul_assoc];exact prodS_eq h
theorem prodS_ok:∀ {l:List Int} {m:Int},(∀ x∈l,1≤x)→1≤m→m*prI l≤4096→prodS l m=(m*prI l,0)
  |[],m,_,_,_=>by simp [prodS,prI]
  |d::t,m,h,hm,hb=>by
   have h1:=h d (by simp)
   have ht:∀ x∈t,1≤x:=fun x hx=>h x (by simp [hx])
   have hp:=prI_pos ht
   rw [prI,←Int.mul_assoc] at hb
   have hmd:=Int.mul_le_mul hm h1 (by omega) (by omega)
   have:m*d*1≤m*d*prI t:=Int.mul_le_mul_of_nonneg_left hp (by omega)
   unfold prodS
   rw [if_neg (by omega),prI,←Int.mul_assoc]
   exact prodS_ok ht (by omega) hb
theorem not_any_zero {l:List Int} (hd:dimOk l) (h: ¬ (l.any fun d=>0==d)=true):∀ x∈l,1≤x:=by
  intro x hx
  have: ¬ x=0:=fun e=>h (List.any_eq_true.2 ⟨x,hx,by rw [e];rfl⟩)
  have:=hd x hx
  omega
theorem sizeS_ok {d:List Int} {n:Int} (h:sizeS d=(n,0)):d.length≤6∧dimOk d∧n=prI d∧n≤4096:=by
  have hb:=sizeS_bd d
  rw [h] at hb
  unfold sizeS at h
  split at h
  ·cases h
  rename_i h6
  split at h
  ·cases h
  rename_i hbad
  have hd:dimOk d:=bad_no hbad
  split at h
  ·rename_i h0
   cases h
   exact ⟨by omega,hd,(prI_zero h0).symm,by decide⟩
  ·exact ⟨by omega,hd,by rw [prodS_eq h,Int.one_mul],hb.2⟩
theorem sizeS_part {f c:List Int} {n:Int} (h:sizeS (f++c)=(n,0)) (hf:∀ x∈f,1≤x):sizeS c=(prI c,0):=by
  obtain ⟨h1,h2,h3,h4⟩:=sizeS_ok h
  have hc:dimOk c:=fun x hx=>h2 x (by simp [hx])
  unfold sizeS
  rw [if_neg (by simp only [List.length_append] at h1;omega)]
  rw [if_neg (by
   intro hb
   obtain ⟨x,hx,hb⟩:=List.any_eq_true.1 hb
   have:=hc x hx
   unfold badD at hb
   rw [Bool.or_eq_true,decide_eq_true_eq,decide_eq_true_eq] at hb
   omega)]
  split
  ·rename_i h0;rw [prI_zero h0]
  ·rename_i h0
   have hp:=prI_pos (not_any_zero hc h0)
   have hq:=prI_pos hf
   have:1*prI c≤prI f*prI c:=Int.mul_le_mul_of_nonneg_right hq (by omega)
   rw [←prI_app,←h3] at this
   rw [prodS_ok (not_any_zero hc h0) (by decide) (by omega),Int.one_mul]
theorem pow_bd:∀ n:Nat,n≤5→(4096:Int) ^ n≤1152921504606846976:=by decide
theorem prI_bd {l:List Int} (hd:dimOk l) (h6:l.length≤6) (h:l.length=6→prI l≤4096):0≤prI l∧prI l≤1152921504606846976:=by
  refine ⟨prI_nonneg hd,?_⟩
  have hp:=prI_pow hd
  by_cases e:l.length=6
  ·have:=h e;omega
  ·have:=pow_bd l.length (by omega);omega
theorem part_bd {d:List Int} {n:Int} (h:sizeS d=(n,0)) (i j:Nat):0≤prI ((d.drop i).take j)∧prI ((d.drop i).take j)≤1152921504606846976:=by
  obtain ⟨h1,h2,h3,h4⟩:=sizeS_ok h
  refine prI_bd (fun x hx=>h2 x (List.mem_of_mem_drop (List.mem_of_mem_take hx))) (by simp only [List.length_take,List.length_drop];omega) fun e=>?_
  simp only [List.length_take,List.length_drop] at e
  have:(d.drop i).take j=d:=by
    have hi:i=0:=by omega
    subst hi
    rw [List.drop_zero,List.take_of_length_le (by omega)]
  rw [this,←h3]
  exact h4
def atS:List Int→List Int→Int→Option Int
  |d::f,n::o,k=>if n<0∨n≥d then none else atS f o (k*d+n)
  |_,_,k=>some k
theorem prI_take_succ {f:List Int} {i:Nat} (h:i<f.length):prI (f.take (i+1))=prI (f.take i)*f.getD i 0:=by
  rw [List.take_add_one,prI_app]
  congr 1
  rw [List.getD_eq_getElem?_getD,List.getElem?_eq_getElem h]
  simp [prI]
theorem at_step {k p d n:Int} (hk:0≤k) (hk':k<p) (hn:0≤n) (hn':n<d):0≤k*d∧0≤k*d+n∧k*d+n<p*d:=by
  have h1:0≤k*d:=Int.mul_nonneg hk (by omega)
  have h2:(k+1)*d≤p*d:=Int.mul_le_mul_of_nonneg_right (by omega) (by omega)
  rw [Int.add_mul,Int.one_mul] at h2
  exact ⟨h1,by omega,by omega⟩
def cellS (a:Arr) (r:Int) (own:List Int):Arr×Int:=
  if (splitS a r).2.2≠0 then (nilA,(splitS a r).2.2)
  else if own.length≠(splitS a r).1.length then (nilA,13)
  else match atS (splitS a r).1 own 0 with
    |none=>(nilA,2)
    |some k=>(⟨a.e,(splitS a r).2.1,(a.x.drop (k*prI (splitS a r).2.1).toNat).take (prI (splitS a r).2.1).toNat⟩,0)
theorem ofE_inv {a:Arr} (h:ofE a=0):tyOk a.e=true∧sizeS a.d=((a.x.length:Int),0)∧bad a=false:=by
  have ht:tyOk a.e=true:=by
    cases e:tyOk a.e with
    |true=>rfl
    |false=>rw [ofE_ty e] at h;cases h
  have hs:(sizeS a.d).2=0:=by
    by_cases e:(sizeS a.d).2=0
    ·exact e
    ·rw [ofE_sz ht e] at h;exact absurd h e
  have hl:(a.x.length:Int)=(sizeS a.d).1:=by
    by_cases e:(a.x.length:Int)=(sizeS a.d).1
    ·exact e
    ·rw [ofE_len ht hs e] at h;cases h
  have hb:bad a=false:=by
    cases e:bad a with
    |false=>rfl
    |true=>rw [ofE_el ht hs hl,if_pos e] at h;cases h
  exact ⟨ht,Prod.ext hl.symm hs,hb⟩
theorem ofE_zero {a:Arr} (ht:tyOk a.e=true) (hs:sizeS a.d=((a.x.length:Int),0)) (hb:bad a=false):ofE a=0:=by
  rw [ofE_el ht (by rw [hs]) (by rw [hs]),if_neg (by rw [hb];decide)]
theorem splitS_inv {a:Arr} {r:Int} {f c:List Int} (h:splitS a r=(f,c,0)):ofE a=0∧a.d=f++c∧0≤r∧r=c.length:=by
  unfold splitS at h
  split at h
  ·cases h
  ·rename_i h0
   split at h
   ·cases h
   ·rename_i h1
    cases h
    simp only [ne_eq,Decidable.not_not] at h0
    refine ⟨h0,(List.take_append_drop _ _).symm,by omega,?_⟩
    simp only [List.length_drop]
    omega
theorem any_part {α:Type} {p:α→Bool} {l:List α} (i j:Nat) (h:l.any p=false):((l.drop i).take j).any p=false:=by
  rw [List.any_eq_false] at h ⊢
  exact fun x hx=>h x (List.mem_of_mem_drop (List.mem_of_mem_take hx))
theorem cell_ok {a:Arr} {f c:List Int} {k:Int} (h0:ofE a=0) (hd:a.d=f++c) (hf:∀ x∈f,1≤x) (hk:0≤k) (hk':k<prI f):
    sizeS c=(prI c,0)∧0≤prI c∧0≤k*prI c∧k*prI c+prI c≤a.x.length∧a.x.length≤4096∧ofE ⟨a.e,c,(a.x.drop (k*prI c).toNat).take (prI c).toNat⟩=0:=by
  obtain ⟨ht,hs,hb⟩:=ofE_inv h0
  rw [hd] at hs
  obtain ⟨h1,h2,h3,h4⟩:=sizeS_ok hs
  have hsz:=sizeS_part hs hf
  have hc:0≤prI c:=prI_nonneg fun x hx=>h2 x (by simp [hx])
  have hm:(k+1)*prI c≤prI f*prI c:=Int.mul_le_mul_of_nonneg_right (by omega) hc
  rw [←prI_app,←h3,Int.add_mul,Int.one_mul] at hm
  have hkc:0≤k*prI c:=Int.mul_nonneg hk hc
  refine ⟨hsz,hc,hkc,hm,by omega,ofE_zero ht ?_ (any_part _ _ hb)⟩
  rw [hsz]
  congr 1
  simp only [List.length_take,List.length_drop]
  omega
end Go.Proofs.YtcpjahmajkhchaaGreat

namespace Go.Proofs.YtcpjahmajkhchaaGreat
open Go Go.Fw
set_option maxRecDepth 20000
structure Lc (f own:List Int) (G:Option Int) where
  i:Nat
  k:Int
  hi:i≤own.length
  hk:0≤k
  hk':k<prI (f.take i)
  hp:∀ x∈f.take i,1≤x
  hF:atS (f.drop i) (own.drop i) k=G
theorem take_pos {f:List Int} {i:Nat} (h:i<f.length) (hp:∀ x∈f.take i,1≤x) (h1:1≤f.getD i 0):∀ x∈f.take (i+1),1≤x:=by
  intro x hx
  rw [List.take_add_one,List.mem_append] at hx
  rcases hx with hx|hx
  ·exact hp x hx
  ·rw [List.getElem?_eq_getElem h] at hx
   simp only [Option.toList_some,List.mem_singleton] at hx
   rw [List.getD_eq_getElem?_getD,List.getElem?_eq_getElem h] at h1
   rw [hx];simpa using h1
noncomputable def E19:Env:=envOf (P:=Tryz.prog) zer (fun _=>false) (fun _=>false) [con77,con71] []
theorem E19_ok:EnvOk Tryz.prog E19:=envOk zer_ok
set_option maxRecDepth 20000 in
set_option maxHeartbeats 4000000 in
theorem cell_pc {a:Arr} {r:Int} {own:List Int} (ha:okA a) (hr:inI64 r) (hl:own.length≤1000000):PC Tryz.prog 56 [arrV a,.lit (.int .i64 r),.sl false 1 (ints .i64 own)] (aeV (cellS a r own)):=by
  unfold cellS
  have hsl:=splitS_len r ha
  have ha1:=ha.1
  have ha2:=ha.2
  generalize hS:splitS a r=s at hsl
  obtain ⟨f,c,er⟩:=s
  simp only at hsl
  by_cases e0:er=0
  ·subst e0
   obtain ⟨h0,hd,hr0,hrl⟩:=splitS_inv hS
   rw [if_neg (by simp)]
   by_cases hn:own.length=f.length
   ·have n1:((own.length:Int) !=(f.length:Int))=false:=by rw [bne_eq_false_iff_eq];omega
    rw [if_neg (by simpa using hn)]
    simp only
    have hsz:=(ofE_inv h0).2.1
    have hbd:∀ i,i≤f.length→0≤prI (f.take i)∧prI (f.take i)≤1152921504606846976:=fun i hi=>by
      have:=part_bd hsz 0 i
      rwa [hd,List.drop_zero,List.take_append_of_le_length hi] at this
    generalize hG:atS f own 0=G
    refine pcO E19_ok (fun _=>[1,2,3,6,7,8,9,10,11,12,13,14,16,25,32,34,35,36,37,50,61,62,63,64]) Tryz.func56 (h:=fun KF=>?_)
    unfold E19
    repeat' (first
     |(with_reducible first|refine nx ?_|refine t_seq fun K=>?_|refine t_br (fun hc=>?_) fun hc=>?_|refine t_bx ?_|apply And.intro|intro vr)|exact kpd
     |((with_reducible first|refine ny ?_|refine t_kLF ?_ ?_|refine t_drawE (id:=20) (fun i=>i==0) [(0,1),(1,1),(2,1),(3,1),(4,1),(5,1),(6,1),(7,1),(8,1),(9,1),(10,1),(11,1),(12,1),(13,0),(14,1),(15,0),(16,1)] (by kernel_rfl) fun K=>?_|refine t_dwh (h:=fun K KL=>?_));intros;simp only [go_sem,geff,con77_f,con77_c,con71_f,con71_c,arrV_def,arrOf_agg,slK_sl,hS,spV_def,szV_def,aeV_def,n1,bne_self_eq_false]))
    all_goals try exact om
    all_goals try exact ha
    all_goals try exact hr
    refine t_loop (ι:=Lc f own G) (fun i=>⟨upd (upd (upd (upd (upd (upd (upd (upd (upd topF 36 (.lit (.int .i64 i.i))) 35 (.lit (.int .i64 own.length))) 34 (.sl false 1 (ints .i64 own))) 12 (.lit (.int .i64 1))) 11 (.lit (.int .i64 i.k))) 9 (.sl false 1 (ints .i64 c))) 8 (.sl false 1 (ints .i64 f))) 6 (.ref 1 0)) 3 (.ref 0 0),[AObj.box 31 [.lit (.string a.e),.sl false 1 (ints .i64 a.d),.sl false 1 (ints .i64 a.x)],AObj.box 31 [AV.lit (Value.string ByteArray.empty),AV.sl true 1 [],AV.sl true 1 []]]⟩) (fun i=>own.length - i.i) ⟨0,0,by omega,by omega,by simp [prI],by simp,hG⟩ ?_ ?_
    ·skip
     (refine Le.frame ?_;repeat' (first|exact leF_top _|(with_reducible refine leF_sl ?_ ?_)|(refine leF_upd (LeR.of_eq ?_) ?_)))<;>(try (simp only [go_sem];try rfl))
    ·rintro ⟨i,k,hi,hk,hk',hp,hF⟩ K0
     rcases Nat.lt_or_ge i own.length with hc|hc
     ·have hcf:i<f.length:=by omega
      have g1:decide ((i:Int)<(own.length:Int))=true:=decide_eq_true (by omega)
      have g2:=ints_getD .i64 own i hc
      have g3:=ints_getD .i64 f i hcf
      have hnx:=prI_take_succ hcf
      have hb1:=hbd (i+1) (by omega)
      have htp:=take_pos hcf hp
      rw [drop_getD 0 hcf,drop_getD 0 hc,atS] at hF
      generalize own.getD i 0=n at g2 hF
      generalize f.getD i 0=d at g3 hF hnx htp
      by_cases n0:n<0
      ·have n0':decide (n<0)=true:=decide_eq_true n0
       rw [if_pos (.inl n0)] at hF
       subst hF
       repeat' (first
        |(with_reducible first|refine nx ?_|refine t_seq fun K=>?_|refine t_br (fun hc=>?_) fun hc=>?_|refine t_bx ?_|apply And.intro|intro vr)|exact kpd
        |((with_reducible first|refine ny ?_|refine t_kLF ?_ ?_|refine t_drawE (id:=20) (fun i=>i==0) [(0,1),(1,1),(2,1),(3,1),(4,1),(5,1),(6,1),(7,1),(8,1),(9,1),(10,1),(11,1),(12,1),(13,0),(14,1),(15,0),(16,1)] (by kernel_rfl) fun K=>?_|refine t_dwh (h:=fun K KL=>?_));intros;simp only [go_sem,geff,con77_f,con77_c,con71_f,con71_c,g1,g2,g3,n0',Int.toNat_natCast]))
       all_goals try exact om
       refine end_ret rfl ?_
       simp only [fin,go_sem]
       exact nilAe_le
      ·have n0':decide (n<0)=false:=decide_eq_false n0
       by_cases n2:n≥d
       ·have n2':decide (n≥d)=true:=decide_eq_true n2
        rw [if_pos (.inr n2)] at hF
        subst hF
        repeat' (first
         |(with_reducible first|refine nx ?_|refine t_seq fun K=>?_|refine t_br (fun hc=>?_) fun hc=>?_|refine t_bx ?_|apply And.intro|intro vr)|exact kpd
         |((with_reducible first|refine ny ?_|refine t_kLF ?_ ?_|refine t_drawE (id:=20) (fun i=>i==0) [(0,1),(1,1),(2,1),(3,1),(4,1),(5,1),(6,1),(7,1),(8,1),(9,1),(10,1),(11,1),(12,1),(13,0),(14,1),(15,0),(16,1)] (by kernel_rfl) fun K=>?_|refine t_dwh (h:=fun K KL=>?_));intros;simp only [go_sem,geff,con77_f,con77_c,con71_f,con71_c,g1,g2,g3,n0',n2',Int.toNat_natCast]))
        all_goals try exact om
        refine end_ret rfl ?_
        simp only [fin,go_sem]
        exact nilAe_le
       ·have n2':decide (n≥d)=false:=decide_eq_false n2
        rw [if_neg (by omega)] at hF
        have hst:=at_step hk hk' (show 0≤n by omega) (show n<d by omega)
        rw [hnx] at hb1
        generalize prI (f.take i)*d=pd at hb1 hst hnx
        repeat' (first
         |(with_reducible first|refine nx ?_|refine t_seq fun K=>?_|refine t_br (fun hc=>?_) fun hc=>?_|refine t_bx ?_|apply And.intro|intro vr)|exact kpd
         |((with_reducible first|refine ny ?_|refine t_kLF ?_ ?_|refine t_drawE (id:=20) (fun i=>i==0) [(0,1),(1,1),(2,1),(3,1),(4,1),(5,1),(6,1),(7,1),(8,1),(9,1),(10,1),(11,1),(12,1),(13,0),(14,1),(15,0),(16,1)] (by kernel_rfl) fun K=>?_|refine t_dwh (h:=fun K KL=>?_));intros;simp only [go_sem,geff,con77_f,con77_c,con71_f,con71_c,g1,g2,g3,n0',n2',Int.toNat_natCast]))
        all_goals try exact om
        refine ⟨⟨i+1,k*d+n,by omega,by omega,by omega,htp (by omega),hF⟩,by simp only;omega,?_⟩
        (refine Le.frame ?_;repeat' (first|exact leF_top _|(with_reducible refine leF_sl ?_ ?_)|(refine leF_upd (LeR.of_eq ?_) ?_)))<;>(try (simp only [go_sem];try rfl))
     ·have g1:decide ((i:Int)<(own.length:Int))=false:=decide_eq_false (by omega)
      rw [List.drop_eq_nil_of_le hc,List.drop_eq_nil_of_le (by omega),atS] at hF
      ·subst hF
       rw [List.take_of_length_le (by omega)] at hk' hp
       obtain ⟨hcs,hc0,hkc,hkl,hxl,hO⟩:=cell_ok h0 hd hp hk hk'
       replace hO:=ofS_ok hO
       have hq:(a.x.take (k*prI c+prI c).toNat).drop (k*prI c).toNat=(a.x.drop (k*prI c).toNat).take (prI c).toNat:=by
         rw [List.drop_take];congr 1;omega
       simp only
       have hX:∀ j,j≤c.length→0≤prI (c.take j)∧prI (c.take j)≤1152921504606846976:=fun j hj=>by
         have:=part_bd hsz f.length j
         rwa [hd,List.drop_left] at this
       repeat' (first
        |(with_reducible first|refine nx ?_|refine t_seq fun K=>?_|refine t_br (fun hc=>?_) fun hc=>?_|refine t_bx ?_|apply And.intro|intro vr)|exact kpd
        |((with_reducible first|refine ny ?_|refine t_kLF ?_ ?_|refine t_drawE (id:=20) (fun i=>i==0) [(0,1),(1,1),(2,1),(3,1),(4,1),(5,1),(6,1),(7,1),(8,1),(9,1),(10,1),(11,1),(12,1),(13,0),(14,1),(15,0),(16,1)] (by kernel_rfl) fun K=>?_|refine t_dwh (h:=fun K KL=>?_));intros;simp only [go_sem,geff,con77_f,con77_c,con71_f,con71_c,arrV_def,arrOf_agg,slK_sl,hS,spV_def,szV_def,aeV_def,g1]))
       all_goals try exact om
       refine t_loop (ι:={p:Nat×Int // p.1≤c.length∧p.2=prI (c.take p.1)}) (fun i=>⟨upd (upd (upd (upd (upd (upd (upd (upd topF 63 (.lit (.int .i64 i.1.1))) 62 (.lit (.int .i64 c.length))) 61 (.sl false 1 (ints .i64 c))) 12 (.lit (.int .i64 i.1.2))) 11 (.lit (.int .i64 k))) 9 (.sl false 1 (ints .i64 c))) 6 (.ref 1 0)) 3 (.ref 0 0),[AObj.box 31 [.lit (.string a.e),.sl false 1 (ints .i64 a.d),.sl false 1 (ints .i64 a.x)],AObj.box 31 [AV.lit (Value.string ByteArray.empty),AV.sl true 1 [],AV.sl true 1 []]]⟩) (fun i=>c.length - i.1.1) ⟨(0,1),by simp,by simp [prI]⟩ ?_ ?_
       ·skip
        (refine Le.frame ?_;repeat' (first|exact leF_top _|(with_reducible refine leF_sl ?_ ?_)|(refine leF_upd (LeR.of_eq ?_) ?_)))<;>(try (simp only [go_sem];try rfl))
       ·rintro ⟨⟨j,m⟩,hj,hmj⟩ K1
        simp only at hj hmj
        rcases Nat.lt_or_ge j c.length with hc|hc
        ·have g1:decide ((j:Int)<(c.length:Int))=true:=decide_eq_true (by omega)
         have g2:=ints_getD .i64 c j hc
         have hnx:=prI_take_succ hc
         have hX1:=hX (j+1) (by omega)
         rw [hnx,←hmj] at hX1
         rw [←hmj] at hnx
         generalize c.getD j 0=d at g2 hnx hX1
         repeat' (first
          |(with_reducible first|refine nx ?_|refine t_seq fun K=>?_|refine t_br (fun hc=>?_) fun hc=>?_|refine t_bx ?_|apply And.intro|intro vr)|exact kpd
          |((with_reducible first|refine ny ?_|refine t_kLF ?_ ?_|refine t_drawE (id:=20) (fun i=>i==0) [(0,1),(1,1),(2,1),(3,1),(4,1),(5,1),(6,1),(7,1),(8,1),(9,1),(10,1),(11,1),(12,1),(13,0),(14,1),(15,0),(16,1)] (by kernel_rfl) fun K=>?_|refine t_dwh (h:=fun K KL=>?_));intros;simp only [go_sem,geff,con77_f,con77_c,con71_f,con71_c,g1,g2,Int.toNat_natCast]))
         all_goals try exact om
         refine ⟨⟨(j+1,m*d),by simp only;omega,hnx.symm⟩,by simp only;omega,?_⟩
         (refine Le.frame ?_;repeat' (first|exact leF_top _|(with_reducible refine leF_sl ?_ ?_)|(refine leF_upd (LeR.of_eq ?_) ?_)))<;>(try (simp only [go_sem];try rfl))
        ·have g1:decide ((j:Int)<(c.length:Int))=false:=decide_eq_false (by omega)
         rw [List.take_of_length_le hc] at hmj
         subst hmj
         repeat' (first
          |(with_reducible first|refine nx ?_|refine t_seq fun K=>?_|refine t_br (fun hc=>?_) fun hc=>?_|refine t_bx ?_|apply And.intro|intro vr)|exact kpd
          |((with_reducible first|refine ny ?_|refine t_kLF ?_ ?_|refine t_drawE (id:=20) (fun i=>i==0) [(0,1),(1,1),(2,1),(3,1),(4,1),(5,1),(6,1),(7,1),(8,1),(9,1),(10,1),(11,1),(12,1),(13,0),(14,1),(15,0),(16,1)] (by kernel_rfl) fun K=>?_|refine t_dwh (h:=fun K KL=>?_));intros;simp only [go_sem,geff,con77_f,con77_c,con71_f,con71_c,arrV_def,arrOf_agg,slK_sl,hS,spV_def,szV_def,aeV_def,g1,hq,List.length_take,List.length_drop]))
         all_goals try exact om
         all_goals try exact trivial
         refine end_ret rfl ?_
         simp only [fin,go_sem]
         exact LeA.refl _
      ·intro _ _ _ _ h;cases h
   ·have n1:((own.length:Int) !=(f.length:Int))=true:=by rw [bne_iff_ne];omega
    rw [if_pos hn]
    refine pcO E19_ok (fun _=>[1,2,3,6,7,8,9,10,11,12,13,14,16,25,32,34,35,36,37,50,61,62,63,64]) Tryz.func56 (h:=fun KF=>?_)
    unfold E19
    repeat' (first
     |(with_reducible first|refine nx ?_|refine t_seq fun K=>?_|refine t_br (fun hc=>?_) fun hc=>?_|refine t_bx ?_|apply And.intro|intro vr)|exact kpd
     |((with_reducible first|refine ny ?_|refine t_kLF ?_ ?_|refine t_drawE (id:=20) (fun i=>i==0) [(0,1),(1,1),(2,1),(3,1),(4,1),(5,1),(6,1),(7,1),(8,1),(9,1),(10,1),(11,1),(12,1),(13,0),(14,1),(15,0),(16,1)] (by kernel_rfl) fun K=>?_|refine t_dwh (h:=fun K KL=>?_));intros;simp only [go_sem,geff,con77_f,con77_c,con71_f,con71_c,arrV_def,arrOf_agg,slK_sl,hS,spV_def,szV_def,aeV_def,n1,bne_self_eq_false]))
    all_goals try exact om
    all_goals try exact ha
    all_goals try exact hr
    refine end_ret rfl ?_
    simp only [fin,go_sem]
    exact nilAe_le
  ·have e1:(er !=0)=true:=by rw [bne_iff_ne];exact e0
   rw [if_pos (by simpa using e0)]
   refine pcO E19_ok (fun _=>[1,2,3,6,7,8,9,10,11,12,13,14,16,25,32,34,35,36,37,50,61,62,63,64]) Tryz.func56 (h:=fun KF=>?_)
   unfold E19
   repeat' (first
    |(with_reducible first|refine nx ?_|refine t_seq fun K=>?_|refine t_br (fun hc=>?_) fun hc=>?_|refine t_bx ?_|apply And.intro|intro vr)|exact kpd
    |((with_reducible first|refine ny ?_|refine t_kLF ?_ ?_|refine t_drawE (id:=20) (fun i=>i==0) [(0,1),(1,1),(2,1),(3,1),(4,1),(5,1),(6,1),(7,1),(8,1),(9,1),(10,1),(11,1),(12,1),(13,0),(14,1),(15,0),(16,1)] (by kernel_rfl) fun K=>?_|refine t_dwh (h:=fun K KL=>?_));intros;simp only [go_sem,geff,con77_f,con77_c,con71_f,con71_c,arrV_def,arrOf_agg,slK_sl,hS,spV_def,szV_def,aeV_def,e1]))
   all_goals try exact om
   all_goals try exact ha
   all_goals try exact hr
   refine end_ret rfl ?_
   simp only [fin,go_sem]
   exact nilAe_le
noncomputable def con56:PCon Tryz.prog where
  f:=56
  c:=fun
   |[xa,.lit (.int .i64 r),xown]=>match arrOf xa,slK .i64 xown with|some a,some own=>some (okA a∧inI64 r∧own.length≤1000000,aeV (cellS a r own))|_,_=>none
   |_=>none
  ok:=by
   intro args p r hc hp
   split at hc
   ·split at hc
    ·rename_i ha hown
     cases hc
     exact PC.weak ((fun hp:_∧_∧_=>cell_pc hp.1 hp.2.1 hp.2.2) hp) ⟨arrOf_le ha,LeA.refl _,slK_le hown,trivial⟩
    ·cases hc
   ·cases hc
  fk:=fk56
theorem con56_f:con56.f=56:=rfl
theorem con56_c {xa:AV} {r:Int} {xown:AV}:con56.c [xa,.lit (.int .i64 r),xown]=match arrOf xa,slK .i64 xown with|some a,some own=>some (okA a∧inI64 r∧own.length≤1000000,aeV (cellS a r own))|_,_=>none:=rfl
noncomputable def E20:Env:=envOf (P:=Tryz.prog) zer (fun _=>false) (fun _=>false) [con62,con50,con48] []
theorem E20_ok:EnvOk Tryz.prog E20:=envOk zer_ok
set_option maxRecDepth 20000 in
set_option maxHeartbeats 4000000 in
theorem rcell_pc {a:Arr} {r:Int} {own:List Int} (ha:okA a) (hr:inI64 r) (hl:own.length≤1000000):PC Tryz.prog 32 [arrV a,.lit (.int .i64 r),.sl false 1 (ints .i64 own)] (aeV (cellS a r own)):=by
  unfold cellS
  have hsl:=splitS_len r ha
  have ha1:=ha.1
  have ha2:=ha.2
  generalize hS:splitS a r=s at hsl
  obtain ⟨f,c,er⟩:=s
  simp only at hsl
  by_cases e0:er=0
  ·subst e0
   obtain ⟨h0,hd,hr0,hrl⟩:=splitS_inv hS
   rw [if_neg (by simp)]
   by_cases hn:own.length=f.length
   ·have n1:((own.length:Int) !=(f.length:Int))=false:=by rw [bne_eq_false_iff_eq];omega
    rw [if_neg (by simpa using hn)]
    simp only
    have hsz:=(ofE_inv h0).2.1
    have hbd:∀ i,i≤f.length→0≤prI (f.take i)∧prI (f.take i)≤1152921504606846976:=fun i hi=>by
      have:=part_bd hsz 0 i
      rwa [hd,List.drop_zero,List.take_append_of_le_length hi] at this
    generalize hG:atS f own 0=G
    refine pcO E20_ok (fun _=>[1,2,3,6,7,8,9,10,11,12,13,22,29,34,52,71]) Tryz.func32 (h:=fun KF=>?_)
    unfold E20
    repeat' (first
     |(with_reducible first|refine nx ?_|refine t_seq fun K=>?_|refine t_br (fun hc=>?_) fun hc=>?_|refine t_bx ?_|apply And.intro|intro vr)|exact kpd
     |((with_reducible first|refine ny ?_|refine t_kLF ?_ ?_|refine t_drawE (id:=16) (fun i=>i==0) [(0,1),(1,1),(2,1),(3,1),(4,1),(5,1),(6,1),(7,1),(8,1),(9,1),(10,1),(11,1),(12,1),(13,1),(14,0),(15,1),(16,1),(17,0),(18,1)] (by kernel_rfl) fun K=>?_|refine t_dwh (h:=fun K KL=>?_));intros;simp only [go_sem,geff,con62_f,con62_c,con50_f,con50_c,con48_f,con48_c,arrV_def,arrOf_agg,slK_sl,hS,spV_def,szV_def,aeV_def,n1,bne_self_eq_false]))
    all_goals try exact om
    all_goals try exact ha
    all_goals try exact hr
    refine t_loop (ι:=Lc f own G) (fun i=>⟨upd (upd (upd (upd (upd (upd (upd topF 12 (.lit (.int .i64 i.i))) 11 (.lit (.int .i64 i.k))) 9 (.sl false 1 (ints .i64 c))) 8 (.sl false 1 (ints .i64 f))) 6 (.ref 1 0)) 3 (.ref 0 0)) 2 (.sl false 1 (ints .i64 own)),[AObj.box 31 [.lit (.string a.e),.sl false 1 (ints .i64 a.d),.sl false 1 (ints .i64 a.x)],AObj.box 31 [AV.lit (Value.string ByteArray.empty),AV.sl true 1 [],AV.sl true 1 []]]⟩) (fun i=>own.length - i.i) ⟨0,0,by omega,by omega,by simp [prI],by simp,hG⟩ ?_ ?_
    ·skip
     (refine Le.frame ?_;repeat' (first|exact leF_top _|(with_reducible refine leF_sl ?_ ?_)|(refine leF_upd (LeR.of_eq ?_) ?_)))<;>(try (simp only [go_sem];try rfl))
    ·rintro ⟨i,k,hi,hk,hk',hp,hF⟩ K0
     rcases Nat.lt_or_ge i own.length with hc|hc
     ·have hcf:i<f.length:=by omega
      have g1:decide ((i:Int)<(own.length:Int))=true:=decide_eq_true (by omega)
      have g2:=ints_getD .i64 own i hc
      have g3:=ints_getD .i64 f i hcf
      have hnx:=prI_take_succ hcf
      have hb1:=hbd (i+1) (by omega)
      have htp:=take_pos hcf hp
      rw [drop_getD 0 hcf,drop_getD 0 hc,atS] at hF
      generalize own.getD i 0=n at g2 hF
      generalize f.getD i 0=d at g3 hF hnx htp
      by_cases n0:n<0
      ·have n0':decide (n<0)=true:=decide_eq_true n0
       rw [if_pos (.inl n0)] at hF
       subst hF
       repeat' (first
        |(with_reducible first|refine nx ?_|refine t_seq fun K=>?_|refine t_br (fun hc=>?_) fun hc=>?_|refine t_bx ?_|apply And.intro|intro vr)|exact kpd
        |((with_reducible first|refine ny ?_|refine t_kLF ?_ ?_|refine t_drawE (id:=16) (fun i=>i==0) [(0,1),(1,1),(2,1),(3,1),(4,1),(5,1),(6,1),(7,1),(8,1),(9,1),(10,1),(11,1),(12,1),(13,1),(14,0),(15,1),(16,1),(17,0),(18,1)] (by kernel_rfl) fun K=>?_|refine t_dwh (h:=fun K KL=>?_));intros;simp only [go_sem,geff,con62_f,con62_c,con50_f,con50_c,con48_f,con48_c,g1,g2,g3,n0',Int.toNat_natCast]))
       all_goals try exact om
       refine end_ret rfl ?_
       simp only [fin,go_sem]
       exact nilAe_le
      ·have n0':decide (n<0)=false:=decide_eq_false n0
       by_cases n2:n≥d
       ·have n2':decide (n≥d)=true:=decide_eq_true n2
        rw [if_pos (.inr n2)] at hF
        subst hF
        repeat' (first
         |(with_reducible first|refine nx ?_|refine t_seq fun K=>?_|refine t_br (fun hc=>?_) fun hc=>?_|refine t_bx ?_|apply And.intro|intro vr)|exact kpd
         |((with_reducible first|refine ny ?_|refine t_kLF ?_ ?_|refine t_drawE (id:=16) (fun i=>i==0) [(0,1),(1,1),(2,1),(3,1),(4,1),(5,1),(6,1),(7,1),(8,1),(9,1),(10,1),(11,1),(12,1),(13,1),(14,0),(15,1),(16,1),(17,0),(18,1)] (by kernel_rfl) fun K=>?_|refine t_dwh (h:=fun K KL=>?_));intros;simp only [go_sem,geff,con62_f,con62_c,con50_f,con50_c,con48_f,con48_c,g1,g2,g3,n0',n2',Int.toNat_natCast]))
        all_goals try exact om
        refine end_ret rfl ?_
        simp only [fin,go_sem]
        exact nilAe_le
       ·have n2':decide (n≥d)=false:=decide_eq_false n2
        rw [if_neg (by omega)] at hF
        have hst:=at_step hk hk' (show 0≤n by omega) (show n<d by omega)
        rw [hnx] at hb1
        generalize prI (f.take i)*d=pd at hb1 hst hnx
        repeat' (first
         |(with_reducible first|refine nx ?_|refine t_seq fun K=>?_|refine t_br (fun hc=>?_) fun hc=>?_|refine t_bx ?_|apply And.intro|intro vr)|exact kpd
         |((with_reducible first|refine ny ?_|refine t_kLF ?_ ?_|refine t_drawE (id:=16) (fun i=>i==0) [(0,1),(1,1),(2,1),(3,1),(4,1),(5,1),(6,1),(7,1),(8,1),(9,1),(10,1),(11,1),(12,1),(13,1),(14,0),(15,1),(16,1),(17,0),(18,1)] (by kernel_rfl) fun K=>?_|refine t_dwh (h:=fun K KL=>?_));intros;simp only [go_sem,geff,con62_f,con62_c,con50_f,con50_c,con48_f,con48_c,g1,g2,g3,n0',n2',Int.toNat_natCast]))
        all_goals try exact om
        refine ⟨⟨i+1,k*d+n,by omega,by omega,by omega,htp (by omega),hF⟩,by simp only;omega,?_⟩
        (refine Le.frame ?_;repeat' (first|exact leF_top _|(with_reducible refine leF_sl ?_ ?_)|(refine leF_upd (LeR.of_eq ?_) ?_)))<;>(try (simp only [go_sem];try rfl))
     ·have g1:decide ((i:Int)<(own.length:Int))=false:=decide_eq_false (by omega)
      rw [List.drop_eq_nil_of_le hc,List.drop_eq_nil_of_le (by omega),atS] at hF
      ·subst hF
       rw [List.take_of_length_le (by omega)] at hk' hp
       obtain ⟨hcs,hc0,hkc,hkl,hxl,hO⟩:=cell_ok h0 hd hp hk hk'
       replace hO:=ofS_ok hO
       have hq:(a.x.take (k*prI c+prI c).toNat).drop (k*prI c).toNat=(a.x.drop (k*prI c).toNat).take (prI c).toNat:=by
         rw [List.drop_take];congr 1;omega
       simp only
       repeat' (first
        |(with_reducible first|refine nx ?_|refine t_seq fun K=>?_|refine t_br (fun hc=>?_) fun hc=>?_|refine t_bx ?_|apply And.intro|intro vr)|exact kpd
        |((with_reducible first|refine ny ?_|refine t_kLF ?_ ?_|refine t_drawE (id:=16) (fun i=>i==0) [(0,1),(1,1),(2,1),(3,1),(4,1),(5,1),(6,1),(7,1),(8,1),(9,1),(10,1),(11,1),(12,1),(13,1),(14,0),(15,1),(16,1),(17,0),(18,1)] (by kernel_rfl) fun K=>?_|refine t_dwh (h:=fun K KL=>?_));intros;simp only [go_sem,geff,con62_f,con62_c,con50_f,con50_c,con48_f,con48_c,arrV_def,arrOf_agg,slK_sl,hS,spV_def,szV_def,aeV_def,g1,hcs,hq,hO,List.length_take,List.length_drop]))
       all_goals try exact om
       all_goals try exact trivial
       refine end_ret rfl ?_
       simp only [fin,go_sem]
       exact LeA.refl _
      ·intro _ _ _ _ h;cases h
   ·have n1:((own.length:Int) !=(f.length:Int))=true:=by rw [bne_iff_ne];omega
    rw [if_pos hn]
    refine pcO E20_ok (fun _=>[1,2,3,6,7,8,9,10,11,12,13,22,29,34,52,71]) Tryz.func32 (h:=fun KF=>?_)
    unfold E20
    repeat' (first
     |(with_reducible first|refine nx ?_|refine t_seq fun K=>?_|refine t_br (fun hc=>?_) fun hc=>?_|refine t_bx ?_|apply And.intro|intro vr)|exact kpd
     |((with_reducible first|refine ny ?_|refine t_kLF ?_ ?_|refine t_drawE (id:=16) (fun i=>i==0) [(0,1),(1,1),(2,1),(3,1),(4,1),(5,1),(6,1),(7,1),(8,1),(9,1),(10,1),(11,1),(12,1),(13,1),(14,0),(15,1),(16,1),(17,0),(18,1)] (by kernel_rfl) fun K=>?_|refine t_dwh (h:=fun K KL=>?_));intros;simp only [go_sem,geff,con62_f,con62_c,con50_f,con50_c,con48_f,con48_c,arrV_def,arrOf_agg,slK_sl,hS,spV_def,szV_def,aeV_def,n1,bne_self_eq_false]))
    all_goals try exact om
    all_goals try exact ha
    all_goals try exact hr
    refine end_ret rfl ?_
    simp only [fin,go_sem]
    exact nilAe_le
  ·have e1:(er !=0)=true:=by rw [bne_iff_ne];exact e0
   rw [if_pos (by simpa using e0)]
   refine pcO E20_ok (fun _=>[1,2,3,6,7,8,9,10,11,12,13,22,29,34,52,71]) Tryz.func32 (h:=fun KF=>?_)
   unfold E20
   repeat' (first
    |(with_reducible first|refine nx ?_|refine t_seq fun K=>?_|refine t_br (fun hc=>?_) fun hc=>?_|refine t_bx ?_|apply And.intro|intro vr)|exact kpd
    |((with_reducible first|refine ny ?_|refine t_kLF ?_ ?_|refine t_drawE (id:=16) (fun i=>i==0) [(0,1),(1,1),(2,1),(3,1),(4,1),(5,1),(6,1),(7,1),(8,1),(9,1),(10,1),(11,1),(12,1),(13,1),(14,0),(15,1),(16,1),(17,0),(18,1)] (by kernel_rfl) fun K=>?_|refine t_dwh (h:=fun K KL=>?_));intros;simp only [go_sem,geff,con62_f,con62_c,con50_f,con50_c,con48_f,con48_c,arrV_def,arrOf_agg,slK_sl,hS,spV_def,szV_def,aeV_def,e1]))
   all_goals try exact om
   all_goals try exact ha
   all_goals try exact hr
   refine end_ret rfl ?_
   simp only [fin,go_sem]
   exact nilAe_le
noncomputable def con32:PCon Tryz.prog where
  f:=32
  c:=fun
   |[xa,.lit (.int .i64 r),xown]=>match arrOf xa,slK .i64 xown with|some a,some own=>some (okA a∧inI64 r∧own.length≤1000000,aeV (cellS a r own))|_,_=>none
   |_=>none
  ok:=by
   intro args p r hc hp
   split at hc
   ·split at hc
    ·rename_i ha hown
     cases hc
     exact PC.weak ((fun hp:_∧_∧_=>rcell_pc hp.1 hp.2.1 hp.2.2) hp) ⟨arrOf_le ha,LeA.refl _,slK_le hown,trivial⟩
    ·cases hc
   ·cases hc
  fk:=fk32
theorem con32_f:con32.f=32:=rfl
theorem con32_c {xa:AV} {r:Int} {xown:AV}:con32.c [xa,.lit (.int .i64 r),xown]=match arrOf xa,slK .i64 xown with|some a,some own=>some (okA a∧inI64 r∧own.length≤1000000,aeV (cellS a r own))|_,_=>none:=rfl
end Go.Proofs.YtcpjahmajkhchaaGreat

namespace Go.Proofs.YtcpjahmajkhchaaGreat
open Go Go.Fw
set_option maxRecDepth 20000
def eqA (a b:Arr):Bool:=eqS a.e b.e&&(decide (a.d=b.d)&&decide (a.x=b.x))
theorem eqA_refl (a:Arr):eqA a a=true:=by unfold eqA;rw [eqS_refl,dself,dself];rfl
noncomputable def E21:Env:=envOf (P:=Tryz.prog) zer (fun _=>false) (fun _=>false) [con26] []
theorem E21_ok:EnvOk Tryz.prog E21:=envOk zer_ok
set_option maxRecDepth 20000 in
set_option maxHeartbeats 1000000 in
theorem eqa_pc {a b:Arr} (ha:okA a):PC Tryz.prog 20 [arrV a,arrV b] (.lit (.bool (eqA a b))):=by
  have ha1:=ha.1
  have ha2:=ha.2
  unfold eqA
  by_cases h1:eqS a.e b.e=true
  ·by_cases h2:a.d=b.d
   ·have d2:decide (a.d=b.d)=true:=decide_eq_true h2
    rw [h1,d2]
    refine pcO E21_ok (fun _=>[2,3,4]) Tryz.func20 (h:=fun KF=>?_)
    unfold E21
    repeat' (first
     |(with_reducible first|refine nx ?_|refine t_seq fun K=>?_|refine t_br (fun hc=>?_) fun hc=>?_|refine t_bx ?_|apply And.intro|intro vr)
     |((with_reducible first|refine ny ?_|refine t_dwh (h:=fun K KL=>?_));intros;simp only [go_sem,geff,con26_f,con26_c,arrV_def,slK_sl,h1,d2]))
    all_goals try exact om
    refine end_ret rfl ?_
    simp only [fin,go_sem]
    exact LeA.refl _
   ·have d2:decide (a.d=b.d)=false:=decide_eq_false h2
    rw [h1,d2]
    refine pcO E21_ok (fun _=>[2,3,4]) Tryz.func20 (h:=fun KF=>?_)
    unfold E21
    repeat' (first
     |(with_reducible first|refine nx ?_|refine t_seq fun K=>?_|refine t_br (fun hc=>?_) fun hc=>?_|refine t_bx ?_|apply And.intro|intro vr)
     |((with_reducible first|refine ny ?_|refine t_dwh (h:=fun K KL=>?_));intros;simp only [go_sem,geff,con26_f,con26_c,arrV_def,slK_sl,h1,d2]))
    all_goals try exact om
    refine end_ret rfl ?_
    simp only [fin,go_sem]
    exact LeA.refl _
  ·have h1':eqS a.e b.e=false:=by simpa using h1
   rw [h1']
   refine pcO E21_ok (fun _=>[2,3,4]) Tryz.func20 (h:=fun KF=>?_)
   unfold E21
   repeat' (first
    |(with_reducible first|refine nx ?_|refine t_seq fun K=>?_|refine t_br (fun hc=>?_) fun hc=>?_|refine t_bx ?_|apply And.intro|intro vr)
    |((with_reducible first|refine ny ?_|refine t_dwh (h:=fun K KL=>?_));intros;simp only [go_sem,geff,con26_f,con26_c,arrV_def,slK_sl,h1']))
   all_goals try exact om
   refine end_ret rfl ?_
   simp only [fin,go_sem]
   exact LeA.refl _
noncomputable def con20:PCon Tryz.prog where
  f:=20
  c:=fun
   |[xa,xb]=>match arrOf xa,arrOf xb with|some a,some b=>some (okA a,.lit (.bool (eqA a b)))|_,_=>none
   |_=>none
  ok:=by
   intro args p r hc hp
   split at hc
   ·split at hc
    ·rename_i ha hb
     cases hc
     exact PC.weak (eqa_pc hp) ⟨arrOf_le ha,arrOf_le hb,trivial⟩
    ·cases hc
   ·cases hc
  fk:=fk20
theorem con20_f:con20.f=20:=rfl
theorem con20_c {xa:AV} {xb:AV}:con20.c [xa,xb]=match arrOf xa,arrOf xb with|some a,some b=>some (okA a,.lit (.bool (eqA a b)))|_,_=>none:=rfl
theorem okA_nil:okA nilA:=⟨by simp [nilA],by simp [nilA]⟩
end Go.Proofs.YtcpjahmajkhchaaGreat

namespace Go.Proofs.YtcpjahmajkhchaaGreat
open Go Go.Fw
set_option maxRecDepth 20000
def digR:List Int→Int→List Int
  |[],_=>[]
  |d::t,o=>o.tmod d::digR t (o.tdiv d)
def idxS (d:List Int) (o:Int):List Int×Int:=if (sizeS d).2≠0 then ([],(sizeS d).2) else if o<0∨o≥(sizeS d).1 then ([],2) else ((digR d.reverse o).reverse,0)
def ixV (p:List Int×Int):AV:= .tup [.sl false 1 (ints .i64 p.1),.lit (.int .i64 p.2)]
theorem ixV_def {p:List Int×Int}:ixV p= .tup [.sl false 1 (ints .i64 p.1),.lit (.int .i64 p.2)]:=rfl
theorem ixE_le {e:Int}:LeA (.tup [.lit (.slice none 0 0),.lit (.int .i64 e)]) (ixV ([],e)):=LeA.tup ⟨LeA.nil _ _,LeA.refl _,trivial⟩
theorem digR_len:∀ (l:List Int) (o:Int),(digR l o).length=l.length
  |[],_=>rfl
  |d::t,o=>by simp [digR,digR_len t]
theorem ints_set (l:List Int) (i:Nat) (v:Int):(ints .i64 l).set i (.lit (.int .i64 v))=ints .i64 (l.set i v):=by simp [ints,List.map_set]
theorem set_rep (m:Nat) (T:List Int) (v:Int):(List.replicate (m+1) 0++T).set m v=List.replicate m 0++v::T:=by
  rw [List.replicate_succ',List.append_assoc,List.set_append_right _ _ (by simp)]
  simp
theorem tdm {o d:Int} (ho:0≤o) (hd:1≤d):0≤o.tdiv d∧o.tdiv d≤o∧0≤o.tmod d∧o.tmod d<d:=by
  rw [Int.tdiv_eq_ediv_of_nonneg ho,Int.tmod_eq_emod_of_nonneg ho]
  exact ⟨Int.ediv_nonneg ho (by omega),Int.ediv_le_self _ ho,Int.emod_nonneg _ (by omega),Int.emod_lt_of_pos _ (by omega)⟩
theorem dims_pos {d:List Int} {n o:Int} (hS:sizeS d=(n,0)) (ho:0≤o) (hn:o<n):∀ x∈d,1≤x:=by
  obtain ⟨_,h2,h3,_⟩:=sizeS_ok hS
  exact not_any_zero h2 fun h=>by rw [h3,prI_zero h] at hn;omega
structure Li (d:List Int) (G:List Int) where
  i:Nat
  o:Int
  T:List Int
  hi:i≤d.length
  ho:0≤o∧o≤4096
  hT:T.length=i
  hF:(digR (d.reverse.drop i) o).reverse++T=G
noncomputable def E72:Env:=envOf (P:=Tryz.prog) zer (fun _=>false) (fun _=>false) [con69] []
theorem E72_ok:EnvOk Tryz.prog E72:=envOk zer_ok
set_option maxRecDepth 20000 in
set_option maxHeartbeats 4000000 in
theorem idx_pc {d:List Int} {o:Int} (hl:d.length≤1000000):PC Tryz.prog 110 [.sl false 1 (ints .i64 d),.lit (.int .i64 o)] (ixV (idxS d o)):=by
  unfold idxS
  generalize hS:sizeS d=s
  obtain ⟨n,er⟩:=s
  simp only
  by_cases e0:er=0
  ·subst e0
   rw [if_neg (by simp)]
   by_cases o1:o<0
   ·have o1':decide (o<0)=true:=decide_eq_true o1
    rw [if_pos (.inl o1)]
    refine pcO E72_ok (fun _=>[0,1,4,5,6,7,8,9,10,17,25,30,31,32]) Tryz.func110 (h:=fun KF=>?_)
    unfold E72
    repeat' (first
     |(with_reducible first|refine nx ?_|refine t_seq fun K=>?_|refine t_br (fun hc=>?_) fun hc=>?_|refine t_bx ?_|apply And.intro|intro vr)
     |((with_reducible first|refine ny ?_|refine t_dwh (h:=fun K KL=>?_));intros;simp only [go_sem,geff,con69_f,con69_c,slK_sl,hS,szV_def,o1']))
    all_goals try exact om
    refine end_ret rfl ?_
    simp only [fin,go_sem]
    exact ixE_le
   ·have o1':decide (o<0)=false:=decide_eq_false o1
    by_cases o2:o≥n
    ·have o2':decide (o≥n)=true:=decide_eq_true o2
     rw [if_pos (.inr o2)]
     refine pcO E72_ok (fun _=>[0,1,4,5,6,7,8,9,10,17,25,30,31,32]) Tryz.func110 (h:=fun KF=>?_)
     unfold E72
     repeat' (first
      |(with_reducible first|refine nx ?_|refine t_seq fun K=>?_|refine t_br (fun hc=>?_) fun hc=>?_|refine t_bx ?_|apply And.intro|intro vr)
      |((with_reducible first|refine ny ?_|refine t_dwh (h:=fun K KL=>?_));intros;simp only [go_sem,geff,con69_f,con69_c,slK_sl,hS,szV_def,o1',o2']))
     all_goals try exact om
     refine end_ret rfl ?_
     simp only [fin,go_sem]
     exact ixE_le
    ·have o2':decide (o≥n)=false:=decide_eq_false o2
     rw [if_neg (by omega)]
     have hn:=(sizeS_ok hS).2.2.2
     have hp:=dims_pos hS (by omega) (show o<n by omega)
     generalize hG:(digR d.reverse o).reverse=G
     refine pcO E72_ok (fun _=>[0,1,4,5,6,7,8,9,10,17,25,30,31,32]) Tryz.func110 (h:=fun KF=>?_)
     unfold E72
     repeat' (first
      |(with_reducible first|refine nx ?_|refine t_seq fun K=>?_|refine t_br (fun hc=>?_) fun hc=>?_|refine t_bx ?_|apply And.intro|intro vr)
      |((with_reducible first|refine ny ?_|refine t_dwh (h:=fun K KL=>?_));intros;simp only [go_sem,geff,con69_f,con69_c,slK_sl,hS,szV_def,o1',o2',rep_ints,Int.toNat_natCast]))
     all_goals try exact om
     refine t_loop (ι:=Li d G) (fun i=>⟨upd (upd (upd (upd (upd topF 8 (.arr 0 0)) 1 (.lit (.int .i64 i.o))) 0 (.sl false 1 (ints .i64 d))) 31 (.lit (.int .i64 i.i))) 30 (.lit (.int .i64 d.length)),[.arr 3 1 (ints .i64 (List.replicate (d.length - i.i) 0++i.T)) 0 false]⟩) (fun i=>d.length - i.i) ⟨0,o,[],by omega,by omega,rfl,by simpa using hG⟩ ?_ ?_
     ·skip
      (refine Le.frameS ?gs1 ?_;rotate_left;repeat' (first|exact leF_top _|(with_reducible refine leF_sl ?_ ?_)|(refine leF_upd (LeR.of_eq ?_) ?_)))<;>(try (simp only [go_sem];try rfl))
      all_goals (first|omega|simp)
     ·rintro ⟨i,v,T,hi,hv,hT,hF⟩ K0
      rcases Nat.lt_or_ge i d.length with hc|hc
      ·have g1:decide ((i:Int)<(d.length:Int))=true:=decide_eq_true (by omega)
       have hi1:((d.length:Int) - 1 - (i:Int)).toNat=d.length - 1 - i:=by omega
       have g2:=ints_getD .i64 d (d.length - 1 - i) (by omega)
       have hq:=hp _ (getD_mem 0 (show d.length - 1 - i<d.length by omega))
       have hrv:d.reverse.drop i=d.getD (d.length - 1 - i) 0::d.reverse.drop (i+1):=by
         rw [List.drop_eq_getElem_cons (by simpa using hc),List.getElem_reverse,List.getD_eq_getElem?_getD,List.getElem?_eq_getElem (by omega)]
         rfl
       rw [hrv,digR,List.reverse_cons,List.append_assoc] at hF
       generalize d.getD (d.length - 1 - i) 0=q at g2 hq hF
       have z1:(q==0)=false:=by rw [beq_eq_false_iff_ne];omega
       have ht:=tdm hv.1 hq
       have hst:(List.replicate (d.length - i) 0++T).set (d.length - 1 - i) (v.tmod q)=List.replicate (d.length - (i+1)) 0++v.tmod q::T:=by
         have:=set_rep (d.length - 1 - i) T (v.tmod q)
         rwa [show d.length - 1 - i+1=d.length - i by omega,show List.replicate (d.length - 1 - i) (0:Int)=List.replicate (d.length - (i+1)) 0 by congr 1;omega] at this
       have hln:(List.replicate (d.length - i) (0:Int)++T).length=d.length:=by simp [hT];omega
       repeat' (first
        |(with_reducible first|refine nx ?_|refine t_seq fun K=>?_|refine t_br (fun hc=>?_) fun hc=>?_|refine t_bx ?_|apply And.intro|intro vr)
        |((with_reducible first|refine ny ?_|refine t_dwh (h:=fun K KL=>?_));intros;simp only [go_sem,geff,con69_f,g1,hi1,g2,z1,ints_set,hst,hln,ints_length,Int.toNat_natCast]))
       all_goals try exact om
       refine ⟨⟨i+1,v.tdiv q,v.tmod q::T,by omega,by omega,by simp [hT],hF⟩,by simp only;omega,?_⟩
       (refine Le.frame ?_;repeat' (first|exact leF_top _|(with_reducible refine leF_sl ?_ ?_)|(refine leF_upd (LeR.of_eq ?_) ?_)))<;>(try (simp only [go_sem];try rfl))
      ·have g1:decide ((i:Int)<(d.length:Int))=false:=decide_eq_false (by omega)
       have:i=d.length:=by omega
       subst this
       rw [List.drop_eq_nil_of_le (by simp),digR] at hF
       simp only [List.reverse_nil,List.nil_append] at hF
       subst hF
       repeat' (first
        |(with_reducible first|refine nx ?_|refine t_seq fun K=>?_|refine t_br (fun hc=>?_) fun hc=>?_|refine t_bx ?_|apply And.intro|intro vr)
        |((with_reducible first|refine ny ?_|refine t_dwh (h:=fun K KL=>?_));intros;simp only [go_sem,geff,con69_f,g1,Nat.sub_self,List.replicate_zero]))
       refine end_ret rfl ?_
       simp only [fin,go_sem]
       exact LeA.refl _
  ·have e1:(er !=0)=true:=bne_iff_ne.2 e0
   rw [if_pos e0]
   refine pcO E72_ok (fun _=>[0,1,4,5,6,7,8,9,10,17,25,30,31,32]) Tryz.func110 (h:=fun KF=>?_)
   unfold E72
   repeat' (first
    |(with_reducible first|refine nx ?_|refine t_seq fun K=>?_|refine t_br (fun hc=>?_) fun hc=>?_|refine t_bx ?_|apply And.intro|intro vr)
    |((with_reducible first|refine ny ?_|refine t_dwh (h:=fun K KL=>?_));intros;simp only [go_sem,geff,con69_f,con69_c,slK_sl,hS,szV_def,e1]))
   all_goals try exact om
   refine end_ret rfl ?_
   simp only [fin,go_sem]
   exact ixE_le
noncomputable def con110:PCon Tryz.prog where
  f:=110
  c:=fun
   |[xd,.lit (.int .i64 o)]=>match slK .i64 xd with|some d=>some (d.length≤1000000,ixV (idxS d o))|_=>none
   |_=>none
  ok:=by
   intro args p r hc hp
   split at hc
   ·split at hc
    ·rename_i hd
     cases hc
     exact PC.weak ((fun hp:_=>idx_pc hp) hp) ⟨slK_le hd,LeA.refl _,trivial⟩
    ·cases hc
   ·cases hc
  fk:=fk110
theorem con110_f:con110.f=110:=rfl
theorem con110_c {xd:AV} {o:Int}:con110.c [xd,.lit (.int .i64 o)]=match slK .i64 xd with|some d=>some (d.length≤1000000,ixV (idxS d o))|_=>none:=rfl
noncomputable def E73:Env:=envOf (P:=Tryz.prog) zer (fun _=>false) (fun _=>false) [con50] []
theorem E73_ok:EnvOk Tryz.prog E73:=envOk zer_ok
set_option maxRecDepth 20000 in
set_option maxHeartbeats 4000000 in
theorem ridx_pc {d:List Int} {o:Int} (hl:d.length≤1000000):PC Tryz.prog 60 [.sl false 1 (ints .i64 d),.lit (.int .i64 o)] (ixV (idxS d o)):=by
  unfold idxS
  generalize hS:sizeS d=s
  obtain ⟨n,er⟩:=s
  simp only
  by_cases e0:er=0
  ·subst e0
   rw [if_neg (by simp)]
   by_cases o1:o<0
   ·have o1':decide (o<0)=true:=decide_eq_true o1
    rw [if_pos (.inl o1)]
    refine pcO E73_ok (fun _=>[0,1,4,5,6,7,8,9,16,24,32]) Tryz.func60 (h:=fun KF=>?_)
    unfold E73
    repeat' (first
     |(with_reducible first|refine nx ?_|refine t_seq fun K=>?_|refine t_br (fun hc=>?_) fun hc=>?_|refine t_bx ?_|apply And.intro|intro vr)
     |((with_reducible first|refine ny ?_|refine t_dwh (h:=fun K KL=>?_));intros;simp only [go_sem,geff,con50_f,con50_c,slK_sl,hS,szV_def,o1']))
    all_goals try exact om
    refine end_ret rfl ?_
    simp only [fin,go_sem]
    exact ixE_le
   ·have o1':decide (o<0)=false:=decide_eq_false o1
    by_cases o2:o≥n
    ·have o2':decide (o≥n)=true:=decide_eq_true o2
     rw [if_pos (.inr o2)]
     refine pcO E73_ok (fun _=>[0,1,4,5,6,7,8,9,16,24,32]) Tryz.func60 (h:=fun KF=>?_)
     unfold E73
     repeat' (first
      |(with_reducible first|refine nx ?_|refine t_seq fun K=>?_|refine t_br (fun hc=>?_) fun hc=>?_|refine t_bx ?_|apply And.intro|intro vr)
      |((with_reducible first|refine ny ?_|refine t_dwh (h:=fun K KL=>?_));intros;simp only [go_sem,geff,con50_f,con50_c,slK_sl,hS,szV_def,o1',o2']))
     all_goals try exact om
     refine end_ret rfl ?_
     simp only [fin,go_sem]
     exact ixE_le
    ·have o2':decide (o≥n)=false:=decide_eq_false o2
     rw [if_neg (by omega)]
     have hn:=(sizeS_ok hS).2.2.2
     have hp:=dims_pos hS (by omega) (show o<n by omega)
     generalize hG:(digR d.reverse o).reverse=G
     refine pcO E73_ok (fun _=>[0,1,4,5,6,7,8,9,16,24,32]) Tryz.func60 (h:=fun KF=>?_)
     unfold E73
     repeat' (first
      |(with_reducible first|refine nx ?_|refine t_seq fun K=>?_|refine t_br (fun hc=>?_) fun hc=>?_|refine t_bx ?_|apply And.intro|intro vr)
      |((with_reducible first|refine ny ?_|refine t_dwh (h:=fun K KL=>?_));intros;simp only [go_sem,geff,con50_f,con50_c,slK_sl,hS,szV_def,o1',o2',rep_ints,Int.toNat_natCast]))
     all_goals try exact om
     refine t_loop (ι:=Li d G) (fun i=>⟨upd (upd (upd (upd topF 8 (.arr 0 0)) 1 (.lit (.int .i64 i.o))) 0 (.sl false 1 (ints .i64 d))) 9 (.lit (.int .i64 ((d.length:Int) - 1 - i.i))),[.arr 3 1 (ints .i64 (List.replicate (d.length - i.i) 0++i.T)) 0 false]⟩) (fun i=>d.length - i.i) ⟨0,o,[],by omega,by omega,rfl,by simpa using hG⟩ ?_ ?_
     ·skip
      (refine Le.frameS ?gs2 ?_;rotate_left;repeat' (first|exact leF_top _|(with_reducible refine leF_sl ?_ ?_)|(refine leF_upd (LeR.of_eq ?_) ?_)))<;>(try (simp only [go_sem];try rfl))
      all_goals (first|omega|simp)
     ·rintro ⟨i,v,T,hi,hv,hT,hF⟩ K0
      rcases Nat.lt_or_ge i d.length with hc|hc
      ·have g1:decide ((d.length:Int) - 1 - (i:Int)≥0)=true:=decide_eq_true (by omega)
       have hi1:((d.length:Int) - 1 - (i:Int)).toNat=d.length - 1 - i:=by omega
       have g2:=ints_getD .i64 d (d.length - 1 - i) (by omega)
       have hq:=hp _ (getD_mem 0 (show d.length - 1 - i<d.length by omega))
       have hrv:d.reverse.drop i=d.getD (d.length - 1 - i) 0::d.reverse.drop (i+1):=by
         rw [List.drop_eq_getElem_cons (by simpa using hc),List.getElem_reverse,List.getD_eq_getElem?_getD,List.getElem?_eq_getElem (by omega)]
         rfl
       rw [hrv,digR,List.reverse_cons,List.append_assoc] at hF
       generalize d.getD (d.length - 1 - i) 0=q at g2 hq hF
       have z1:(q==0)=false:=by rw [beq_eq_false_iff_ne];omega
       have ht:=tdm hv.1 hq
       have hst:(List.replicate (d.length - i) 0++T).set (d.length - 1 - i) (v.tmod q)=List.replicate (d.length - (i+1)) 0++v.tmod q::T:=by
         have:=set_rep (d.length - 1 - i) T (v.tmod q)
         rwa [show d.length - 1 - i+1=d.length - i by omega,show List.replicate (d.length - 1 - i) (0:Int)=List.replicate (d.length - (i+1)) 0 by congr 1;omega] at this
       have hln:(List.replicate (d.length - i) (0:Int)++T).length=d.length:=by simp [hT];omega
       repeat' (first
        |(with_reducible first|refine nx ?_|refine t_seq fun K=>?_|refine t_br (fun hc=>?_) fun hc=>?_|refine t_bx ?_|apply And.intro|intro vr)
        |((with_reducible first|refine ny ?_|refine t_dwh (h:=fun K KL=>?_));intros;simp only [go_sem,geff,con50_f,g1,hi1,g2,z1,ints_set,hst,hln,ints_length,Int.toNat_natCast]))
       all_goals try exact om
       refine ⟨⟨i+1,v.tdiv q,v.tmod q::T,by omega,by omega,by simp [hT],hF⟩,by simp only;omega,?_⟩
       (refine Le.frame ?_;repeat' (first|exact leF_top _|(with_reducible refine leF_sl ?_ ?_)|(refine leF_upd (LeR.of_eq ?_) ?_)))<;>(try (simp only [go_sem];try rfl))
       omega
      ·have g1:decide ((d.length:Int) - 1 - (i:Int)≥0)=false:=decide_eq_false (by omega)
       have:i=d.length:=by omega
       subst this
       rw [List.drop_eq_nil_of_le (by simp),digR] at hF
       simp only [List.reverse_nil,List.nil_append] at hF
       subst hF
       repeat' (first
        |(with_reducible first|refine nx ?_|refine t_seq fun K=>?_|refine t_br (fun hc=>?_) fun hc=>?_|refine t_bx ?_|apply And.intro|intro vr)
        |((with_reducible first|refine ny ?_|refine t_dwh (h:=fun K KL=>?_));intros;simp only [go_sem,geff,con50_f,g1,Nat.sub_self,List.replicate_zero]))
       refine end_ret rfl ?_
       simp only [fin,go_sem]
       exact LeA.refl _
  ·have e1:(er !=0)=true:=bne_iff_ne.2 e0
   rw [if_pos e0]
   refine pcO E73_ok (fun _=>[0,1,4,5,6,7,8,9,16,24,32]) Tryz.func60 (h:=fun KF=>?_)
   unfold E73
   repeat' (first
    |(with_reducible first|refine nx ?_|refine t_seq fun K=>?_|refine t_br (fun hc=>?_) fun hc=>?_|refine t_bx ?_|apply And.intro|intro vr)
    |((with_reducible first|refine ny ?_|refine t_dwh (h:=fun K KL=>?_));intros;simp only [go_sem,geff,con50_f,con50_c,slK_sl,hS,szV_def,e1]))
   all_goals try exact om
   refine end_ret rfl ?_
   simp only [fin,go_sem]
   exact ixE_le
noncomputable def con60:PCon Tryz.prog where
  f:=60
  c:=fun
   |[xd,.lit (.int .i64 o)]=>match slK .i64 xd with|some d=>some (d.length≤1000000,ixV (idxS d o))|_=>none
   |_=>none
  ok:=by
   intro args p r hc hp
   split at hc
   ·split at hc
    ·rename_i hd
     cases hc
     exact PC.weak ((fun hp:_=>ridx_pc hp) hp) ⟨slK_le hd,LeA.refl _,trivial⟩
    ·cases hc
   ·cases hc
  fk:=fk60
theorem con60_f:con60.f=60:=rfl
theorem con60_c {xd:AV} {o:Int}:con60.c [xd,.lit (.int .i64 o)]=match slK .i64 xd with|some d=>some (d.length≤1000000,ixV (idxS d o))|_=>none:=rfl
end Go.Proofs.YtcpjahmajkhchaaGreat

namespace Go.Proofs.YtcpjahmajkhchaaGreat
def kp7 (i:Nat):List Nat:=if i<15 then if i<7 then if i<3 then if i<1 then [1,2] else if i<2 then [1,2,28] else [4] else if i<5 then if i<4 then [1,2,32] else [4] else if i<6 then [1,2,5,6,7] else [1,2,5,6,7,8,9] else if i<11 then if i<9 then if i<8 then [1,2,5,6,7,8,9,10,11] else [1,2,5,6,7,8,10,69] else if i<10 then [4] else [1,2,5,6,8,10,12] else if i<13 then if i<12 then [1,2,5,6,8,10,12,13] else [1,2,5,6,8,10,12,13] else if i<14 then [1,2,5,6,8,12,13,78,79,80] else [1,2,5,6,8,12,13,78,79,80,81] else if i<23 then if i<19 then if i<17 then if i<16 then [1,2,5,6,8,12,13,15,78,79,80] else [1,2,5,6,8,12,13,15,16,78,79,80] else if i<18 then [1,2,5,6,8,12,13,15,16,78,79,80,85,86] else [1,2,5,6,8,12,13,15,16,78,79,80,85,86,87] else if i<21 then if i<20 then [1,2,5,6,8,12,13,15,16,17,78,79,80,85,86] else [1,2,5,6,8,12,13,15,16,17,18,78,79,80,85,86] else if i<22 then [1,2,5,6,8,12,13,15,16,20,78,79,80,85,86] else [1,2,5,6,8,12,13,15,16,78,79,80,85,86] else if i<27 then if i<25 then if i<24 then [1,2,5,6,8,12,13,15,16,78,79,80,85,86] else [1,2,5,6,8,12,13,15,22,23,24,78,79,80] else if i<26 then [1,2,5,6,8,12,13,22,23,24,25,26,78,79,80] else [1,2,5,6,8,12,13,23,78,79,80,151] else if i<29 then if i<28 then [4] else [1,2,5,6,8,12,13,78,79,80] else if i<30 then [1,2,5,6,8,12,13,78,79,80] else [4]
def kp9 (i:Nat):List Nat:=if i<3 then if i<1 then [] else if i<2 then [1,2] else [1,2,3,4] else if i<5 then if i<4 then [2,3,4,5,6] else [2,3,4,5,6,7,8] else if i<6 then [2,3,4,5,6,7,8,9,10,11] else [0]
def kp10 (i:Nat):List Nat:=if i<3 then if i<1 then [0] else if i<2 then [0,3] else [0,3,7] else if i<5 then if i<4 then [0,3] else [0,3,25] else if i<6 then [2] else [2]
def kp11 (i:Nat):List Nat:=if i<10 then if i<5 then if i<2 then if i<1 then [0,1] else [0,1,17] else if i<3 then [4,5] else if i<4 then [0,1,18,19,20] else [0,1,18,19,20,21] else if i<7 then if i<6 then [0,1,7,18,19,20] else [0,1,18,19,20,26] else if i<8 then [4,5] else if i<9 then [0,1,18,19,20] else [0,8] else if i<15 then if i<12 then if i<11 then [8,34,35,36] else [8,34,35,36,37] else if i<13 then [8,10,34,35,36] else if i<14 then [8,10,11,12,34,35,36] else [8,10,11,12,34,35,36,49] else if i<18 then if i<16 then [8,11,12,34,35,36] else if i<17 then [8,11,34,35,36,61] else [4,5] else if i<19 then [8,34,35,36] else if i<20 then [8,34,35,36] else [4,5]
def kp13 (i:Nat):List Nat:=if i<5 then if i<2 then if i<1 then [0,1] else [0,1,24] else if i<3 then [4] else if i<4 then [1,25,26,27] else [1,25,26,27,28] else if i<7 then if i<6 then [1,5,6,25,26,27] else [1,25,26,27,37] else if i<8 then [4] else if i<9 then [1,25,26,27] else [4]
def kp16 (i:Nat):List Nat:=if i<6 then if i<3 then if i<1 then [0,4,5,6] else if i<2 then [0,4,5,6,24] else [6,7] else if i<4 then [0,4,5,6,8] else if i<5 then [0,4,5,6,8,36] else [6,7] else if i<9 then if i<7 then [0,4,5,6,9] else if i<8 then [0,4,6,9,44,45,46] else [0,4,6,9,44,45,46,47] else if i<11 then if i<10 then [0,4,6,9,11,44,45,46] else [0,4,6,9,44,45,46] else if i<12 then [0,4,6,9,44,45,46] else [6,7]
def kp18 (i:Nat):List Nat:=if i<6 then if i<3 then if i<1 then [0,3,4] else if i<2 then [0,3,4,17] else [4,5] else if i<4 then [0,3,4,6] else if i<5 then [0,3,4,6,25] else [4,5] else if i<9 then if i<7 then [0,4,7,8] else if i<8 then [0,4,7,8,9] else [0,4,7,8,9,42] else if i<10 then [0,4,7,8,9] else if i<11 then [0,4,7,8,9] else [4,5]
def kp23 (i:Nat):List Nat:=if i<1 then [0,2] else [2]
def kp24 (i:Nat):List Nat:=if i<1 then [0,2] else [2]
def kp25 (i:Nat):List Nat:=if i<1 then [2,3] else [4]
def kp27 (i:Nat):List Nat:=if i<9 then if i<4 then if i<2 then if i<1 then [1,2] else [1,2,53] else if i<3 then [4] else [1,2,71] else if i<6 then if i<5 then [4] else [1,2,74,75,76] else if i<7 then [1,2,74,75,76,77] else if i<8 then [1,2,6,74,75,76] else [1,2,74,75,76,82] else if i<14 then if i<11 then if i<10 then [4] else [1,2,74,75,76] else if i<12 then [2,84,85,86] else if i<13 then [2,84,85,86,87] else [2,8,84,85,86] else if i<16 then if i<15 then [2,84,85,86,92] else [4] else if i<17 then [2,84,85,86] else if i<18 then [9,10] else [4]
def kp28 (i:Nat):List Nat:=if i<20 then if i<10 then if i<5 then if i<2 then if i<1 then [1,2,3,4,8,9] else [1,2,3,4,8,9,11,12] else if i<3 then [1,2,3,4,8,9,11,41] else if i<4 then [8,9,10] else [1,2,3,4,8,9,11,12,13] else if i<7 then if i<6 then [1,2,3,4,8,9,11,13,60] else [8,9,10] else if i<8 then [1,2,3,4,8,9,11,13,14] else if i<9 then [1,2,3,4,8,9,11,13,14,69] else [8,9,10] else if i<15 then if i<12 then if i<11 then [1,2,3,4,8,9,11,13,15] else [1,2,3,4,8,9,11,13,15,17] else if i<13 then [1,2,3,4,8,9,11,13,17,77,78,79] else if i<14 then [1,2,3,4,8,9,11,13,17,77,78,79,80] else [1,2,3,4,8,9,11,13,17,19,77,78,79] else if i<17 then if i<16 then [1,2,3,4,8,9,11,13,17,19,20,77,78,79] else [1,2,3,4,8,9,11,13,17,19,20,77,78,79,83,84,85] else if i<18 then [1,2,3,4,8,9,11,13,17,19,20,77,78,79,83,84,85,86] else if i<19 then [1,2,3,4,8,9,11,13,17,19,20,21,22,77,78,79,83,84,85] else [1,2,3,4,8,9,11,13,17,19,20,21,22,23,77,78,79,83,84,85] else if i<30 then if i<25 then if i<22 then if i<21 then [1,2,3,4,8,9,11,13,17,19,20,25,77,78,79,83,84,85] else [1,2,3,4,8,9,11,13,17,19,20,77,78,79,83,84,85] else if i<23 then [1,2,3,4,8,9,11,13,17,19,20,77,78,79,83,84,85] else if i<24 then [1,2,3,4,8,9,11,13,17,27,28,29,77,78,79] else [1,2,3,4,8,9,11,13,17,27,28,29,77,78,79,126] else if i<27 then if i<26 then [8,9,10] else [1,2,3,4,8,9,11,13,17,77,78,79] else if i<28 then [1,2,3,4,8,9,11,13,17,77,78,79] else if i<29 then [1,2,3,4,8,9,11,13,17,140] else [8,9,10] else if i<35 then if i<32 then if i<31 then [1,2,4,8,9,11,30,31] else [1,2,4,8,9,11,30,31,157] else if i<33 then [8,9,10] else if i<34 then [1,8,9,31,32] else [1,8,9,31,32,171] else if i<37 then if i<36 then [8,9,10] else [8,9,10] else if i<38 then [8,9,10,181] else if i<39 then [8,9,10] else [8,9,10]
def kp29 (i:Nat):List Nat:=if i<9 then if i<4 then if i<2 then if i<1 then [0,1] else [0,1,9] else if i<3 then [0,1,9,10] else [0,1,9,10] else if i<6 then if i<5 then [4,5] else [0,1,9,15] else if i<7 then [18] else if i<8 then [4,5] else [4,5] else if i<14 then if i<11 then if i<10 then [0,1,20] else [23] else if i<12 then [4,5] else if i<13 then [4,5] else [0,1,6,8] else if i<16 then if i<15 then [0,1,6,31] else [1,35] else if i<17 then [4,5] else if i<18 then [4,5] else [4,5]
def kp30 (i:Nat):List Nat:=if i<5 then if i<2 then if i<1 then [0] else [0,4,5] else if i<3 then [0,4,5,16] else if i<4 then [2,3] else [0,4,6] else if i<8 then if i<6 then [0,4,6,7] else if i<7 then [0,4,6,7,20] else [0,4,6,7] else if i<9 then [0,4,6,7,8] else if i<10 then [0,4,6,7] else [2,3]
def kp33 (i:Nat):List Nat:=if i<12 then if i<6 then if i<3 then if i<1 then [0,1] else if i<2 then [0,1,17] else [4,5] else if i<4 then [0,1,18,19,20] else if i<5 then [0,1,18,19,20,21] else [0,1,7,18,19,20] else if i<9 then if i<7 then [0,1,18,19,20,29] else if i<8 then [4,5] else [0,1,18,19,20] else if i<10 then [0,8] else if i<11 then [8,37,38,39] else [8,37,38,39,40] else if i<18 then if i<15 then if i<13 then [8,10,37,38,39] else if i<14 then [8,10,11,12,37,38,39] else [8,10,11,12,37,38,39,44] else if i<16 then [8,11,12,37,38,39] else if i<17 then [8,10,11,12,37,38,39,44,55] else [8,10,12,37,38,39,57] else if i<21 then if i<19 then [8,11,12,37,38,39] else if i<20 then [8,11,37,38,39,60] else [4,5] else if i<22 then [8,37,38,39] else if i<23 then [8,37,38,39] else [4,5]
def kp34 (i:Nat):List Nat:=if i<5 then if i<2 then if i<1 then [0] else [0,4,6] else if i<3 then [0,4,16] else if i<4 then [2,3] else [4,7] else if i<8 then if i<6 then [7,20,21] else if i<7 then [7,20,21,22] else [7,8,20,21] else if i<9 then [7,20,21] else if i<10 then [7,20,21] else [2,3]
def kp36 (i:Nat):List Nat:=if i<2 then if i<1 then [0,1] else [0,1,6,7] else if i<3 then [0,1,6,14] else if i<4 then [4,5] else [4,5]
def kp42 (i:Nat):List Nat:=if i<4 then if i<2 then if i<1 then [0,1] else [0,1,5] else if i<3 then [0,5,8,9,10] else [0,5,8,9,10,11] else if i<6 then if i<5 then [0,5,7,8,9,10] else [0,5,8,9,10] else if i<7 then [0,5,8,9,10] else [4]
def kp43 (i:Nat):List Nat:=if i<6 then if i<3 then if i<1 then [1,2] else if i<2 then [1,2,11] else [1,2,11,12] else if i<4 then [4] else if i<5 then [1,2,23] else [4] else if i<9 then if i<7 then [1,2,5,7] else if i<8 then [1,2,5,7,42,43,44] else [1,2,5,7,42,43,44,45] else if i<11 then if i<10 then [1,2,5,7,9,42,43,44] else [1,2,5,7,42,43,44] else if i<12 then [1,2,5,7,42,43,44] else [4]
def kp46 (i:Nat):List Nat:=if i<3 then if i<1 then [0,1,3,6] else if i<2 then [1,3,6,9,10] else [1,9,10,20] else if i<5 then if i<4 then [8] else [29] else if i<6 then [8] else [8]
def kp47 (i:Nat):List Nat:=if i<5 then if i<2 then if i<1 then [0,1,2,6] else [0,1,2,6,15] else if i<3 then [6,7] else if i<4 then [0,1,2,6,8,9] else [0,1,2,6,8,9,22] else if i<8 then if i<6 then [6,7] else if i<7 then [0,1,2,6,27] else [6,7] else if i<9 then [0,1,2,6,33] else if i<10 then [6,7] else [6,7]
def kp51 (i:Nat):List Nat:=if i<4 then if i<2 then if i<1 then [0,2] else [0,2,6,7,8] else if i<3 then [0,2,6,7,8,9] else [0,2,5,6,7,8] else if i<6 then if i<5 then [0,2,5,6,7,8,15] else [2,3] else if i<7 then [0,2,6,7,8] else [2,3]
def kp52 (i:Nat):List Nat:=if i<4 then if i<2 then if i<1 then [1,2] else [1,2,5] else if i<3 then [1,2,5,8] else [1,2,5] else if i<6 then if i<5 then [1,2,5,12] else [1,2,5] else if i<7 then [41] else if i<8 then [4] else [4]
def kp57 (i:Nat):List Nat:=if i<11 then if i<5 then if i<2 then if i<1 then [0,1,5,6] else [0,1,5,6,21] else if i<3 then [6,7] else if i<4 then [0,1,5,6,8,9] else [0,1,5,6,8,9,28] else if i<8 then if i<6 then [6,7] else if i<7 then [0,1,5,6,33] else [6,7] else if i<9 then [1,5,6,10] else if i<10 then [5,6,10,47,48,49] else [5,6,10,47,48,49,50] else if i<16 then if i<13 then if i<12 then [5,6,10,12,47,48,49] else [5,6,10,12,47,48,49,53] else if i<14 then [6,7] else if i<15 then [5,6,10,12,47,48,49,60] else [6,7] else if i<19 then if i<17 then [5,6,10,47,48,49] else if i<18 then [5,6,10,47,48,49] else [6,10,14] else if i<20 then [6,10,14,82] else if i<21 then [6,7] else [6,7]
def kp58 (i:Nat):List Nat:=if i<5 then if i<2 then if i<1 then [0,1] else [0,1,6] else if i<3 then [0,6,11,12,13] else if i<4 then [0,6,11,12,13,14] else [0,6,7,8,11,12,13] else if i<8 then if i<6 then [0,6,9,10,11,12,13] else if i<7 then [0,6,9,10,11,12,13,36] else [4,5] else if i<9 then [0,6,11,12,13] else if i<10 then [0,6,11,12,13] else [4,5]
def kp64 (i:Nat):List Nat:=if i<4 then if i<2 then if i<1 then [0,1] else [0,1,5] else if i<3 then [0,5,8,9,10] else [0,5,8,9,10,11] else if i<6 then if i<5 then [0,5,7,8,9,10] else [0,5,8,9,10] else if i<7 then [0,5,8,9,10] else [4]
def kp71 (i:Nat):List Nat:=if i<2 then if i<1 then [0] else [0,4] else if i<3 then [2] else [2]
def kp73 (i:Nat):List Nat:=if i<2 then if i<1 then [] else [1] else if i<3 then [1,2] else [0]
def kp74 (i:Nat):List Nat:=if i<1 then [0] else [2]
def kp78 (i:Nat):List Nat:=if i<1 then [0,1] else [4]
def kp79 (i:Nat):List Nat:=if i<1 then [1] else [2]
def kp80 (i:Nat):List Nat:=if i<8 then if i<4 then if i<2 then if i<1 then [0] else [0,3] else if i<3 then [0,3,9,10,11] else [0,3,9,10,11,12] else if i<6 then if i<5 then [0,3,5,9,10,11] else [0,3,9,10,11] else if i<7 then [0,3,9,10,11,20] else [0,3,9,10,11] else if i<12 then if i<10 then if i<9 then [0,3,9,10,11] else [0,6] else if i<11 then [6,25,26,27] else [6,25,26,27,28] else if i<14 then if i<13 then [6,8,25,26,27] else [6,25,26,27] else if i<15 then [6,25,26,27] else [2]
def kp82 (i:Nat):List Nat:=if i<3 then if i<1 then [0,1,4] else if i<2 then [0,1,4,13] else [4,5] else if i<5 then if i<4 then [0,1,4,6,7] else [0,1,4,6,7,21] else if i<6 then [4,5] else [4,5]
def kp85 (i:Nat):List Nat:=if i<2 then if i<1 then [0] else [0,4] else if i<3 then [2] else [2]
def kp95 (i:Nat):List Nat:=if i<1 then [0] else if i<2 then [5] else [2]
def kp96 (i:Nat):List Nat:=if i<1 then [0,1] else if i<2 then [0,1,6] else [4,5]
def kp98 (i:Nat):List Nat:=if i<7 then if i<3 then if i<1 then [2,3,6] else if i<2 then [2,3,6,9] else [2,3,6,9,10] else if i<5 then if i<4 then [3,6,9,10,19,20,21] else [3,6,9,10,19,20,21,22] else if i<6 then [3,6,9,10,12,19,20,21] else [3,6,9,10,19,20,21] else if i<10 then if i<8 then [3,6,9,10,19,20,21] else if i<9 then [3,6,10,13,14] else [3,6,10,13,46] else if i<12 then if i<11 then [6,7,8] else [6,13,15] else if i<13 then [6,17,18] else [6,7,8]
def kp100 (i:Nat):List Nat:=if i<1 then [1,2,3,6] else [6,7,8]
def kp101 (i:Nat):List Nat:=if i<19 then if i<9 then if i<4 then if i<2 then if i<1 then [0,1,2,3,8,9] else [0,1,2,3,8,9,10,11] else if i<3 then [0,1,2,3,8,9,10,11,33] else [8,9,10] else if i<6 then if i<5 then [0,1,2,3,8,9,11,12] else [0,1,2,3,8,9,11,12,13] else if i<7 then [0,1,2,3,8,9,11,12,13,36,37,38] else if i<8 then [0,1,2,3,8,9,11,12,13,36,37,38,39] else [0,1,2,3,8,9,11,12,13,15,36,37,38] else if i<14 then if i<11 then if i<10 then [0,1,2,3,8,9,11,12,13,15,36,37,38,44] else [8,9,10] else if i<12 then [0,1,2,3,8,9,11,12,13,36,37,38] else if i<13 then [0,1,2,3,8,9,11,12,13,36,37,38] else [0,1,2,3,8,9,11,13,16,17] else if i<16 then if i<15 then [0,1,2,3,8,9,11,13,16,64] else [8,9,10] else if i<17 then [0,1,2,3,8,9,10,11,16,18] else if i<18 then [0,1,2,3,8,9,10,11,16,18,75] else [8,9,10] else if i<29 then if i<24 then if i<21 then if i<20 then [0,1,2,3,8,9,11,18,19] else [0,1,2,3,8,9,11,18,19,81] else if i<22 then [8,9,19] else if i<23 then [0,1,2,3,8,9,11,18,19,81,92] else [8,9,19,96,97] else if i<26 then if i<25 then [8,9,19,96,97,98] else [8,9,19,20,96,97] else if i<27 then [8,9,19,96,97] else if i<28 then [8,9,19,96,97] else [0,1,2,3,8,9,11,18,19,81,107] else if i<34 then if i<31 then if i<30 then [0,1,2,3,8,9,11,18,19,81,107] else [8,9,19,110,111,112] else if i<32 then [8,9,19,110,111,112,113] else if i<33 then [8,9,19,22,110,111,112] else [8,9,19,110,111,112] else if i<36 then if i<35 then [8,9,19,110,111,112] else [0,1,2,3,8,9,11,18,19,81,123] else if i<37 then [0,1,2,3,8,9,11,18,19,123] else if i<38 then [8,9,19] else [8,9,10]
def kp103 (i:Nat):List Nat:=if i<1 then [2,3,6] else if i<2 then [6,9,10] else [6,7,8]
def kp104 (i:Nat):List Nat:=if i<1 then [2,3,6] else if i<2 then [6,9,10] else [6,7,8]
def kp105 (i:Nat):List Nat:=if i<1 then [3,6] else if i<2 then [6,9,10] else [6,7,8]
def kp106 (i:Nat):List Nat:=if i<1 then [1,6] else if i<2 then [6,9,10] else [6,7,8]
def kp107 (i:Nat):List Nat:=if i<1 then [0,1] else [4]
def kp108 (i:Nat):List Nat:=if i<4 then if i<2 then if i<1 then [] else [1] else if i<3 then [1,4,5,6] else [1,4,5,6,7] else if i<6 then if i<5 then [1,3,4,5,6] else [1,4,5,6] else if i<7 then [1,4,5,6] else [0]
def kp111 (i:Nat):List Nat:=if i<4 then if i<2 then if i<1 then [0,1] else [0,1,7,8] else if i<3 then [0,1,7,8,9] else [0,1,5,7,8] else if i<6 then if i<5 then [0,1,5,7,8,16] else [4] else if i<7 then [0,1,7,8] else [4]
def kp117 (i:Nat):List Nat:=if i<2 then if i<1 then [1,2] else [2,10] else if i<3 then [5,6] else [5,6]
def kp120 (i:Nat):List Nat:=if i<7 then if i<3 then if i<1 then [0,1] else if i<2 then [0,1,7] else [0,1,21] else if i<5 then if i<4 then [4,5] else [0,1,8] else if i<6 then [1,8,29] else [8,33] else if i<10 then if i<8 then [4,5] else if i<9 then [8] else [8,38] else if i<12 then if i<11 then [4,5] else [8,41] else if i<13 then [4,5] else [4,5]
def kp122 (i:Nat):List Nat:=if i<6 then if i<3 then if i<1 then [0,1] else if i<2 then [0,1,6,7] else [0,1,6,7,8] else if i<4 then [0,1,6,7,8,28] else if i<5 then [4,5] else [1,6,7,8,35] else if i<9 then if i<7 then [4,5] else if i<8 then [1,6,7,43] else [4,5] else if i<10 then [1,7,9] else if i<11 then [9] else [4,5]
def kp123 (i:Nat):List Nat:=if i<5 then if i<2 then if i<1 then [2,4,5,7] else [2,4,5,7,9] else if i<3 then [2,4,5,7,9,10] else if i<4 then [2,9,10,12] else [2,9,12,22,23] else if i<8 then if i<6 then [2,9,12,22,23,24] else if i<7 then [2,9,12,13,22,23] else [2,9,12,14,22,23] else if i<9 then [2,9,12,22,23] else if i<10 then [2,9,12,22,23] else [8]
def kp125 (i:Nat):List Nat:=if i<1 then [0,1] else [3]
def kp126 (i:Nat):List Nat:=if i<4 then if i<2 then if i<1 then [0,1] else [0,1,7,8] else if i<3 then [0,1,7,8,9] else [0,1,5,7,8] else if i<6 then if i<5 then [0,1,5,7,8,16] else [4] else if i<7 then [0,1,7,8] else [4]
def kp129 (i:Nat):List Nat:=if i<1 then [0,1] else [4]
def kp130 (i:Nat):List Nat:=if i<1 then [0] else [2]
def kp132 (i:Nat):List Nat:=if i<1 then [0,1] else [3]
def kp133 (i:Nat):List Nat:=if i<1 then [0,1,2,3] else [5]
def kp153 (i:Nat):List Nat:=if i<4 then if i<2 then if i<1 then [0,1] else [0,1,7,8] else if i<3 then [0,1,7,8,9] else [0,1,5,7,8] else if i<6 then if i<5 then [0,1,5,7,8,16] else [4] else if i<7 then [0,1,7,8] else [4]
end Go.Proofs.YtcpjahmajkhchaaGreat

namespace Go.Proofs.YtcpjahmajkhchaaGreat
open Go Go.Fw
set_option maxRecDepth 20000
def ilA (l:List Int):AV:= .sl false 1 (ints .i64 l)
def ils (L:List (List Int)):List AV:=L.map ilA
theorem ils_length (L:List (List Int)):(ils L).length=L.length:=by simp [ils]
theorem ils_getD (L:List (List Int)) (i:Nat) (h:i<L.length):(ils L).getD i .top= .sl false 1 (ints .i64 (L.getD i [])):=by simp [ils,ilA,List.getD,h]
theorem ils_app (L:List (List Int)) (l:List Int):ils L++[.sl false 1 (ints .i64 l)]=ils (L++[l]):=by simp [ils,ilA]
def ilL:List AV→Option (List (List Int))
  |[]=>some []
  |x::xs=>match slK .i64 x,ilL xs with
   |some a,some l=>some (a::l)
   |_,_=>none
theorem ilL_cons {x:AV} {xs:List AV}:ilL (x::xs)=match slK .i64 x,ilL xs with
    |some a,some l=>some (a::l)
    |_,_=>none:=rfl
theorem ilL_ils:∀ l:List (List Int),ilL (ils l)=some l
  |[]=>rfl
  |a::l=>by
   have:=ilL_ils l
   unfold ils at this ⊢
   rw [List.map_cons,ilL_cons,ilA,slK_sl,this]
theorem slK_cells {x:AV} {l:List Int} (h:slK .i64 x=some l):x.cells=[x]:=by
  unfold slK slA at h
  split at h
  ·rfl
  ·rfl
  ·cases h
theorem ilL_inv:∀ {xs:List AV} {l:List (List Int)},ilL xs=some l→xs.length=l.length∧LeL (flat xs) (flat (ils l))
  |[],l,h=>by cases h;exact ⟨rfl,trivial⟩
  |x::xs,l,h=>by
   rw [ilL_cons] at h
   split at h
   ·rename_i a m h1 h2
    cases h
    obtain ⟨e1,e2⟩:=ilL_inv h2
    refine ⟨by simp [e1],?_⟩
    have:LeL (AV.cells x) (AV.cells (ilA a)):=by rw [slK_cells h1];exact ⟨slK_le h1,trivial⟩
    exact LeL.append this e2
   ·cases h
theorem ils_wid (l:List (List Int)):∀ y∈ils l,y.cells.length=1:=by
  intro y hy
  obtain ⟨a,_,rfl⟩:=List.mem_map.1 hy
  rfl
def ilsOf (x:AV):Option (List (List Int)):=(slA 1 x).bind ilL
theorem ilsOf_le {x:AV} {l:List (List Int)} (h:ilsOf x=some l):LeA x (.sl false 1 (ils l)):=by
  unfold ilsOf at h
  cases hx:slA 1 x with
  |none=>rw [hx] at h;cases h
  |some xs=>
   rw [hx] at h
   obtain ⟨h1,h2⟩:=ilL_inv (l:=l) h
   intro C v hv
   exact LeA.sl (b:=false) (by rw [ils_length];exact h1) (ils_wid l) h2 C v (slA_le hx C v hv)
theorem ilsOf_sl {b:Bool} {l:List (List Int)}:ilsOf (.sl b 1 (ils l))=some l:=by simp [ilsOf,slA,ilL_ils]
theorem list_ils:∀ {ys:List AV},(∀ y∈ys,∃ a,y=ilA a)→∃ l:List (List Int),ys=ils l
  |[],_=>⟨[],rfl⟩
  |y::ys,h=>by
   obtain ⟨n,rfl⟩:=h y (by simp)
   obtain ⟨l,rfl⟩:=list_ils (ys:=ys) fun z hz=>h z (by simp [hz])
   exact ⟨n::l,rfl⟩
def axOk (n:Int) (axes:List Int) (i:Nat):Bool:= !decide (axes.getD i 0<0)&&(!decide (axes.getD i 0≥n)&& !(decide ((i:Int)>0)&&decide (axes.getD (i - 1) 0≥axes.getD i 0)))
def axP (n:Int) (axes:List Int):Prop:=∀ i,i<axes.length→axOk n axes i=true
instance (n:Int) (axes:List Int):Decidable (axP n axes):=inferInstanceAs (Decidable (∀ i,i<axes.length→axOk n axes i=true))
def pickM (list axes:List Int):List Int:=axes.map fun a=>list.getD a.toNat 0
def pickS (list axes:List Int):Option (List Int):=if axP list.length axes then some (pickM list axes) else none
theorem axP_no {n:Int} {axes:List Int} {i:Nat} (h:i<axes.length) (hb:axOk n axes i=false): ¬ axP n axes:=fun hp=>by rw [hp i h] at hb;cases hb
theorem axOk_in {n:Int} {axes:List Int} {i:Nat} (h:axOk n axes i=true):0≤axes.getD i 0∧axes.getD i 0<n:=by
  unfold axOk at h
  simp only [Bool.and_eq_true,Bool.not_eq_true',decide_eq_false_iff_not] at h
  omega
theorem pickM_take {list axes:List Int} {i:Nat} (h:i<axes.length):pickM list (axes.take i)++[list.getD (axes.getD i 0).toNat 0]=pickM list (axes.take (i+1)):=by
  rw [List.take_add_one,List.getElem?_eq_getElem h]
  unfold pickM
  rw [List.map_append]
  simp only [Option.toList_some,List.map_cons,List.map_nil,List.getD_eq_getElem?_getD,List.getElem?_eq_getElem h,Option.getD_some]
theorem pickM_len (list axes:List Int):(pickM list axes).length=axes.length:=by simp [pickM]
def optV:Option (List Int)→AV
  |some l=> .tup [.sl false 1 (ints .i64 l),.lit (.bool true)]
  |none=> .tup [.lit (.slice none 0 0),.lit (.bool false)]
theorem wrap64_eq (n:Int):IntKind.i64.wrap n=(n+9223372036854775808) % 18446744073709551616 - 9223372036854775808:=by
  unfold IntKind.wrap
  have e1:IntKind.i64.bits=64:=rfl
  have e2:IntKind.i64.signed=true:=rfl
  simp only [e1,e2]
  simp
  try omega
def checkS (frame axes:List Int) (r:Int) (a:Arr):Int:=match pickS frame axes with
  |none=>1
  |some own=>if ofE a≠0 then 1 else if r<0∨(a.d.length:Int)≠r+axes.length then 13 else if a.d.take axes.length≠own then 14 else 0
def chkG (frame:List Int):List (List Int)→List Int→List Arr→Int
  |ax::axs,r::rs,a::l=>if checkS frame ax r a≠0 then checkS frame ax r a else chkG frame axs rs l
  |_,_,_=>0
def chkS (frame:List Int) (axs:List (List Int)) (rs:List Int) (l:List Arr):Int:=
  if ((sizeS frame).2≠0∧(sizeS frame).2≠3)∨axs.length≠l.length∨rs.length≠l.length then 1 else if (sizeS frame).2≠0 then 3 else chkG frame axs rs l
end Go.Proofs.YtcpjahmajkhchaaGreat

namespace Go.Proofs.YtcpjahmajkhchaaGreat
open Go Go.Fw
set_option maxRecDepth 20000
def jA:AV:=arrV nilA
def jI:AV:= .sl false 1 []
def jk:TypeId→AV:=lookZ [(3,.lit (.int .i64 0)),(9,.lit (.string ByteArray.empty)),(23,jI),(31,jA)]
theorem jk3:jk 3= .lit (.int .i64 0):=rfl
theorem jk9:jk 9= .lit (.string ByteArray.empty):=rfl
theorem jk23:jk 23=jI:=rfl
theorem jk31:jk 31=jA:=rfl
theorem arrs_getJ (l:List Arr) (i:Nat):(arrs l).getD i jA=arrV (l.getD i nilA):=by
  simp only [arrs,jA,List.getD_eq_getElem?_getD,List.getElem?_map];cases l[i]? <;>rfl
theorem ils_getJ (l:List (List Int)) (i:Nat):(ils l).getD i jI= .sl false 1 (ints .i64 (l.getD i [])):=by
  simp only [ils,jI,List.getD_eq_getElem?_getD,List.getElem?_map];cases l[i]? <;>rfl
attribute [go_sem] jk3 jk9 jk23 jk31 arrs_getJ ils_getJ
end Go.Proofs.YtcpjahmajkhchaaGreat

namespace Go.Proofs.YtcpjahmajkhchaaGreat
open Go Go.Fw
set_option maxRecDepth 20000
set_option maxRecDepth 20000
def inds (fr:List Int) (k:Nat):List (List Int):=(List.range k).map fun j:Nat=>(idxS fr (j:Int)).1
def indicesS (fr:List Int):List (List Int)×Int:=if (sizeS fr).2≠0 then ([],(sizeS fr).2) else (inds fr (sizeS fr).1.toNat,0)
def inV (p:List (List Int)×Int):AV:= .tup [.sl false 1 (ils p.1),.lit (.int .i64 p.2)]
theorem inds_succ (fr:List Int) (k:Nat):inds fr (k+1)=inds fr k++[(idxS fr k).1]:=by simp [inds,List.range_succ]
theorem inds_len (fr:List Int) (k:Nat):(inds fr k).length=k:=by simp [inds]
theorem ilsl_len (a:List (List Int)):(ils a).length=a.length:=by simp [ils]
attribute [go_sem] ils_app ilsl_len con60_f con60_c con50_f con50_c ixV szV inds_len
noncomputable def E74:Env:=envJ (P:=Tryz.prog) jk zer (fun _=>false) (fun _=>false) [con50,con60] []
theorem E74_ok:EnvOk Tryz.prog E74:=envJOk zer_ok
set_option maxHeartbeats 4000000 in
theorem rindices_pc {fr:List Int} (hl:fr.length≤1000000):PC Tryz.prog 30 [.sl false 1 (ints .i64 fr)] (inV (indicesS fr)):=by
  unfold indicesS
  generalize hS:sizeS fr=s
  obtain ⟨n,e⟩:=s
  simp only
  by_cases h1:e=0
  ·subst h1
   obtain ⟨_,_,h4,h5⟩:=sizeS_ok hS
   have hn:0≤n:=by rw [h4];exact prI_nonneg ‹dimOk fr›
   rw [if_neg (by simp)]
   refine pcR E74_ok (kp30) Tryz.func30 [.tmp 2,.tmp 3] (h:=fun KF=>?_)
   unfold E74
   repeat' (first
    |(with_reducible first|refine nx ?_|refine t_seq fun K=>?_|refine t_br (fun hc=>?_) fun hc=>?_|refine t_bx ?_|apply And.intro|intro vr)
    |((with_reducible first|refine ny ?_|refine t_dwh (h:=fun K KL=>?_));intros;simp only [go_sem,kp30,geff,hS]))
   all_goals try exact nd
   refine t_loopF (ι:={p:Nat×Nat // (p.1:Int)≤n}) (fun i=>[(7,.lit (.int .i64 i.1.1)),(6,.arr 0 i.1.2)]) (fun i=>[.arr 23 1 (ils (inds fr i.1.1)) i.1.2 false]) (fun i=>n.toNat - i.1.1) ⟨(0,0),by simpa using hn⟩ ?_ ?_
   ·refine (le_nil 6 23 1 rfl).trans ?_
    exact lf
   rintro ⟨⟨i,ver⟩,hi⟩ K0
   simp only at hi
   rcases Int.lt_or_le (i:Int) n with hlt|hge
   ·have g5:decide ((i:Int)<n)=true:=decide_eq_true (by omega)
    repeat' (first
     |(with_reducible first|refine nx ?_|refine t_seq fun K=>?_|refine t_br (fun hc=>?_) fun hc=>?_|refine t_bx ?_|apply And.intro|intro vr)
     |((with_reducible first|refine ny ?_|refine t_dwh (h:=fun K KL=>?_));intros;simp only [go_sem,kp30,geff,updL_cons,updL_nil,Int.toNat_natCast,g5,ils_app,←inds_succ]))
    all_goals try exact nd
    exact ⟨⟨(i+1,ver+1),by simp only;omega⟩,wf,lf⟩
   ·have g5:decide ((i:Int)<n)=false:=decide_eq_false (by omega)
    have e:n.toNat=i:=by omega
    repeat' (first
     |(with_reducible first|refine nx ?_|refine t_seq fun K=>?_|refine t_br (fun hc=>?_) fun hc=>?_|refine t_bx ?_|apply And.intro|intro vr)
     |((with_reducible first|refine ny ?_|refine t_dwh (h:=fun K KL=>?_));intros;simp only [go_sem,kp30,geff,updL_cons,updL_nil,Int.toNat_natCast,g5]))
    all_goals try exact nd
    all_goals (refine nl ?_;simp only [go_sem])
    rw [e]
    exact LeA.refl _
  ·have g1:(e !=0)=true:=by simpa using h1
   rw [if_pos h1]
   refine pcR E74_ok (kp30) Tryz.func30 [.tmp 2,.tmp 3] (h:=fun KF=>?_)
   unfold E74
   repeat' (first
    |(with_reducible first|refine nx ?_|refine t_seq fun K=>?_|refine t_br (fun hc=>?_) fun hc=>?_|refine t_bx ?_|apply And.intro|intro vr)
    |((with_reducible first|refine ny ?_|refine t_dwh (h:=fun K KL=>?_));intros;simp only [go_sem,kp30,geff,hS,g1]))
   all_goals try exact nd
   all_goals (refine nl ?_;simp only [go_sem])
   exact LeA.tup ⟨LeA.nil _ _,LeA.refl _,trivial⟩
noncomputable def con30:PCon Tryz.prog where
  f:=30
  c:=fun
   |[xfr]=>match slK .i64 xfr with|some fr=>some (fr.length≤1000000,inV (indicesS fr))|_=>none
   |_=>none
  ok:=by
   intro args p r hc hp
   split at hc
   ·split at hc
    ·rename_i hfr
     cases hc
     exact PC.weak (rindices_pc hp) ⟨slK_le hfr,trivial⟩
    ·cases hc
   ·cases hc
  fk:=fk30
theorem con30_f:con30.f=30:=rfl
theorem con30_c {xfr:AV}:con30.c [xfr]=match slK .i64 xfr with|some fr=>some (fr.length≤1000000,inV (indicesS fr))|_=>none:=rfl
end Go.Proofs.YtcpjahmajkhchaaGreat

namespace Go.Proofs.YtcpjahmajkhchaaGreat
open Go Go.Fw
set_option maxRecDepth 20000
set_option maxRecDepth 20000
attribute [go_sem] con45_f con45_c arrOf_agg slK_sl
noncomputable def E75:Env:=envJ (P:=Tryz.prog) jk zer (fun _=>false) (fun _=>false) [con45] []
theorem E75_ok:EnvOk Tryz.prog E75:=envJOk zer_ok
theorem inval_pc {a:Arr} (h:okA a):PC Tryz.prog 79 [arrV a] (.lit (.bool (!(ofE a==0)))):=by
  obtain ⟨h1,h2⟩:=h
  simp only [arrV]
  refine pcR E75_ok (kp79) Tryz.func79 [.tmp 2] (h:=fun KF=>?_)
  unfold E75
  repeat' (first
   |(with_reducible first|refine nx ?_|refine t_seq fun K=>?_|refine t_br (fun hc=>?_) fun hc=>?_|refine t_bx ?_|apply And.intro|intro vr)
   |((with_reducible first|refine ny ?_|refine t_dwh (h:=fun K KL=>?_));intros;simp only [go_sem,kp79,geff]))
  all_goals try exact nd
  all_goals (refine nl ?_;simp only [go_sem])
  exact LeA.refl _
noncomputable def con79:PCon Tryz.prog where
  f:=79
  c:=fun
   |[xa]=>match arrOf xa with|some a=>some (okA a,.lit (.bool (!(ofE a==0))))|_=>none
   |_=>none
  ok:=by
   intro args p r hc hp
   split at hc
   ·split at hc
    ·rename_i ha
     cases hc
     exact PC.weak (inval_pc hp) ⟨arrOf_le ha,trivial⟩
    ·cases hc
   ·cases hc
  fk:=fk79
theorem con79_f:con79.f=79:=rfl
theorem con79_c {xa:AV}:con79.c [xa]=match arrOf xa with|some a=>some (okA a,.lit (.bool (!(ofE a==0))))|_=>none:=rfl
def idxA (p:Arr→Bool):List Arr→Int→Int
  |[],_=> -1
  |d::t,i=>if p d=true then i else idxA p t (i+1)
theorem idxA_any (p:Arr→Bool):∀ (l:List Arr) (i:Int),0≤i→decide (idxA p l i≥0)=l.any p
  |[],_,_=>rfl
  |d::t,i,hi=>by
   unfold idxA
   by_cases h:p d=true
   ·rw [if_pos h,List.any_cons,h,decide_eq_true hi];rfl
   ·rw [if_neg h,idxA_any p t (i+1) (by omega),List.any_cons]
    simp only [Bool.not_eq_true] at h
    rw [h];rfl
def invA (a:Arr):Bool:= !(ofE a==0)
noncomputable def E76:Env:=envJ (P:=Tryz.prog) jk zer (fun _=>false) (fun _=>false) [con79] []
theorem E76_ok:EnvOk Tryz.prog E76:=envJOk zer_ok
attribute [go_sem] con79_f con79_c
theorem idxa_pc {l:List Arr} (hl:l.length≤1000000) (hk:∀ a∈l,okA a):PC Tryz.prog 111 [.sl false 3 (arrs l),.fn (.func 79) [] []] (.lit (.int .i64 (idxA invA l 0))):=by
  generalize hR:idxA invA l 0=R
  refine pcR E76_ok (kp111) Tryz.func111 [.tmp 4] (h:=fun KF=>?_)
  unfold E76
  repeat' (first
   |(with_reducible first|refine nx ?_|refine t_seq fun K=>?_|refine t_br (fun hc=>?_) fun hc=>?_|refine t_bx ?_|apply And.intro|intro vr)
   |((with_reducible first|refine ny ?_|refine t_dwh (h:=fun K KL=>?_));intros;simp only [go_sem,kp111,geff,arrs_length]))
  all_goals try exact nd
  refine t_loopF (ι:={i:Nat // i≤l.length∧idxA invA (l.drop i) i=R}) (fun i=>[(8,.lit (.int .i64 i.1))]) (fun i=>[]) (fun i=>l.length - i.1) ⟨0,by omega,hR⟩ ?_ ?_
  ·exact lf
  rintro ⟨i,hi,hF⟩ K0
  rcases Nat.lt_or_ge i l.length with hc|hc
  ·rw [drop_getD nilA hc,idxA] at hF
   have g3:decide ((i:Int)<(l.length:Int))=true:=decide_eq_true (by omega)
   have hm:okA (l.getD i nilA):=hk _ (getD_mem nilA hc)
   cases h4:(ofE (l.getD i nilA)==0) with
   |true=>
    rw [if_neg (by unfold invA;rw [h4];decide)] at hF
    repeat' (first
     |(with_reducible first|refine nx ?_|refine t_seq fun K=>?_|refine t_br (fun hc=>?_) fun hc=>?_|refine t_bx ?_|apply And.intro|intro vr)
     |((with_reducible first|refine ny ?_|refine t_dwh (h:=fun K KL=>?_));intros;simp only [go_sem,kp111,geff,g3,Int.toNat_natCast,arrs_length,arrV,arrOf_agg,slK_sl,h4,Bool.not_true]))
    all_goals try exact nd
    exact ⟨⟨i+1,by omega,by rw [←hF];congr 1⟩,wf,lf⟩
   |false=>
    rw [if_pos (by unfold invA;rw [h4];decide)] at hF
    repeat' (first
     |(with_reducible first|refine nx ?_|refine t_seq fun K=>?_|refine t_br (fun hc=>?_) fun hc=>?_|refine t_bx ?_|apply And.intro|intro vr)
     |((with_reducible first|refine ny ?_|refine t_dwh (h:=fun K KL=>?_));intros;simp only [go_sem,kp111,geff,g3,Int.toNat_natCast,arrs_length,arrV,arrOf_agg,slK_sl,h4,Bool.not_false]))
    all_goals try exact nd
    all_goals (refine nl ?_;simp only [go_sem])
    exact LeA.of_eq (by rw [←hF])
  ·have g3:decide ((i:Int)<(l.length:Int))=false:=decide_eq_false (by omega)
   rw [List.drop_eq_nil_of_le (by omega),idxA] at hF
   repeat' (first
    |(with_reducible first|refine nx ?_|refine t_seq fun K=>?_|refine t_br (fun hc=>?_) fun hc=>?_|refine t_bx ?_|apply And.intro|intro vr)
    |((with_reducible first|refine ny ?_|refine t_dwh (h:=fun K KL=>?_));intros;simp only [go_sem,kp111,geff,g3,Int.toNat_natCast,arrs_length]))
   all_goals try exact nd
   all_goals (refine nl ?_;simp only [go_sem])
   exact LeA.of_eq (by rw [←hF])
noncomputable def con111:PCon Tryz.prog where
  f:=111
  c:=fun
   |[x,.fn (.func 79) [] []]=>match arrsOf x with|some l=>some (l.length≤1000000∧∀ a∈l,okA a,.lit (.int .i64 (idxA invA l 0)))|_=>none
   |_=>none
  ok:=by
   intro args p r hc hp
   split at hc
   ·split at hc
    ·rename_i hx
     cases hc
     exact PC.weak (idxa_pc hp.1 hp.2) ⟨arrsOf_le hx,LeA.refl _,trivial⟩
    ·cases hc
   ·cases hc
  fk:=fk111
theorem con111_f:con111.f=111:=rfl
theorem con111_c {x:AV}:con111.c [x,.fn (.func 79) [] []]=match arrsOf x with|some l=>some (l.length≤1000000∧∀ a∈l,okA a,.lit (.int .i64 (idxA invA l 0)))|_=>none:=rfl
attribute [go_sem] con111_f con111_c
noncomputable def E77:Env:=envJ (P:=Tryz.prog) jk zer (fun _=>false) (fun _=>false) [con111] []
theorem E77_ok:EnvOk Tryz.prog E77:=envJOk zer_ok
theorem anya_pc {l:List Arr} (hl:l.length≤1000000) (hk:∀ a∈l,okA a):PC Tryz.prog 78 [.sl false 3 (arrs l),.fn (.func 79) [] []] (.lit (.bool (l.any invA))):=by
  rw [←idxA_any invA l 0 (by omega)]
  refine pcR E77_ok (kp78) Tryz.func78 [.tmp 4] (h:=fun KF=>?_)
  unfold E77
  repeat' (first
   |(with_reducible first|refine nx ?_|refine t_seq fun K=>?_|refine t_br (fun hc=>?_) fun hc=>?_|refine t_bx ?_|apply And.intro|intro vr)
   |((with_reducible first|refine ny ?_|refine t_dwh (h:=fun K KL=>?_));intros;simp only [go_sem,kp78,geff,arrsOf_sl]))
  all_goals try exact nd
  all_goals try exact hk _ (by assumption)
  all_goals (refine nl ?_;simp only [go_sem])
  exact LeA.refl _
noncomputable def con78:PCon Tryz.prog where
  f:=78
  c:=fun
   |[x,.fn (.func 79) [] []]=>match arrsOf x with|some l=>some (l.length≤1000000∧∀ a∈l,okA a,.lit (.bool (l.any invA)))|_=>none
   |_=>none
  ok:=by
   intro args p r hc hp
   split at hc
   ·split at hc
    ·rename_i hx
     cases hc
     exact PC.weak (anya_pc hp.1 hp.2) ⟨arrsOf_le hx,LeA.refl _,trivial⟩
    ·cases hc
   ·cases hc
  fk:=fk78
theorem con78_f:con78.f=78:=rfl
theorem con78_c {x:AV}:con78.c [x,.fn (.func 79) [] []]=match arrsOf x with|some l=>some (l.length≤1000000∧∀ a∈l,okA a,.lit (.bool (l.any invA)))|_=>none:=rfl
attribute [go_sem] con78_f con78_c
end Go.Proofs.YtcpjahmajkhchaaGreat

set_option linter.unusedVariables false
namespace Go.Proofs
open Go.RowKit
set_option maxHeartbeats 2000000 in
set_option maxRecDepth 100000 in
theorem Tryz.grow_run (n:Nat) (h0:0<n) (h63:n≤1000000) (w:World):
    Calls Tryz.prog 112 #[.slice none 0 0,.int .i64 n] w fun e w'=>e= .returned (.slice (some ⟨w.heap.size,0,none⟩) 0 (grownCap w n 0 3))∧∃ cur,cur.size=grownCap w n 0 3∧w'=w.drew.alloc (.cells cur 3):=by
  obtain ⟨i0,hi,hz0,hz1,hz2⟩:=info_parts (show (Tryz.prog.info? 3).map (fun i=>(i.zero,i.size,i.bytes))=some (some (.int .i64 0),1,8) from by kernel_rfl)
  have h:=Lib.run_append_nil_zeros (P:=Tryz.prog) w 23 3 23 3 i0 (.int .i64 0) .i64 .i64 Tryz.underlying23 Tryz.underlying3 hi hz0 n h0 (by omega) (by omega) (by rw [hz2];omega)
  go_enter Tryz.func112,Tryz.ntmps112
  go_wp2_with (at_builtin;refine Lib.wpList_append_run _ rfl _ _ _ _ rfl _ _ rfl rfl _ _ h ?_)
  go_ret
  exact ⟨rfl,_,by have:=grownCap_ge w n 0 3;simp [size_zeroCells];omega,rfl⟩
set_option maxHeartbeats 2000000 in
set_option maxRecDepth 100000 in
theorem Tryz.grow_zero (w:World):Calls Tryz.prog 112 #[.slice none 0 0,.int .i64 0] w fun e w'=>e= .returned (.slice none 0 0)∧w'=w:=by
  go_enter Tryz.func112,Tryz.ntmps112
  go_wp2
  go_ret
  exact ⟨rfl,rfl⟩
namespace YtcpjahmajkhchaaGreat
open Go.Fw
theorem grow_ec {n:Nat} (h0:0<n) (hn:n≤1000000) {σ:List AObj} {k:AV→List AObj→Prop} (hk:k (.arr σ.length 0) (σ++[.arr 3 1 [] 0 false])):EC Tryz.prog 112 [.lit (.slice none 0 0),.lit (.int .i64 n)] σ k:=by
  intro cx G w vs hr hl
  obtain ⟨h1,h2⟩:=hl
  match vs,h1 with
  |[a,b],_=>
   have ha:=(show R G (.lit (.slice none 0 0)) a from h2 0 (by simp)).lit_inv
   have hb:=(show R G (.lit (.int .i64 n)) b from h2 1 (by simp)).lit_inv
   subst ha;subst hb
   refine (Tryz.grow_run n h0 hn w).mono ?_
   rintro e w' ⟨rfl,cur,hc,rfl⟩
   have hge:=grownCap_ge w n 0 3
   obtain ⟨G',g1,g2,g3⟩:=(hr.more (More.drawn w (w.drawn+1))).newArr 3 1 (xs:=[]) (cur:=cur) (cap:=grownCap w n 0 3) (fz:=(0,0)) ⟨by simp,by simp,by simp⟩ (by omega) (by simp) (grownCap_le_maxLen w n 0 3 (by unfold maxLen;omega)) (by omega) ⟨Nat.le_refl _,fun off _ h=>by simp at h⟩
   exact ⟨_,G',_,_,rfl,g1,g2,g3,hk⟩
theorem grow_ec0 {σ:List AObj} {k:AV→List AObj→Prop} (hk:k (.lit (.slice none 0 0)) σ):EC Tryz.prog 112 [.lit (.slice none 0 0),.lit (.int .i64 0)] σ k:=by
  intro cx G w vs hr hl
  obtain ⟨h1,h2⟩:=hl
  match vs,h1 with
  |[a,b],_=>
   have ha:=(show R G (.lit (.slice none 0 0)) a from h2 0 (by simp)).lit_inv
   have hb:=(show R G (.lit (.int .i64 0)) b from h2 1 (by simp)).lit_inv
   subst ha;subst hb
   refine (Tryz.grow_zero w).mono ?_
   rintro e w' ⟨rfl,rfl⟩
   exact ⟨_,G,_,_,rfl,Gh.le.refl G,hr,.clo _ _ (.lit _),hk⟩
end YtcpjahmajkhchaaGreat
end Go.Proofs

namespace Go.Proofs.YtcpjahmajkhchaaGreat
open Go Go.Fw
set_option maxRecDepth 20000
set_option maxRecDepth 20000
noncomputable def ecn112:ECon Tryz.prog where
  f:=112
  c:=fun args σ k=>match args with
   |[.lit (.slice none 0 0),.lit (.int .i64 n)]=>0≤n∧n≤1000000∧(n=0→k (.lit (.slice none 0 0)) σ)∧(n≠0→k (.arr σ.length 0) (σ++[.arr 3 1 [] 0 false]))
   |_=>False
  ok:=by
   intro args σ k h
   split at h
   ·rename_i n
    obtain ⟨m,rfl⟩:∃ m:Nat,n=m:=⟨n.toNat,by omega⟩
    rcases Nat.eq_zero_or_pos m with rfl|hm
    ·exact grow_ec0 (h.2.2.1 rfl)
    ·exact grow_ec hm (by omega) (h.2.2.2 (by omega))
   ·exact h.elim
  fk:=fk112
theorem ecn112_f:ecn112.f=112:=rfl
theorem ecn112_c {n:Int} {σ:List AObj} {k:AV→List AObj→Prop}:ecn112.c [.lit (.slice none 0 0),.lit (.int .i64 n)] σ k=(0≤n∧n≤1000000∧(n=0→k (.lit (.slice none 0 0)) σ)∧(n≠0→k (.arr σ.length 0) (σ++[.arr 3 1 [] 0 false]))):=rfl
attribute [go_sem] ecn112_f ecn112_c
noncomputable def E78:Env:=envJ (P:=Tryz.prog) jk zer (fun _=>false) (fun _=>false) [] [ecn112]
theorem E78_ok:EnvOk Tryz.prog E78:=envJOk zer_ok
theorem flat_take {L:List (List Int)} {i:Nat} (h:i<L.length):(L.take (i+1)).flatten=(L.take i).flatten++L.getD i []:=by
  rw [List.take_add_one,List.getElem?_eq_getElem h,List.getD_eq_getElem?_getD,List.getElem?_eq_getElem h,List.flatten_append];simp
theorem flat_le (L:List (List Int)) (i:Nat):(L.take i).flatten.length≤L.flatten.length:=by
  have h:L.flatten=(L.take i).flatten++(L.drop i).flatten:=by rw [←List.flatten_append,List.take_append_drop]
  rw [h,List.length_append];omega
set_option maxHeartbeats 4000000 in
theorem concat_pc {L:List (List Int)} (hl:L.flatten.length≤1000000) (hL:L.length≤1000000):PC Tryz.prog 80 [.sl false 1 (ils L)] (.sl false 1 (ints .i64 L.flatten)):=by
  refine pcR E78_ok (kp80) Tryz.func80 [.tmp 2] (h:=fun KF=>?_)
  unfold E78
  repeat' (first
   |(with_reducible first|refine nx ?_|refine t_seq fun K=>?_|refine t_br (fun hc=>?_) fun hc=>?_|refine t_bx ?_|apply And.intro|intro vr)
   |((with_reducible first|refine ny ?_|refine t_dwh (h:=fun K KL=>?_));intros;simp only [go_sem,kp80,geff]))
  all_goals try exact nd
  refine t_loopF (ι:={i:Nat // i≤L.length}) (fun i=>[(11,.lit (.int .i64 i.1)),(3,.lit (.int .i64 (L.take i.1).flatten.length))]) (fun i=>[]) (fun i=>L.length - i.1) ⟨0,by omega⟩ ?_ ?_
  ·exact lf
  rintro ⟨i,hi⟩ K0
  rcases Nat.lt_or_ge i L.length with hc|hc
  ·have g3:decide ((i:Int)<(L.length:Int))=true:=decide_eq_true (by omega)
   have hf:=flat_take hc
   have hle:=flat_le L (i+1)
   have hlen:=congrArg List.length hf
   rw [List.length_append] at hlen
   have g8:((L.take i).flatten.length:Int)+((L.getD i []).length:Int)=((L.take (i+1)).flatten.length:Nat):=by omega
   have g9:decide ((((L.take (i+1)).flatten.length:Nat):Int)<0)=false:=decide_eq_false (by omega)
   repeat' (first
    |(with_reducible first|refine nx ?_|refine t_seq fun K=>?_|refine t_br (fun hc=>?_) fun hc=>?_|refine t_bx ?_|apply And.intro|intro vr)
    |((with_reducible first|refine ny ?_|refine t_dwh (h:=fun K KL=>?_));intros;simp only [go_sem,kp80,geff,updL_cons,updL_nil,Int.toNat_natCast,g3,g8,g9]))
   all_goals try exact nd
   exact ⟨⟨i+1,by omega⟩,wf,lf⟩
  ·have g3:decide ((i:Int)<(L.length:Int))=false:=decide_eq_false (by omega)
   have e:L.take i=L:=List.take_of_length_le hc
   have z0:L.take 0=[]:=List.take_zero
   rcases Nat.eq_zero_or_pos L.flatten.length with ht|ht
   ·have g4:((L.flatten.length:Nat):Int)=0:=by omega
    repeat' (first
     |(with_reducible first|refine nx ?_|refine t_seq fun K=>?_|refine t_br (fun hc=>?_) fun hc=>?_|refine t_bx ?_|apply And.intro|intro vr)
     |((with_reducible first|refine ny ?_|refine t_dwh (h:=fun K KL=>?_));intros;simp only [go_sem,kp80,geff,updL_cons,updL_nil,Int.toNat_natCast,g3,e,g4,true_imp_iff,ne_eq,not_true_eq_false,false_imp_iff]))
    all_goals try exact nd
    refine t_loopF (ι:={p:Nat×Nat // p.1≤L.length}) (fun i=>[(27,.lit (.int .i64 i.1.1)),(6,.arr 0 i.1.2)]) (fun i=>[.arr 3 1 (ints .i64 (L.take i.1.1).flatten) i.1.2 false]) (fun i=>L.length - i.1.1) ⟨(0,0),by simp⟩ ?_ ?_
    ·refine (le_nil 6 3 1 rfl).trans ?_
     exact lf
    rintro ⟨⟨i,ver⟩,hi⟩ K1
    simp only at hi
    rcases Nat.lt_or_ge i L.length with hc|hc
    ·have g3:decide ((i:Int)<(L.length:Int))=true:=decide_eq_true (by omega)
     have hf:=flat_take hc
     have hle:=flat_le L (i+1)
     have hlen:=congrArg List.length hf
     rw [List.length_append] at hlen
     repeat' (first
      |(with_reducible first|refine nx ?_|refine t_seq fun K=>?_|refine t_br (fun hc=>?_) fun hc=>?_|refine t_bx ?_|apply And.intro|intro vr)
      |((with_reducible first|refine ny ?_|refine t_dwh (h:=fun K KL=>?_));intros;simp only [go_sem,kp80,geff,updL_cons,updL_nil,Int.toNat_natCast,g3,ints_append,←hf]))
     all_goals try (first|(with_reducible assumption)|(intros;(try simp only [Bool.and_eq_true,Bool.or_eq_true,Bool.or_eq_false_iff,Bool.not_eq_true',Bool.not_eq_false',decide_eq_true_eq,decide_eq_false_iff_not,beq_iff_eq,beq_eq_false_iff_ne,bne_iff_ne,bne_eq_false_iff_eq,ne_eq,inI64,ints_length] at*)<;>omega)|(intros;(with_reducible first|refine impB_ofR ?_|refine and_ofB ?_ ?_)<;>with_reducible first|assumption|(refine impB_ofR ?_;assumption))|((try simp only [Bool.and_eq_true] at vr);simp only [impB,vr,Bool.or_true,Bool.true_or,Bool.and_self,Bool.not_true,Bool.not_false,Bool.and_true];done))
     exact ⟨⟨(i+1,ver+1),by simp only;omega⟩,wf,lf⟩
    ·have g3:decide ((i:Int)<(L.length:Int))=false:=decide_eq_false (by omega)
     have e:L.take i=L:=List.take_of_length_le hc
     repeat' (first
      |(with_reducible first|refine nx ?_|refine t_seq fun K=>?_|refine t_br (fun hc=>?_) fun hc=>?_|refine t_bx ?_|apply And.intro|intro vr)
      |((with_reducible first|refine ny ?_|refine t_dwh (h:=fun K KL=>?_));intros;simp only [go_sem,kp80,geff,updL_cons,updL_nil,Int.toNat_natCast,g3,e]))
     all_goals try exact nd
     all_goals (refine nl ?_;simp only [go_sem])
     exact LeA.refl _
   ·have g4:(((L.flatten.length:Nat):Int)=0)=False:=eq_false (by omega)
    repeat' (first
     |(with_reducible first|refine nx ?_|refine t_seq fun K=>?_|refine t_br (fun hc=>?_) fun hc=>?_|refine t_bx ?_|apply And.intro|intro vr)
     |((with_reducible first|refine ny ?_|refine t_dwh (h:=fun K KL=>?_));intros;simp only [go_sem,kp80,geff,updL_cons,updL_nil,Int.toNat_natCast,g3,e,g4,true_imp_iff,ne_eq,not_false_eq_true,false_imp_iff]))
    all_goals try exact nd
    refine t_loopF (ι:={p:Nat×Nat // p.1≤L.length}) (fun i=>[(27,.lit (.int .i64 i.1.1)),(6,.arr 0 i.1.2)]) (fun i=>[.arr 3 1 (ints .i64 (L.take i.1.1).flatten) i.1.2 false]) (fun i=>L.length - i.1.1) ⟨(0,0),by simp⟩ ?_ ?_
    ·exact lf
    rintro ⟨⟨i,ver⟩,hi⟩ K1
    simp only at hi
    rcases Nat.lt_or_ge i L.length with hc|hc
    ·have g3:decide ((i:Int)<(L.length:Int))=true:=decide_eq_true (by omega)
     have hf:=flat_take hc
     have hle:=flat_le L (i+1)
     have hlen:=congrArg List.length hf
     rw [List.length_append] at hlen
     repeat' (first
      |(with_reducible first|refine nx ?_|refine t_seq fun K=>?_|refine t_br (fun hc=>?_) fun hc=>?_|refine t_bx ?_|apply And.intro|intro vr)
      |((with_reducible first|refine ny ?_|refine t_dwh (h:=fun K KL=>?_));intros;simp only [go_sem,kp80,geff,updL_cons,updL_nil,Int.toNat_natCast,g3,ints_append,←hf]))
     all_goals try (first|(with_reducible assumption)|(intros;(try simp only [Bool.and_eq_true,Bool.or_eq_true,Bool.or_eq_false_iff,Bool.not_eq_true',Bool.not_eq_false',decide_eq_true_eq,decide_eq_false_iff_not,beq_iff_eq,beq_eq_false_iff_ne,bne_iff_ne,bne_eq_false_iff_eq,ne_eq,inI64,ints_length] at*)<;>omega)|(intros;(with_reducible first|refine impB_ofR ?_|refine and_ofB ?_ ?_)<;>with_reducible first|assumption|(refine impB_ofR ?_;assumption))|((try simp only [Bool.and_eq_true] at vr);simp only [impB,vr,Bool.or_true,Bool.true_or,Bool.and_self,Bool.not_true,Bool.not_false,Bool.and_true];done))
     exact ⟨⟨(i+1,ver+1),by simp only;omega⟩,wf,lf⟩
    ·have g3:decide ((i:Int)<(L.length:Int))=false:=decide_eq_false (by omega)
     have e:L.take i=L:=List.take_of_length_le hc
     repeat' (first
      |(with_reducible first|refine nx ?_|refine t_seq fun K=>?_|refine t_br (fun hc=>?_) fun hc=>?_|refine t_bx ?_|apply And.intro|intro vr)
      |((with_reducible first|refine ny ?_|refine t_dwh (h:=fun K KL=>?_));intros;simp only [go_sem,kp80,geff,updL_cons,updL_nil,Int.toNat_natCast,g3,e]))
     all_goals try exact nd
     all_goals (refine nl ?_;simp only [go_sem])
     exact LeA.refl _
end Go.Proofs.YtcpjahmajkhchaaGreat

namespace Go.Fw
open Go Go.RowKit
variable {F:Fence} {n:Nat} {P:Program}
def SeqW {α:Type} (F:Fence) (n:Nat) (P:Program) (g:Nat) (lb:Array Value) (encs:α→Array Value) (Kp:World→World→Prop) (A:List α→α→World→World→Prop) (S:List α→Prop) (w:World):Prop:=
  ∀ (l:Nat) (J:List α→World→Prop) (W:World),Below w.heap.size w W→AbidesFrom W.heap.size J→
    (∀ pre x W0 W1,J pre W0→W0.grownBy W1 none→A pre x W0 W1→YieldAt F (n - 1) P l (encs x) W1 fun e W'=>e= .returned (.bool true)∧J (pre++[x]) W'∧Kp W1 W')→
    J [] W→CallsIn F n P g (#[.func (.yield l) #[] #[]]++lb) W fun e W'=>(∃ v,e= .returned v)∧∃ xs,S xs∧J xs W'
theorem wpIn_rangeW {α:Type} {g:Operand} {ps:Array Tmp} {assign body:Code} {Q:Exit→Act→World→Prop} {a:Act} {w:World}
    (hro:F.round=none) (h1:1≤n) {gf:Nat} {lb:Array Value} (hg:a.eval g= .func (.func gf) #[] lb) (hFg:F.fn gf) (eg:∀ args w,(callFunc gf args).run P w= .ok (.enter gf args) w)
    {encs:α→Array Value} {Kp:World→World→Prop} {A:List α→α→World→World→Prop} {S:List α→Prop} (hseq:SeqW F (n - 1) P gf lb encs Kp A S w)
    (hKp:∀ (W W':World) (o o':Obj),w.heap.size≤W.heap.size→W.heap[w.heap.size+1]? =some o→o.isCells=false→o.isWalk=false→
      KeepsOthers (W.putObj (w.heap.size+1) o') W'→∀ o2 o3,W'.heap[w.heap.size+1]? =some o2→o2.isCells=false→o2.isWalk=false→Kp (W.putObj (w.heap.size+1) o') W'→Kp W (W'.putObj (w.heap.size+1) o3))
    (hps:∀ x,(encs x).size=ps.size)
    (I:List α→World→Prop) (hI:OwnFrom w.heap.size I) (hA:∀ pre x W0,OwnFrom w.heap.size (fun (_:Unit)=>A pre x W0)) (h0:I [] w) (a₁:α→Act)
    (hassign:∀ (l:Nat) (x:α) (W:World) (K:Act→World→Prop),K (a₁ x) W→
      assign.wpIn (F.inRound l) (n - 1 - 1) P (Exit.then K (fun _ _ _=>False)) {tmps:=(ps.zip (encs x)).foldl (fun t (p,v)=>t.setIfInBounds p v) a.tmps,defers:=[]} W)
    (hbody:∀ (l:Nat) (pre:List α) (x:α) (W0 W:World),w.heap.size≤l→I pre W0→I pre W→W0.heap.size≤W.heap.size→(∀ p v,W0.cell? p=some v→W.cell? p=some v)→A pre x W0 W→
      body.wpIn (F.inRound l) (n - 1 - 1) P (fun e _ W'=>match e with|.normal=>KeepsOthers W W'∧Kp W W'∧I (pre++[x]) W'|_=>False) (a₁ x) W)
    (hdone:∀ (D:Nat) (xs:List α) (W:World),w.heap.size≤D→S xs→I xs W→W.heap[D]? =some (.deferred (some []))→Q .normal {a with defers:={target:= .collected D,args:= #[]}::a.defers} W):
    (Code.rangeFunc g ps assign body).wpIn F n P Q a w:=by
  refine wpIn_rangeFunc fun fn hfn=>?_
  rw [hro]
  let rec0:LoopState→Loop:=fun st=>{state:=st,pending:=none,fn,tmps:=a.tmps,params:=ps,assign,body,defers:=w.heap.size}
  let W1:=(w.alloc (.deferred (some []))).alloc (.loop (rec0 .ready))
  have hL1:W1.heap[w.heap.size+1]? =some (.loop (rec0 .ready)):=by
    have:=World.alloc_heap_new (w.alloc (.deferred (some []))) (.loop (rec0 .ready))
    rwa [World.size_alloc] at this
  have hK1:W1.heap[w.heap.size]? =some (.deferred (some [])):=(Below.heap_alloc _ _ _ (by simp)).trans (World.alloc_heap_new w _)
  have hb1:Below w.heap.size w W1:=((Below.refl _ w).alloc (Nat.le_refl _) _).alloc (by simp) _
  let B:List α→World→Prop:=fun pre W=>I pre W∧W.heap[w.heap.size+1]? =some (.loop (rec0 .ready))∧W.heap[w.heap.size]? =some (.deferred (some []))
  refine ⟨w.heap.size+1,[{target:= .collected w.heap.size,args:= #[]}],W1,{target:= .fn (.func gf) lb,args:= #[.func (.yield (w.heap.size+1)) #[] #[]]},W1,gf,
    #[.func (.yield (w.heap.size+1)) #[] #[]]++lb,W1,run_enterLoop_outer _ _ _ _ _,?_,?_,?_,fun _=>h1,?_⟩
  ·simp only [resolve,hg];simp [go_sem]
  ·intro f' hf';simp [Target.leads] at hf';subst hf';exact hFg
  ·simp [invoke,go_sem,eg]
  have hJ:AbidesFrom W1.heap.size B:=by
    rintro s A' B' row ⟨q1,q2,q3⟩ hgr hr
    have hnw:∀ r,row=some r→∃ o:Obj,A'.heap[r]? =some o∧o.isCells=false:=fun r e=>by
      obtain ⟨_,o,ho,hw⟩:=hr r e;exact ⟨o,ho,Obj.not_cells_of_walk hw⟩
    exact ⟨hI s A' B' row q1 hgr (fun r e=>⟨Nat.le_trans hb1.size (hr r e).1,(hnw r e)⟩),(grownBy_keeps hgr (fun r e=>(hr r e).2) q2 rfl).trans q2,(grownBy_keeps hgr (fun r e=>(hr r e).2) q3 rfl).trans q3⟩
  refine (hseq (w.heap.size+1) B W1 hb1 hJ ?_ ⟨hI.alloc _ (hI.alloc _ h0),hL1,hK1⟩).mono ?_
  ·rintro pre x W0 W ⟨hi0,hl0,hk0⟩ hgr ha
   obtain ⟨hi,hl,hk⟩:=hJ pre W0 W none ⟨hi0,hl0,hk0⟩ hgr (fun r e=>by cases e)
   have hlt:w.heap.size+1<W.heap.size:=(Array.getElem?_eq_some_iff.1 hl).1
   refine ⟨fn,_,assign,body,run_yield (P:=P) (args:=encs x) hl (hps x),roundIn_of_wpIn hfn (hassign _ x W _ ⟨_,run_beginRound hl rfl,?_⟩)⟩
   have hl2:(W.putObj (w.heap.size+1) (.loop (rec0 .busy))).heap[w.heap.size+1]? =some (.loop (rec0 .busy)):=World.putObj_heap_same hlt
   have hk2:(W.putObj (w.heap.size+1) (.loop (rec0 .busy))).heap[w.heap.size]? =some (.deferred (some [])):=(World.putObj_heap_other (by omega)).trans hk
   refine wpIn_mono (hbody _ pre x W0 _ (by omega) hi0 (hI.putObj _ hi (by omega) hl rfl) (by simpa using hgr.size) (fun p v hv=>cell_kept (cell_kept hv hgr (fun r e=>by cases e)) (grownBy_putObj' W _ _) (fun r e=>by cases e;exact ⟨_,hl,rfl⟩)) ((hA pre x W0).putObj (s:=()) _ ha (by omega) hl rfl)) ?_
   intro e a3 W3 hp
   cases e with
   |normal=>
    obtain ⟨hk3,hkp3,hi3⟩:=hp
    have hl3:=hk3.same _ _ hl2 rfl
    refine ⟨_,_,run_endRound (P:=P) none hl3,rfl,⟨hI.putObj _ hi3 (by omega) hl3 rfl,World.putObj_heap_same (Array.getElem?_eq_some_iff.1 hl3).1,(World.putObj_heap_other (by omega)).trans (hk3.same _ _ hk2 rfl)⟩,?_⟩
    exact hKp W W3 _ _ (by omega) hl rfl rfl hk3 _ _ hl3 rfl rfl hkp3
   |_=>exact hp.elim
  ·rintro e W2 ⟨⟨v,rfl⟩,xs,hS',hi,hl,hk⟩
   exact ⟨none,_,run_endLoop (P:=P) hl (by simp [rec0]),hdone _ xs _ (Nat.le_refl _) hS' (hI.putObj _ hi (by omega) hl rfl) ((World.putObj_heap_other (by omega)).trans hk)⟩
end Go.Fw
