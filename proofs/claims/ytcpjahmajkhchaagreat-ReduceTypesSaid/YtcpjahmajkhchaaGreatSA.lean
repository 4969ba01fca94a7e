import Derived.Test.YtcpjahmajkhchaaGreatRows
import Derived.Test.YtcpjahmajkhchaaGreatFwB

set_option linter.all false

namespace Go.Proofs.YtcpjahmajkhchaaGreat
open Go Go.Fw
noncomputable abbrev PG:=Tryz.prog
theorem g2:PG.underlying 2=some (.int .i64)∧szT PG 2=1∧byT PG 2=8∧aggT PG 2=some false∧structOk PG 2=false∧(zeroT PG 2).isSome=true∧zOk PG 2=true∧(PG.underlying 2).isSome=true:=by and_intros<;>kernel_rfl
theorem u3:Tryz.prog.underlying 3=some (.int .i64):=by kernel_rfl
theorem sz3:szT Tryz.prog 3=1:=by kernel_rfl
theorem g3:byT PG 3=8∧aggT PG 3=some false∧structOk PG 3=false∧(zeroT PG 3).isSome=true∧zOk PG 3=true∧(PG.underlying 3).isSome=true:=by and_intros<;>kernel_rfl
theorem g4:PG.underlying 4=some .bool∧szT PG 4=1∧byT PG 4=1∧aggT PG 4=some false∧structOk PG 4=false∧(zeroT PG 4).isSome=true∧zOk PG 4=true∧(PG.underlying 4).isSome=true:=by and_intros<;>kernel_rfl
theorem g5:PG.underlying 5=some (.int .u8)∧szT PG 5=1∧byT PG 5=1∧aggT PG 5=some false∧structOk PG 5=false∧(zeroT PG 5).isSome=true∧zOk PG 5=true∧(PG.underlying 5).isSome=true:=by and_intros<;>kernel_rfl
theorem g6:PG.underlying 6=some (.int .u8)∧szT PG 6=1∧byT PG 6=1∧aggT PG 6=some false∧structOk PG 6=false∧(zeroT PG 6).isSome=true∧zOk PG 6=true∧(PG.underlying 6).isSome=true:=by and_intros<;>kernel_rfl
theorem g7:szT PG 7=4∧byT PG 7=24∧aggT PG 7=some true∧structOk PG 7=true∧fieldT PG 7 0=some (2,0)∧fieldT PG 7 1=some (3,1)∧fieldT PG 7 2=some (4,2)∧fieldT PG 7 3=some (6,3)∧seqK PG 7=some [0,0,2,0]∧(zeroT PG 7).isSome=true∧zOk PG 7=true∧(PG.underlying 7).isSome=true:=by and_intros<;>kernel_rfl
theorem g8:szT PG 8=4∧byT PG 8=24∧aggT PG 8=some true∧structOk PG 8=true∧fieldT PG 8 0=some (2,0)∧fieldT PG 8 1=some (3,1)∧fieldT PG 8 2=some (4,2)∧fieldT PG 8 3=some (6,3)∧seqK PG 8=some [0,0,2,0]∧(zeroT PG 8).isSome=true∧zOk PG 8=true∧(PG.underlying 8).isSome=true:=by and_intros<;>kernel_rfl
theorem u9:Tryz.prog.underlying 9=some .string:=by kernel_rfl
theorem sz9:szT Tryz.prog 9=1:=by kernel_rfl
theorem g9:byT PG 9=16∧aggT PG 9=some false∧structOk PG 9=false∧(zeroT PG 9).isSome=true∧zOk PG 9=true∧(PG.underlying 9).isSome=true:=by and_intros<;>kernel_rfl
theorem g10:PG.underlying 10=some .string∧szT PG 10=1∧byT PG 10=16∧aggT PG 10=some false∧structOk PG 10=false∧(zeroT PG 10).isSome=true∧zOk PG 10=true∧(PG.underlying 10).isSome=true:=by and_intros<;>kernel_rfl
theorem g11:PG.underlying 11=some .string∧szT PG 11=1∧byT PG 11=16∧aggT PG 11=some false∧structOk PG 11=false∧(zeroT PG 11).isSome=true∧zOk PG 11=true∧(PG.underlying 11).isSome=true:=by and_intros<;>kernel_rfl
theorem g12:PG.underlying 12=some (.int .u64)∧szT PG 12=1∧byT PG 12=8∧aggT PG 12=some false∧structOk PG 12=false∧(zeroT PG 12).isSome=true∧zOk PG 12=true∧(PG.underlying 12).isSome=true:=by and_intros<;>kernel_rfl
theorem g13:szT PG 13=2∧byT PG 13=24∧aggT PG 13=some true∧structOk PG 13=true∧fieldT PG 13 0=some (9,0)∧fieldT PG 13 1=some (12,1)∧(zeroT PG 13).isSome=true∧zOk PG 13=true∧(PG.underlying 13).isSome=true:=by and_intros<;>kernel_rfl
theorem g14:szT PG 14=2∧byT PG 14=24∧aggT PG 14=some true∧structOk PG 14=true∧fieldT PG 14 0=some (9,0)∧fieldT PG 14 1=some (12,1)∧(zeroT PG 14).isSome=true∧zOk PG 14=true∧(PG.underlying 14).isSome=true:=by and_intros<;>kernel_rfl
theorem g15:PG.underlying 15=some (.pointer 161)∧szT PG 15=1∧byT PG 15=8∧aggT PG 15=some false∧structOk PG 15=false∧(zeroT PG 15).isSome=true∧zOk PG 15=true∧(PG.underlying 15).isSome=true:=by and_intros<;>kernel_rfl
theorem g16:PG.underlying 16=some (.pointer 164)∧szT PG 16=1∧byT PG 16=8∧aggT PG 16=some false∧structOk PG 16=false∧(zeroT PG 16).isSome=true∧zOk PG 16=true∧(PG.underlying 16).isSome=true:=by and_intros<;>kernel_rfl
theorem g17:PG.underlying 17=some (.pointer 174)∧szT PG 17=1∧byT PG 17=8∧aggT PG 17=some false∧structOk PG 17=false∧(zeroT PG 17).isSome=true∧zOk PG 17=true∧(PG.underlying 17).isSome=true:=by and_intros<;>kernel_rfl
theorem g18:szT PG 18=1∧byT PG 18=8∧aggT PG 18=some true∧structOk PG 18=true∧fieldT PG 18 0=some (17,0)∧(zeroT PG 18).isSome=true∧zOk PG 18=true∧(PG.underlying 18).isSome=true:=by and_intros<;>kernel_rfl
theorem g19:szT PG 19=1∧byT PG 19=8∧aggT PG 19=some true∧structOk PG 19=true∧fieldT PG 19 0=some (17,0)∧(zeroT PG 19).isSome=true∧zOk PG 19=true∧(PG.underlying 19).isSome=true:=by and_intros<;>kernel_rfl
theorem g21:PG.underlying 21=some (.int .i32)∧szT PG 21=1∧byT PG 21=4∧aggT PG 21=some false∧structOk PG 21=false∧(zeroT PG 21).isSome=true∧zOk PG 21=true∧(PG.underlying 21).isSome=true:=by and_intros<;>kernel_rfl
theorem u22:Tryz.prog.underlying 22=some (.slice 78):=by kernel_rfl
theorem g22:szT PG 22=1∧byT PG 22=24∧aggT PG 22=some false∧structOk PG 22=false∧(zeroT PG 22).isSome=true∧zOk PG 22=true∧(PG.underlying 22).isSome=true∧appT PG #[22,22]=some 78:=by and_intros<;>kernel_rfl
theorem u23:Tryz.prog.underlying 23=some (.slice 3):=by kernel_rfl
theorem g23:szT PG 23=1∧byT PG 23=24∧aggT PG 23=some false∧structOk PG 23=false∧(zeroT PG 23).isSome=true∧zOk PG 23=true∧(PG.underlying 23).isSome=true∧appT PG #[23,23]=some 3:=by and_intros<;>kernel_rfl
theorem g30:szT PG 30=3∧byT PG 30=64∧aggT PG 30=some true∧structOk PG 30=true∧fieldT PG 30 0=some (9,0)∧fieldT PG 30 1=some (23,1)∧fieldT PG 30 2=some (23,2)∧(zeroT PG 30).isSome=true∧zOk PG 30=true∧(PG.underlying 30).isSome=true:=by and_intros<;>kernel_rfl
theorem g31:szT PG 31=3∧byT PG 31=64∧aggT PG 31=some true∧structOk PG 31=true∧fieldT PG 31 0=some (9,0)∧fieldT PG 31 1=some (23,1)∧fieldT PG 31 2=some (23,2)∧(zeroT PG 31).isSome=true∧zOk PG 31=true∧(PG.underlying 31).isSome=true:=by and_intros<;>kernel_rfl
theorem g33:PG.underlying 33=some (.int .i64)∧szT PG 33=1∧byT PG 33=8∧aggT PG 33=some false∧structOk PG 33=false∧(zeroT PG 33).isSome=true∧zOk PG 33=true∧(PG.underlying 33).isSome=true:=by and_intros<;>kernel_rfl
theorem g39:PG.underlying 39=some (.array 2 23)∧szT PG 39=2∧byT PG 39=48∧aggT PG 39=some true∧structOk PG 39=false∧(zeroT PG 39).isSome=true∧zOk PG 39=true∧(PG.underlying 39).isSome=true:=by and_intros<;>kernel_rfl
theorem u42:Tryz.prog.underlying 42=some (.slice 9):=by kernel_rfl
theorem g42:szT PG 42=1∧byT PG 42=24∧aggT PG 42=some false∧structOk PG 42=false∧(zeroT PG 42).isSome=true∧zOk PG 42=true∧(PG.underlying 42).isSome=true∧appT PG #[42,42]=some 9:=by and_intros<;>kernel_rfl
theorem g49:PG.underlying 49=some (.slice 177)∧szT PG 49=1∧byT PG 49=24∧aggT PG 49=some false∧structOk PG 49=false∧(zeroT PG 49).isSome=true∧zOk PG 49=true∧(PG.underlying 49).isSome=true∧appT PG #[49,49]=some 177:=by and_intros<;>kernel_rfl
theorem u50:Tryz.prog.underlying 50=some (.slice 23):=by kernel_rfl
theorem g50:szT PG 50=1∧byT PG 50=24∧aggT PG 50=some false∧structOk PG 50=false∧(zeroT PG 50).isSome=true∧zOk PG 50=true∧(PG.underlying 50).isSome=true∧appT PG #[50,50]=some 23:=by and_intros<;>kernel_rfl
theorem g51:szT PG 51=2∧byT PG 51=40∧aggT PG 51=some true∧structOk PG 51=true∧fieldT PG 51 0=some (9,0)∧fieldT PG 51 1=some (49,1)∧(zeroT PG 51).isSome=true∧zOk PG 51=true∧(PG.underlying 51).isSome=true:=by and_intros<;>kernel_rfl
theorem g52:szT PG 52=2∧byT PG 52=40∧aggT PG 52=some true∧structOk PG 52=true∧fieldT PG 52 0=some (9,0)∧fieldT PG 52 1=some (49,1)∧(zeroT PG 52).isSome=true∧zOk PG 52=true∧(PG.underlying 52).isSome=true:=by and_intros<;>kernel_rfl
theorem g53:szT PG 53=3∧byT PG 53=56∧aggT PG 53=some true∧structOk PG 53=true∧fieldT PG 53 0=some (9,0)∧fieldT PG 53 1=some (52,1)∧(zeroT PG 53).isSome=true∧zOk PG 53=true∧(PG.underlying 53).isSome=true:=by and_intros<;>kernel_rfl
theorem g54:szT PG 54=3∧byT PG 54=56∧aggT PG 54=some true∧structOk PG 54=true∧fieldT PG 54 0=some (9,0)∧fieldT PG 54 1=some (52,1)∧(zeroT PG 54).isSome=true∧zOk PG 54=true∧(PG.underlying 54).isSome=true:=by and_intros<;>kernel_rfl
theorem g55:szT PG 55=14∧byT PG 55=272∧aggT PG 55=some true∧structOk PG 55=true∧fieldT PG 55 0=some (9,0)∧fieldT PG 55 1=some (23,1)∧fieldT PG 55 2=some (49,2)∧fieldT PG 55 3=some (50,3)∧fieldT PG 55 4=some (49,4)∧fieldT PG 55 5=some (3,5)∧fieldT PG 55 6=some (31,6)∧fieldT PG 55 7=some (22,9)∧fieldT PG 55 8=some (3,10)∧fieldT PG 55 9=some (54,11)∧(zeroT PG 55).isSome=true∧zOk PG 55=true∧(PG.underlying 55).isSome=true:=by and_intros<;>kernel_rfl
theorem g56:szT PG 56=14∧byT PG 56=272∧aggT PG 56=some true∧structOk PG 56=true∧fieldT PG 56 0=some (9,0)∧fieldT PG 56 1=some (23,1)∧fieldT PG 56 2=some (49,2)∧fieldT PG 56 3=some (50,3)∧fieldT PG 56 4=some (49,4)∧fieldT PG 56 5=some (3,5)∧fieldT PG 56 6=some (31,6)∧fieldT PG 56 7=some (22,9)∧fieldT PG 56 8=some (3,10)∧fieldT PG 56 9=some (54,11)∧(zeroT PG 56).isSome=true∧zOk PG 56=true∧(PG.underlying 56).isSome=true:=by and_intros<;>kernel_rfl
theorem g57:szT PG 57=16∧byT PG 57=320∧aggT PG 57=some true∧structOk PG 57=true∧fieldT PG 57 0=some (56,0)∧fieldT PG 57 1=some (23,14)∧fieldT PG 57 2=some (23,15)∧(zeroT PG 57).isSome=true∧zOk PG 57=true∧(PG.underlying 57).isSome=true:=by and_intros<;>kernel_rfl
theorem g58:szT PG 58=16∧byT PG 58=320∧aggT PG 58=some true∧structOk PG 58=true∧fieldT PG 58 0=some (56,0)∧fieldT PG 58 1=some (23,14)∧fieldT PG 58 2=some (23,15)∧(zeroT PG 58).isSome=true∧zOk PG 58=true∧(PG.underlying 58).isSome=true:=by and_intros<;>kernel_rfl
theorem g59:PG.underlying 59=some (.slice 31)∧szT PG 59=1∧byT PG 59=24∧aggT PG 59=some false∧structOk PG 59=false∧(zeroT PG 59).isSome=true∧zOk PG 59=true∧(PG.underlying 59).isSome=true∧appT PG #[59,59]=some 31:=by and_intros<;>kernel_rfl
theorem u69:Tryz.prog.underlying 69=some (.array 3 3):=by kernel_rfl
theorem g69:szT PG 69=3∧byT PG 69=24∧aggT PG 69=some true∧structOk PG 69=false∧(zeroT PG 69).isSome=true∧zOk PG 69=true∧(PG.underlying 69).isSome=true:=by and_intros<;>kernel_rfl
theorem g70:szT PG 70=4∧byT PG 70=48∧aggT PG 70=some true∧structOk PG 70=true∧fieldT PG 70 0=some (42,0)∧fieldT PG 70 1=some (69,1)∧(zeroT PG 70).isSome=true∧zOk PG 70=true∧(PG.underlying 70).isSome=true:=by and_intros<;>kernel_rfl
theorem g71:szT PG 71=4∧byT PG 71=48∧structOk PG 71=true∧fieldT PG 71 0=some (42,0)∧fieldT PG 71 1=some (69,1)∧(zeroT PG 71).isSome=true∧zOk PG 71=true∧(PG.underlying 71).isSome=true:=by and_intros<;>kernel_rfl
theorem ag71:aggT Tryz.prog 71=some true:=by kernel_rfl
theorem g77:szT PG 77=3∧byT PG 77=48∧aggT PG 77=some true∧structOk PG 77=true∧fieldT PG 77 0=some (9,0)∧fieldT PG 77 1=some (3,1)∧fieldT PG 77 2=some (23,2)∧(zeroT PG 77).isSome=true∧zOk PG 77=true∧(PG.underlying 77).isSome=true:=by and_intros<;>kernel_rfl
theorem sz78:szT Tryz.prog 78=3:=by kernel_rfl
theorem g78:byT PG 78=48∧structOk PG 78=true∧fieldT PG 78 0=some (9,0)∧fieldT PG 78 1=some (3,1)∧fieldT PG 78 2=some (23,2)∧(zeroT PG 78).isSome=true∧zOk PG 78=true∧(PG.underlying 78).isSome=true:=by and_intros<;>kernel_rfl
theorem ag78:aggT Tryz.prog 78=some true:=by kernel_rfl
theorem g91:szT PG 91=3∧byT PG 91=24∧aggT PG 91=some true∧structOk PG 91=true∧fieldT PG 91 0=some (89,0)∧fieldT PG 91 1=some (64,1)∧fieldT PG 91 2=some (90,2)∧(zeroT PG 91).isSome=true∧zOk PG 91=true∧(PG.underlying 91).isSome=true:=by and_intros<;>kernel_rfl
theorem g92:szT PG 92=3∧byT PG 92=24∧aggT PG 92=some true∧structOk PG 92=true∧fieldT PG 92 0=some (89,0)∧fieldT PG 92 1=some (64,1)∧fieldT PG 92 2=some (90,2)∧(zeroT PG 92).isSome=true∧zOk PG 92=true∧(PG.underlying 92).isSome=true:=by and_intros<;>kernel_rfl
theorem g111:PG.underlying 111=some (.slice 92)∧szT PG 111=1∧byT PG 111=24∧aggT PG 111=some false∧structOk PG 111=false∧(zeroT PG 111).isSome=true∧zOk PG 111=true∧(PG.underlying 111).isSome=true∧appT PG #[111,111]=some 92:=by and_intros<;>kernel_rfl
theorem g121:szT PG 121=3∧byT PG 121=56∧aggT PG 121=some true∧structOk PG 121=true∧fieldT PG 121 0=some (9,0)∧fieldT PG 121 1=some (42,1)∧fieldT PG 121 2=some (9,2)∧(zeroT PG 121).isSome=true∧zOk PG 121=true∧(PG.underlying 121).isSome=true:=by and_intros<;>kernel_rfl
theorem g122:szT PG 122=3∧byT PG 122=56∧aggT PG 122=some true∧structOk PG 122=true∧fieldT PG 122 0=some (9,0)∧fieldT PG 122 1=some (42,1)∧fieldT PG 122 2=some (9,2)∧(zeroT PG 122).isSome=true∧zOk PG 122=true∧(PG.underlying 122).isSome=true:=by and_intros<;>kernel_rfl
theorem g123:PG.underlying 123=some (.array 22 122)∧szT PG 123=66∧byT PG 123=1232∧aggT PG 123=some true∧structOk PG 123=false∧(zeroT PG 123).isSome=true∧zOk PG 123=true∧(PG.underlying 123).isSome=true:=by and_intros<;>kernel_rfl
theorem g142:szT PG 142=5∧byT PG 142=64∧aggT PG 142=some true∧structOk PG 142=true∧fieldT PG 142 0=some (9,0)∧fieldT PG 142 1=some (4,1)∧fieldT PG 142 2=some (23,2)∧fieldT PG 142 3=some (140,3)∧fieldT PG 142 4=some (141,4)∧(zeroT PG 142).isSome=true∧zOk PG 142=true∧(PG.underlying 142).isSome=true:=by and_intros<;>kernel_rfl
theorem g143:szT PG 143=5∧byT PG 143=64∧aggT PG 143=some true∧structOk PG 143=true∧fieldT PG 143 0=some (9,0)∧fieldT PG 143 1=some (4,1)∧fieldT PG 143 2=some (23,2)∧fieldT PG 143 3=some (140,3)∧fieldT PG 143 4=some (141,4)∧(zeroT PG 143).isSome=true∧zOk PG 143=true∧(PG.underlying 143).isSome=true:=by and_intros<;>kernel_rfl
theorem g152:PG.underlying 152=some (.slice 143)∧szT PG 152=1∧byT PG 152=24∧aggT PG 152=some false∧structOk PG 152=false∧(zeroT PG 152).isSome=true∧zOk PG 152=true∧(PG.underlying 152).isSome=true∧appT PG #[152,152]=some 143:=by and_intros<;>kernel_rfl
theorem g160:szT PG 160=4∧byT PG 160=40∧aggT PG 160=some true∧structOk PG 160=true∧fieldT PG 160 0=some (17,0)∧fieldT PG 160 1=some (17,1)∧fieldT PG 160 2=some (17,2)∧fieldT PG 160 3=some (9,3)∧(zeroT PG 160).isSome=true∧zOk PG 160=true∧(PG.underlying 160).isSome=true:=by and_intros<;>kernel_rfl
theorem g161:szT PG 161=4∧byT PG 161=40∧aggT PG 161=some true∧structOk PG 161=true∧fieldT PG 161 0=some (17,0)∧fieldT PG 161 1=some (17,1)∧fieldT PG 161 2=some (17,2)∧fieldT PG 161 3=some (9,3)∧(zeroT PG 161).isSome=true∧zOk PG 161=true∧(PG.underlying 161).isSome=true:=by and_intros<;>kernel_rfl
theorem g162:PG.underlying 162=some (.array 0 16)∧szT PG 162=0∧byT PG 162=0∧aggT PG 162=some true∧structOk PG 162=false∧(zeroT PG 162).isSome=true∧zOk PG 162=true∧(PG.underlying 162).isSome=true:=by and_intros<;>kernel_rfl
theorem g163:szT PG 163=0∧byT PG 163=0∧aggT PG 163=some true∧structOk PG 163=true∧fieldT PG 163 0=some (162,0)∧(zeroT PG 163).isSome=true∧zOk PG 163=true∧(PG.underlying 163).isSome=true:=by and_intros<;>kernel_rfl
theorem g164:szT PG 164=0∧byT PG 164=0∧aggT PG 164=some true∧structOk PG 164=true∧fieldT PG 164 0=some (162,0)∧(zeroT PG 164).isSome=true∧zOk PG 164=true∧(PG.underlying 164).isSome=true:=by and_intros<;>kernel_rfl
theorem g166:PG.underlying 166=some (.int .u32)∧szT PG 166=1∧byT PG 166=4∧aggT PG 166=some false∧structOk PG 166=false∧(zeroT PG 166).isSome=true∧zOk PG 166=true∧(PG.underlying 166).isSome=true:=by and_intros<;>kernel_rfl
theorem g167:PG.underlying 167=some (.int .u8)∧szT PG 167=1∧byT PG 167=1∧aggT PG 167=some false∧structOk PG 167=false∧(zeroT PG 167).isSome=true∧zOk PG 167=true∧(PG.underlying 167).isSome=true:=by and_intros<;>kernel_rfl
theorem g168:PG.underlying 168=some (.int .u8)∧szT PG 168=1∧byT PG 168=1∧aggT PG 168=some false∧structOk PG 168=false∧(zeroT PG 168).isSome=true∧zOk PG 168=true∧(PG.underlying 168).isSome=true:=by and_intros<;>kernel_rfl
theorem g170:PG.underlying 170=some (.pointer 5)∧szT PG 170=1∧byT PG 170=8∧aggT PG 170=some false∧structOk PG 170=false∧(zeroT PG 170).isSome=true∧zOk PG 170=true∧(PG.underlying 170).isSome=true:=by and_intros<;>kernel_rfl
theorem g171:PG.underlying 171=some (.int .i32)∧szT PG 171=1∧byT PG 171=4∧aggT PG 171=some false∧structOk PG 171=false∧(zeroT PG 171).isSome=true∧zOk PG 171=true∧(PG.underlying 171).isSome=true:=by and_intros<;>kernel_rfl
theorem g172:PG.underlying 172=some (.int .i32)∧szT PG 172=1∧byT PG 172=4∧aggT PG 172=some false∧structOk PG 172=false∧(zeroT PG 172).isSome=true∧zOk PG 172=true∧(PG.underlying 172).isSome=true:=by and_intros<;>kernel_rfl
theorem g173:szT PG 173=11∧byT PG 173=48∧aggT PG 173=some true∧structOk PG 173=true∧fieldT PG 173 0=some (12,0)∧fieldT PG 173 1=some (12,1)∧fieldT PG 173 2=some (166,2)∧fieldT PG 173 3=some (167,3)∧fieldT PG 173 4=some (5,4)∧fieldT PG 173 5=some (5,5)∧fieldT PG 173 6=some (168,6)∧fieldT PG 173 7=some (169,7)∧fieldT PG 173 8=some (170,8)∧fieldT PG 173 9=some (171,9)∧fieldT PG 173 10=some (172,10)∧(zeroT PG 173).isSome=true∧zOk PG 173=true∧(PG.underlying 173).isSome=true:=by and_intros<;>kernel_rfl
theorem g174:szT PG 174=11∧byT PG 174=48∧aggT PG 174=some true∧structOk PG 174=true∧fieldT PG 174 0=some (12,0)∧fieldT PG 174 1=some (12,1)∧fieldT PG 174 2=some (166,2)∧fieldT PG 174 3=some (167,3)∧fieldT PG 174 4=some (5,4)∧fieldT PG 174 5=some (5,5)∧fieldT PG 174 6=some (168,6)∧fieldT PG 174 7=some (169,7)∧fieldT PG 174 8=some (170,8)∧fieldT PG 174 9=some (171,9)∧fieldT PG 174 10=some (172,10)∧(zeroT PG 174).isSome=true∧zOk PG 174=true∧(PG.underlying 174).isSome=true:=by and_intros<;>kernel_rfl
theorem g175:PG.underlying 175=some (.slice 180)∧szT PG 175=1∧byT PG 175=24∧aggT PG 175=some false∧structOk PG 175=false∧(zeroT PG 175).isSome=true∧zOk PG 175=true∧(PG.underlying 175).isSome=true∧appT PG #[175,175]=some 180:=by and_intros<;>kernel_rfl
theorem g176:szT PG 176=2∧byT PG 176=32∧aggT PG 176=some true∧structOk PG 176=true∧fieldT PG 176 0=some (3,0)∧fieldT PG 176 1=some (175,1)∧(zeroT PG 176).isSome=true∧zOk PG 176=true∧(PG.underlying 176).isSome=true:=by and_intros<;>kernel_rfl
theorem g177:szT PG 177=2∧byT PG 177=32∧aggT PG 177=some true∧structOk PG 177=true∧fieldT PG 177 0=some (3,0)∧fieldT PG 177 1=some (175,1)∧(zeroT PG 177).isSome=true∧zOk PG 177=true∧(PG.underlying 177).isSome=true:=by and_intros<;>kernel_rfl
theorem g179:szT PG 179=2∧byT PG 179=24∧aggT PG 179=some true∧structOk PG 179=true∧fieldT PG 179 0=some (9,0)∧fieldT PG 179 1=some (3,1)∧seqK PG 179=some [1,0]∧(zeroT PG 179).isSome=true∧zOk PG 179=true∧(PG.underlying 179).isSome=true:=by and_intros<;>kernel_rfl
theorem g180:szT PG 180=2∧byT PG 180=24∧aggT PG 180=some true∧structOk PG 180=true∧fieldT PG 180 0=some (9,0)∧fieldT PG 180 1=some (3,1)∧seqK PG 180=some [1,0]∧(zeroT PG 180).isSome=true∧zOk PG 180=true∧(PG.underlying 180).isSome=true:=by and_intros<;>kernel_rfl
theorem g20:isIfT PG 20=true:=by kernel_rfl
def zerL:List (Nat×AV):=[(2,.lit (.int .i64 0)),
  (3,.lit (.int .i64 0)),
  (4,.lit (.bool false)),
  (5,.lit (.int .u8 0)),
  (6,.lit (.int .u8 0)),
  (7,.agg [.lit (.int .i64 0),.lit (.int .i64 0),.lit (.bool false),.lit (.int .u8 0)]),
  (8,.agg [.lit (.int .i64 0),.lit (.int .i64 0),.lit (.bool false),.lit (.int .u8 0)]),
  (9,.lit (.string ByteArray.empty)),
  (10,.lit (.string ByteArray.empty)),
  (11,.lit (.string ByteArray.empty)),
  (12,.lit (.int .u64 0)),
  (13,.agg [.lit (.string ByteArray.empty),.lit (.int .u64 0)]),
  (14,.agg [.lit (.string ByteArray.empty),.lit (.int .u64 0)]),
  (15,.lit (.pointer none)),
  (16,.lit (.pointer none)),
  (17,.lit (.pointer none)),
  (18,.agg [.lit (.pointer none)]),
  (19,.agg [.lit (.pointer none)]),
  (21,.lit (.int .i32 0)),
  (22,.sl true 3 []),
  (23,.sl true 1 []),
  (30,.agg [.lit (.string ByteArray.empty),.sl true 1 [],.sl true 1 []]),
  (31,.agg [.lit (.string ByteArray.empty),.sl true 1 [],.sl true 1 []]),
  (33,.lit (.int .i64 0)),
  (39,.agg [.sl true 1 [],.sl true 1 []]),
  (42,.sl true 1 []),
  (49,.sl true 2 []),
  (50,.sl true 1 []),
  (51,.agg [.lit (.string ByteArray.empty),.sl true 2 []]),
  (52,.agg [.lit (.string ByteArray.empty),.sl true 2 []]),
  (53,.agg [.lit (.string ByteArray.empty),.lit (.string ByteArray.empty),.sl true 2 []]),
  (54,.agg [.lit (.string ByteArray.empty),.lit (.string ByteArray.empty),.sl true 2 []]),
  (55,.agg [.lit (.string ByteArray.empty),.sl true 1 [],.sl true 2 [],.sl true 1 [],.sl true 2 [],.lit (.int .i64 0),.lit (.string ByteArray.empty),.sl true 1 [],.sl true 1 [],.sl true 3 [],.lit (.int .i64 0),.lit (.string ByteArray.empty),.lit (.string ByteArray.empty),.sl true 2 []]),
  (56,.agg [.lit (.string ByteArray.empty),.sl true 1 [],.sl true 2 [],.sl true 1 [],.sl true 2 [],.lit (.int .i64 0),.lit (.string ByteArray.empty),.sl true 1 [],.sl true 1 [],.sl true 3 [],.lit (.int .i64 0),.lit (.string ByteArray.empty),.lit (.string ByteArray.empty),.sl true 2 []]),
  (57,.agg [.lit (.string ByteArray.empty),.sl true 1 [],.sl true 2 [],.sl true 1 [],.sl true 2 [],.lit (.int .i64 0),.lit (.string ByteArray.empty),.sl true 1 [],.sl true 1 [],.sl true 3 [],.lit (.int .i64 0),.lit (.string ByteArray.empty),.lit (.string ByteArray.empty),.sl true 2 [],.sl true 1 [],.sl true 1 []]),
  (58,.agg [.lit (.string ByteArray.empty),.sl true 1 [],.sl true 2 [],.sl true 1 [],.sl true 2 [],.lit (.int .i64 0),.lit (.string ByteArray.empty),.sl true 1 [],.sl true 1 [],.sl true 3 [],.lit (.int .i64 0),.lit (.string ByteArray.empty),.lit (.string ByteArray.empty),.sl true 2 [],.sl true 1 [],.sl true 1 []]),
  (59,.sl true 3 []),
  (69,.agg [.lit (.int .i64 0),.lit (.int .i64 0),.lit (.int .i64 0)]),
  (70,.agg [.sl true 1 [],.lit (.int .i64 0),.lit (.int .i64 0),.lit (.int .i64 0)]),
  (71,.agg [.sl true 1 [],.lit (.int .i64 0),.lit (.int .i64 0),.lit (.int .i64 0)]),
  (77,.agg [.lit (.string ByteArray.empty),.lit (.int .i64 0),.sl true 1 []]),
  (78,.agg [.lit (.string ByteArray.empty),.lit (.int .i64 0),.sl true 1 []]),
  (91,.agg [.lit .nilFunc,.lit .nilFunc,.lit .nilFunc]),
  (92,.agg [.lit .nilFunc,.lit .nilFunc,.lit .nilFunc]),
  (111,.sl true 3 []),
  (121,.agg [.lit (.string ByteArray.empty),.sl true 1 [],.lit (.string ByteArray.empty)]),
  (122,.agg [.lit (.string ByteArray.empty),.sl true 1 [],.lit (.string ByteArray.empty)]),
  (123,.agg [.lit (.string ByteArray.empty),.sl true 1 [],.lit (.string ByteArray.empty),.lit (.string ByteArray.empty),.sl true 1 [],.lit (.string ByteArray.empty),.lit (.string ByteArray.empty),.sl true 1 [],.lit (.string ByteArray.empty),.lit (.string ByteArray.empty),.sl true 1 [],.lit (.string ByteArray.empty),.lit (.string ByteArray.empty),.sl true 1 [],.lit (.string ByteArray.empty),.lit (.string ByteArray.empty),.sl true 1 [],.lit (.string ByteArray.empty),.lit (.string ByteArray.empty),.sl true 1 [],.lit (.string ByteArray.empty),.lit (.string ByteArray.empty),.sl true 1 [],.lit (.string ByteArray.empty),.lit (.string ByteArray.empty),.sl true 1 [],.lit (.string ByteArray.empty),.lit (.string ByteArray.empty),.sl true 1 [],.lit (.string ByteArray.empty),.lit (.string ByteArray.empty),.sl true 1 [],.lit (.string ByteArray.empty),.lit (.string ByteArray.empty),.sl true 1 [],.lit (.string ByteArray.empty),.lit (.string ByteArray.empty),.sl true 1 [],.lit (.string ByteArray.empty),.lit (.string ByteArray.empty),.sl true 1 [],.lit (.string ByteArray.empty),.lit (.string ByteArray.empty),.sl true 1 [],.lit (.string ByteArray.empty),.lit (.string ByteArray.empty),.sl true 1 [],.lit (.string ByteArray.empty),.lit (.string ByteArray.empty),.sl true 1 [],.lit (.string ByteArray.empty),.lit (.string ByteArray.empty),.sl true 1 [],.lit (.string ByteArray.empty),.lit (.string ByteArray.empty),.sl true 1 [],.lit (.string ByteArray.empty),.lit (.string ByteArray.empty),.sl true 1 [],.lit (.string ByteArray.empty),.lit (.string ByteArray.empty),.sl true 1 [],.lit (.string ByteArray.empty),.lit (.string ByteArray.empty),.sl true 1 [],.lit (.string ByteArray.empty)]),
  (142,.agg [.lit (.string ByteArray.empty),.lit (.bool false),.sl true 1 [],.lit .nilFunc,.lit .nilFunc]),
  (143,.agg [.lit (.string ByteArray.empty),.lit (.bool false),.sl true 1 [],.lit .nilFunc,.lit .nilFunc]),
  (152,.sl true 5 []),
  (160,.agg [.lit (.pointer none),.lit (.pointer none),.lit (.pointer none),.lit (.string ByteArray.empty)]),
  (161,.agg [.lit (.pointer none),.lit (.pointer none),.lit (.pointer none),.lit (.string ByteArray.empty)]),
  (166,.lit (.int .u32 0)),
  (167,.lit (.int .u8 0)),
  (168,.lit (.int .u8 0)),
  (170,.lit (.pointer none)),
  (171,.lit (.int .i32 0)),
  (172,.lit (.int .i32 0)),
  (173,.agg [.lit (.int .u64 0),.lit (.int .u64 0),.lit (.int .u32 0),.lit (.int .u8 0),.lit (.int .u8 0),.lit (.int .u8 0),.lit (.int .u8 0),.lit .nilFunc,.lit (.pointer none),.lit (.int .i32 0),.lit (.int .i32 0)]),
  (174,.agg [.lit (.int .u64 0),.lit (.int .u64 0),.lit (.int .u32 0),.lit (.int .u8 0),.lit (.int .u8 0),.lit (.int .u8 0),.lit (.int .u8 0),.lit .nilFunc,.lit (.pointer none),.lit (.int .i32 0),.lit (.int .i32 0)]),
  (175,.sl true 2 []),
  (176,.agg [.lit (.int .i64 0),.sl true 2 []]),
  (177,.agg [.lit (.int .i64 0),.sl true 2 []]),
  (179,.agg [.lit (.string ByteArray.empty),.lit (.int .i64 0)]),
  (180,.agg [.lit (.string ByteArray.empty),.lit (.int .i64 0)])]
def zer (t:TypeId):AV:=lookZ zerL t
theorem zr2:ZerOk Tryz.prog (2,.lit (.int .i64 0)):=fun v h=>by
  rw [show zeroT Tryz.prog 2=some (.int .i64 0) from by kernel_rfl] at h;cases h;exact .lit _
theorem zv2:zer 2= .lit (.int .i64 0):=rfl
theorem zr3:ZerOk Tryz.prog (3,.lit (.int .i64 0)):=fun v h=>by
  rw [show zeroT Tryz.prog 3=some (.int .i64 0) from by kernel_rfl] at h;cases h;exact .lit _
theorem zv3:zer 3= .lit (.int .i64 0):=rfl
theorem zr4:ZerOk Tryz.prog (4,.lit (.bool false)):=fun v h=>by
  rw [show zeroT Tryz.prog 4=some (.bool false) from by kernel_rfl] at h;cases h;exact .lit _
theorem zv4:zer 4= .lit (.bool false):=rfl
theorem zr5:ZerOk Tryz.prog (5,.lit (.int .u8 0)):=fun v h=>by
  rw [show zeroT Tryz.prog 5=some (.int .u8 0) from by kernel_rfl] at h;cases h;exact .lit _
theorem zv5:zer 5= .lit (.int .u8 0):=rfl
theorem zr6:ZerOk Tryz.prog (6,.lit (.int .u8 0)):=fun v h=>by
  rw [show zeroT Tryz.prog 6=some (.int .u8 0) from by kernel_rfl] at h;cases h;exact .lit _
theorem zv6:zer 6= .lit (.int .u8 0):=rfl
theorem zr7:ZerOk Tryz.prog (7,.agg [.lit (.int .i64 0),.lit (.int .i64 0),.lit (.bool false),.lit (.int .u8 0)]):=fun v h=>by
  rw [show zeroT Tryz.prog 7=some (.agg #[(.int .i64 0),(.int .i64 0),(.bool false),(.int .u8 0)]) from by kernel_rfl] at h;cases h
  exact zr_agg _ _ (zl_cons (.lit _) rfl (zl_cons (.lit _) rfl (zl_cons (.lit _) rfl (zl_cons (.lit _) rfl (zl_nil)))))
theorem zv7:zer 7= .agg [.lit (.int .i64 0),.lit (.int .i64 0),.lit (.bool false),.lit (.int .u8 0)]:=rfl
theorem zr8:ZerOk Tryz.prog (8,.agg [.lit (.int .i64 0),.lit (.int .i64 0),.lit (.bool false),.lit (.int .u8 0)]):=fun v h=>by
  rw [show zeroT Tryz.prog 8=some (.agg #[(.int .i64 0),(.int .i64 0),(.bool false),(.int .u8 0)]) from by kernel_rfl] at h;cases h
  exact zr_agg _ _ (zl_cons (.lit _) rfl (zl_cons (.lit _) rfl (zl_cons (.lit _) rfl (zl_cons (.lit _) rfl (zl_nil)))))
theorem zv8:zer 8= .agg [.lit (.int .i64 0),.lit (.int .i64 0),.lit (.bool false),.lit (.int .u8 0)]:=rfl
theorem zr9:ZerOk Tryz.prog (9,.lit (.string ByteArray.empty)):=fun v h=>by
  rw [show zeroT Tryz.prog 9=some (.string ByteArray.empty) from by kernel_rfl] at h;cases h;exact .lit _
theorem zv9:zer 9= .lit (.string ByteArray.empty):=rfl
theorem zr10:ZerOk Tryz.prog (10,.lit (.string ByteArray.empty)):=fun v h=>by
  rw [show zeroT Tryz.prog 10=some (.string ByteArray.empty) from by kernel_rfl] at h;cases h;exact .lit _
theorem zv10:zer 10= .lit (.string ByteArray.empty):=rfl
theorem zr11:ZerOk Tryz.prog (11,.lit (.string ByteArray.empty)):=fun v h=>by
  rw [show zeroT Tryz.prog 11=some (.string ByteArray.empty) from by kernel_rfl] at h;cases h;exact .lit _
theorem zv11:zer 11= .lit (.string ByteArray.empty):=rfl
theorem zr12:ZerOk Tryz.prog (12,.lit (.int .u64 0)):=fun v h=>by
  rw [show zeroT Tryz.prog 12=some (.int .u64 0) from by kernel_rfl] at h;cases h;exact .lit _
theorem zv12:zer 12= .lit (.int .u64 0):=rfl
theorem zr13:ZerOk Tryz.prog (13,.agg [.lit (.string ByteArray.empty),.lit (.int .u64 0)]):=fun v h=>by
  rw [show zeroT Tryz.prog 13=some (.agg #[(.string ByteArray.empty),(.int .u64 0)]) from by kernel_rfl] at h;cases h
  exact zr_agg _ _ (zl_cons (.lit _) rfl (zl_cons (.lit _) rfl (zl_nil)))
theorem zv13:zer 13= .agg [.lit (.string ByteArray.empty),.lit (.int .u64 0)]:=rfl
theorem zr14:ZerOk Tryz.prog (14,.agg [.lit (.string ByteArray.empty),.lit (.int .u64 0)]):=fun v h=>by
  rw [show zeroT Tryz.prog 14=some (.agg #[(.string ByteArray.empty),(.int .u64 0)]) from by kernel_rfl] at h;cases h
  exact zr_agg _ _ (zl_cons (.lit _) rfl (zl_cons (.lit _) rfl (zl_nil)))
theorem zv14:zer 14= .agg [.lit (.string ByteArray.empty),.lit (.int .u64 0)]:=rfl
theorem zr15:ZerOk Tryz.prog (15,.lit (.pointer none)):=fun v h=>by
  rw [show zeroT Tryz.prog 15=some (.pointer none) from by kernel_rfl] at h;cases h;exact .lit _
theorem zv15:zer 15= .lit (.pointer none):=rfl
theorem zr16:ZerOk Tryz.prog (16,.lit (.pointer none)):=fun v h=>by
  rw [show zeroT Tryz.prog 16=some (.pointer none) from by kernel_rfl] at h;cases h;exact .lit _
theorem zv16:zer 16= .lit (.pointer none):=rfl
theorem zr17:ZerOk Tryz.prog (17,.lit (.pointer none)):=fun v h=>by
  rw [show zeroT Tryz.prog 17=some (.pointer none) from by kernel_rfl] at h;cases h;exact .lit _
theorem zv17:zer 17= .lit (.pointer none):=rfl
theorem zr18:ZerOk Tryz.prog (18,.agg [.lit (.pointer none)]):=fun v h=>by
  rw [show zeroT Tryz.prog 18=some (.agg #[(.pointer none)]) from by kernel_rfl] at h;cases h
  exact zr_agg _ _ (zl_cons (.lit _) rfl (zl_nil))
theorem zv18:zer 18= .agg [.lit (.pointer none)]:=rfl
theorem zr19:ZerOk Tryz.prog (19,.agg [.lit (.pointer none)]):=fun v h=>by
  rw [show zeroT Tryz.prog 19=some (.agg #[(.pointer none)]) from by kernel_rfl] at h;cases h
  exact zr_agg _ _ (zl_cons (.lit _) rfl (zl_nil))
theorem zv19:zer 19= .agg [.lit (.pointer none)]:=rfl
theorem zr21:ZerOk Tryz.prog (21,.lit (.int .i32 0)):=fun v h=>by
  rw [show zeroT Tryz.prog 21=some (.int .i32 0) from by kernel_rfl] at h;cases h;exact .lit _
theorem zv21:zer 21= .lit (.int .i32 0):=rfl
theorem zr22:ZerOk Tryz.prog (22,.sl true 3 []):=fun v h=>by
  rw [show zeroT Tryz.prog 22=some (.slice none 0 0) from by kernel_rfl] at h;cases h;exact .nil _ _ _
theorem zv22:zer 22= .sl true 3 []:=rfl
theorem zr23:ZerOk Tryz.prog (23,.sl true 1 []):=fun v h=>by
  rw [show zeroT Tryz.prog 23=some (.slice none 0 0) from by kernel_rfl] at h;cases h;exact .nil _ _ _
theorem zv23:zer 23= .sl true 1 []:=rfl
theorem zr30:ZerOk Tryz.prog (30,.agg [.lit (.string ByteArray.empty),.sl true 1 [],.sl true 1 []]):=fun v h=>by
  rw [show zeroT Tryz.prog 30=some (.agg #[(.string ByteArray.empty),(.slice none 0 0),(.slice none 0 0)]) from by kernel_rfl] at h;cases h
  exact zr_agg _ _ (zl_cons (.lit _) rfl (zl_cons (.nil _ _ _) rfl (zl_cons (.nil _ _ _) rfl (zl_nil))))
theorem zv30:zer 30= .agg [.lit (.string ByteArray.empty),.sl true 1 [],.sl true 1 []]:=rfl
theorem zr31:ZerOk Tryz.prog (31,.agg [.lit (.string ByteArray.empty),.sl true 1 [],.sl true 1 []]):=fun v h=>by
  rw [show zeroT Tryz.prog 31=some (.agg #[(.string ByteArray.empty),(.slice none 0 0),(.slice none 0 0)]) from by kernel_rfl] at h;cases h
  exact zr_agg _ _ (zl_cons (.lit _) rfl (zl_cons (.nil _ _ _) rfl (zl_cons (.nil _ _ _) rfl (zl_nil))))
theorem zv31:zer 31= .agg [.lit (.string ByteArray.empty),.sl true 1 [],.sl true 1 []]:=rfl
theorem zr33:ZerOk Tryz.prog (33,.lit (.int .i64 0)):=fun v h=>by
  rw [show zeroT Tryz.prog 33=some (.int .i64 0) from by kernel_rfl] at h;cases h;exact .lit _
theorem zv33:zer 33= .lit (.int .i64 0):=rfl
theorem zr39:ZerOk Tryz.prog (39,.agg [.sl true 1 [],.sl true 1 []]):=fun v h=>by
  rw [show zeroT Tryz.prog 39=some (.agg #[(.slice none 0 0),(.slice none 0 0)]) from by kernel_rfl] at h;cases h
  exact zr_agg _ _ (zl_cons (.nil _ _ _) rfl (zl_cons (.nil _ _ _) rfl (zl_nil)))
theorem zv39:zer 39= .agg [.sl true 1 [],.sl true 1 []]:=rfl
theorem zr42:ZerOk Tryz.prog (42,.sl true 1 []):=fun v h=>by
  rw [show zeroT Tryz.prog 42=some (.slice none 0 0) from by kernel_rfl] at h;cases h;exact .nil _ _ _
theorem zv42:zer 42= .sl true 1 []:=rfl
theorem zr49:ZerOk Tryz.prog (49,.sl true 2 []):=fun v h=>by
  rw [show zeroT Tryz.prog 49=some (.slice none 0 0) from by kernel_rfl] at h;cases h;exact .nil _ _ _
theorem zv49:zer 49= .sl true 2 []:=rfl
theorem zr50:ZerOk Tryz.prog (50,.sl true 1 []):=fun v h=>by
  rw [show zeroT Tryz.prog 50=some (.slice none 0 0) from by kernel_rfl] at h;cases h;exact .nil _ _ _
theorem zv50:zer 50= .sl true 1 []:=rfl
theorem zr51:ZerOk Tryz.prog (51,.agg [.lit (.string ByteArray.empty),.sl true 2 []]):=fun v h=>by
  rw [show zeroT Tryz.prog 51=some (.agg #[(.string ByteArray.empty),(.slice none 0 0)]) from by kernel_rfl] at h;cases h
  exact zr_agg _ _ (zl_cons (.lit _) rfl (zl_cons (.nil _ _ _) rfl (zl_nil)))
theorem zv51:zer 51= .agg [.lit (.string ByteArray.empty),.sl true 2 []]:=rfl
theorem zr52:ZerOk Tryz.prog (52,.agg [.lit (.string ByteArray.empty),.sl true 2 []]):=fun v h=>by
  rw [show zeroT Tryz.prog 52=some (.agg #[(.string ByteArray.empty),(.slice none 0 0)]) from by kernel_rfl] at h;cases h
  exact zr_agg _ _ (zl_cons (.lit _) rfl (zl_cons (.nil _ _ _) rfl (zl_nil)))
theorem zv52:zer 52= .agg [.lit (.string ByteArray.empty),.sl true 2 []]:=rfl
theorem zr53:ZerOk Tryz.prog (53,.agg [.lit (.string ByteArray.empty),.lit (.string ByteArray.empty),.sl true 2 []]):=fun v h=>by
  rw [show zeroT Tryz.prog 53=some (.agg #[(.string ByteArray.empty),(.string ByteArray.empty),(.slice none 0 0)]) from by kernel_rfl] at h;cases h
  exact zr_agg _ _ (zl_cons (.lit _) rfl (zl_cons (.lit _) rfl (zl_cons (.nil _ _ _) rfl (zl_nil))))
theorem zv53:zer 53= .agg [.lit (.string ByteArray.empty),.lit (.string ByteArray.empty),.sl true 2 []]:=rfl
theorem zr54:ZerOk Tryz.prog (54,.agg [.lit (.string ByteArray.empty),.lit (.string ByteArray.empty),.sl true 2 []]):=fun v h=>by
  rw [show zeroT Tryz.prog 54=some (.agg #[(.string ByteArray.empty),(.string ByteArray.empty),(.slice none 0 0)]) from by kernel_rfl] at h;cases h
  exact zr_agg _ _ (zl_cons (.lit _) rfl (zl_cons (.lit _) rfl (zl_cons (.nil _ _ _) rfl (zl_nil))))
theorem zv54:zer 54= .agg [.lit (.string ByteArray.empty),.lit (.string ByteArray.empty),.sl true 2 []]:=rfl
theorem zr55:ZerOk Tryz.prog (55,.agg [.lit (.string ByteArray.empty),.sl true 1 [],.sl true 2 [],.sl true 1 [],.sl true 2 [],.lit (.int .i64 0),.lit (.string ByteArray.empty),.sl true 1 [],.sl true 1 [],.sl true 3 [],.lit (.int .i64 0),.lit (.string ByteArray.empty),.lit (.string ByteArray.empty),.sl true 2 []]):=fun v h=>by
  rw [show zeroT Tryz.prog 55=some (.agg #[(.string ByteArray.empty),(.slice none 0 0),(.slice none 0 0),(.slice none 0 0),(.slice none 0 0),(.int .i64 0),(.string ByteArray.empty),(.slice none 0 0),(.slice none 0 0),(.slice none 0 0),(.int .i64 0),(.string ByteArray.empty),(.string ByteArray.empty),(.slice none 0 0)]) from by kernel_rfl] at h;cases h
  exact zr_agg _ _ (zl_cons (.lit _) rfl (zl_cons (.nil _ _ _) rfl (zl_cons (.nil _ _ _) rfl (zl_cons (.nil _ _ _) rfl (zl_cons (.nil _ _ _) rfl (zl_cons (.lit _) rfl (zl_cons (.lit _) rfl (zl_cons (.nil _ _ _) rfl (zl_cons (.nil _ _ _) rfl (zl_cons (.nil _ _ _) rfl (zl_cons (.lit _) rfl (zl_cons (.lit _) rfl (zl_cons (.lit _) rfl (zl_cons (.nil _ _ _) rfl (zl_nil)))))))))))))))
theorem zv55:zer 55= .agg [.lit (.string ByteArray.empty),.sl true 1 [],.sl true 2 [],.sl true 1 [],.sl true 2 [],.lit (.int .i64 0),.lit (.string ByteArray.empty),.sl true 1 [],.sl true 1 [],.sl true 3 [],.lit (.int .i64 0),.lit (.string ByteArray.empty),.lit (.string ByteArray.empty),.sl true 2 []]:=rfl
theorem zr56:ZerOk Tryz.prog (56,.agg [.lit (.string ByteArray.empty),.sl true 1 [],.sl true 2 [],.sl true 1 [],.sl true 2 [],.lit (.int .i64 0),.lit (.string ByteArray.empty),.sl true 1 [],.sl true 1 [],.sl true 3 [],.lit (.int .i64 0),.lit (.string ByteArray.empty),.lit (.string ByteArray.empty),.sl true 2 []]):=fun v h=>by
  rw [show zeroT Tryz.prog 56=some (.agg #[(.string ByteArray.empty),(.slice none 0 0),(.slice none 0 0),(.slice none 0 0),(.slice none 0 0),(.int .i64 0),(.string ByteArray.empty),(.slice none 0 0),(.slice none 0 0),(.slice none 0 0),(.int .i64 0),(.string ByteArray.empty),(.string ByteArray.empty),(.slice none 0 0)]) from by kernel_rfl] at h;cases h
  exact zr_agg _ _ (zl_cons (.lit _) rfl (zl_cons (.nil _ _ _) rfl (zl_cons (.nil _ _ _) rfl (zl_cons (.nil _ _ _) rfl (zl_cons (.nil _ _ _) rfl (zl_cons (.lit _) rfl (zl_cons (.lit _) rfl (zl_cons (.nil _ _ _) rfl (zl_cons (.nil _ _ _) rfl (zl_cons (.nil _ _ _) rfl (zl_cons (.lit _) rfl (zl_cons (.lit _) rfl (zl_cons (.lit _) rfl (zl_cons (.nil _ _ _) rfl (zl_nil)))))))))))))))
theorem zv56:zer 56= .agg [.lit (.string ByteArray.empty),.sl true 1 [],.sl true 2 [],.sl true 1 [],.sl true 2 [],.lit (.int .i64 0),.lit (.string ByteArray.empty),.sl true 1 [],.sl true 1 [],.sl true 3 [],.lit (.int .i64 0),.lit (.string ByteArray.empty),.lit (.string ByteArray.empty),.sl true 2 []]:=rfl
theorem zr57:ZerOk Tryz.prog (57,.agg [.lit (.string ByteArray.empty),.sl true 1 [],.sl true 2 [],.sl true 1 [],.sl true 2 [],.lit (.int .i64 0),.lit (.string ByteArray.empty),.sl true 1 [],.sl true 1 [],.sl true 3 [],.lit (.int .i64 0),.lit (.string ByteArray.empty),.lit (.string ByteArray.empty),.sl true 2 [],.sl true 1 [],.sl true 1 []]):=fun v h=>by
  rw [show zeroT Tryz.prog 57=some (.agg #[(.string ByteArray.empty),(.slice none 0 0),(.slice none 0 0),(.slice none 0 0),(.slice none 0 0),(.int .i64 0),(.string ByteArray.empty),(.slice none 0 0),(.slice none 0 0),(.slice none 0 0),(.int .i64 0),(.string ByteArray.empty),(.string ByteArray.empty),(.slice none 0 0),(.slice none 0 0),(.slice none 0 0)]) from by kernel_rfl] at h;cases h
  exact zr_agg _ _ (zl_cons (.lit _) rfl (zl_cons (.nil _ _ _) rfl (zl_cons (.nil _ _ _) rfl (zl_cons (.nil _ _ _) rfl (zl_cons (.nil _ _ _) rfl (zl_cons (.lit _) rfl (zl_cons (.lit _) rfl (zl_cons (.nil _ _ _) rfl (zl_cons (.nil _ _ _) rfl (zl_cons (.nil _ _ _) rfl (zl_cons (.lit _) rfl (zl_cons (.lit _) rfl (zl_cons (.lit _) rfl (zl_cons (.nil _ _ _) rfl (zl_cons (.nil _ _ _) rfl (zl_cons (.nil _ _ _) rfl (zl_nil)))))))))))))))))
theorem zv57:zer 57= .agg [.lit (.string ByteArray.empty),.sl true 1 [],.sl true 2 [],.sl true 1 [],.sl true 2 [],.lit (.int .i64 0),.lit (.string ByteArray.empty),.sl true 1 [],.sl true 1 [],.sl true 3 [],.lit (.int .i64 0),.lit (.string ByteArray.empty),.lit (.string ByteArray.empty),.sl true 2 [],.sl true 1 [],.sl true 1 []]:=rfl
theorem zr58:ZerOk Tryz.prog (58,.agg [.lit (.string ByteArray.empty),.sl true 1 [],.sl true 2 [],.sl true 1 [],.sl true 2 [],.lit (.int .i64 0),.lit (.string ByteArray.empty),.sl true 1 [],.sl true 1 [],.sl true 3 [],.lit (.int .i64 0),.lit (.string ByteArray.empty),.lit (.string ByteArray.empty),.sl true 2 [],.sl true 1 [],.sl true 1 []]):=fun v h=>by
  rw [show zeroT Tryz.prog 58=some (.agg #[(.string ByteArray.empty),(.slice none 0 0),(.slice none 0 0),(.slice none 0 0),(.slice none 0 0),(.int .i64 0),(.string ByteArray.empty),(.slice none 0 0),(.slice none 0 0),(.slice none 0 0),(.int .i64 0),(.string ByteArray.empty),(.string ByteArray.empty),(.slice none 0 0),(.slice none 0 0),(.slice none 0 0)]) from by kernel_rfl] at h;cases h
  exact zr_agg _ _ (zl_cons (.lit _) rfl (zl_cons (.nil _ _ _) rfl (zl_cons (.nil _ _ _) rfl (zl_cons (.nil _ _ _) rfl (zl_cons (.nil _ _ _) rfl (zl_cons (.lit _) rfl (zl_cons (.lit _) rfl (zl_cons (.nil _ _ _) rfl (zl_cons (.nil _ _ _) rfl (zl_cons (.nil _ _ _) rfl (zl_cons (.lit _) rfl (zl_cons (.lit _) rfl (zl_cons (.lit _) rfl (zl_cons (.nil _ _ _) rfl (zl_cons (.nil _ _ _) rfl (zl_cons (.nil _ _ _) rfl (zl_nil)))))))))))))))))
theorem zv58:zer 58= .agg [.lit (.string ByteArray.empty),.sl true 1 [],.sl true 2 [],.sl true 1 [],.sl true 2 [],.lit (.int .i64 0),.lit (.string ByteArray.empty),.sl true 1 [],.sl true 1 [],.sl true 3 [],.lit (.int .i64 0),.lit (.string ByteArray.empty),.lit (.string ByteArray.empty),.sl true 2 [],.sl true 1 [],.sl true 1 []]:=rfl
theorem zr59:ZerOk Tryz.prog (59,.sl true 3 []):=fun v h=>by
  rw [show zeroT Tryz.prog 59=some (.slice none 0 0) from by kernel_rfl] at h;cases h;exact .nil _ _ _
theorem zv59:zer 59= .sl true 3 []:=rfl
theorem zr69:ZerOk Tryz.prog (69,.agg [.lit (.int .i64 0),.lit (.int .i64 0),.lit (.int .i64 0)]):=fun v h=>by
  rw [show zeroT Tryz.prog 69=some (.agg #[(.int .i64 0),(.int .i64 0),(.int .i64 0)]) from by kernel_rfl] at h;cases h
  exact zr_agg _ _ (zl_cons (.lit _) rfl (zl_cons (.lit _) rfl (zl_cons (.lit _) rfl (zl_nil))))
theorem zv69:zer 69= .agg [.lit (.int .i64 0),.lit (.int .i64 0),.lit (.int .i64 0)]:=rfl
theorem zr70:ZerOk Tryz.prog (70,.agg [.sl true 1 [],.lit (.int .i64 0),.lit (.int .i64 0),.lit (.int .i64 0)]):=fun v h=>by
  rw [show zeroT Tryz.prog 70=some (.agg #[(.slice none 0 0),(.int .i64 0),(.int .i64 0),(.int .i64 0)]) from by kernel_rfl] at h;cases h
  exact zr_agg _ _ (zl_cons (.nil _ _ _) rfl (zl_cons (.lit _) rfl (zl_cons (.lit _) rfl (zl_cons (.lit _) rfl (zl_nil)))))
theorem zv70:zer 70= .agg [.sl true 1 [],.lit (.int .i64 0),.lit (.int .i64 0),.lit (.int .i64 0)]:=rfl
theorem zr71:ZerOk Tryz.prog (71,.agg [.sl true 1 [],.lit (.int .i64 0),.lit (.int .i64 0),.lit (.int .i64 0)]):=fun v h=>by
  rw [show zeroT Tryz.prog 71=some (.agg #[(.slice none 0 0),(.int .i64 0),(.int .i64 0),(.int .i64 0)]) from by kernel_rfl] at h;cases h
  exact zr_agg _ _ (zl_cons (.nil _ _ _) rfl (zl_cons (.lit _) rfl (zl_cons (.lit _) rfl (zl_cons (.lit _) rfl (zl_nil)))))
theorem zv71:zer 71= .agg [.sl true 1 [],.lit (.int .i64 0),.lit (.int .i64 0),.lit (.int .i64 0)]:=rfl
theorem zr77:ZerOk Tryz.prog (77,.agg [.lit (.string ByteArray.empty),.lit (.int .i64 0),.sl true 1 []]):=fun v h=>by
  rw [show zeroT Tryz.prog 77=some (.agg #[(.string ByteArray.empty),(.int .i64 0),(.slice none 0 0)]) from by kernel_rfl] at h;cases h
  exact zr_agg _ _ (zl_cons (.lit _) rfl (zl_cons (.lit _) rfl (zl_cons (.nil _ _ _) rfl (zl_nil))))
theorem zv77:zer 77= .agg [.lit (.string ByteArray.empty),.lit (.int .i64 0),.sl true 1 []]:=rfl
theorem zr78:ZerOk Tryz.prog (78,.agg [.lit (.string ByteArray.empty),.lit (.int .i64 0),.sl true 1 []]):=fun v h=>by
  rw [show zeroT Tryz.prog 78=some (.agg #[(.string ByteArray.empty),(.int .i64 0),(.slice none 0 0)]) from by kernel_rfl] at h;cases h
  exact zr_agg _ _ (zl_cons (.lit _) rfl (zl_cons (.lit _) rfl (zl_cons (.nil _ _ _) rfl (zl_nil))))
theorem zv78:zer 78= .agg [.lit (.string ByteArray.empty),.lit (.int .i64 0),.sl true 1 []]:=rfl
theorem zr91:ZerOk Tryz.prog (91,.agg [.lit .nilFunc,.lit .nilFunc,.lit .nilFunc]):=fun v h=>by
  rw [show zeroT Tryz.prog 91=some (.agg #[.nilFunc,.nilFunc,.nilFunc]) from by kernel_rfl] at h;cases h
  exact zr_agg _ _ (zl_cons (.lit _) rfl (zl_cons (.lit _) rfl (zl_cons (.lit _) rfl (zl_nil))))
theorem zv91:zer 91= .agg [.lit .nilFunc,.lit .nilFunc,.lit .nilFunc]:=rfl
theorem zr92:ZerOk Tryz.prog (92,.agg [.lit .nilFunc,.lit .nilFunc,.lit .nilFunc]):=fun v h=>by
  rw [show zeroT Tryz.prog 92=some (.agg #[.nilFunc,.nilFunc,.nilFunc]) from by kernel_rfl] at h;cases h
  exact zr_agg _ _ (zl_cons (.lit _) rfl (zl_cons (.lit _) rfl (zl_cons (.lit _) rfl (zl_nil))))
theorem zv92:zer 92= .agg [.lit .nilFunc,.lit .nilFunc,.lit .nilFunc]:=rfl
theorem zr111:ZerOk Tryz.prog (111,.sl true 3 []):=fun v h=>by
  rw [show zeroT Tryz.prog 111=some (.slice none 0 0) from by kernel_rfl] at h;cases h;exact .nil _ _ _
theorem zv111:zer 111= .sl true 3 []:=rfl
theorem zr121:ZerOk Tryz.prog (121,.agg [.lit (.string ByteArray.empty),.sl true 1 [],.lit (.string ByteArray.empty)]):=fun v h=>by
  rw [show zeroT Tryz.prog 121=some (.agg #[(.string ByteArray.empty),(.slice none 0 0),(.string ByteArray.empty)]) from by kernel_rfl] at h;cases h
  exact zr_agg _ _ (zl_cons (.lit _) rfl (zl_cons (.nil _ _ _) rfl (zl_cons (.lit _) rfl (zl_nil))))
theorem zv121:zer 121= .agg [.lit (.string ByteArray.empty),.sl true 1 [],.lit (.string ByteArray.empty)]:=rfl
theorem zr122:ZerOk Tryz.prog (122,.agg [.lit (.string ByteArray.empty),.sl true 1 [],.lit (.string ByteArray.empty)]):=fun v h=>by
  rw [show zeroT Tryz.prog 122=some (.agg #[(.string ByteArray.empty),(.slice none 0 0),(.string ByteArray.empty)]) from by kernel_rfl] at h;cases h
  exact zr_agg _ _ (zl_cons (.lit _) rfl (zl_cons (.nil _ _ _) rfl (zl_cons (.lit _) rfl (zl_nil))))
theorem zv122:zer 122= .agg [.lit (.string ByteArray.empty),.sl true 1 [],.lit (.string ByteArray.empty)]:=rfl
theorem zr123:ZerOk Tryz.prog (123,.agg [.lit (.string ByteArray.empty),.sl true 1 [],.lit (.string ByteArray.empty),.lit (.string ByteArray.empty),.sl true 1 [],.lit (.string ByteArray.empty),.lit (.string ByteArray.empty),.sl true 1 [],.lit (.string ByteArray.empty),.lit (.string ByteArray.empty),.sl true 1 [],.lit (.string ByteArray.empty),.lit (.string ByteArray.empty),.sl true 1 [],.lit (.string ByteArray.empty),.lit (.string ByteArray.empty),.sl true 1 [],.lit (.string ByteArray.empty),.lit (.string ByteArray.empty),.sl true 1 [],.lit (.string ByteArray.empty),.lit (.string ByteArray.empty),.sl true 1 [],.lit (.string ByteArray.empty),.lit (.string ByteArray.empty),.sl true 1 [],.lit (.string ByteArray.empty),.lit (.string ByteArray.empty),.sl true 1 [],.lit (.string ByteArray.empty),.lit (.string ByteArray.empty),.sl true 1 [],.lit (.string ByteArray.empty),.lit (.string ByteArray.empty),.sl true 1 [],.lit (.string ByteArray.empty),.lit (.string ByteArray.empty),.sl true 1 [],.lit (.string ByteArray.empty),.lit (.string ByteArray.empty),.sl true 1 [],.lit (.string ByteArray.empty),.lit (.string ByteArray.empty),.sl true 1 [],.lit (.string ByteArray.empty),.lit (.string ByteArray.empty),.sl true 1 [],.lit (.string ByteArray.empty),.lit (.string ByteArray.empty),.sl true 1 [],.lit (.string ByteArray.empty),.lit (.string ByteArray.empty),.sl true 1 [],.lit (.string ByteArray.empty),.lit (.string ByteArray.empty),.sl true 1 [],.lit (.string ByteArray.empty),.lit (.string ByteArray.empty),.sl true 1 [],.lit (.string ByteArray.empty),.lit (.string ByteArray.empty),.sl true 1 [],.lit (.string ByteArray.empty),.lit (.string ByteArray.empty),.sl true 1 [],.lit (.string ByteArray.empty)]):=fun v h=>by
  rw [show zeroT Tryz.prog 123=some (.agg #[(.string ByteArray.empty),(.slice none 0 0),(.string ByteArray.empty),(.string ByteArray.empty),(.slice none 0 0),(.string ByteArray.empty),(.string ByteArray.empty),(.slice none 0 0),(.string ByteArray.empty),(.string ByteArray.empty),(.slice none 0 0),(.string ByteArray.empty),(.string ByteArray.empty),(.slice none 0 0),(.string ByteArray.empty),(.string ByteArray.empty),(.slice none 0 0),(.string ByteArray.empty),(.string ByteArray.empty),(.slice none 0 0),(.string ByteArray.empty),(.string ByteArray.empty),(.slice none 0 0),(.string ByteArray.empty),(.string ByteArray.empty),(.slice none 0 0),(.string ByteArray.empty),(.string ByteArray.empty),(.slice none 0 0),(.string ByteArray.empty),(.string ByteArray.empty),(.slice none 0 0),(.string ByteArray.empty),(.string ByteArray.empty),(.slice none 0 0),(.string ByteArray.empty),(.string ByteArray.empty),(.slice none 0 0),(.string ByteArray.empty),(.string ByteArray.empty),(.slice none 0 0),(.string ByteArray.empty),(.string ByteArray.empty),(.slice none 0 0),(.string ByteArray.empty),(.string ByteArray.empty),(.slice none 0 0),(.string ByteArray.empty),(.string ByteArray.empty),(.slice none 0 0),(.string ByteArray.empty),(.string ByteArray.empty),(.slice none 0 0),(.string ByteArray.empty),(.string ByteArray.empty),(.slice none 0 0),(.string ByteArray.empty),(.string ByteArray.empty),(.slice none 0 0),(.string ByteArray.empty),(.string ByteArray.empty),(.slice none 0 0),(.string ByteArray.empty),(.string ByteArray.empty),(.slice none 0 0),(.string ByteArray.empty)]) from by kernel_rfl] at h;cases h
  exact zr_agg _ _ (zl_cons (.lit _) rfl (zl_cons (.nil _ _ _) rfl (zl_cons (.lit _) rfl (zl_cons (.lit _) rfl (zl_cons (.nil _ _ _) rfl (zl_cons (.lit _) rfl (zl_cons (.lit _) rfl (zl_cons (.nil _ _ _) rfl (zl_cons (.lit _) rfl (zl_cons (.lit _) rfl (zl_cons (.nil _ _ _) rfl (zl_cons (.lit _) rfl (zl_cons (.lit _) rfl (zl_cons (.nil _ _ _) rfl (zl_cons (.lit _) rfl (zl_cons (.lit _) rfl (zl_cons (.nil _ _ _) rfl (zl_cons (.lit _) rfl (zl_cons (.lit _) rfl (zl_cons (.nil _ _ _) rfl (zl_cons (.lit _) rfl (zl_cons (.lit _) rfl (zl_cons (.nil _ _ _) rfl (zl_cons (.lit _) rfl (zl_cons (.lit _) rfl (zl_cons (.nil _ _ _) rfl (zl_cons (.lit _) rfl (zl_cons (.lit _) rfl (zl_cons (.nil _ _ _) rfl (zl_cons (.lit _) rfl (zl_cons (.lit _) rfl (zl_cons (.nil _ _ _) rfl (zl_cons (.lit _) rfl (zl_cons (.lit _) rfl (zl_cons (.nil _ _ _) rfl (zl_cons (.lit _) rfl (zl_cons (.lit _) rfl (zl_cons (.nil _ _ _) rfl (zl_cons (.lit _) rfl (zl_cons (.lit _) rfl (zl_cons (.nil _ _ _) rfl (zl_cons (.lit _) rfl (zl_cons (.lit _) rfl (zl_cons (.nil _ _ _) rfl (zl_cons (.lit _) rfl (zl_cons (.lit _) rfl (zl_cons (.nil _ _ _) rfl (zl_cons (.lit _) rfl (zl_cons (.lit _) rfl (zl_cons (.nil _ _ _) rfl (zl_cons (.lit _) rfl (zl_cons (.lit _) rfl (zl_cons (.nil _ _ _) rfl (zl_cons (.lit _) rfl (zl_cons (.lit _) rfl (zl_cons (.nil _ _ _) rfl (zl_cons (.lit _) rfl (zl_cons (.lit _) rfl (zl_cons (.nil _ _ _) rfl (zl_cons (.lit _) rfl (zl_cons (.lit _) rfl (zl_cons (.nil _ _ _) rfl (zl_cons (.lit _) rfl (zl_cons (.lit _) rfl (zl_cons (.nil _ _ _) rfl (zl_cons (.lit _) rfl (zl_nil)))))))))))))))))))))))))))))))))))))))))))))))))))))))))))))))))))
theorem zv123:zer 123= .agg [.lit (.string ByteArray.empty),.sl true 1 [],.lit (.string ByteArray.empty),.lit (.string ByteArray.empty),.sl true 1 [],.lit (.string ByteArray.empty),.lit (.string ByteArray.empty),.sl true 1 [],.lit (.string ByteArray.empty),.lit (.string ByteArray.empty),.sl true 1 [],.lit (.string ByteArray.empty),.lit (.string ByteArray.empty),.sl true 1 [],.lit (.string ByteArray.empty),.lit (.string ByteArray.empty),.sl true 1 [],.lit (.string ByteArray.empty),.lit (.string ByteArray.empty),.sl true 1 [],.lit (.string ByteArray.empty),.lit (.string ByteArray.empty),.sl true 1 [],.lit (.string ByteArray.empty),.lit (.string ByteArray.empty),.sl true 1 [],.lit (.string ByteArray.empty),.lit (.string ByteArray.empty),.sl true 1 [],.lit (.string ByteArray.empty),.lit (.string ByteArray.empty),.sl true 1 [],.lit (.string ByteArray.empty),.lit (.string ByteArray.empty),.sl true 1 [],.lit (.string ByteArray.empty),.lit (.string ByteArray.empty),.sl true 1 [],.lit (.string ByteArray.empty),.lit (.string ByteArray.empty),.sl true 1 [],.lit (.string ByteArray.empty),.lit (.string ByteArray.empty),.sl true 1 [],.lit (.string ByteArray.empty),.lit (.string ByteArray.empty),.sl true 1 [],.lit (.string ByteArray.empty),.lit (.string ByteArray.empty),.sl true 1 [],.lit (.string ByteArray.empty),.lit (.string ByteArray.empty),.sl true 1 [],.lit (.string ByteArray.empty),.lit (.string ByteArray.empty),.sl true 1 [],.lit (.string ByteArray.empty),.lit (.string ByteArray.empty),.sl true 1 [],.lit (.string ByteArray.empty),.lit (.string ByteArray.empty),.sl true 1 [],.lit (.string ByteArray.empty),.lit (.string ByteArray.empty),.sl true 1 [],.lit (.string ByteArray.empty)]:=rfl
theorem zr142:ZerOk Tryz.prog (142,.agg [.lit (.string ByteArray.empty),.lit (.bool false),.sl true 1 [],.lit .nilFunc,.lit .nilFunc]):=fun v h=>by
  rw [show zeroT Tryz.prog 142=some (.agg #[(.string ByteArray.empty),(.bool false),(.slice none 0 0),.nilFunc,.nilFunc]) from by kernel_rfl] at h;cases h
  exact zr_agg _ _ (zl_cons (.lit _) rfl (zl_cons (.lit _) rfl (zl_cons (.nil _ _ _) rfl (zl_cons (.lit _) rfl (zl_cons (.lit _) rfl (zl_nil))))))
theorem zv142:zer 142= .agg [.lit (.string ByteArray.empty),.lit (.bool false),.sl true 1 [],.lit .nilFunc,.lit .nilFunc]:=rfl
theorem zr143:ZerOk Tryz.prog (143,.agg [.lit (.string ByteArray.empty),.lit (.bool false),.sl true 1 [],.lit .nilFunc,.lit .nilFunc]):=fun v h=>by
  rw [show zeroT Tryz.prog 143=some (.agg #[(.string ByteArray.empty),(.bool false),(.slice none 0 0),.nilFunc,.nilFunc]) from by kernel_rfl] at h;cases h
  exact zr_agg _ _ (zl_cons (.lit _) rfl (zl_cons (.lit _) rfl (zl_cons (.nil _ _ _) rfl (zl_cons (.lit _) rfl (zl_cons (.lit _) rfl (zl_nil))))))
theorem zv143:zer 143= .agg [.lit (.string ByteArray.empty),.lit (.bool false),.sl true 1 [],.lit .nilFunc,.lit .nilFunc]:=rfl
theorem zr152:ZerOk Tryz.prog (152,.sl true 5 []):=fun v h=>by
  rw [show zeroT Tryz.prog 152=some (.slice none 0 0) from by kernel_rfl] at h;cases h;exact .nil _ _ _
theorem zv152:zer 152= .sl true 5 []:=rfl
theorem zr160:ZerOk Tryz.prog (160,.agg [.lit (.pointer none),.lit (.pointer none),.lit (.pointer none),.lit (.string ByteArray.empty)]):=fun v h=>by
  rw [show zeroT Tryz.prog 160=some (.agg #[(.pointer none),(.pointer none),(.pointer none),(.string ByteArray.empty)]) from by kernel_rfl] at h;cases h
  exact zr_agg _ _ (zl_cons (.lit _) rfl (zl_cons (.lit _) rfl (zl_cons (.lit _) rfl (zl_cons (.lit _) rfl (zl_nil)))))
theorem zv160:zer 160= .agg [.lit (.pointer none),.lit (.pointer none),.lit (.pointer none),.lit (.string ByteArray.empty)]:=rfl
theorem zr161:ZerOk Tryz.prog (161,.agg [.lit (.pointer none),.lit (.pointer none),.lit (.pointer none),.lit (.string ByteArray.empty)]):=fun v h=>by
  rw [show zeroT Tryz.prog 161=some (.agg #[(.pointer none),(.pointer none),(.pointer none),(.string ByteArray.empty)]) from by kernel_rfl] at h;cases h
  exact zr_agg _ _ (zl_cons (.lit _) rfl (zl_cons (.lit _) rfl (zl_cons (.lit _) rfl (zl_cons (.lit _) rfl (zl_nil)))))
theorem zv161:zer 161= .agg [.lit (.pointer none),.lit (.pointer none),.lit (.pointer none),.lit (.string ByteArray.empty)]:=rfl
theorem zr166:ZerOk Tryz.prog (166,.lit (.int .u32 0)):=fun v h=>by
  rw [show zeroT Tryz.prog 166=some (.int .u32 0) from by kernel_rfl] at h;cases h;exact .lit _
theorem zv166:zer 166= .lit (.int .u32 0):=rfl
theorem zr167:ZerOk Tryz.prog (167,.lit (.int .u8 0)):=fun v h=>by
  rw [show zeroT Tryz.prog 167=some (.int .u8 0) from by kernel_rfl] at h;cases h;exact .lit _
theorem zv167:zer 167= .lit (.int .u8 0):=rfl
theorem zr168:ZerOk Tryz.prog (168,.lit (.int .u8 0)):=fun v h=>by
  rw [show zeroT Tryz.prog 168=some (.int .u8 0) from by kernel_rfl] at h;cases h;exact .lit _
theorem zv168:zer 168= .lit (.int .u8 0):=rfl
theorem zr170:ZerOk Tryz.prog (170,.lit (.pointer none)):=fun v h=>by
  rw [show zeroT Tryz.prog 170=some (.pointer none) from by kernel_rfl] at h;cases h;exact .lit _
theorem zv170:zer 170= .lit (.pointer none):=rfl
theorem zr171:ZerOk Tryz.prog (171,.lit (.int .i32 0)):=fun v h=>by
  rw [show zeroT Tryz.prog 171=some (.int .i32 0) from by kernel_rfl] at h;cases h;exact .lit _
theorem zv171:zer 171= .lit (.int .i32 0):=rfl
theorem zr172:ZerOk Tryz.prog (172,.lit (.int .i32 0)):=fun v h=>by
  rw [show zeroT Tryz.prog 172=some (.int .i32 0) from by kernel_rfl] at h;cases h;exact .lit _
theorem zv172:zer 172= .lit (.int .i32 0):=rfl
theorem zr173:ZerOk Tryz.prog (173,.agg [.lit (.int .u64 0),.lit (.int .u64 0),.lit (.int .u32 0),.lit (.int .u8 0),.lit (.int .u8 0),.lit (.int .u8 0),.lit (.int .u8 0),.lit .nilFunc,.lit (.pointer none),.lit (.int .i32 0),.lit (.int .i32 0)]):=fun v h=>by
  rw [show zeroT Tryz.prog 173=some (.agg #[(.int .u64 0),(.int .u64 0),(.int .u32 0),(.int .u8 0),(.int .u8 0),(.int .u8 0),(.int .u8 0),.nilFunc,(.pointer none),(.int .i32 0),(.int .i32 0)]) from by kernel_rfl] at h;cases h
  exact zr_agg _ _ (zl_cons (.lit _) rfl (zl_cons (.lit _) rfl (zl_cons (.lit _) rfl (zl_cons (.lit _) rfl (zl_cons (.lit _) rfl (zl_cons (.lit _) rfl (zl_cons (.lit _) rfl (zl_cons (.lit _) rfl (zl_cons (.lit _) rfl (zl_cons (.lit _) rfl (zl_cons (.lit _) rfl (zl_nil))))))))))))
theorem zv173:zer 173= .agg [.lit (.int .u64 0),.lit (.int .u64 0),.lit (.int .u32 0),.lit (.int .u8 0),.lit (.int .u8 0),.lit (.int .u8 0),.lit (.int .u8 0),.lit .nilFunc,.lit (.pointer none),.lit (.int .i32 0),.lit (.int .i32 0)]:=rfl
theorem zr174:ZerOk Tryz.prog (174,.agg [.lit (.int .u64 0),.lit (.int .u64 0),.lit (.int .u32 0),.lit (.int .u8 0),.lit (.int .u8 0),.lit (.int .u8 0),.lit (.int .u8 0),.lit .nilFunc,.lit (.pointer none),.lit (.int .i32 0),.lit (.int .i32 0)]):=fun v h=>by
  rw [show zeroT Tryz.prog 174=some (.agg #[(.int .u64 0),(.int .u64 0),(.int .u32 0),(.int .u8 0),(.int .u8 0),(.int .u8 0),(.int .u8 0),.nilFunc,(.pointer none),(.int .i32 0),(.int .i32 0)]) from by kernel_rfl] at h;cases h
  exact zr_agg _ _ (zl_cons (.lit _) rfl (zl_cons (.lit _) rfl (zl_cons (.lit _) rfl (zl_cons (.lit _) rfl (zl_cons (.lit _) rfl (zl_cons (.lit _) rfl (zl_cons (.lit _) rfl (zl_cons (.lit _) rfl (zl_cons (.lit _) rfl (zl_cons (.lit _) rfl (zl_cons (.lit _) rfl (zl_nil))))))))))))
theorem zv174:zer 174= .agg [.lit (.int .u64 0),.lit (.int .u64 0),.lit (.int .u32 0),.lit (.int .u8 0),.lit (.int .u8 0),.lit (.int .u8 0),.lit (.int .u8 0),.lit .nilFunc,.lit (.pointer none),.lit (.int .i32 0),.lit (.int .i32 0)]:=rfl
theorem zr175:ZerOk Tryz.prog (175,.sl true 2 []):=fun v h=>by
  rw [show zeroT Tryz.prog 175=some (.slice none 0 0) from by kernel_rfl] at h;cases h;exact .nil _ _ _
theorem zv175:zer 175= .sl true 2 []:=rfl
theorem zr176:ZerOk Tryz.prog (176,.agg [.lit (.int .i64 0),.sl true 2 []]):=fun v h=>by
  rw [show zeroT Tryz.prog 176=some (.agg #[(.int .i64 0),(.slice none 0 0)]) from by kernel_rfl] at h;cases h
  exact zr_agg _ _ (zl_cons (.lit _) rfl (zl_cons (.nil _ _ _) rfl (zl_nil)))
theorem zv176:zer 176= .agg [.lit (.int .i64 0),.sl true 2 []]:=rfl
theorem zr177:ZerOk Tryz.prog (177,.agg [.lit (.int .i64 0),.sl true 2 []]):=fun v h=>by
  rw [show zeroT Tryz.prog 177=some (.agg #[(.int .i64 0),(.slice none 0 0)]) from by kernel_rfl] at h;cases h
  exact zr_agg _ _ (zl_cons (.lit _) rfl (zl_cons (.nil _ _ _) rfl (zl_nil)))
theorem zv177:zer 177= .agg [.lit (.int .i64 0),.sl true 2 []]:=rfl
theorem zr179:ZerOk Tryz.prog (179,.agg [.lit (.string ByteArray.empty),.lit (.int .i64 0)]):=fun v h=>by
  rw [show zeroT Tryz.prog 179=some (.agg #[(.string ByteArray.empty),(.int .i64 0)]) from by kernel_rfl] at h;cases h
  exact zr_agg _ _ (zl_cons (.lit _) rfl (zl_cons (.lit _) rfl (zl_nil)))
theorem zv179:zer 179= .agg [.lit (.string ByteArray.empty),.lit (.int .i64 0)]:=rfl
theorem zr180:ZerOk Tryz.prog (180,.agg [.lit (.string ByteArray.empty),.lit (.int .i64 0)]):=fun v h=>by
  rw [show zeroT Tryz.prog 180=some (.agg #[(.string ByteArray.empty),(.int .i64 0)]) from by kernel_rfl] at h;cases h
  exact zr_agg _ _ (zl_cons (.lit _) rfl (zl_cons (.lit _) rfl (zl_nil)))
theorem zv180:zer 180= .agg [.lit (.string ByteArray.empty),.lit (.int .i64 0)]:=rfl
theorem zer_ok:∀ t v,zeroT Tryz.prog t=some v→RC (fun _ _=>none) (zer t) v:=zer_sound zerL (zs_cons zr2 (zs_cons zr3 (zs_cons zr4 (zs_cons zr5 (zs_cons zr6 (zs_cons zr7 (zs_cons zr8 (zs_cons zr9 (zs_cons zr10 (zs_cons zr11 (zs_cons zr12 (zs_cons zr13 (zs_cons zr14 (zs_cons zr15 (zs_cons zr16 (zs_cons zr17 (zs_cons zr18 (zs_cons zr19 (zs_cons zr21 (zs_cons zr22 (zs_cons zr23 (zs_cons zr30 (zs_cons zr31 (zs_cons zr33 (zs_cons zr39 (zs_cons zr42 (zs_cons zr49 (zs_cons zr50 (zs_cons zr51 (zs_cons zr52 (zs_cons zr53 (zs_cons zr54 (zs_cons zr55 (zs_cons zr56 (zs_cons zr57 (zs_cons zr58 (zs_cons zr59 (zs_cons zr69 (zs_cons zr70 (zs_cons zr71 (zs_cons zr77 (zs_cons zr78 (zs_cons zr91 (zs_cons zr92 (zs_cons zr111 (zs_cons zr121 (zs_cons zr122 (zs_cons zr123 (zs_cons zr142 (zs_cons zr143 (zs_cons zr152 (zs_cons zr160 (zs_cons zr161 (zs_cons zr166 (zs_cons zr167 (zs_cons zr168 (zs_cons zr170 (zs_cons zr171 (zs_cons zr172 (zs_cons zr173 (zs_cons zr174 (zs_cons zr175 (zs_cons zr176 (zs_cons zr177 (zs_cons zr179 (zs_cons zr180 (zs_nil)))))))))))))))))))))))))))))))))))))))))))))))))))))))))))))))))))
theorem mixed:Tryz.prog.follows .mixedOrders=true:=by kernel_rfl
theorem fk9:fok Tryz.prog 9=true:=by kernel_rfl
theorem fk10:fok Tryz.prog 10=true:=by kernel_rfl
theorem fk11:fok Tryz.prog 11=true:=by kernel_rfl
theorem fk13:fok Tryz.prog 13=true:=by kernel_rfl
theorem fk14:fok Tryz.prog 14=true:=by kernel_rfl
theorem fk16:fok Tryz.prog 16=true:=by kernel_rfl
theorem fk18:fok Tryz.prog 18=true:=by kernel_rfl
theorem fk20:fok Tryz.prog 20=true:=by kernel_rfl
theorem fk21:fok Tryz.prog 21=true:=by kernel_rfl
theorem fk22:fok Tryz.prog 22=true:=by kernel_rfl
theorem fk23:fok Tryz.prog 23=true:=by kernel_rfl
theorem fk24:fok Tryz.prog 24=true:=by kernel_rfl
theorem fk25:fok Tryz.prog 25=true:=by kernel_rfl
theorem fk26:fok Tryz.prog 26=true:=by kernel_rfl
theorem fk28:fok Tryz.prog 28=true:=by kernel_rfl
theorem fk29:fok Tryz.prog 29=true:=by kernel_rfl
theorem fk33:fok Tryz.prog 33=true:=by kernel_rfl
theorem fk34:fok Tryz.prog 34=true:=by kernel_rfl
theorem fk35:fok Tryz.prog 35=true:=by kernel_rfl
theorem fk36:fok Tryz.prog 36=true:=by kernel_rfl
theorem fk37:fok Tryz.prog 37=true:=by kernel_rfl
theorem fk38:fok Tryz.prog 38=true:=by kernel_rfl
theorem fk39:fok Tryz.prog 39=true:=by kernel_rfl
theorem fk40:fok Tryz.prog 40=true:=by kernel_rfl
theorem fk41:fok Tryz.prog 41=true:=by kernel_rfl
theorem fk42:fok Tryz.prog 42=true:=by kernel_rfl
theorem fk43:fok Tryz.prog 43=true:=by kernel_rfl
theorem fk44:fok Tryz.prog 44=true:=by kernel_rfl
theorem fk45:fok Tryz.prog 45=true:=by kernel_rfl
theorem fk46:fok Tryz.prog 46=true:=by kernel_rfl
theorem fk47:fok Tryz.prog 47=true:=by kernel_rfl
theorem fk48:fok Tryz.prog 48=true:=by kernel_rfl
theorem fk49:fok Tryz.prog 49=true:=by kernel_rfl
theorem fk50:fok Tryz.prog 50=true:=by kernel_rfl
theorem fk51:fok Tryz.prog 51=true:=by kernel_rfl
theorem fk52:fok Tryz.prog 52=true:=by kernel_rfl
theorem fk53:fok Tryz.prog 53=true:=by kernel_rfl
theorem fk54:fok Tryz.prog 54=true:=by kernel_rfl
theorem fk55:fok Tryz.prog 55=true:=by kernel_rfl
theorem fk56:fok Tryz.prog 56=true:=by kernel_rfl
theorem fk57:fok Tryz.prog 57=true:=by kernel_rfl
theorem fk59:fok Tryz.prog 59=true:=by kernel_rfl
theorem fk63:fok Tryz.prog 63=true:=by kernel_rfl
theorem fk64:fok Tryz.prog 64=true:=by kernel_rfl
theorem fk65:fok Tryz.prog 65=true:=by kernel_rfl
theorem fk66:fok Tryz.prog 66=true:=by kernel_rfl
theorem fk67:fok Tryz.prog 67=true:=by kernel_rfl
theorem fk68:fok Tryz.prog 68=true:=by kernel_rfl
theorem fk69:fok Tryz.prog 69=true:=by kernel_rfl
theorem fk70:fok Tryz.prog 70=true:=by kernel_rfl
theorem fk71:fok Tryz.prog 71=true:=by kernel_rfl
theorem fk72:fok Tryz.prog 72=true:=by kernel_rfl
theorem fk73:fok Tryz.prog 73=true:=by kernel_rfl
theorem fk74:fok Tryz.prog 74=true:=by kernel_rfl
theorem fk75:fok Tryz.prog 75=true:=by kernel_rfl
theorem fk77:fok Tryz.prog 77=true:=by kernel_rfl
theorem fk78:fok Tryz.prog 78=true:=by kernel_rfl
theorem fk79:fok Tryz.prog 79=true:=by kernel_rfl
theorem fk80:fok Tryz.prog 80=true:=by kernel_rfl
theorem fk81:fok Tryz.prog 81=true:=by kernel_rfl
theorem fk83:fok Tryz.prog 83=true:=by kernel_rfl
theorem fk84:fok Tryz.prog 84=true:=by kernel_rfl
theorem fk85:fok Tryz.prog 85=true:=by kernel_rfl
theorem fk86:fok Tryz.prog 86=true:=by kernel_rfl
theorem fk87:fok Tryz.prog 87=true:=by kernel_rfl
theorem fk88:fok Tryz.prog 88=true:=by kernel_rfl
theorem fk89:fok Tryz.prog 89=true:=by kernel_rfl
theorem fk90:fok Tryz.prog 90=true:=by kernel_rfl
theorem fk91:fok Tryz.prog 91=true:=by kernel_rfl
theorem fk92:fok Tryz.prog 92=true:=by kernel_rfl
theorem fk93:fok Tryz.prog 93=true:=by kernel_rfl
theorem fk94:fok Tryz.prog 94=true:=by kernel_rfl
theorem fk95:fok Tryz.prog 95=true:=by kernel_rfl
theorem fk96:fok Tryz.prog 96=true:=by kernel_rfl
theorem fk97:fok Tryz.prog 97=true:=by kernel_rfl
theorem fk98:fok Tryz.prog 98=true:=by kernel_rfl
theorem fk99:fok Tryz.prog 99=true:=by kernel_rfl
theorem fk102:fok Tryz.prog 102=true:=by kernel_rfl
theorem fk107:fok Tryz.prog 107=true:=by kernel_rfl
theorem fk108:fok Tryz.prog 108=true:=by kernel_rfl
theorem fk111:fok Tryz.prog 111=true:=by kernel_rfl
theorem fk112:fok Tryz.prog 112=true:=by kernel_rfl
theorem fk113:fok Tryz.prog 113=true:=by kernel_rfl
theorem fk114:fok Tryz.prog 114=true:=by kernel_rfl
theorem fk115:fok Tryz.prog 115=true:=by kernel_rfl
theorem fk116:fok Tryz.prog 116=true:=by kernel_rfl
theorem fk117:fok Tryz.prog 117=true:=by kernel_rfl
theorem fk118:fok Tryz.prog 118=true:=by kernel_rfl
theorem fk125:fok Tryz.prog 125=true:=by kernel_rfl
theorem fk126:fok Tryz.prog 126=true:=by kernel_rfl
theorem fk127:fok Tryz.prog 127=true:=by kernel_rfl
attribute [go_sem] u3 sz3 u9 sz9 u22 u23 u42 u50 u69 ag71 sz78 ag78 zv2 zv3 zv4 zv5 zv6 zv7 zv8 zv9 zv10 zv11 zv12 zv13 zv14 zv15 zv16 zv17 zv18 zv19 zv21 zv22 zv23 zv30 zv31 zv33 zv39 zv42 zv49 zv50 zv51 zv52 zv53 zv54 zv55 zv56 zv57 zv58 zv59 zv69 zv70 zv71 zv77 zv78 zv91 zv92 zv111 zv121 zv122 zv123 zv142 zv143 zv152 zv160 zv161 zv166 zv167 zv168 zv170 zv171 zv172 zv173 zv174 zv175 zv176 zv177 zv179 zv180 g2 g3 g4 g5 g6 g7 g8 g9 g10 g11 g12 g13 g14 g15 g16 g17 g18 g19 g21 g22 g23 g30 g31 g33 g39 g42 g49 g50 g51 g52 g53 g54 g55 g56 g57 g58 g59 g69 g70 g71 g77 g78 g91 g92 g111 g121 g122 g123 g142 g143 g152 g160 g161 g162 g163 g164 g166 g167 g168 g170 g171 g172 g173 g174 g175 g176 g177 g179 g180 g20
end Go.Proofs.YtcpjahmajkhchaaGreat

namespace Go.Proofs.YtcpjahmajkhchaaGreat
open Go Go.Fw
set_option maxRecDepth 20000
def sInt:ByteArray:=⟨#[105,110,116]⟩
def sBool:ByteArray:=⟨#[98,111,111,108]⟩
def el (n:Int):Prop:= -2147483648≤n∧n≤2147483647
def vld (s:ByteArray) (n:Int):Bool:=if eqS s sInt=true then decide (-2147483648≤n∧n≤2147483647) else if eqS s sBool=true then decide (n=0∨n=1) else false
def badD (d:Int):Bool:=decide (d<0)||decide (d>4096)
def prodS:List Int→Int→Int×Int
  |[],n=>(n,0)
  |d::t,n=>if n*d>4096 then (0,3) else prodS t (n*d)
def sizeS (l:List Int):Int×Int:=if l.length>6 then (0,13) else if l.any badD=true then (0,2) else if l.any (fun d=>0==d)=true then (0,0) else prodS l 1
structure Arr where
  e:ByteArray
  d:List Int
  x:List Int
def arrV (a:Arr):AV:= .agg [.lit (.string a.e),.sl false 1 (ints .i64 a.d),.sl false 1 (ints .i64 a.x)]
def nilA:Arr:=⟨⟨#[]⟩,[],[]⟩
instance:Inhabited Arr:=⟨nilA⟩
def arrs (l:List Arr):List AV:=l.map arrV
def ofE (a:Arr):Int:=if (eqS a.e sInt||eqS a.e sBool)=false then 12 else if (sizeS a.d).2≠0 then (sizeS a.d).2 else if (a.x.length:Int)≠(sizeS a.d).1 then 1 else if a.x.any (fun n=> !vld a.e n)=true then 2 else 0
def ofS (a:Arr):Arr×Int:=if ofE a=0 then (a,0) else (nilA,ofE a)
def splitS (a:Arr) (r:Int):List Int×List Int×Int:=if ofE a≠0 then ([],[],1) else if r<0∨r>a.d.length then ([],[],13) else (a.d.take (a.d.length - r.toNat),a.d.drop (a.d.length - r.toNat),0)
theorem prodS_bd {l:List Int} {n:Int} (hl:∀ d∈l,0≤d∧d≤4096) (hn:0≤n∧n≤4096):0≤(prodS l n).1∧(prodS l n).1≤4096:=by
  induction l generalizing n with
  |nil=>exact hn
  |cons d t ih=>
   unfold prodS
   split
   ·exact ⟨by decide,by decide⟩
   ·rename_i h
    have h1:=hl d (by simp)
    exact ih (fun x hx=>hl x (by simp [hx])) ⟨Int.mul_nonneg hn.1 h1.1,by omega⟩
theorem bad_no {l:List Int} (h: ¬ l.any badD=true):∀ d∈l,0≤d∧d≤4096:=by
  intro d hd
  have: ¬ badD d=true:=fun hb=>h (List.any_eq_true.2 ⟨d,hd,hb⟩)
  unfold badD at this
  simp only [Bool.or_eq_true,decide_eq_true_eq,not_or] at this
  omega
theorem sizeS_bd (l:List Int):0≤(sizeS l).1∧(sizeS l).1≤4096:=by
  unfold sizeS
  split
  ·exact ⟨by decide,by decide⟩
  split
  ·exact ⟨by decide,by decide⟩
  split
  ·exact ⟨by decide,by decide⟩
  rename_i h _
  exact prodS_bd (bad_no h) ⟨by decide,by decide⟩
theorem arrs_length (l:List Arr):(arrs l).length=l.length:=by simp [arrs]
theorem arrs_getD (l:List Arr) (i:Nat) (h:i<l.length):(arrs l).getD i .top=arrV (l.getD i nilA):=by simp [arrs,List.getD,h]
theorem drop_getD {α:Type} {l:List α} {i:Nat} (z:α) (h:i<l.length):l.drop i=l.getD i z::l.drop (i+1):=by
  rw [List.drop_eq_getElem_cons h];simp [List.getD,h]
end Go.Proofs.YtcpjahmajkhchaaGreat

namespace Go.Proofs.YtcpjahmajkhchaaGreat
open Go Go.Fw
set_option maxRecDepth 20000
noncomputable def E0:Env:=envOf (P:=Tryz.prog) zer (fun _=>false) (fun _=>false) [] []
theorem E0_ok:EnvOk Tryz.prog E0:=envOk zer_ok
theorem eqS_iff {a b:ByteArray}:eqS a b=true ↔ a=b:=by
  unfold eqS
  rw [beq_iff_eq]
  constructor
  ·intro h
   apply ByteArray.ext
   apply Array.ext'
   simpa using h
  ·intro h;rw [h]
theorem eqS_refl (b:ByteArray):eqS b b=true:=eqS_iff.2 rfl
theorem vld_pc {f:FuncId} {s:ByteArray} {n:Int} (hf:f=40∨f=38):PC Tryz.prog f [.lit (.string s),.lit (.int .i64 n)] (.lit (.bool (vld s n))):=by
  unfold vld sInt sBool
  by_cases h1:eqS s ⟨#[105,110,116]⟩=true
  ·have hs:s=⟨#[105,110,116]⟩:=eqS_iff.1 h1
   have h2:eqS s ⟨#[98,111,111,108]⟩=false:=by rw [hs];rfl
   rw [if_pos h1]
   by_cases h3:n≥ -2147483648
   ·have z3:decide (n≥ -2147483648)=true:=decide_eq_true h3
    have e:decide (-2147483648≤n∧n≤2147483647)=decide (n≤2147483647):=by simp;omega
    rw [e]
    rcases hf with rfl|rfl
    ·skip
     refine pcO E0_ok (fun _=>[0,1,4,5,6,14]) Tryz.func40 (h:=fun KF=>?_)
     unfold E0
     repeat' (first
      |(with_reducible first|refine nx ?_|refine t_seq fun K=>?_|refine t_br (fun hc=>?_) fun hc=>?_|refine t_bx ?_|apply And.intro|intro vr)
      |((with_reducible first|refine ny ?_|refine t_dwh (h:=fun K KL=>?_));intros;simp only [go_sem,geff,h1,h2,z3]))
     refine end_ret rfl ?_
     simp only [fin,go_sem]
     exact LeA.refl _
    ·skip
     refine pcO E0_ok (fun _=>[0,1,4,6]) Tryz.func38 (h:=fun KF=>?_)
     unfold E0
     repeat' (first
      |(with_reducible first|refine nx ?_|refine t_seq fun K=>?_|refine t_br (fun hc=>?_) fun hc=>?_|refine t_bx ?_|apply And.intro|intro vr)
      |((with_reducible first|refine ny ?_|refine t_dwh (h:=fun K KL=>?_));intros;simp only [go_sem,geff,h1,h2,z3]))
     refine end_ret rfl ?_
     simp only [fin,go_sem]
     exact LeA.refl _
   ·have z3:decide (n≥ -2147483648)=false:=decide_eq_false h3
    have e:decide (-2147483648≤n∧n≤2147483647)=false:=by simp;omega
    rw [e]
    rcases hf with rfl|rfl
    ·skip
     refine pcO E0_ok (fun _=>[0,1,4,5,6,14]) Tryz.func40 (h:=fun KF=>?_)
     unfold E0
     repeat' (first
      |(with_reducible first|refine nx ?_|refine t_seq fun K=>?_|refine t_br (fun hc=>?_) fun hc=>?_|refine t_bx ?_|apply And.intro|intro vr)
      |((with_reducible first|refine ny ?_|refine t_dwh (h:=fun K KL=>?_));intros;simp only [go_sem,geff,h1,h2,z3]))
     refine end_ret rfl ?_
     simp only [fin,go_sem]
     exact LeA.refl _
    ·skip
     refine pcO E0_ok (fun _=>[0,1,4,6]) Tryz.func38 (h:=fun KF=>?_)
     unfold E0
     repeat' (first
      |(with_reducible first|refine nx ?_|refine t_seq fun K=>?_|refine t_br (fun hc=>?_) fun hc=>?_|refine t_bx ?_|apply And.intro|intro vr)
      |((with_reducible first|refine ny ?_|refine t_dwh (h:=fun K KL=>?_));intros;simp only [go_sem,geff,h1,h2,z3]))
     refine end_ret rfl ?_
     simp only [fin,go_sem]
     exact LeA.refl _
  ·have h1':eqS s ⟨#[105,110,116]⟩=false:=by simpa using h1
   rw [if_neg h1]
   by_cases h2:eqS s ⟨#[98,111,111,108]⟩=true
   ·rw [if_pos h2]
    by_cases h3:n=0
    ·have z3:(n==0)=true:=by rw [beq_iff_eq];exact h3
     have e:decide (n=0∨n=1)=true:=decide_eq_true (.inl h3)
     rw [e]
     rcases hf with rfl|rfl
     ·skip
      refine pcO E0_ok (fun _=>[0,1,4,5,6,14]) Tryz.func40 (h:=fun KF=>?_)
      unfold E0
      repeat' (first
       |(with_reducible first|refine nx ?_|refine t_seq fun K=>?_|refine t_br (fun hc=>?_) fun hc=>?_|refine t_bx ?_|apply And.intro|intro vr)
       |((with_reducible first|refine ny ?_|refine t_dwh (h:=fun K KL=>?_));intros;simp only [go_sem,geff,h1',h2,z3]))
      refine end_ret rfl ?_
      simp only [fin,go_sem]
      exact LeA.refl _
     ·skip
      refine pcO E0_ok (fun _=>[0,1,4,6]) Tryz.func38 (h:=fun KF=>?_)
      unfold E0
      repeat' (first
       |(with_reducible first|refine nx ?_|refine t_seq fun K=>?_|refine t_br (fun hc=>?_) fun hc=>?_|refine t_bx ?_|apply And.intro|intro vr)
       |((with_reducible first|refine ny ?_|refine t_dwh (h:=fun K KL=>?_));intros;simp only [go_sem,geff,h1',h2,z3]))
      refine end_ret rfl ?_
      simp only [fin,go_sem]
      exact LeA.refl _
    ·have z3:(n==0)=false:=by rw [beq_eq_false_iff_ne];exact h3
     have e:decide (n=0∨n=1)=(n==1):=by
       by_cases h4:n=1
       ·subst h4;rfl
       ·rw [decide_eq_false (by omega)];symm;rw [beq_eq_false_iff_ne];exact h4
     rw [e]
     rcases hf with rfl|rfl
     ·skip
      refine pcO E0_ok (fun _=>[0,1,4,5,6,14]) Tryz.func40 (h:=fun KF=>?_)
      unfold E0
      repeat' (first
       |(with_reducible first|refine nx ?_|refine t_seq fun K=>?_|refine t_br (fun hc=>?_) fun hc=>?_|refine t_bx ?_|apply And.intro|intro vr)
       |((with_reducible first|refine ny ?_|refine t_dwh (h:=fun K KL=>?_));intros;simp only [go_sem,geff,h1',h2,z3]))
      refine end_ret rfl ?_
      simp only [fin,go_sem]
      exact LeA.refl _
     ·skip
      refine pcO E0_ok (fun _=>[0,1,4,6]) Tryz.func38 (h:=fun KF=>?_)
      unfold E0
      repeat' (first
       |(with_reducible first|refine nx ?_|refine t_seq fun K=>?_|refine t_br (fun hc=>?_) fun hc=>?_|refine t_bx ?_|apply And.intro|intro vr)
       |((with_reducible first|refine ny ?_|refine t_dwh (h:=fun K KL=>?_));intros;simp only [go_sem,geff,h1',h2,z3]))
      refine end_ret rfl ?_
      simp only [fin,go_sem]
      exact LeA.refl _
   ·have h2':eqS s ⟨#[98,111,111,108]⟩=false:=by simpa using h2
    rw [if_neg h2]
    rcases hf with rfl|rfl
    ·skip
     refine pcO E0_ok (fun _=>[0,1,4,5,6,14]) Tryz.func40 (h:=fun KF=>?_)
     unfold E0
     repeat' (first
      |(with_reducible first|refine nx ?_|refine t_seq fun K=>?_|refine t_br (fun hc=>?_) fun hc=>?_|refine t_bx ?_|apply And.intro|intro vr)
      |((with_reducible first|refine ny ?_|refine t_dwh (h:=fun K KL=>?_));intros;simp only [go_sem,geff,h1',h2']))
     refine end_ret rfl ?_
     simp only [fin,go_sem]
     exact LeA.refl _
    ·skip
     refine pcO E0_ok (fun _=>[0,1,4,6]) Tryz.func38 (h:=fun KF=>?_)
     unfold E0
     repeat' (first
      |(with_reducible first|refine nx ?_|refine t_seq fun K=>?_|refine t_br (fun hc=>?_) fun hc=>?_|refine t_bx ?_|apply And.intro|intro vr)
      |((with_reducible first|refine ny ?_|refine t_dwh (h:=fun K KL=>?_));intros;simp only [go_sem,geff,h1',h2']))
     refine end_ret rfl ?_
     simp only [fin,go_sem]
     exact LeA.refl _
noncomputable def con40:PCon Tryz.prog where
  f:=40
  c:=fun
   |[.lit (.string s),.lit (.int .i64 n)]=>some (True,.lit (.bool (vld s n)))
   |_=>none
  ok:=by
   intro args p r hc hp
   split at hc
   ·cases hc;exact (vld_pc (.inl rfl))
   ·cases hc
  fk:=fk40
theorem con40_f:con40.f=40:=rfl
theorem con40_c {s:ByteArray} {n:Int}:con40.c [.lit (.string s),.lit (.int .i64 n)]=some (True,.lit (.bool (vld s n))):=rfl
noncomputable def con38:PCon Tryz.prog where
  f:=38
  c:=fun
   |[.lit (.string s),.lit (.int .i64 n)]=>some (True,.lit (.bool (vld s n)))
   |_=>none
  ok:=by
   intro args p r hc hp
   split at hc
   ·cases hc;exact (vld_pc (.inr rfl))
   ·cases hc
  fk:=fk38
theorem con38_f:con38.f=38:=rfl
theorem con38_c {s:ByteArray} {n:Int}:con38.c [.lit (.string s),.lit (.int .i64 n)]=some (True,.lit (.bool (vld s n))):=rfl
def idxG (p:Int→Bool):List Int→Int→Int
  |[],_=> -1
  |d::t,i=>if p d=true then i else idxG p t (i+1)
theorem idxG_any (p:Int→Bool):∀ (l:List Int) (i:Int),0≤i→decide (idxG p l i≥0)=l.any p
  |[],_,_=>rfl
  |d::t,i,hi=>by
   unfold idxG
   by_cases h:p d=true
   ·rw [if_pos h,List.any_cons,h,decide_eq_true hi];rfl
   ·rw [if_neg h,idxG_any p t (i+1) (by omega),List.any_cons]
    simp only [Bool.not_eq_true] at h
    rw [h];rfl
theorem index_pc {l:List Int} {v:Int} (hl:l.length≤1000000):PC Tryz.prog 115 [.sl false 1 (ints .i64 l),.lit (.int .i64 v)] (.lit (.int .i64 (idxG (fun d=>v==d) l 0))):=by
  generalize hR:idxG (fun d=>v==d) l 0=R
  refine pcO E0_ok (fun _=>[0,1,4,5,7,8,9,16]) Tryz.func115 (h:=fun KF=>?_)
  unfold E0
  repeat' (first
   |(with_reducible first|refine nx ?_|refine t_seq fun K=>?_|refine t_br (fun hc=>?_) fun hc=>?_|refine t_bx ?_|apply And.intro|intro vr)
   |((with_reducible first|refine ny ?_|refine t_dwh (h:=fun K KL=>?_));intros;simp only [go_sem,geff]))
  refine t_loop (ι:={i:Nat // i≤l.length∧idxG (fun d=>v==d) (l.drop i) i=R}) (fun i=>⟨upd (upd (upd (upd topF 8 (.lit (.int .i64 i.1))) 7 (.lit (.int .i64 l.length))) 1 (.lit (.int .i64 v))) 0 (.sl false 1 (ints .i64 l)),[]⟩) (fun i=>l.length - i.1) ⟨0,by omega,hR⟩ ?_ ?_
  ·skip
   (refine Le.frame ?_;repeat' (first|exact leF_top _|(with_reducible refine leF_sl ?_ ?_)|(refine leF_upd (LeR.of_eq ?_) ?_)))<;>(try (simp only [go_sem];try rfl))
  ·rintro ⟨i,hi,hF⟩ K0
   rcases Nat.lt_or_ge i l.length with hc|hc
   ·have g1:decide ((i:Int)<(l.length:Int))=true:=decide_eq_true (by omega)
    have g2:=ints_getD .i64 l i hc
    rw [drop_getD 0 hc,idxG] at hF
    generalize l.getD i 0=d at g2 hF
    by_cases he:(v==d)=true
    ·rw [if_pos he] at hF
     subst hF
     repeat' (first
      |(with_reducible first|refine nx ?_|refine t_seq fun K=>?_|refine t_br (fun hc=>?_) fun hc=>?_|refine t_bx ?_|apply And.intro|intro vr)
      |((with_reducible first|refine ny ?_|refine t_dwh (h:=fun K KL=>?_));intros;simp only [go_sem,geff,g1,g2,he,Int.toNat_natCast]))
     all_goals try exact om
     refine end_ret rfl ?_
     simp only [fin,go_sem]
     exact LeA.refl _
    ·rw [if_neg he] at hF
     have he':(v==d)=false:=by simpa using he
     repeat' (first
      |(with_reducible first|refine nx ?_|refine t_seq fun K=>?_|refine t_br (fun hc=>?_) fun hc=>?_|refine t_bx ?_|apply And.intro|intro vr)
      |((with_reducible first|refine ny ?_|refine t_dwh (h:=fun K KL=>?_));intros;simp only [go_sem,geff,g1,g2,he',Int.toNat_natCast]))
     all_goals try exact om
     refine ⟨⟨i+1,by omega,by rw [←hF];congr 1⟩,by simp only;omega,?_⟩
     (refine Le.frame ?_;repeat' (first|exact leF_top _|(with_reducible refine leF_sl ?_ ?_)|(refine leF_upd (LeR.of_eq ?_) ?_)))<;>(try (simp only [go_sem];try rfl))
   ·have g1:decide ((i:Int)<(l.length:Int))=false:=decide_eq_false (by omega)
    rw [List.drop_eq_nil_of_le hc,idxG] at hF
    subst hF
    repeat' (first
     |(with_reducible first|refine nx ?_|refine t_seq fun K=>?_|refine t_br (fun hc=>?_) fun hc=>?_|refine t_bx ?_|apply And.intro|intro vr)
     |((with_reducible first|refine ny ?_|refine t_dwh (h:=fun K KL=>?_));intros;simp only [go_sem,geff,g1]))
    refine end_ret rfl ?_
    simp only [fin,go_sem]
    exact LeA.refl _
noncomputable def con115:PCon Tryz.prog where
  f:=115
  c:=fun
   |[xl,.lit (.int .i64 v)]=>match slK .i64 xl with|some l=>some (l.length≤1000000,.lit (.int .i64 (idxG (fun d=>v==d) l 0)))|_=>none
   |_=>none
  ok:=by
   intro args p r hc hp
   split at hc
   ·split at hc
    ·rename_i hl
     cases hc
     exact PC.weak (index_pc hp) ⟨slK_le hl,LeA.refl _,trivial⟩
    ·cases hc
   ·cases hc
  fk:=fk115
theorem con115_f:con115.f=115:=rfl
theorem con115_c {xl:AV} {v:Int}:con115.c [xl,.lit (.int .i64 v)]=match slK .i64 xl with|some l=>some (l.length≤1000000,.lit (.int .i64 (idxG (fun d=>v==d) l 0)))|_=>none:=rfl
noncomputable def E1:Env:=envOf (P:=Tryz.prog) zer (fun _=>false) (fun _=>false) [con115] []
theorem E1_ok:EnvOk Tryz.prog E1:=envOk zer_ok
theorem contains_pc {l:List Int} {v:Int} (hl:l.length≤1000000):PC Tryz.prog 92 [.sl false 1 (ints .i64 l),.lit (.int .i64 v)] (.lit (.bool (l.any fun d=>v==d))):=by
  have h:=idxG_any (fun d=>v==d) l 0 (by omega)
  refine pcO E1_ok (fun _=>[0,1,4]) Tryz.func92 (h:=fun KF=>?_)
  unfold E1
  repeat' (first
   |(with_reducible first|refine nx ?_|refine t_seq fun K=>?_|refine t_br (fun hc=>?_) fun hc=>?_|refine t_bx ?_|apply And.intro|intro vr)
   |((with_reducible first|refine ny ?_|refine t_dwh (h:=fun K KL=>?_));intros;simp only [go_sem,geff,con115_f,con115_c,slK_sl,h]))
  all_goals try exact om
  refine end_ret rfl ?_
  simp only [fin,go_sem]
  exact LeA.refl _
noncomputable def con92:PCon Tryz.prog where
  f:=92
  c:=fun
   |[xl,.lit (.int .i64 v)]=>match slK .i64 xl with|some l=>some (l.length≤1000000,.lit (.bool (l.any fun d=>v==d)))|_=>none
   |_=>none
  ok:=by
   intro args p r hc hp
   split at hc
   ·split at hc
    ·rename_i hl
     cases hc
     exact PC.weak (contains_pc hp) ⟨slK_le hl,LeA.refl _,trivial⟩
    ·cases hc
   ·cases hc
  fk:=fk92
theorem con92_f:con92.f=92:=rfl
theorem con92_c {xl:AV} {v:Int}:con92.c [xl,.lit (.int .i64 v)]=match slK .i64 xl with|some l=>some (l.length≤1000000,.lit (.bool (l.any fun d=>v==d)))|_=>none:=rfl
theorem clone_pc {l:List Int} (hl:l.length≤1000000):PC Tryz.prog 71 [.sl false 1 (ints .i64 l)] (.sl false 1 (ints .i64 l)):=by
  refine pcO E0_ok (fun _=>[0,2,4]) Tryz.func71 (h:=fun KF=>?_)
  unfold E0
  repeat' (first
   |(with_reducible first|refine nx ?_|refine t_seq fun K=>?_|refine t_br (fun hc=>?_) fun hc=>?_|refine t_bx ?_|apply And.intro|intro vr)
   |((with_reducible first|refine ny ?_|refine t_dwh (h:=fun K KL=>?_));intros;simp only [go_sem,geff]))
  all_goals try exact om
  ·skip
   refine end_ret rfl ?_
   simp only [fin,go_sem]
   rw [show ints .i64 l=[] from by assumption]
   exact LeA.nil false 1
  ·skip
   refine end_ret rfl ?_
   simp only [fin,go_sem]
   exact LeA.refl _
noncomputable def con71:PCon Tryz.prog where
  f:=71
  c:=fun
   |[xl]=>match slK .i64 xl with|some l=>some (l.length≤1000000,.sl false 1 (ints .i64 l))|_=>none
   |_=>none
  ok:=by
   intro args p r hc hp
   split at hc
   ·split at hc
    ·rename_i hl
     cases hc
     exact PC.weak (clone_pc hp) ⟨slK_le hl,trivial⟩
    ·cases hc
   ·cases hc
  fk:=fk71
theorem con71_f:con71.f=71:=rfl
theorem con71_c {xl:AV}:con71.c [xl]=match slK .i64 xl with|some l=>some (l.length≤1000000,.sl false 1 (ints .i64 l))|_=>none:=rfl
theorem copy_pc {l:List Int} (hl:l.length≤1000000):PC Tryz.prog 72 [.sl false 1 (ints .i64 l)] (.sl false 1 (ints .i64 l)):=by
  refine pcO E0_ok (fun _=>[0,2]) Tryz.func72 (h:=fun KF=>?_)
  unfold E0
  repeat' (first
   |(with_reducible first|refine nx ?_|refine t_seq fun K=>?_|refine t_br (fun hc=>?_) fun hc=>?_|refine t_bx ?_|apply And.intro|intro vr)
   |((with_reducible first|refine ny ?_|refine t_dwh (h:=fun K KL=>?_));intros;simp only [go_sem,geff]))
  all_goals try exact om
  refine end_ret rfl ?_
  simp only [fin,go_sem]
  exact LeA.refl _
noncomputable def con72:PCon Tryz.prog where
  f:=72
  c:=fun
   |[xl]=>match slK .i64 xl with|some l=>some (l.length≤1000000,.sl false 1 (ints .i64 l))|_=>none
   |_=>none
  ok:=by
   intro args p r hc hp
   split at hc
   ·split at hc
    ·rename_i hl
     cases hc
     exact PC.weak (copy_pc hp) ⟨slK_le hl,trivial⟩
    ·cases hc
   ·cases hc
  fk:=fk72
theorem con72_f:con72.f=72:=rfl
theorem con72_c {xl:AV}:con72.c [xl]=match slK .i64 xl with|some l=>some (l.length≤1000000,.sl false 1 (ints .i64 l))|_=>none:=rfl
theorem drop_ne {l m:List Int} {i:Nat} (hl:i<l.length) (hm:i<m.length) (h:(l.getD i 0 !=m.getD i 0)=true):decide (l.drop i=m.drop i)=false:=by
  rw [drop_getD 0 hl,drop_getD 0 hm]
  rw [bne_iff_ne] at h
  exact decide_eq_false fun e=>h (List.cons.inj e).1
theorem drop_eq {l m:List Int} {i:Nat} (hl:i<l.length) (hm:i<m.length) (h:(l.getD i 0 !=m.getD i 0)=false):decide (l.drop i=m.drop i)=decide (l.drop (i+1)=m.drop (i+1)):=by
  rw [drop_getD 0 hl,drop_getD 0 hm]
  rw [bne_eq_false_iff_eq] at h
  rw [h]
  simp
theorem equal_pc {l m:List Int} (hl:l.length≤1000000):PC Tryz.prog 81 [.sl false 1 (ints .i64 l),.sl false 1 (ints .i64 m)] (.lit (.bool (decide (l=m)))):=by
  by_cases hn:l.length=m.length
  ·have g0:((l.length:Int) !=(m.length:Int))=false:=by rw [bne_eq_false_iff_eq];omega
   generalize hR:decide (l=m)=R
   refine pcO E0_ok (fun _=>[0,1,4,5,10,12,13,14,24]) Tryz.func81 (h:=fun KF=>?_)
   unfold E0
   repeat' (first
    |(with_reducible first|refine nx ?_|refine t_seq fun K=>?_|refine t_br (fun hc=>?_) fun hc=>?_|refine t_bx ?_|apply And.intro|intro vr)
    |((with_reducible first|refine ny ?_|refine t_dwh (h:=fun K KL=>?_));intros;simp only [go_sem,geff,g0]))
   refine t_loop (ι:={i:Nat // i≤l.length∧decide (l.drop i=m.drop i)=R}) (fun i=>⟨upd (upd (upd (upd topF 1 (.sl false 1 (ints .i64 m))) 0 (.sl false 1 (ints .i64 l))) 13 (.lit (.int .i64 i.1))) 12 (.lit (.int .i64 l.length)),[]⟩) (fun i=>l.length - i.1) ⟨0,by omega,hR⟩ ?_ ?_
   ·skip
    (refine Le.frame ?_;repeat' (first|exact leF_top _|(with_reducible refine leF_sl ?_ ?_)|(refine leF_upd (LeR.of_eq ?_) ?_)))<;>(try (simp only [go_sem];try rfl))
   ·rintro ⟨i,hi,hF⟩ K0
    rcases Nat.lt_or_ge i l.length with hc|hc
    ·have g1:decide ((i:Int)<(l.length:Int))=true:=decide_eq_true (by omega)
     have g2:=ints_getD .i64 l i hc
     have g3:=ints_getD .i64 m i (by omega)
     by_cases he:(l.getD i 0 !=m.getD i 0)=true
     ·rw [drop_ne hc (by omega) he] at hF
      subst hF
      repeat' (first
       |(with_reducible first|refine nx ?_|refine t_seq fun K=>?_|refine t_br (fun hc=>?_) fun hc=>?_|refine t_bx ?_|apply And.intro|intro vr)
       |((with_reducible first|refine ny ?_|refine t_dwh (h:=fun K KL=>?_));intros;simp only [go_sem,geff,g1,g2,g3,he,Int.toNat_natCast]))
      all_goals try exact om
      refine end_ret rfl ?_
      simp only [fin,go_sem]
      exact LeA.refl _
     ·have he':(l.getD i 0 !=m.getD i 0)=false:=by simpa using he
      rw [drop_eq hc (by omega) he'] at hF
      repeat' (first
       |(with_reducible first|refine nx ?_|refine t_seq fun K=>?_|refine t_br (fun hc=>?_) fun hc=>?_|refine t_bx ?_|apply And.intro|intro vr)
       |((with_reducible first|refine ny ?_|refine t_dwh (h:=fun K KL=>?_));intros;simp only [go_sem,geff,g1,g2,g3,he',Int.toNat_natCast]))
      all_goals try exact om
      refine ⟨⟨i+1,by omega,hF⟩,by simp only;omega,?_⟩
      (refine Le.frame ?_;repeat' (first|exact leF_top _|(with_reducible refine leF_sl ?_ ?_)|(refine leF_upd (LeR.of_eq ?_) ?_)))<;>(try (simp only [go_sem];try rfl))
    ·have g1:decide ((i:Int)<(l.length:Int))=false:=decide_eq_false (by omega)
     rw [List.drop_eq_nil_of_le hc,List.drop_eq_nil_of_le (by omega)] at hF
     subst hF
     repeat' (first
      |(with_reducible first|refine nx ?_|refine t_seq fun K=>?_|refine t_br (fun hc=>?_) fun hc=>?_|refine t_bx ?_|apply And.intro|intro vr)
      |((with_reducible first|refine ny ?_|refine t_dwh (h:=fun K KL=>?_));intros;simp only [go_sem,geff,g1]))
     refine end_ret rfl ?_
     simp only [fin,go_sem]
     exact LeA.refl _
  ·have g0:((l.length:Int) !=(m.length:Int))=true:=by rw [bne_iff_ne];omega
   have:decide (l=m)=false:=decide_eq_false fun e=>hn (by rw [e])
   rw [this]
   refine pcO E0_ok (fun _=>[0,1,4,5,10,12,13,14,24]) Tryz.func81 (h:=fun KF=>?_)
   unfold E0
   repeat' (first
    |(with_reducible first|refine nx ?_|refine t_seq fun K=>?_|refine t_br (fun hc=>?_) fun hc=>?_|refine t_bx ?_|apply And.intro|intro vr)
    |((with_reducible first|refine ny ?_|refine t_dwh (h:=fun K KL=>?_));intros;simp only [go_sem,geff,g0]))
   refine end_ret rfl ?_
   simp only [fin,go_sem]
   exact LeA.refl _
noncomputable def con81:PCon Tryz.prog where
  f:=81
  c:=fun
   |[xl,xm]=>match slK .i64 xl,slK .i64 xm with|some l,some m=>some (l.length≤1000000,.lit (.bool (decide (l=m))))|_,_=>none
   |_=>none
  ok:=by
   intro args p r hc hp
   split at hc
   ·split at hc
    ·rename_i hl hm
     cases hc
     exact PC.weak (equal_pc hp) ⟨slK_le hl,slK_le hm,trivial⟩
    ·cases hc
   ·cases hc
  fk:=fk81
theorem con81_f:con81.f=81:=rfl
theorem con81_c {xl:AV} {xm:AV}:con81.c [xl,xm]=match slK .i64 xl,slK .i64 xm with|some l,some m=>some (l.length≤1000000,.lit (.bool (decide (l=m))))|_,_=>none:=rfl
theorem same_pc {l m:List Int} (hl:l.length≤1000000):PC Tryz.prog 26 [.sl false 1 (ints .i64 l),.sl false 1 (ints .i64 m)] (.lit (.bool (decide (l=m)))):=by
  by_cases hn:l.length=m.length
  ·have g0:((l.length:Int) !=(m.length:Int))=false:=by rw [bne_eq_false_iff_eq];omega
   generalize hR:decide (l=m)=R
   refine pcO E0_ok (fun _=>[0,1,4,5,10,14,25]) Tryz.func26 (h:=fun KF=>?_)
   unfold E0
   repeat' (first
    |(with_reducible first|refine nx ?_|refine t_seq fun K=>?_|refine t_br (fun hc=>?_) fun hc=>?_|refine t_bx ?_|apply And.intro|intro vr)
    |((with_reducible first|refine ny ?_|refine t_dwh (h:=fun K KL=>?_));intros;simp only [go_sem,geff,g0]))
   refine t_loop (ι:={i:Nat // i≤l.length∧decide (l.drop i=m.drop i)=R}) (fun i=>⟨upd (upd (upd topF 1 (.sl false 1 (ints .i64 m))) 0 (.sl false 1 (ints .i64 l))) 5 (.lit (.int .i64 i.1)),[]⟩) (fun i=>l.length - i.1) ⟨0,by omega,hR⟩ ?_ ?_
   ·skip
    (refine Le.frame ?_;repeat' (first|exact leF_top _|(with_reducible refine leF_sl ?_ ?_)|(refine leF_upd (LeR.of_eq ?_) ?_)))<;>(try (simp only [go_sem];try rfl))
   ·rintro ⟨i,hi,hF⟩ K0
    rcases Nat.lt_or_ge i l.length with hc|hc
    ·have g1:decide ((i:Int)<(l.length:Int))=true:=decide_eq_true (by omega)
     have g2:=ints_getD .i64 l i hc
     have g3:=ints_getD .i64 m i (by omega)
     by_cases he:(l.getD i 0 !=m.getD i 0)=true
     ·rw [drop_ne hc (by omega) he] at hF
      subst hF
      repeat' (first
       |(with_reducible first|refine nx ?_|refine t_seq fun K=>?_|refine t_br (fun hc=>?_) fun hc=>?_|refine t_bx ?_|apply And.intro|intro vr)
       |((with_reducible first|refine ny ?_|refine t_dwh (h:=fun K KL=>?_));intros;simp only [go_sem,geff,g1,g2,g3,he,Int.toNat_natCast]))
      all_goals try exact om
      refine end_ret rfl ?_
      simp only [fin,go_sem]
      exact LeA.refl _
     ·have he':(l.getD i 0 !=m.getD i 0)=false:=by simpa using he
      rw [drop_eq hc (by omega) he'] at hF
      repeat' (first
       |(with_reducible first|refine nx ?_|refine t_seq fun K=>?_|refine t_br (fun hc=>?_) fun hc=>?_|refine t_bx ?_|apply And.intro|intro vr)
       |((with_reducible first|refine ny ?_|refine t_dwh (h:=fun K KL=>?_));intros;simp only [go_sem,geff,g1,g2,g3,he',Int.toNat_natCast]))
      all_goals try exact om
      refine ⟨⟨i+1,by omega,hF⟩,by simp only;omega,?_⟩
      (refine Le.frame ?_;repeat' (first|exact leF_top _|(with_reducible refine leF_sl ?_ ?_)|(refine leF_upd (LeR.of_eq ?_) ?_)))<;>(try (simp only [go_sem];try rfl))
    ·have g1:decide ((i:Int)<(l.length:Int))=false:=decide_eq_false (by omega)
     rw [List.drop_eq_nil_of_le hc,List.drop_eq_nil_of_le (by omega)] at hF
     subst hF
     repeat' (first
      |(with_reducible first|refine nx ?_|refine t_seq fun K=>?_|refine t_br (fun hc=>?_) fun hc=>?_|refine t_bx ?_|apply And.intro|intro vr)
      |((with_reducible first|refine ny ?_|refine t_dwh (h:=fun K KL=>?_));intros;simp only [go_sem,geff,g1]))
     refine end_ret rfl ?_
     simp only [fin,go_sem]
     exact LeA.refl _
  ·have g0:((l.length:Int) !=(m.length:Int))=true:=by rw [bne_iff_ne];omega
   have:decide (l=m)=false:=decide_eq_false fun e=>hn (by rw [e])
   rw [this]
   refine pcO E0_ok (fun _=>[0,1,4,5,10,14,25]) Tryz.func26 (h:=fun KF=>?_)
   unfold E0
   repeat' (first
    |(with_reducible first|refine nx ?_|refine t_seq fun K=>?_|refine t_br (fun hc=>?_) fun hc=>?_|refine t_bx ?_|apply And.intro|intro vr)
    |((with_reducible first|refine ny ?_|refine t_dwh (h:=fun K KL=>?_));intros;simp only [go_sem,geff,g0]))
   refine end_ret rfl ?_
   simp only [fin,go_sem]
   exact LeA.refl _
noncomputable def con26:PCon Tryz.prog where
  f:=26
  c:=fun
   |[xl,xm]=>match slK .i64 xl,slK .i64 xm with|some l,some m=>some (l.length≤1000000,.lit (.bool (decide (l=m))))|_,_=>none
   |_=>none
  ok:=by
   intro args p r hc hp
   split at hc
   ·split at hc
    ·rename_i hl hm
     cases hc
     exact PC.weak (same_pc hp) ⟨slK_le hl,slK_le hm,trivial⟩
    ·cases hc
   ·cases hc
  fk:=fk26
theorem con26_f:con26.f=26:=rfl
theorem con26_c {xl:AV} {xm:AV}:con26.c [xl,xm]=match slK .i64 xl,slK .i64 xm with|some l,some m=>some (l.length≤1000000,.lit (.bool (decide (l=m))))|_,_=>none:=rfl
end Go.Proofs.YtcpjahmajkhchaaGreat

namespace Go.Proofs.YtcpjahmajkhchaaGreat
open Go Go.Fw
set_option maxRecDepth 20000
def szV (p:Int×Int):AV:= .tup [.lit (.int .i64 p.1),.lit (.int .i64 p.2)]
theorem mul_bd {n d:Int} (hn:0≤n∧n≤4096) (hd:0≤d∧d≤4096):0≤n*d∧n*d≤16777216:=by
  constructor
  ·exact Int.mul_nonneg hn.1 hd.1
  ·have:=Int.mul_le_mul hn.2 hd.2 hd.1 (by omega)
   omega
structure Ls (l:List Int) (G:Int×Int) where
  i:Nat
  n:Int
  hi:i≤l.length
  hn:0≤n∧n≤4096
  hF:prodS (l.drop i) n=G
noncomputable def E2:Env:=envOf (P:=Tryz.prog) zer (fun _=>false) (fun _=>false) [con92] []
theorem E2_ok:EnvOk Tryz.prog E2:=envOk zer_ok
set_option maxHeartbeats 1000000 in
theorem size_pc {l:List Int} (hl:l.length≤1000000):PC Tryz.prog 69 [.sl false 1 (ints .i64 l)] (szV (sizeS l)):=by
  unfold sizeS
  by_cases h6:l.length>6
  ·have g0:decide ((l.length:Int)>6)=true:=decide_eq_true (by omega)
   rw [if_pos h6]
   refine pcO E2_ok (fun _=>[0,2,3,5,6,8,11,12,13,14,15,23,26,27,28,29,30,37]) Tryz.func69 (h:=fun KF=>?_)
   unfold E2
   repeat' (first
    |(with_reducible first|refine nx ?_|refine t_seq fun K=>?_|refine t_br (fun hc=>?_) fun hc=>?_|refine t_bx ?_|apply And.intro|intro vr)
    |((with_reducible first|refine ny ?_|refine t_dwh (h:=fun K KL=>?_));intros;simp only [go_sem,geff,con92_f,g0]))
   refine end_ret rfl ?_
   simp only [fin,go_sem,szV]
   exact LeA.refl _
  ·have g0:decide ((l.length:Int)>6)=false:=decide_eq_false (by omega)
   rw [if_neg h6]
   generalize hB:l.any badD=Bb
   generalize hG:prodS l 1=G
   refine pcO E2_ok (fun _=>[0,2,3,5,6,8,11,12,13,14,15,23,26,27,28,29,30,37]) Tryz.func69 (h:=fun KF=>?_)
   unfold E2
   repeat' (first
    |(with_reducible first|refine nx ?_|refine t_seq fun K=>?_|refine t_br (fun hc=>?_) fun hc=>?_|refine t_bx ?_|apply And.intro|intro vr)
    |((with_reducible first|refine ny ?_|refine t_dwh (h:=fun K KL=>?_));intros;simp only [go_sem,geff,con92_f,g0]))
   refine t_loop (ι:={i:Nat // i≤l.length∧(l.drop i).any badD=Bb}) (fun i=>⟨upd (upd (upd (upd topF 14 (.lit (.int .i64 i.1))) 13 (.lit (.int .i64 l.length))) 12 (.sl false 1 (ints .i64 l))) 0 (.sl false 1 (ints .i64 l)),[]⟩) (fun i=>l.length - i.1) ⟨0,by omega,hB⟩ ?_ ?_
   ·skip
    (refine Le.frame ?_;repeat' (first|exact leF_top _|(with_reducible refine leF_sl ?_ ?_)|(refine leF_upd (LeR.of_eq ?_) ?_)))<;>(try (simp only [go_sem];try rfl))
   ·rintro ⟨i,hi,hF⟩ K0
    rcases Nat.lt_or_ge i l.length with hc|hc
    ·have g1:decide ((i:Int)<(l.length:Int))=true:=decide_eq_true (by omega)
     have g2:=ints_getD .i64 l i hc
     rw [drop_getD 0 hc,List.any_cons] at hF
     generalize l.getD i 0=d at g2 hF
     rw [show badD d=(decide (d<0)||decide (d>4096)) from rfl] at hF
     by_cases d1:d<0
     ·have d1':decide (d<0)=true:=decide_eq_true d1
      have:Bb=true:=by rw [←hF,d1'];rfl
      subst this
      repeat' (first
       |(with_reducible first|refine nx ?_|refine t_seq fun K=>?_|refine t_br (fun hc=>?_) fun hc=>?_|refine t_bx ?_|apply And.intro|intro vr)
       |((with_reducible first|refine ny ?_|refine t_dwh (h:=fun K KL=>?_));intros;simp only [go_sem,geff,con92_f,g1,g2,d1',Int.toNat_natCast]))
      all_goals try exact om
      refine end_ret rfl ?_
      simp only [fin,go_sem,szV]
      exact LeA.refl _
     ·have d1':decide (d<0)=false:=decide_eq_false d1
      by_cases d2:d>4096
      ·have d2':decide (d>4096)=true:=decide_eq_true d2
       have:Bb=true:=by rw [←hF,d1',d2'];rfl
       subst this
       repeat' (first
        |(with_reducible first|refine nx ?_|refine t_seq fun K=>?_|refine t_br (fun hc=>?_) fun hc=>?_|refine t_bx ?_|apply And.intro|intro vr)
        |((with_reducible first|refine ny ?_|refine t_dwh (h:=fun K KL=>?_));intros;simp only [go_sem,geff,con92_f,g1,g2,d1',d2',Int.toNat_natCast]))
       all_goals try exact om
       refine end_ret rfl ?_
       simp only [fin,go_sem,szV]
       exact LeA.refl _
      ·have d2':decide (d>4096)=false:=decide_eq_false d2
       rw [d1',d2',Bool.false_or,Bool.false_or] at hF
       repeat' (first
        |(with_reducible first|refine nx ?_|refine t_seq fun K=>?_|refine t_br (fun hc=>?_) fun hc=>?_|refine t_bx ?_|apply And.intro|intro vr)
        |((with_reducible first|refine ny ?_|refine t_dwh (h:=fun K KL=>?_));intros;simp only [go_sem,geff,con92_f,g1,g2,d1',d2',Int.toNat_natCast]))
       all_goals try exact om
       refine ⟨⟨i+1,by omega,hF⟩,by simp only;omega,?_⟩
       (refine Le.frame ?_;repeat' (first|exact leF_top _|(with_reducible refine leF_sl ?_ ?_)|(refine leF_upd (LeR.of_eq ?_) ?_)))<;>(try (simp only [go_sem];try rfl))
    ·have g1:decide ((i:Int)<(l.length:Int))=false:=decide_eq_false (by omega)
     rw [List.drop_eq_nil_of_le hc,List.any_nil] at hF
     subst hF
     have hd:=bad_no (by rw [hB];simp)
     by_cases h0:(l.any fun d=>0==d)=true
     ·skip
      repeat' (first
       |(with_reducible first|refine nx ?_|refine t_seq fun K=>?_|refine t_br (fun hc=>?_) fun hc=>?_|refine t_bx ?_|apply And.intro|intro vr)
       |((with_reducible first|refine ny ?_|refine t_dwh (h:=fun K KL=>?_));intros;simp only [go_sem,geff,con92_f,con92_c,slK_sl,g1,h0]))
      all_goals try exact om
      refine end_ret rfl ?_
      simp only [fin,go_sem,szV,h0,Bool.false_eq_true]
      exact LeA.refl _
     ·have h0':(l.any fun d=>0==d)=false:=Bool.eq_false_iff.2 h0
      repeat' (first
       |(with_reducible first|refine nx ?_|refine t_seq fun K=>?_|refine t_br (fun hc=>?_) fun hc=>?_|refine t_bx ?_|apply And.intro|intro vr)
       |((with_reducible first|refine ny ?_|refine t_dwh (h:=fun K KL=>?_));intros;simp only [go_sem,geff,con92_f,con92_c,slK_sl,g1,h0']))
      all_goals try exact om
      refine t_loop (ι:=Ls l G) (fun i=>⟨upd (upd (upd (upd topF 29 (.lit (.int .i64 i.i))) 28 (.lit (.int .i64 l.length))) 27 (.sl false 1 (ints .i64 l))) 6 (.lit (.int .i64 i.n)),[]⟩) (fun i=>l.length - i.i) ⟨0,1,by omega,by omega,hG⟩ ?_ ?_
      ·skip
       (refine Le.frame ?_;repeat' (first|exact leF_top _|(with_reducible refine leF_sl ?_ ?_)|(refine leF_upd (LeR.of_eq ?_) ?_)))<;>(try (simp only [go_sem];try rfl))
      ·rintro ⟨i,n,hi,hn,hF⟩ K1
       rcases Nat.lt_or_ge i l.length with hc|hc
       ·have g1:decide ((i:Int)<(l.length:Int))=true:=decide_eq_true (by omega)
        have g2:=ints_getD .i64 l i hc
        have hd':=hd (l.getD i 0) (by rw [List.getD_eq_getElem?_getD,List.getElem?_eq_getElem hc];exact List.getElem_mem _)
        rw [drop_getD 0 hc,prodS] at hF
        generalize l.getD i 0=d at g2 hF hd'
        have hb:=mul_bd hn hd'
        by_cases hp:n*d>4096
        ·have hp':decide (n*d>4096)=true:=decide_eq_true hp
         rw [if_pos hp] at hF
         subst hF
         repeat' (first
          |(with_reducible first|refine nx ?_|refine t_seq fun K=>?_|refine t_br (fun hc=>?_) fun hc=>?_|refine t_bx ?_|apply And.intro|intro vr)
          |((with_reducible first|refine ny ?_|refine t_dwh (h:=fun K KL=>?_));intros;simp only [go_sem,geff,con92_f,g1,g2,hp',Int.toNat_natCast]))
         all_goals try exact om
         refine end_ret rfl ?_
         simp only [fin,go_sem,szV,h0',Bool.false_eq_true]
         exact LeA.refl _
        ·have hp':decide (n*d>4096)=false:=decide_eq_false hp
         rw [if_neg hp] at hF
         repeat' (first
          |(with_reducible first|refine nx ?_|refine t_seq fun K=>?_|refine t_br (fun hc=>?_) fun hc=>?_|refine t_bx ?_|apply And.intro|intro vr)
          |((with_reducible first|refine ny ?_|refine t_dwh (h:=fun K KL=>?_));intros;simp only [go_sem,geff,con92_f,g1,g2,hp',Int.toNat_natCast]))
         all_goals try exact om
         refine ⟨⟨i+1,n*d,by omega,by omega,hF⟩,by simp only;omega,?_⟩
         (refine Le.frame ?_;repeat' (first|exact leF_top _|(with_reducible refine leF_sl ?_ ?_)|(refine leF_upd (LeR.of_eq ?_) ?_)))<;>(try (simp only [go_sem];try rfl))
       ·have g1:decide ((i:Int)<(l.length:Int))=false:=decide_eq_false (by omega)
        rw [List.drop_eq_nil_of_le hc,prodS] at hF
        subst hF
        repeat' (first
         |(with_reducible first|refine nx ?_|refine t_seq fun K=>?_|refine t_br (fun hc=>?_) fun hc=>?_|refine t_bx ?_|apply And.intro|intro vr)
         |((with_reducible first|refine ny ?_|refine t_dwh (h:=fun K KL=>?_));intros;simp only [go_sem,geff,con92_f,g1]))
        refine end_ret rfl ?_
        simp only [fin,go_sem,szV,h0',Bool.false_eq_true]
        exact LeA.refl _
noncomputable def con69:PCon Tryz.prog where
  f:=69
  c:=fun
   |[xl]=>match slK .i64 xl with|some l=>some (l.length≤1000000,szV (sizeS l))|_=>none
   |_=>none
  ok:=by
   intro args p r hc hp
   split at hc
   ·split at hc
    ·rename_i hl
     cases hc
     exact PC.weak (size_pc hp) ⟨slK_le hl,trivial⟩
    ·cases hc
   ·cases hc
  fk:=fk69
theorem con69_f:con69.f=69:=rfl
theorem con69_c {xl:AV}:con69.c [xl]=match slK .i64 xl with|some l=>some (l.length≤1000000,szV (sizeS l))|_=>none:=rfl
set_option maxHeartbeats 1000000 in
theorem rsize_pc {l:List Int} (hl:l.length≤1000000):PC Tryz.prog 50 [.sl false 1 (ints .i64 l)] (szV (sizeS l)):=by
  unfold sizeS
  by_cases h6:l.length>6
  ·have g0:decide ((l.length:Int)>6)=true:=decide_eq_true (by omega)
   rw [if_pos h6]
   refine pcO E0_ok (fun _=>[0,2,3,4,5,6,7,10,14,28,37,41,51]) Tryz.func50 (h:=fun KF=>?_)
   unfold E0
   repeat' (first
    |(with_reducible first|refine nx ?_|refine t_seq fun K=>?_|refine t_br (fun hc=>?_) fun hc=>?_|refine t_bx ?_|apply And.intro|intro vr)
    |((with_reducible first|refine ny ?_|refine t_dwh (h:=fun K KL=>?_));intros;simp only [go_sem,geff,g0]))
   refine end_ret rfl ?_
   simp only [fin,go_sem,szV]
   exact LeA.refl _
  ·have g0:decide ((l.length:Int)>6)=false:=decide_eq_false (by omega)
   rw [if_neg h6]
   generalize hB:l.any badD=Bb
   generalize hG:prodS l 1=G
   generalize hZ:(l.any fun d=>0==d)=Z
   refine pcO E0_ok (fun _=>[0,2,3,4,5,6,7,10,14,28,37,41,51]) Tryz.func50 (h:=fun KF=>?_)
   unfold E0
   repeat' (first
    |(with_reducible first|refine nx ?_|refine t_seq fun K=>?_|refine t_br (fun hc=>?_) fun hc=>?_|refine t_bx ?_|apply And.intro|intro vr)
    |((with_reducible first|refine ny ?_|refine t_dwh (h:=fun K KL=>?_));intros;simp only [go_sem,geff,g0]))
   refine t_loop (ι:={i:Nat×Bool // i.1≤l.length∧(l.drop i.1).any badD=Bb∧(i.2||(l.drop i.1).any fun d=>0==d)=Z}) (fun i=>⟨upd (upd (upd topF 5 (.lit (.int .i64 i.1.1))) 4 (.lit (.bool i.1.2))) 0 (.sl false 1 (ints .i64 l)),[]⟩) (fun i=>l.length - i.1.1) ⟨(0,false),by simp,hB,by simpa using hZ⟩ ?_ ?_
   ·skip
    (refine Le.frame ?_;repeat' (first|exact leF_top _|(with_reducible refine leF_sl ?_ ?_)|(refine leF_upd (LeR.of_eq ?_) ?_)))<;>(try (simp only [go_sem];try rfl))
   ·rintro ⟨⟨i,z⟩,hi,hF,hY⟩ K0
    simp only at hi hF hY
    rcases Nat.lt_or_ge i l.length with hc|hc
    ·have g1:decide ((i:Int)<(l.length:Int))=true:=decide_eq_true (by omega)
     have g2:=ints_getD .i64 l i hc
     rw [drop_getD 0 hc,List.any_cons] at hF
     rw [drop_getD 0 hc,List.any_cons,←Bool.or_assoc] at hY
     generalize l.getD i 0=d at g2 hF hY
     rw [show badD d=(decide (d<0)||decide (d>4096)) from rfl] at hF
     by_cases d1:d<0
     ·have d1':decide (d<0)=true:=decide_eq_true d1
      have:Bb=true:=by rw [←hF,d1'];rfl
      subst this
      repeat' (first
       |(with_reducible first|refine nx ?_|refine t_seq fun K=>?_|refine t_br (fun hc=>?_) fun hc=>?_|refine t_bx ?_|apply And.intro|intro vr)
       |((with_reducible first|refine ny ?_|refine t_dwh (h:=fun K KL=>?_));intros;simp only [go_sem,geff,g1,g2,d1',Int.toNat_natCast]))
      all_goals try exact om
      refine end_ret rfl ?_
      simp only [fin,go_sem,szV]
      exact LeA.refl _
     ·have d1':decide (d<0)=false:=decide_eq_false d1
      by_cases d2:d>4096
      ·have d2':decide (d>4096)=true:=decide_eq_true d2
       have:Bb=true:=by rw [←hF,d1',d2'];rfl
       subst this
       repeat' (first
        |(with_reducible first|refine nx ?_|refine t_seq fun K=>?_|refine t_br (fun hc=>?_) fun hc=>?_|refine t_bx ?_|apply And.intro|intro vr)
        |((with_reducible first|refine ny ?_|refine t_dwh (h:=fun K KL=>?_));intros;simp only [go_sem,geff,g1,g2,d1',d2',Int.toNat_natCast]))
       all_goals try exact om
       refine end_ret rfl ?_
       simp only [fin,go_sem,szV]
       exact LeA.refl _
      ·have d2':decide (d>4096)=false:=decide_eq_false d2
       rw [d1',d2',Bool.false_or,Bool.false_or] at hF
       cases z
       ·by_cases e0:(d==0)=true
        ·have e1:(0==d)=true:=by rw [beq_iff_eq] at e0 ⊢;exact e0.symm
         rw [e1] at hY
         repeat' (first
          |(with_reducible first|refine nx ?_|refine t_seq fun K=>?_|refine t_br (fun hc=>?_) fun hc=>?_|refine t_bx ?_|apply And.intro|intro vr)
          |((with_reducible first|refine ny ?_|refine t_dwh (h:=fun K KL=>?_));intros;simp only [go_sem,geff,g1,g2,d1',d2',e0,Int.toNat_natCast]))
         all_goals try exact om
         refine ⟨⟨(i+1,true),by simp only;omega,hF,hY⟩,by simp only;omega,?_⟩
         (refine Le.frame ?_;repeat' (first|exact leF_top _|(with_reducible refine leF_sl ?_ ?_)|(refine leF_upd (LeR.of_eq ?_) ?_)))<;>(try (simp only [go_sem];try rfl))
        ·have e0':(d==0)=false:=by simpa using e0
         have e1:(0==d)=false:=by rw [beq_eq_false_iff_ne] at e0' ⊢;exact fun h=>e0' h.symm
         rw [e1] at hY
         repeat' (first
          |(with_reducible first|refine nx ?_|refine t_seq fun K=>?_|refine t_br (fun hc=>?_) fun hc=>?_|refine t_bx ?_|apply And.intro|intro vr)
          |((with_reducible first|refine ny ?_|refine t_dwh (h:=fun K KL=>?_));intros;simp only [go_sem,geff,g1,g2,d1',d2',e0',Int.toNat_natCast]))
         all_goals try exact om
         refine ⟨⟨(i+1,false),by simp only;omega,hF,hY⟩,by simp only;omega,?_⟩
         (refine Le.frame ?_;repeat' (first|exact leF_top _|(with_reducible refine leF_sl ?_ ?_)|(refine leF_upd (LeR.of_eq ?_) ?_)))<;>(try (simp only [go_sem];try rfl))
       ·skip
        repeat' (first
         |(with_reducible first|refine nx ?_|refine t_seq fun K=>?_|refine t_br (fun hc=>?_) fun hc=>?_|refine t_bx ?_|apply And.intro|intro vr)
         |((with_reducible first|refine ny ?_|refine t_dwh (h:=fun K KL=>?_));intros;simp only [go_sem,geff,g1,g2,d1',d2',Int.toNat_natCast]))
        all_goals try exact om
        refine ⟨⟨(i+1,true),by simp only;omega,hF,by rw [←hY];simp⟩,by simp only;omega,?_⟩
        (refine Le.frame ?_;repeat' (first|exact leF_top _|(with_reducible refine leF_sl ?_ ?_)|(refine leF_upd (LeR.of_eq ?_) ?_)))<;>(try (simp only [go_sem];try rfl))
    ·have g1:decide ((i:Int)<(l.length:Int))=false:=decide_eq_false (by omega)
     rw [List.drop_eq_nil_of_le hc,List.any_nil] at hF
     rw [List.drop_eq_nil_of_le hc,List.any_nil,Bool.or_false] at hY
     subst hF
     have hd:=bad_no (by rw [hB];simp)
     cases z
     ·subst hY
      repeat' (first
       |(with_reducible first|refine nx ?_|refine t_seq fun K=>?_|refine t_br (fun hc=>?_) fun hc=>?_|refine t_bx ?_|apply And.intro|intro vr)
       |((with_reducible first|refine ny ?_|refine t_dwh (h:=fun K KL=>?_));intros;simp only [go_sem,geff,g1]))
      refine t_loop (ι:=Ls l G) (fun i=>⟨upd (upd (upd topF 7 (.lit (.int .i64 i.i))) 6 (.lit (.int .i64 i.n))) 0 (.sl false 1 (ints .i64 l)),[]⟩) (fun i=>l.length - i.i) ⟨0,1,by omega,by omega,hG⟩ ?_ ?_
      ·skip
       (refine Le.frame ?_;repeat' (first|exact leF_top _|(with_reducible refine leF_sl ?_ ?_)|(refine leF_upd (LeR.of_eq ?_) ?_)))<;>(try (simp only [go_sem];try rfl))
      ·rintro ⟨i,n,hi,hn,hF⟩ K1
       rcases Nat.lt_or_ge i l.length with hc|hc
       ·have g1:decide ((i:Int)<(l.length:Int))=true:=decide_eq_true (by omega)
        have g2:=ints_getD .i64 l i hc
        have hd':=hd (l.getD i 0) (by rw [List.getD_eq_getElem?_getD,List.getElem?_eq_getElem hc];exact List.getElem_mem _)
        rw [drop_getD 0 hc,prodS] at hF
        generalize l.getD i 0=d at g2 hF hd'
        have hb:=mul_bd hn hd'
        by_cases hp:n*d>4096
        ·have hp':decide (n*d>4096)=true:=decide_eq_true hp
         rw [if_pos hp] at hF
         subst hF
         repeat' (first
          |(with_reducible first|refine nx ?_|refine t_seq fun K=>?_|refine t_br (fun hc=>?_) fun hc=>?_|refine t_bx ?_|apply And.intro|intro vr)
          |((with_reducible first|refine ny ?_|refine t_dwh (h:=fun K KL=>?_));intros;simp only [go_sem,geff,g1,g2,hp',Int.toNat_natCast]))
         all_goals try exact om
         refine end_ret rfl ?_
         simp only [fin,go_sem,szV,Bool.false_eq_true]
         exact LeA.refl _
        ·have hp':decide (n*d>4096)=false:=decide_eq_false hp
         rw [if_neg hp] at hF
         repeat' (first
          |(with_reducible first|refine nx ?_|refine t_seq fun K=>?_|refine t_br (fun hc=>?_) fun hc=>?_|refine t_bx ?_|apply And.intro|intro vr)
          |((with_reducible first|refine ny ?_|refine t_dwh (h:=fun K KL=>?_));intros;simp only [go_sem,geff,g1,g2,hp',Int.toNat_natCast]))
         all_goals try exact om
         refine ⟨⟨i+1,n*d,by omega,by omega,hF⟩,by simp only;omega,?_⟩
         (refine Le.frame ?_;repeat' (first|exact leF_top _|(with_reducible refine leF_sl ?_ ?_)|(refine leF_upd (LeR.of_eq ?_) ?_)))<;>(try (simp only [go_sem];try rfl))
       ·have g1:decide ((i:Int)<(l.length:Int))=false:=decide_eq_false (by omega)
        rw [List.drop_eq_nil_of_le hc,prodS] at hF
        subst hF
        repeat' (first
         |(with_reducible first|refine nx ?_|refine t_seq fun K=>?_|refine t_br (fun hc=>?_) fun hc=>?_|refine t_bx ?_|apply And.intro|intro vr)
         |((with_reducible first|refine ny ?_|refine t_dwh (h:=fun K KL=>?_));intros;simp only [go_sem,geff,g1]))
        refine end_ret rfl ?_
        simp only [fin,go_sem,szV,Bool.false_eq_true]
        exact LeA.refl _
     ·subst hY
      repeat' (first
       |(with_reducible first|refine nx ?_|refine t_seq fun K=>?_|refine t_br (fun hc=>?_) fun hc=>?_|refine t_bx ?_|apply And.intro|intro vr)
       |((with_reducible first|refine ny ?_|refine t_dwh (h:=fun K KL=>?_));intros;simp only [go_sem,geff,g1]))
      refine end_ret rfl ?_
      simp only [fin,go_sem,szV,Bool.false_eq_true]
      exact LeA.refl _
noncomputable def con50:PCon Tryz.prog where
  f:=50
  c:=fun
   |[xl]=>match slK .i64 xl with|some l=>some (l.length≤1000000,szV (sizeS l))|_=>none
   |_=>none
  ok:=by
   intro args p r hc hp
   split at hc
   ·split at hc
    ·rename_i hl
     cases hc
     exact PC.weak (rsize_pc hp) ⟨slK_le hl,trivial⟩
    ·cases hc
   ·cases hc
  fk:=fk50
theorem con50_f:con50.f=50:=rfl
theorem con50_c {xl:AV}:con50.c [xl]=match slK .i64 xl with|some l=>some (l.length≤1000000,szV (sizeS l))|_=>none:=rfl
end Go.Proofs.YtcpjahmajkhchaaGreat

namespace Go.Proofs.YtcpjahmajkhchaaGreat
open Go Go.Fw
set_option maxRecDepth 20000
theorem LeL.len:∀ {xs ys:List AV},LeL xs ys→xs.length=ys.length
  |[],[],_=>rfl
  |_::_,_::_,h=>by simp [LeL.len h.2]
  |[],_::_,h=>h.elim
  |_::_,[],h=>h.elim
theorem LeA.agg {xs ys:List AV} (h:LeL xs ys):LeA (.agg xs) (.agg ys):=fun C v hv=>by
  cases hv with
  |agg _ vs hl h1 hh=>exact .agg ys vs (h.rl ⟨hl,hh⟩).1 (fun i hi=>h1 i (by rw [LeL.len h];exact hi)) (h.rl ⟨hl,hh⟩).2
theorem LeL.refl:∀ (xs:List AV),LeL xs xs
  |[]=>trivial
  |x::xs=>⟨LeA.refl x,LeL.refl xs⟩
theorem LeL.append:∀ {xs ys us vs:List AV},LeL xs ys→LeL us vs→LeL (xs++us) (ys++vs)
  |[],[],_,_,_,h=>h
  |_::_,_::_,_,_,h,h'=>⟨h.1,LeL.append h.2 h'⟩
  |[],_::_,_,_,h,_=>h.elim
  |_::_,[],_,_,h,_=>h.elim
theorem LeL.get:∀ {xs ys:List AV},LeL xs ys→∀ i,LeA (xs.getD i .top) (ys.getD i .top)
  |[],[],_,_=>LeA.refl _
  |x::xs,y::ys,h,0=>by simpa using h.1
  |x::xs,y::ys,h,i+1=>by simpa using LeL.get h.2 i
  |[],_::_,h,_=>h.elim
  |_::_,[],h,_=>h.elim
theorem LeA.sl {b:Bool} {sz:Nat} {xs ys:List AV} (hl:xs.length=ys.length) (hw:∀ y∈ys,y.cells.length=sz) (h:LeL (flat xs) (flat ys)):LeA (.sl b sz xs) (.sl false sz ys):=fun C v hv=>by
  cases hv with
  |nil full sz a=>
   have:ys=[]:=List.eq_nil_of_length_eq_zero (by simpa using hl.symm)
   subst this
   exact .nil false sz a
  |sl full sz xs bb off cap f hc hm hf hw' hC h1 hR=>
   rw [hl]
   exact .sl false sz ys bb off cap f (by rw [←hl];exact hc) hm (by simp) hw (fun j hj=>hC j (by rw [LeL.len h];exact hj)) (fun j hj=>h1 j (by rw [LeL.len h];exact hj))
     (fun j hj=>LeL.get h j _ _ (hR j (by rw [LeL.len h];exact hj)))
def arrOf:AV→Option Arr
  |.agg [.lit (.string e),x,y]=>match slK .i64 x,slK .i64 y with
   |some d,some w=>some ⟨e,d,w⟩
   |_,_=>none
  |_=>none
theorem arrOf_agg {e:ByteArray} {x y:AV}:arrOf (.agg [.lit (.string e),x,y])=match slK .i64 x,slK .i64 y with
    |some d,some w=>some ⟨e,d,w⟩
    |_,_=>none:=rfl
theorem arrOf_V (a:Arr):arrOf (arrV a)=some a:=by simp [arrV,arrOf,slK_sl]
theorem arrOf_inv {x:AV} {a:Arr} (h:arrOf x=some a):∃ p q,x= .agg [.lit (.string a.e),p,q]∧LeA p (.sl false 1 (ints .i64 a.d))∧LeA q (.sl false 1 (ints .i64 a.x)):=by
  unfold arrOf at h
  split at h
  ·split at h
   ·rename_i h1 h2
    cases h
    exact ⟨_,_,rfl,slK_le h1,slK_le h2⟩
   ·cases h
  ·cases h
theorem arrOf_le {x:AV} {a:Arr} (h:arrOf x=some a):LeA x (arrV a):=by
  obtain ⟨p,q,rfl,h1,h2⟩:=arrOf_inv h
  exact LeA.agg ⟨LeA.refl _,h1,h2,trivial⟩
def arrL:List AV→Option (List Arr)
  |[]=>some []
  |x::xs=>match arrOf x,arrL xs with
   |some a,some l=>some (a::l)
   |_,_=>none
theorem arrL_nil:arrL []=some []:=rfl
theorem arrL_cons {x:AV} {xs:List AV}:arrL (x::xs)=match arrOf x,arrL xs with
    |some a,some l=>some (a::l)
    |_,_=>none:=rfl
theorem arrL_arrs:∀ l:List Arr,arrL (arrs l)=some l
  |[]=>rfl
  |a::l=>by
   have:=arrL_arrs l
   unfold arrs at this ⊢
   rw [List.map_cons,arrL_cons,arrOf_V,this]
theorem arrL_inv:∀ {xs:List AV} {l:List Arr},arrL xs=some l→xs.length=l.length∧LeL (flat xs) (flat (arrs l))
  |[],l,h=>by cases h;exact ⟨rfl,trivial⟩
  |x::xs,l,h=>by
   rw [arrL_cons] at h
   split at h
   ·rename_i a m h1 h2
    cases h
    obtain ⟨e1,e2⟩:=arrL_inv h2
    obtain ⟨p,q,rfl,g1,g2⟩:=arrOf_inv h1
    refine ⟨by simp [e1],?_⟩
    have:LeL (AV.cells (.agg [.lit (.string a.e),p,q])) (AV.cells (arrV a)):=⟨LeA.refl _,g1,g2,trivial⟩
    exact LeL.append this e2
   ·cases h
theorem arrs_wid (l:List Arr):∀ y∈arrs l,y.cells.length=3:=by
  intro y hy
  obtain ⟨a,_,rfl⟩:=List.mem_map.1 hy
  rfl
def arrsOf (x:AV):Option (List Arr):=(slA 3 x).bind arrL
theorem arrsOf_le {x:AV} {l:List Arr} (h:arrsOf x=some l):LeA x (.sl false 3 (arrs l)):=by
  unfold arrsOf at h
  cases hx:slA 3 x with
  |none=>rw [hx] at h;cases h
  |some xs=>
   rw [hx] at h
   obtain ⟨h1,h2⟩:=arrL_inv (l:=l) h
   intro C v hv
   exact LeA.sl (b:=false) (by rw [arrs_length];exact h1) (arrs_wid l) h2 C v (slA_le hx C v hv)
theorem arrsOf_sl {b:Bool} {l:List Arr}:arrsOf (.sl b 3 (arrs l))=some l:=by simp [arrsOf,slA,arrL_arrs]
theorem arrsOf_x {b:Bool} {xs:List AV}:arrsOf (.sl b 3 xs)=arrL xs:=by simp [arrsOf,slA]
def aeV (p:Arr×Int):AV:= .tup [arrV p.1,.lit (.int .i64 p.2)]
end Go.Proofs.YtcpjahmajkhchaaGreat

namespace Go.Proofs.YtcpjahmajkhchaaGreat
open Go Go.Fw
set_option maxRecDepth 20000
noncomputable def E3:Env:=envOf (P:=Tryz.prog) zer (fun _=>false) (fun _=>false) [con40] []
theorem E3_ok:EnvOk Tryz.prog E3:=envOk zer_ok
theorem notel_ec {σ:List AObj} {o:Nat} {e:ByteArray} {n:Int} (ho:σ[o]? =some (.box 9 [.lit (.string e)])) {k:AV→List AObj→Prop} (hk:k (.lit (.bool (!vld e n))) σ):EC Tryz.prog 94 [.lit (.int .i64 n),.ref o 0] σ k:=by
  refine ecO E3_ok (fun _=>[0,1,3]) Tryz.func94 (h:=fun KF=>?_)
  unfold E3
  repeat' (first
   |(with_reducible first|refine nx ?_|refine t_seq fun K=>?_|refine t_br (fun hc=>?_) fun hc=>?_|refine t_bx ?_|apply And.intro|intro vr)
   |((with_reducible first|refine ny ?_|refine t_dwh (h:=fun K KL=>?_));intros;simp only [go_sem,geff,con40_f,con40_c,ho]))
  refine end_ret rfl ?_
  simp only [go_sem]
  exact hk
noncomputable def con94:ECon Tryz.prog where
  f:=94
  c:=fun args σ k=>match args with
   |[.lit (.int .i64 n),.ref o 0]=>match σ[o]? with
    |some (.box 9 [.lit (.string e)])=>k (.lit (.bool (!vld e n))) σ
    |_=>False
   |_=>False
  ok:=by
   intro args σ k h
   split at h
   ·split at h
    ·rename_i ho
     exact notel_ec ho h
    ·exact h.elim
   ·exact h.elim
  fk:=fk94
theorem con94_f:con94.f=94:=rfl
theorem con94_c {σ:List AObj} {k:AV→List AObj→Prop} {o:Nat} {n:Int}:con94.c [.lit (.int .i64 n),.ref o 0] σ k=match σ[o]? with
      |some (.box 9 [.lit (.string e)])=>k (.lit (.bool (!vld e n))) σ
      |_=>False:=rfl
noncomputable def E4:Env:=envOf (P:=Tryz.prog) zer (fun _=>false) (fun _=>false) [] [con94]
theorem E4_ok:EnvOk Tryz.prog E4:=envOk zer_ok
theorem indexf_ec {σ:List AObj} {o:Nat} {e:ByteArray} {l:List Int} (hl:l.length≤1000000) (ho:σ[o]? =some (.box 9 [.lit (.string e)])) {k:AV→List AObj→Prop} (hk:k (.lit (.int .i64 (idxG (fun n=> !vld e n) l 0))) σ):
    EC Tryz.prog 116 [.sl false 1 (ints .i64 l),.fn (.func 94) [] [.ref o 0]] σ k:=by
  generalize hR:idxG (fun n=> !vld e n) l 0=R at hk
  refine ecO E4_ok (fun _=>[0,1,4,5,7,8,9,16]) Tryz.func116 (h:=fun KF=>?_)
  unfold E4
  repeat' (first
   |(with_reducible first|refine nx ?_|refine t_seq fun K=>?_|refine t_br (fun hc=>?_) fun hc=>?_|refine t_bx ?_|apply And.intro|intro vr)
   |((with_reducible first|refine ny ?_|refine t_dwh (h:=fun K KL=>?_));intros;simp only [go_sem,geff,con94_f]))
  refine t_loop (ι:={i:Nat // i≤l.length∧idxG (fun n=> !vld e n) (l.drop i) i=R}) (fun i=>⟨upd (upd (upd (upd topF 8 (.lit (.int .i64 i.1))) 7 (.lit (.int .i64 l.length))) 1 (.fn (.func 94) [] [.ref o 0])) 0 (.sl false 1 (ints .i64 l)),σ⟩) (fun i=>l.length - i.1) ⟨0,by omega,hR⟩ ?_ ?_
  ·skip
   (refine Le.frame ?_;repeat' (first|exact leF_top _|(with_reducible refine leF_sl ?_ ?_)|(refine leF_upd (LeR.of_eq ?_) ?_)))<;>(try (simp only [go_sem];try rfl))
  ·rintro ⟨i,hi,hF⟩ K0
   rcases Nat.lt_or_ge i l.length with hc|hc
   ·have g1:decide ((i:Int)<(l.length:Int))=true:=decide_eq_true (by omega)
    have g2:=ints_getD .i64 l i hc
    rw [drop_getD 0 hc,idxG] at hF
    generalize l.getD i 0=d at g2 hF
    by_cases he:vld e d=true
    ·rw [if_neg (by simp [he])] at hF
     repeat' (first
      |(with_reducible first|refine nx ?_|refine t_seq fun K=>?_|refine t_br (fun hc=>?_) fun hc=>?_|refine t_bx ?_|apply And.intro|intro vr)
      |((with_reducible first|refine ny ?_|refine t_dwh (h:=fun K KL=>?_));intros;simp only [go_sem,geff,con94_f,con94_c,ho,g1,g2,he,Int.toNat_natCast,Bool.not_true]))
     all_goals try exact om
     refine ⟨⟨i+1,by omega,by rw [←hF];congr 1⟩,by simp only;omega,?_⟩
     (refine Le.frame ?_;repeat' (first|exact leF_top _|(with_reducible refine leF_sl ?_ ?_)|(refine leF_upd (LeR.of_eq ?_) ?_)))<;>(try (simp only [go_sem];try rfl))
    ·have he':vld e d=false:=by simpa using he
     rw [if_pos (by simp [he'])] at hF
     subst hF
     repeat' (first
      |(with_reducible first|refine nx ?_|refine t_seq fun K=>?_|refine t_br (fun hc=>?_) fun hc=>?_|refine t_bx ?_|apply And.intro|intro vr)
      |((with_reducible first|refine ny ?_|refine t_dwh (h:=fun K KL=>?_));intros;simp only [go_sem,geff,con94_f,con94_c,ho,g1,g2,he',Int.toNat_natCast,Bool.not_false]))
     all_goals try exact om
     refine end_ret rfl ?_
     simp only [go_sem]
     exact hk
   ·have g1:decide ((i:Int)<(l.length:Int))=false:=decide_eq_false (by omega)
    rw [List.drop_eq_nil_of_le hc,idxG] at hF
    subst hF
    repeat' (first
     |(with_reducible first|refine nx ?_|refine t_seq fun K=>?_|refine t_br (fun hc=>?_) fun hc=>?_|refine t_bx ?_|apply And.intro|intro vr)
     |((with_reducible first|refine ny ?_|refine t_dwh (h:=fun K KL=>?_));intros;simp only [go_sem,geff,con94_f,g1]))
    refine end_ret rfl ?_
    simp only [go_sem]
    exact hk
noncomputable def con116:ECon Tryz.prog where
  f:=116
  c:=fun args σ k=>match args with
   |[x,.fn (.func 94) [] [.ref o 0]]=>match slK .i64 x,σ[o]? with
    |some l,some (.box 9 [.lit (.string e)])=>l.length≤1000000∧k (.lit (.int .i64 (idxG (fun n=> !vld e n) l 0))) σ
    |_,_=>False
   |_=>False
  ok:=by
   intro args σ k h
   split at h
   ·split at h
    ·rename_i hx ho
     exact EC.weak (indexf_ec h.1 ho h.2) (LeRL.cons (slK_leR hx) (LeRL.cons (LeR.refl _) LeRL.nil))
    ·exact h.elim
   ·exact h.elim
  fk:=fk116
theorem con116_f:con116.f=116:=rfl
theorem con116_c {σ:List AObj} {k:AV→List AObj→Prop} {x:AV} {o:Nat}:con116.c [x,.fn (.func 94) [] [.ref o 0]] σ k=match slK .i64 x,σ[o]? with
      |some l,some (.box 9 [.lit (.string e)])=>l.length≤1000000∧k (.lit (.int .i64 (idxG (fun n=> !vld e n) l 0))) σ
      |_,_=>False:=rfl
noncomputable def E5:Env:=envOf (P:=Tryz.prog) zer (fun _=>false) (fun _=>false) [] [con116]
theorem E5_ok:EnvOk Tryz.prog E5:=envOk zer_ok
theorem containsf_ec {σ:List AObj} {o:Nat} {e:ByteArray} {l:List Int} (hl:l.length≤1000000) (ho:σ[o]? =some (.box 9 [.lit (.string e)])) {k:AV→List AObj→Prop} (hk:k (.lit (.bool (l.any fun n=> !vld e n))) σ):
    EC Tryz.prog 93 [.sl false 1 (ints .i64 l),.fn (.func 94) [] [.ref o 0]] σ k:=by
  rw [←idxG_any _ l 0 (by omega)] at hk
  refine ecO E5_ok (fun _=>[0,1,4]) Tryz.func93 (h:=fun KF=>?_)
  unfold E5
  repeat' (first
   |(with_reducible first|refine nx ?_|refine t_seq fun K=>?_|refine t_br (fun hc=>?_) fun hc=>?_|refine t_bx ?_|apply And.intro|intro vr)
   |((with_reducible first|refine ny ?_|refine t_dwh (h:=fun K KL=>?_));intros;simp only [go_sem,geff,con116_f,con116_c,slK_sl,ho]))
  all_goals try exact om
  refine end_ret rfl ?_
  simp only [go_sem]
  exact hk
noncomputable def con93:ECon Tryz.prog where
  f:=93
  c:=fun args σ k=>match args with
   |[x,.fn (.func 94) [] [.ref o 0]]=>match slK .i64 x,σ[o]? with
    |some l,some (.box 9 [.lit (.string e)])=>l.length≤1000000∧k (.lit (.bool (l.any fun n=> !vld e n))) σ
    |_,_=>False
   |_=>False
  ok:=by
   intro args σ k h
   split at h
   ·split at h
    ·rename_i hx ho
     exact EC.weak (containsf_ec h.1 ho h.2) (LeRL.cons (slK_leR hx) (LeRL.cons (LeR.refl _) LeRL.nil))
    ·exact h.elim
   ·exact h.elim
  fk:=fk93
theorem con93_f:con93.f=93:=rfl
theorem con93_c {σ:List AObj} {k:AV→List AObj→Prop} {x:AV} {o:Nat}:con93.c [x,.fn (.func 94) [] [.ref o 0]] σ k=match slK .i64 x,σ[o]? with
      |some l,some (.box 9 [.lit (.string e)])=>l.length≤1000000∧k (.lit (.bool (l.any fun n=> !vld e n))) σ
      |_,_=>False:=rfl
noncomputable def E6:Env:=envOf (P:=Tryz.prog) zer (fun _=>false) (fun _=>false) [] [con93]
theorem E6_ok:EnvOk Tryz.prog E6:=envOk zer_ok
theorem elements_pc {e:ByteArray} {l:List Int} (hl:l.length≤1000000):PC Tryz.prog 70 [.lit (.string e),.sl false 1 (ints .i64 l)] (.lit (.bool (!(l.any fun n=> !vld e n)))):=by
  refine pcO E6_ok (fun _=>[1,2,4]) Tryz.func70 (h:=fun KF=>?_)
  unfold E6
  repeat' (first
   |(with_reducible first|refine nx ?_|refine t_seq fun K=>?_|refine t_br (fun hc=>?_) fun hc=>?_|refine t_bx ?_|apply And.intro|intro vr)
   |((with_reducible first|refine ny ?_|refine t_dwh (h:=fun K KL=>?_));intros;simp only [go_sem,geff,con93_f,con93_c,slK_sl]))
  all_goals try exact om
  refine end_ret rfl ?_
  simp only [fin,go_sem]
  exact LeA.refl _
noncomputable def con70:PCon Tryz.prog where
  f:=70
  c:=fun
   |[.lit (.string e),xl]=>match slK .i64 xl with|some l=>some (l.length≤1000000,.lit (.bool (!(l.any fun n=> !vld e n))))|_=>none
   |_=>none
  ok:=by
   intro args p r hc hp
   split at hc
   ·split at hc
    ·rename_i hl
     cases hc
     exact PC.weak (elements_pc hp) ⟨LeA.refl _,slK_le hl,trivial⟩
    ·cases hc
   ·cases hc
  fk:=fk70
theorem con70_f:con70.f=70:=rfl
theorem con70_c {e:ByteArray} {xl:AV}:con70.c [.lit (.string e),xl]=match slK .i64 xl with|some l=>some (l.length≤1000000,.lit (.bool (!(l.any fun n=> !vld e n))))|_=>none:=rfl
theorem szV_def {p:Int×Int}:szV p= .tup [.lit (.int .i64 p.1),.lit (.int .i64 p.2)]:=rfl
theorem arrV_def {a:Arr}:arrV a= .agg [.lit (.string a.e),.sl false 1 (ints .i64 a.d),.sl false 1 (ints .i64 a.x)]:=rfl
theorem nilA_le:LeA (.agg [.lit (.string ByteArray.empty),.sl true 1 [],.sl true 1 []]) (arrV nilA):=LeA.agg ⟨LeA.of_eq rfl,LeA.full _ _ _,LeA.full _ _ _,trivial⟩
theorem nilAe_le {e:Int}:LeA (.tup [.agg [.lit (.string ByteArray.empty),.sl true 1 [],.sl true 1 []],.lit (.int .i64 e)]) (aeV (nilA,e)):=LeA.tup ⟨nilA_le,LeA.refl _,trivial⟩
def tyOk (e:ByteArray):Bool:=eqS e ⟨#[105,110,116]⟩||eqS e ⟨#[98,111,111,108]⟩
def bad (a:Arr):Bool:=a.x.any fun n=> !vld a.e n
theorem ofE_ty {a:Arr} (h:tyOk a.e=false):ofE a=12:=if_pos h
theorem ofE_sz {a:Arr} (h:tyOk a.e=true) (h2:(sizeS a.d).2≠0):ofE a=(sizeS a.d).2:=by
  unfold ofE;rw [if_neg (show ¬ (eqS a.e sInt||eqS a.e sBool)=false from fun e=>by have e:tyOk a.e=false:=e;rw [h] at e;cases e),if_pos h2]
theorem ofE_len {a:Arr} (h:tyOk a.e=true) (h2:(sizeS a.d).2=0) (h3:(a.x.length:Int)≠(sizeS a.d).1):ofE a=1:=by
  unfold ofE;rw [if_neg (show ¬ (eqS a.e sInt||eqS a.e sBool)=false from fun e=>by have e:tyOk a.e=false:=e;rw [h] at e;cases e),if_neg (by simpa using h2),if_pos h3]
theorem ofE_el {a:Arr} (h:tyOk a.e=true) (h2:(sizeS a.d).2=0) (h3:(a.x.length:Int)=(sizeS a.d).1):ofE a=if bad a=true then 2 else 0:=by
  unfold ofE;rw [if_neg (show ¬ (eqS a.e sInt||eqS a.e sBool)=false from fun e=>by have e:tyOk a.e=false:=e;rw [h] at e;cases e),if_neg (by simpa using h2),if_neg (by simpa using h3)];rfl
theorem ofS_err {a:Arr} {e:Int} (h:ofE a=e) (h0:e≠0):ofS a=(nilA,e):=by unfold ofS;rw [h,if_neg h0]
theorem ofS_ok {a:Arr} (h:ofE a=0):ofS a=(a,0):=by unfold ofS;rw [if_pos h]
noncomputable def E7:Env:=envOf (P:=Tryz.prog) zer (fun _=>false) (fun _=>false) [con71,con69,con70] []
theorem E7_ok:EnvOk Tryz.prog E7:=envOk zer_ok
set_option maxRecDepth 20000 in
set_option maxHeartbeats 2000000 in
theorem of_pc {e:ByteArray} {d x:List Int} (hd:d.length≤1000000) (hx:x.length≤1000000):PC Tryz.prog 47 [.lit (.string e),.sl false 1 (ints .i64 d),.sl false 1 (ints .i64 x)] (aeV (ofS ⟨e,d,x⟩)):=by
  have hz:=sizeS_bd d
  by_cases t:tyOk e=true
  ·generalize hS:sizeS d=s at hz
   obtain ⟨n,er⟩:=s
   simp only at hz
   have hS1:(sizeS d).1=n:=by rw [hS]
   have hS2:(sizeS d).2=er:=by rw [hS]
   by_cases t1:eqS e ⟨#[105,110,116]⟩=true
   ·skip
    by_cases e0:er=0
    ·subst e0
     by_cases hn:(x.length:Int)=n
     ·have n1:((x.length:Int) !=n)=false:=by rw [bne_eq_false_iff_eq];exact hn
      by_cases hb:bad ⟨e,d,x⟩=true
      ·rw [ofS_err (e:=2) (by rw [ofE_el t hS2 (by rw [hS1];exact hn),if_pos hb]) (by decide)]
       have hb':(x.any fun n=> !vld e n)=true:=hb
       refine pcO E7_ok (fun _=>[0,1,2,6,7,8,9,15,22,27,33]) Tryz.func47 (h:=fun KF=>?_)
       unfold E7
       repeat' (first
        |(with_reducible first|refine nx ?_|refine t_seq fun K=>?_|refine t_br (fun hc=>?_) fun hc=>?_|refine t_bx ?_|apply And.intro|intro vr)
        |((with_reducible first|refine ny ?_|refine t_dwh (h:=fun K KL=>?_));intros;simp only [go_sem,geff,con71_f,con69_f,con70_f,con71_c,con69_c,con70_c,slK_sl,t1,hS,szV_def,n1,hb',Bool.not_true]))
       all_goals try exact om
       refine end_ret rfl ?_
       simp only [fin,go_sem]
       exact nilAe_le
      ·rw [ofS_ok (by rw [ofE_el t hS2 (by rw [hS1];exact hn),if_neg hb])]
       have hb':(x.any fun n=> !vld e n)=false:=Bool.eq_false_iff.2 hb
       refine pcO E7_ok (fun _=>[0,1,2,6,7,8,9,15,22,27,33]) Tryz.func47 (h:=fun KF=>?_)
       unfold E7
       repeat' (first
        |(with_reducible first|refine nx ?_|refine t_seq fun K=>?_|refine t_br (fun hc=>?_) fun hc=>?_|refine t_bx ?_|apply And.intro|intro vr)
        |((with_reducible first|refine ny ?_|refine t_dwh (h:=fun K KL=>?_));intros;simp only [go_sem,geff,con71_f,con69_f,con70_f,con71_c,con69_c,con70_c,slK_sl,t1,hS,szV_def,n1,hb',Bool.not_false]))
       all_goals try exact om
       refine end_ret rfl ?_
       simp only [fin,go_sem]
       exact LeA.refl _
     ·have n1:((x.length:Int) !=n)=true:=by rw [bne_iff_ne];exact hn
      rw [ofS_err (e:=1) (ofE_len t hS2 (by rw [hS1];exact hn)) (by decide)]
      refine pcO E7_ok (fun _=>[0,1,2,6,7,8,9,15,22,27,33]) Tryz.func47 (h:=fun KF=>?_)
      unfold E7
      repeat' (first
       |(with_reducible first|refine nx ?_|refine t_seq fun K=>?_|refine t_br (fun hc=>?_) fun hc=>?_|refine t_bx ?_|apply And.intro|intro vr)
       |((with_reducible first|refine ny ?_|refine t_dwh (h:=fun K KL=>?_));intros;simp only [go_sem,geff,con71_f,con69_f,con70_f,con71_c,con69_c,con70_c,slK_sl,t1,hS,szV_def,n1]))
      all_goals try exact om
      refine end_ret rfl ?_
      simp only [fin,go_sem]
      exact nilAe_le
    ·have e1:(er !=0)=true:=by rw [bne_iff_ne];exact e0
     rw [ofS_err (by rw [ofE_sz t (by rw [hS2];exact e0)]) (by rw [hS2];exact e0)]
     refine pcO E7_ok (fun _=>[0,1,2,6,7,8,9,15,22,27,33]) Tryz.func47 (h:=fun KF=>?_)
     unfold E7
     repeat' (first
      |(with_reducible first|refine nx ?_|refine t_seq fun K=>?_|refine t_br (fun hc=>?_) fun hc=>?_|refine t_bx ?_|apply And.intro|intro vr)
      |((with_reducible first|refine ny ?_|refine t_dwh (h:=fun K KL=>?_));intros;simp only [go_sem,geff,con71_f,con69_f,con70_f,con71_c,con69_c,con70_c,slK_sl,t1,hS,szV_def,e1]))
     all_goals try exact om
     refine end_ret rfl ?_
     simp only [fin,go_sem,hS]
     exact nilAe_le
   ·have t2:eqS e ⟨#[98,111,111,108]⟩=true:=by unfold tyOk at t;rw [Bool.or_eq_true] at t;exact t.resolve_left t1
    have t1':eqS e ⟨#[105,110,116]⟩=false:=by simpa using t1
    by_cases e0:er=0
    ·subst e0
     by_cases hn:(x.length:Int)=n
     ·have n1:((x.length:Int) !=n)=false:=by rw [bne_eq_false_iff_eq];exact hn
      by_cases hb:bad ⟨e,d,x⟩=true
      ·rw [ofS_err (e:=2) (by rw [ofE_el t hS2 (by rw [hS1];exact hn),if_pos hb]) (by decide)]
       have hb':(x.any fun n=> !vld e n)=true:=hb
       refine pcO E7_ok (fun _=>[0,1,2,6,7,8,9,15,22,27,33]) Tryz.func47 (h:=fun KF=>?_)
       unfold E7
       repeat' (first
        |(with_reducible first|refine nx ?_|refine t_seq fun K=>?_|refine t_br (fun hc=>?_) fun hc=>?_|refine t_bx ?_|apply And.intro|intro vr)
        |((with_reducible first|refine ny ?_|refine t_dwh (h:=fun K KL=>?_));intros;simp only [go_sem,geff,con71_f,con69_f,con70_f,con71_c,con69_c,con70_c,slK_sl,t1',t2,hS,szV_def,n1,hb',Bool.not_true]))
       all_goals try exact om
       refine end_ret rfl ?_
       simp only [fin,go_sem]
       exact nilAe_le
      ·rw [ofS_ok (by rw [ofE_el t hS2 (by rw [hS1];exact hn),if_neg hb])]
       have hb':(x.any fun n=> !vld e n)=false:=Bool.eq_false_iff.2 hb
       refine pcO E7_ok (fun _=>[0,1,2,6,7,8,9,15,22,27,33]) Tryz.func47 (h:=fun KF=>?_)
       unfold E7
       repeat' (first
        |(with_reducible first|refine nx ?_|refine t_seq fun K=>?_|refine t_br (fun hc=>?_) fun hc=>?_|refine t_bx ?_|apply And.intro|intro vr)
        |((with_reducible first|refine ny ?_|refine t_dwh (h:=fun K KL=>?_));intros;simp only [go_sem,geff,con71_f,con69_f,con70_f,con71_c,con69_c,con70_c,slK_sl,t1',t2,hS,szV_def,n1,hb',Bool.not_false]))
       all_goals try exact om
       refine end_ret rfl ?_
       simp only [fin,go_sem]
       exact LeA.refl _
     ·have n1:((x.length:Int) !=n)=true:=by rw [bne_iff_ne];exact hn
      rw [ofS_err (e:=1) (ofE_len t hS2 (by rw [hS1];exact hn)) (by decide)]
      refine pcO E7_ok (fun _=>[0,1,2,6,7,8,9,15,22,27,33]) Tryz.func47 (h:=fun KF=>?_)
      unfold E7
      repeat' (first
       |(with_reducible first|refine nx ?_|refine t_seq fun K=>?_|refine t_br (fun hc=>?_) fun hc=>?_|refine t_bx ?_|apply And.intro|intro vr)
       |((with_reducible first|refine ny ?_|refine t_dwh (h:=fun K KL=>?_));intros;simp only [go_sem,geff,con71_f,con69_f,con70_f,con71_c,con69_c,con70_c,slK_sl,t1',t2,hS,szV_def,n1]))
      all_goals try exact om
      refine end_ret rfl ?_
      simp only [fin,go_sem]
      exact nilAe_le
    ·have e1:(er !=0)=true:=by rw [bne_iff_ne];exact e0
     rw [ofS_err (by rw [ofE_sz t (by rw [hS2];exact e0)]) (by rw [hS2];exact e0)]
     refine pcO E7_ok (fun _=>[0,1,2,6,7,8,9,15,22,27,33]) Tryz.func47 (h:=fun KF=>?_)
     unfold E7
     repeat' (first
      |(with_reducible first|refine nx ?_|refine t_seq fun K=>?_|refine t_br (fun hc=>?_) fun hc=>?_|refine t_bx ?_|apply And.intro|intro vr)
      |((with_reducible first|refine ny ?_|refine t_dwh (h:=fun K KL=>?_));intros;simp only [go_sem,geff,con71_f,con69_f,con70_f,con71_c,con69_c,con70_c,slK_sl,t1',t2,hS,szV_def,e1]))
     all_goals try exact om
     refine end_ret rfl ?_
     simp only [fin,go_sem,hS]
     exact nilAe_le
  ·have t':tyOk e=false:=by simpa using t
   have t1:eqS e ⟨#[105,110,116]⟩=false:=(Bool.or_eq_false_iff.1 t').1
   have t2:eqS e ⟨#[98,111,111,108]⟩=false:=(Bool.or_eq_false_iff.1 t').2
   rw [ofS_err (ofE_ty t') (by decide)]
   refine pcO E7_ok (fun _=>[0,1,2,6,7,8,9,15,22,27,33]) Tryz.func47 (h:=fun KF=>?_)
   unfold E7
   repeat' (first
    |(with_reducible first|refine nx ?_|refine t_seq fun K=>?_|refine t_br (fun hc=>?_) fun hc=>?_|refine t_bx ?_|apply And.intro|intro vr)
    |((with_reducible first|refine ny ?_|refine t_dwh (h:=fun K KL=>?_));intros;simp only [go_sem,geff,con71_f,con69_f,con70_f,con71_c,con69_c,con70_c,t1,t2]))
   all_goals try exact om
   refine end_ret rfl ?_
   simp only [fin,go_sem]
   exact nilAe_le
noncomputable def con47:PCon Tryz.prog where
  f:=47
  c:=fun
   |[.lit (.string e),xd,xx]=>match slK .i64 xd,slK .i64 xx with|some d,some x=>some (d.length≤1000000∧x.length≤1000000,aeV (ofS ⟨e,d,x⟩))|_,_=>none
   |_=>none
  ok:=by
   intro args p r hc hp
   split at hc
   ·split at hc
    ·rename_i hd hx
     cases hc
     exact PC.weak ((fun hp:_∧_=>of_pc hp.1 hp.2) hp) ⟨LeA.refl _,slK_le hd,slK_le hx,trivial⟩
    ·cases hc
   ·cases hc
  fk:=fk47
theorem con47_f:con47.f=47:=rfl
theorem con47_c {e:ByteArray} {xd:AV} {xx:AV}:con47.c [.lit (.string e),xd,xx]=match slK .i64 xd,slK .i64 xx with|some d,some x=>some (d.length≤1000000∧x.length≤1000000,aeV (ofS ⟨e,d,x⟩))|_,_=>none:=rfl
noncomputable def E8:Env:=envOf (P:=Tryz.prog) zer (fun _=>false) (fun _=>false) [con72,con50,con38] []
theorem E8_ok:EnvOk Tryz.prog E8:=envOk zer_ok
set_option maxRecDepth 20000 in
set_option maxHeartbeats 2000000 in
theorem rof_pc {e:ByteArray} {d x:List Int} (hd:d.length≤1000000) (hx:x.length≤1000000):PC Tryz.prog 48 [.lit (.string e),.sl false 1 (ints .i64 d),.sl false 1 (ints .i64 x)] (aeV (ofS ⟨e,d,x⟩)):=by
  have hz:=sizeS_bd d
  by_cases t:tyOk e=true
  ·generalize hS:sizeS d=s at hz
   obtain ⟨n,er⟩:=s
   simp only at hz
   have hS1:(sizeS d).1=n:=by rw [hS]
   have hS2:(sizeS d).2=er:=by rw [hS]
   by_cases t1:eqS e ⟨#[105,110,116]⟩=true
   ·skip
    by_cases e0:er=0
    ·subst e0
     by_cases hn:(x.length:Int)=n
     ·have n1:((x.length:Int) !=n)=false:=by rw [bne_eq_false_iff_eq];exact hn
      have hO:=ofE_el (a:=⟨e,d,x⟩) t hS2 (by rw [hS1];exact hn)
      unfold bad at hO
      simp only at hO
      generalize hB:(x.any fun n=> !vld e n)=Bb at hO
      generalize hG:aeV (ofS ⟨e,d,x⟩)=G
      refine pcO E8_ok (fun _=>[0,1,2,6,7,8,9,10,16,24,30,35,44]) Tryz.func48 (h:=fun KF=>?_)
      unfold E8
      repeat' (first
       |(with_reducible first|refine nx ?_|refine t_seq fun K=>?_|refine t_br (fun hc=>?_) fun hc=>?_|refine t_bx ?_|apply And.intro|intro vr)
       |((with_reducible first|refine ny ?_|refine t_dwh (h:=fun K KL=>?_));intros;simp only [go_sem,geff,con72_f,con50_f,con38_f,con72_c,con50_c,con38_c,slK_sl,t1,hS,szV_def,n1]))
      all_goals try exact om
      refine t_loop (ι:={i:Nat // i≤x.length∧((x.drop i).any fun n=> !vld e n)=Bb}) (fun i=>⟨upd (upd (upd (upd (upd topF 10 (.lit (.int .i64 i.1))) 6 (.ref 0 0)) 2 (.sl false 1 (ints .i64 x))) 1 (.sl false 1 (ints .i64 d))) 0 (.lit (.string e)),[AObj.box 31 [AV.lit (Value.string ByteArray.empty),AV.sl true 1 [],AV.sl true 1 []]]⟩) (fun i=>x.length - i.1) ⟨0,by omega,hB⟩ ?_ ?_
      ·skip
       (refine Le.frame ?_;repeat' (first|exact leF_top _|(with_reducible refine leF_sl ?_ ?_)|(refine leF_upd (LeR.of_eq ?_) ?_)))<;>(try (simp only [go_sem];try rfl))
      ·rintro ⟨i,hi,hF⟩ K0
       rcases Nat.lt_or_ge i x.length with hc|hc
       ·have g1:decide ((i:Int)<(x.length:Int))=true:=decide_eq_true (by omega)
        have g2:=ints_getD .i64 x i hc
        rw [drop_getD 0 hc,List.any_cons] at hF
        generalize x.getD i 0=v at g2 hF
        by_cases hv:vld e v=true
        ·rw [hv,Bool.not_true,Bool.false_or] at hF
         repeat' (first
          |(with_reducible first|refine nx ?_|refine t_seq fun K=>?_|refine t_br (fun hc=>?_) fun hc=>?_|refine t_bx ?_|apply And.intro|intro vr)
          |((with_reducible first|refine ny ?_|refine t_dwh (h:=fun K KL=>?_));intros;simp only [go_sem,geff,con72_f,con50_f,con38_f,con72_c,con50_c,con38_c,g1,g2,hv,Int.toNat_natCast,Bool.not_true]))
         all_goals try exact om
         refine ⟨⟨i+1,by omega,hF⟩,by simp only;omega,?_⟩
         (refine Le.frame ?_;repeat' (first|exact leF_top _|(with_reducible refine leF_sl ?_ ?_)|(refine leF_upd (LeR.of_eq ?_) ?_)))<;>(try (simp only [go_sem];try rfl))
        ·have hv':vld e v=false:=by simpa using hv
         rw [hv',Bool.not_false,Bool.true_or] at hF
         subst hF
         rw [if_pos rfl] at hO
         rw [ofS_err hO (by decide)] at hG
         subst hG
         repeat' (first
          |(with_reducible first|refine nx ?_|refine t_seq fun K=>?_|refine t_br (fun hc=>?_) fun hc=>?_|refine t_bx ?_|apply And.intro|intro vr)
          |((with_reducible first|refine ny ?_|refine t_dwh (h:=fun K KL=>?_));intros;simp only [go_sem,geff,con72_f,con50_f,con38_f,con72_c,con50_c,con38_c,g1,g2,hv',Int.toNat_natCast,Bool.not_false]))
         all_goals try exact om
         refine end_ret rfl ?_
         simp only [fin,go_sem]
         exact nilAe_le
       ·have g1:decide ((i:Int)<(x.length:Int))=false:=decide_eq_false (by omega)
        rw [List.drop_eq_nil_of_le hc,List.any_nil] at hF
        subst hF
        rw [if_neg (by decide)] at hO
        rw [ofS_ok hO] at hG
        subst hG
        repeat' (first
         |(with_reducible first|refine nx ?_|refine t_seq fun K=>?_|refine t_br (fun hc=>?_) fun hc=>?_|refine t_bx ?_|apply And.intro|intro vr)
         |((with_reducible first|refine ny ?_|refine t_dwh (h:=fun K KL=>?_));intros;simp only [go_sem,geff,con72_f,con50_f,con38_f,con72_c,con50_c,con38_c,g1,slK_sl]))
        all_goals try exact om
        refine end_ret rfl ?_
        simp only [fin,go_sem]
        exact LeA.refl _
     ·have n1:((x.length:Int) !=n)=true:=by rw [bne_iff_ne];exact hn
      rw [ofS_err (e:=1) (ofE_len t hS2 (by rw [hS1];exact hn)) (by decide)]
      refine pcO E8_ok (fun _=>[0,1,2,6,7,8,9,10,16,24,30,35,44]) Tryz.func48 (h:=fun KF=>?_)
      unfold E8
      repeat' (first
       |(with_reducible first|refine nx ?_|refine t_seq fun K=>?_|refine t_br (fun hc=>?_) fun hc=>?_|refine t_bx ?_|apply And.intro|intro vr)
       |((with_reducible first|refine ny ?_|refine t_dwh (h:=fun K KL=>?_));intros;simp only [go_sem,geff,con72_f,con50_f,con38_f,con72_c,con50_c,con38_c,slK_sl,t1,hS,szV_def,n1]))
      all_goals try exact om
      refine end_ret rfl ?_
      simp only [fin,go_sem]
      exact nilAe_le
    ·have e1:(er !=0)=true:=by rw [bne_iff_ne];exact e0
     rw [ofS_err (by rw [ofE_sz t (by rw [hS2];exact e0)]) (by rw [hS2];exact e0)]
     refine pcO E8_ok (fun _=>[0,1,2,6,7,8,9,10,16,24,30,35,44]) Tryz.func48 (h:=fun KF=>?_)
     unfold E8
     repeat' (first
      |(with_reducible first|refine nx ?_|refine t_seq fun K=>?_|refine t_br (fun hc=>?_) fun hc=>?_|refine t_bx ?_|apply And.intro|intro vr)
      |((with_reducible first|refine ny ?_|refine t_dwh (h:=fun K KL=>?_));intros;simp only [go_sem,geff,con72_f,con50_f,con38_f,con72_c,con50_c,con38_c,slK_sl,t1,hS,szV_def,e1]))
     all_goals try exact om
     refine end_ret rfl ?_
     simp only [fin,go_sem,hS]
     exact nilAe_le
   ·have t2:eqS e ⟨#[98,111,111,108]⟩=true:=by unfold tyOk at t;rw [Bool.or_eq_true] at t;exact t.resolve_left t1
    have t1':eqS e ⟨#[105,110,116]⟩=false:=by simpa using t1
    by_cases e0:er=0
    ·subst e0
     by_cases hn:(x.length:Int)=n
     ·have n1:((x.length:Int) !=n)=false:=by rw [bne_eq_false_iff_eq];exact hn
      have hO:=ofE_el (a:=⟨e,d,x⟩) t hS2 (by rw [hS1];exact hn)
      unfold bad at hO
      simp only at hO
      generalize hB:(x.any fun n=> !vld e n)=Bb at hO
      generalize hG:aeV (ofS ⟨e,d,x⟩)=G
      refine pcO E8_ok (fun _=>[0,1,2,6,7,8,9,10,16,24,30,35,44]) Tryz.func48 (h:=fun KF=>?_)
      unfold E8
      repeat' (first
       |(with_reducible first|refine nx ?_|refine t_seq fun K=>?_|refine t_br (fun hc=>?_) fun hc=>?_|refine t_bx ?_|apply And.intro|intro vr)
       |((with_reducible first|refine ny ?_|refine t_dwh (h:=fun K KL=>?_));intros;simp only [go_sem,geff,con72_f,con50_f,con38_f,con72_c,con50_c,con38_c,slK_sl,t1',t2,hS,szV_def,n1]))
      all_goals try exact om
      refine t_loop (ι:={i:Nat // i≤x.length∧((x.drop i).any fun n=> !vld e n)=Bb}) (fun i=>⟨upd (upd (upd (upd (upd topF 10 (.lit (.int .i64 i.1))) 6 (.ref 0 0)) 2 (.sl false 1 (ints .i64 x))) 1 (.sl false 1 (ints .i64 d))) 0 (.lit (.string e)),[AObj.box 31 [AV.lit (Value.string ByteArray.empty),AV.sl true 1 [],AV.sl true 1 []]]⟩) (fun i=>x.length - i.1) ⟨0,by omega,hB⟩ ?_ ?_
      ·skip
       (refine Le.frame ?_;repeat' (first|exact leF_top _|(with_reducible refine leF_sl ?_ ?_)|(refine leF_upd (LeR.of_eq ?_) ?_)))<;>(try (simp only [go_sem];try rfl))
      ·rintro ⟨i,hi,hF⟩ K0
       rcases Nat.lt_or_ge i x.length with hc|hc
       ·have g1:decide ((i:Int)<(x.length:Int))=true:=decide_eq_true (by omega)
        have g2:=ints_getD .i64 x i hc
        rw [drop_getD 0 hc,List.any_cons] at hF
        generalize x.getD i 0=v at g2 hF
        by_cases hv:vld e v=true
        ·rw [hv,Bool.not_true,Bool.false_or] at hF
         repeat' (first
          |(with_reducible first|refine nx ?_|refine t_seq fun K=>?_|refine t_br (fun hc=>?_) fun hc=>?_|refine t_bx ?_|apply And.intro|intro vr)
          |((with_reducible first|refine ny ?_|refine t_dwh (h:=fun K KL=>?_));intros;simp only [go_sem,geff,con72_f,con50_f,con38_f,con72_c,con50_c,con38_c,g1,g2,hv,Int.toNat_natCast,Bool.not_true]))
         all_goals try exact om
         refine ⟨⟨i+1,by omega,hF⟩,by simp only;omega,?_⟩
         (refine Le.frame ?_;repeat' (first|exact leF_top _|(with_reducible refine leF_sl ?_ ?_)|(refine leF_upd (LeR.of_eq ?_) ?_)))<;>(try (simp only [go_sem];try rfl))
        ·have hv':vld e v=false:=by simpa using hv
         rw [hv',Bool.not_false,Bool.true_or] at hF
         subst hF
         rw [if_pos rfl] at hO
         rw [ofS_err hO (by decide)] at hG
         subst hG
         repeat' (first
          |(with_reducible first|refine nx ?_|refine t_seq fun K=>?_|refine t_br (fun hc=>?_) fun hc=>?_|refine t_bx ?_|apply And.intro|intro vr)
          |((with_reducible first|refine ny ?_|refine t_dwh (h:=fun K KL=>?_));intros;simp only [go_sem,geff,con72_f,con50_f,con38_f,con72_c,con50_c,con38_c,g1,g2,hv',Int.toNat_natCast,Bool.not_false]))
         all_goals try exact om
         refine end_ret rfl ?_
         simp only [fin,go_sem]
         exact nilAe_le
       ·have g1:decide ((i:Int)<(x.length:Int))=false:=decide_eq_false (by omega)
        rw [List.drop_eq_nil_of_le hc,List.any_nil] at hF
        subst hF
        rw [if_neg (by decide)] at hO
        rw [ofS_ok hO] at hG
        subst hG
        repeat' (first
         |(with_reducible first|refine nx ?_|refine t_seq fun K=>?_|refine t_br (fun hc=>?_) fun hc=>?_|refine t_bx ?_|apply And.intro|intro vr)
         |((with_reducible first|refine ny ?_|refine t_dwh (h:=fun K KL=>?_));intros;simp only [go_sem,geff,con72_f,con50_f,con38_f,con72_c,con50_c,con38_c,g1,slK_sl]))
        all_goals try exact om
        refine end_ret rfl ?_
        simp only [fin,go_sem]
        exact LeA.refl _
     ·have n1:((x.length:Int) !=n)=true:=by rw [bne_iff_ne];exact hn
      rw [ofS_err (e:=1) (ofE_len t hS2 (by rw [hS1];exact hn)) (by decide)]
      refine pcO E8_ok (fun _=>[0,1,2,6,7,8,9,10,16,24,30,35,44]) Tryz.func48 (h:=fun KF=>?_)
      unfold E8
      repeat' (first
       |(with_reducible first|refine nx ?_|refine t_seq fun K=>?_|refine t_br (fun hc=>?_) fun hc=>?_|refine t_bx ?_|apply And.intro|intro vr)
       |((with_reducible first|refine ny ?_|refine t_dwh (h:=fun K KL=>?_));intros;simp only [go_sem,geff,con72_f,con50_f,con38_f,con72_c,con50_c,con38_c,slK_sl,t1',t2,hS,szV_def,n1]))
      all_goals try exact om
      refine end_ret rfl ?_
      simp only [fin,go_sem]
      exact nilAe_le
    ·have e1:(er !=0)=true:=by rw [bne_iff_ne];exact e0
     rw [ofS_err (by rw [ofE_sz t (by rw [hS2];exact e0)]) (by rw [hS2];exact e0)]
     refine pcO E8_ok (fun _=>[0,1,2,6,7,8,9,10,16,24,30,35,44]) Tryz.func48 (h:=fun KF=>?_)
     unfold E8
     repeat' (first
      |(with_reducible first|refine nx ?_|refine t_seq fun K=>?_|refine t_br (fun hc=>?_) fun hc=>?_|refine t_bx ?_|apply And.intro|intro vr)
      |((with_reducible first|refine ny ?_|refine t_dwh (h:=fun K KL=>?_));intros;simp only [go_sem,geff,con72_f,con50_f,con38_f,con72_c,con50_c,con38_c,slK_sl,t1',t2,hS,szV_def,e1]))
     all_goals try exact om
     refine end_ret rfl ?_
     simp only [fin,go_sem,hS]
     exact nilAe_le
  ·have t':tyOk e=false:=by simpa using t
   have t1:eqS e ⟨#[105,110,116]⟩=false:=(Bool.or_eq_false_iff.1 t').1
   have t2:eqS e ⟨#[98,111,111,108]⟩=false:=(Bool.or_eq_false_iff.1 t').2
   rw [ofS_err (ofE_ty t') (by decide)]
   refine pcO E8_ok (fun _=>[0,1,2,6,7,8,9,10,16,24,30,35,44]) Tryz.func48 (h:=fun KF=>?_)
   unfold E8
   repeat' (first
    |(with_reducible first|refine nx ?_|refine t_seq fun K=>?_|refine t_br (fun hc=>?_) fun hc=>?_|refine t_bx ?_|apply And.intro|intro vr)
    |((with_reducible first|refine ny ?_|refine t_dwh (h:=fun K KL=>?_));intros;simp only [go_sem,geff,con72_f,con50_f,con38_f,con72_c,con50_c,con38_c,t1,t2]))
   all_goals try exact om
   refine end_ret rfl ?_
   simp only [fin,go_sem]
   exact nilAe_le
noncomputable def con48:PCon Tryz.prog where
  f:=48
  c:=fun
   |[.lit (.string e),xd,xx]=>match slK .i64 xd,slK .i64 xx with|some d,some x=>some (d.length≤1000000∧x.length≤1000000,aeV (ofS ⟨e,d,x⟩))|_,_=>none
   |_=>none
  ok:=by
   intro args p r hc hp
   split at hc
   ·split at hc
    ·rename_i hd hx
     cases hc
     exact PC.weak ((fun hp:_∧_=>rof_pc hp.1 hp.2) hp) ⟨LeA.refl _,slK_le hd,slK_le hx,trivial⟩
    ·cases hc
   ·cases hc
  fk:=fk48
theorem con48_f:con48.f=48:=rfl
theorem con48_c {e:ByteArray} {xd:AV} {xx:AV}:con48.c [.lit (.string e),xd,xx]=match slK .i64 xd,slK .i64 xx with|some d,some x=>some (d.length≤1000000∧x.length≤1000000,aeV (ofS ⟨e,d,x⟩))|_,_=>none:=rfl
theorem aeV_def {p:Arr×Int}:aeV p= .tup [arrV p.1,.lit (.int .i64 p.2)]:=rfl
theorem ofS_snd (a:Arr):(ofS a).2=ofE a:=by
  unfold ofS
  split
  ·rename_i h;exact h.symm
  ·rfl
noncomputable def E9:Env:=envOf (P:=Tryz.prog) zer (fun _=>false) (fun _=>false) [con48,con47] []
theorem E9_ok:EnvOk Tryz.prog E9:=envOk zer_ok
theorem valid_pc {a:Arr} (hd:a.d.length≤1000000) (hx:a.x.length≤1000000):PC Tryz.prog 45 [arrV a] (.lit (.bool (ofE a==0))):=by
  rw [←ofS_snd]
  refine pcO E9_ok (fun _=>[1,2,4]) Tryz.func45 (h:=fun KF=>?_)
  unfold E9
  repeat' (first
   |(with_reducible first|refine nx ?_|refine t_seq fun K=>?_|refine t_br (fun hc=>?_) fun hc=>?_|refine t_bx ?_|apply And.intro|intro vr)
   |((with_reducible first|refine ny ?_|refine t_dwh (h:=fun K KL=>?_));intros;simp only [go_sem,geff,con48_f,con47_f,con47_c,slK_sl,arrV_def,aeV_def]))
  all_goals try exact om
  refine end_ret rfl ?_
  simp only [fin,go_sem]
  exact LeA.refl _
theorem rvalid_pc {a:Arr} (hd:a.d.length≤1000000) (hx:a.x.length≤1000000):PC Tryz.prog 22 [arrV a] (.lit (.bool (ofE a==0))):=by
  rw [←ofS_snd]
  refine pcO E9_ok (fun _=>[1,2,4]) Tryz.func22 (h:=fun KF=>?_)
  unfold E9
  repeat' (first
   |(with_reducible first|refine nx ?_|refine t_seq fun K=>?_|refine t_br (fun hc=>?_) fun hc=>?_|refine t_bx ?_|apply And.intro|intro vr)
   |((with_reducible first|refine ny ?_|refine t_dwh (h:=fun K KL=>?_));intros;simp only [go_sem,geff,con48_f,con47_f,con48_c,slK_sl,arrV_def,aeV_def]))
  all_goals try exact om
  refine end_ret rfl ?_
  simp only [fin,go_sem]
  exact LeA.refl _
noncomputable def con45:PCon Tryz.prog where
  f:=45
  c:=fun
   |[xa]=>match arrOf xa with|some a=>some (a.d.length≤1000000∧a.x.length≤1000000,.lit (.bool (ofE a==0)))|_=>none
   |_=>none
  ok:=by
   intro args p r hc hp
   split at hc
   ·split at hc
    ·rename_i ha
     cases hc
     exact PC.weak ((fun hp:_∧_=>valid_pc hp.1 hp.2) hp) ⟨arrOf_le ha,trivial⟩
    ·cases hc
   ·cases hc
  fk:=fk45
theorem con45_f:con45.f=45:=rfl
theorem con45_c {xa:AV}:con45.c [xa]=match arrOf xa with|some a=>some (a.d.length≤1000000∧a.x.length≤1000000,.lit (.bool (ofE a==0)))|_=>none:=rfl
noncomputable def con22:PCon Tryz.prog where
  f:=22
  c:=fun
   |[xa]=>match arrOf xa with|some a=>some (a.d.length≤1000000∧a.x.length≤1000000,.lit (.bool (ofE a==0)))|_=>none
   |_=>none
  ok:=by
   intro args p r hc hp
   split at hc
   ·split at hc
    ·rename_i ha
     cases hc
     exact PC.weak ((fun hp:_∧_=>rvalid_pc hp.1 hp.2) hp) ⟨arrOf_le ha,trivial⟩
    ·cases hc
   ·cases hc
  fk:=fk22
theorem con22_f:con22.f=22:=rfl
theorem con22_c {xa:AV}:con22.c [xa]=match arrOf xa with|some a=>some (a.d.length≤1000000∧a.x.length≤1000000,.lit (.bool (ofE a==0)))|_=>none:=rfl
end Go.Proofs.YtcpjahmajkhchaaGreat

namespace Go.Proofs.YtcpjahmajkhchaaGreat.El
open Go.Proofs.YtcpjahmajkhchaaGreat
open Go Go.Fw
set_option maxRecDepth 20000
noncomputable def E0:Env:=envOf (P:=Tryz.prog) zer (fun _=>false) (fun _=>false) [] []
theorem E0_ok:EnvOk Tryz.prog E0:=envOk zer_ok
def el (n:Int):Prop:= -2147483648≤n∧n≤2147483647
def w32 (n:Int):Int:=IntKind.i32.wrap n
theorem w32_eq (n:Int):w32 n=(n+2147483648) % 4294967296 - 2147483648:=by
  unfold w32 IntKind.wrap
  have e1:IntKind.i32.bits=32:=rfl
  have e2:IntKind.i32.signed=true:=rfl
  simp only [e1,e2]
  simp
  try omega
theorem w32_el (n:Int):el (w32 n):=by rw [w32_eq];unfold el;omega
theorem w32_id {n:Int} (h:el n):w32 n=n:=by rw [w32_eq];unfold el at h;omega
theorem el_i64 {n:Int} (h:el n):inI64 n:=by unfold el at h;unfold inI64;omega
theorem wrap_w32 (n:Int):IntKind.i64.wrap (IntKind.i32.wrap n)=w32 n:=wrap_i64 (el_i64 (w32_el n))
theorem wrap_pc {f:FuncId} {n:Int} (hf:f=88∨f=37):PC Tryz.prog f [.lit (.int .i64 n)] (.lit (.int .i64 (w32 n))):=by
  rcases hf with rfl|rfl
  ·skip
   refine pcO E0_ok (fun _=>[0,2]) Tryz.func88 (h:=fun KF=>?_)
   unfold E0
   repeat' (first
    |(with_reducible first|refine nx ?_|refine t_seq fun K=>?_|refine t_br (fun hc=>?_) fun hc=>?_|refine t_bx ?_|apply And.intro|intro vr)
    |((with_reducible first|refine ny ?_|refine t_dwh (h:=fun K KL=>?_));intros;simp only [go_sem,geff]))
   refine end_ret rfl ?_
   simp only [fin,go_sem,wrap_w32]
   exact LeA.refl _
  ·skip
   refine pcO E0_ok (fun _=>[0,2]) Tryz.func37 (h:=fun KF=>?_)
   unfold E0
   repeat' (first
    |(with_reducible first|refine nx ?_|refine t_seq fun K=>?_|refine t_br (fun hc=>?_) fun hc=>?_|refine t_bx ?_|apply And.intro|intro vr)
    |((with_reducible first|refine ny ?_|refine t_dwh (h:=fun K KL=>?_));intros;simp only [go_sem,geff]))
   refine end_ret rfl ?_
   simp only [fin,go_sem,wrap_w32]
   exact LeA.refl _
noncomputable def wrapCon (f:FuncId) (h:f=88∨f=37):PCon Tryz.prog where
  f:=f
  c:=fun
   |[.lit (.int .i64 n)]=>some (True,.lit (.int .i64 (w32 n)))
   |_=>none
  ok:=by
   intro args p r hc hp
   split at hc
   ·cases hc;exact wrap_pc h
   ·cases hc
  fk:=by
   rcases h with rfl|rfl
   ·exact fk88
   ·exact fk37
noncomputable def con88:=wrapCon 88 (.inl rfl)
noncomputable def con37:=wrapCon 37 (.inr rfl)
theorem con88_f:con88.f=88:=rfl
theorem con37_f:con37.f=37:=rfl
theorem con88_c {n:Int}:con88.c [.lit (.int .i64 n)]=some (True,.lit (.int .i64 (w32 n))):=rfl
theorem con37_c {n:Int}:con37.c [.lit (.int .i64 n)]=some (True,.lit (.int .i64 (w32 n))):=rfl
def tru (b:Bool):Int:=if b=true then 1 else 0
theorem tru_pc {f:FuncId} {b:Bool} (hf:f=86∨f=114):PC Tryz.prog f [.lit (.bool b)] (.lit (.int .i64 (tru b))):=by
  rcases hf with rfl|rfl<;>cases b
  ·skip
   refine pcO E0_ok (fun _=>[0,2,3]) Tryz.func86 (h:=fun KF=>?_)
   unfold E0
   repeat' (first
    |(with_reducible first|refine nx ?_|refine t_seq fun K=>?_|refine t_br (fun hc=>?_) fun hc=>?_|refine t_bx ?_|apply And.intro|intro vr)
    |((with_reducible first|refine ny ?_|refine t_dwh (h:=fun K KL=>?_));intros;simp only [go_sem,geff]))
   refine end_ret rfl ?_
   simp only [fin,go_sem]
   exact LeA.refl _
  ·skip
   refine pcO E0_ok (fun _=>[0,2,3]) Tryz.func86 (h:=fun KF=>?_)
   unfold E0
   repeat' (first
    |(with_reducible first|refine nx ?_|refine t_seq fun K=>?_|refine t_br (fun hc=>?_) fun hc=>?_|refine t_bx ?_|apply And.intro|intro vr)
    |((with_reducible first|refine ny ?_|refine t_dwh (h:=fun K KL=>?_));intros;simp only [go_sem,geff]))
   refine end_ret rfl ?_
   simp only [fin,go_sem]
   exact LeA.refl _
  ·skip
   refine pcO E0_ok (fun _=>[0,2,3]) Tryz.func114 (h:=fun KF=>?_)
   unfold E0
   repeat' (first
    |(with_reducible first|refine nx ?_|refine t_seq fun K=>?_|refine t_br (fun hc=>?_) fun hc=>?_|refine t_bx ?_|apply And.intro|intro vr)
    |((with_reducible first|refine ny ?_|refine t_dwh (h:=fun K KL=>?_));intros;simp only [go_sem,geff]))
   refine end_ret rfl ?_
   simp only [fin,go_sem]
   exact LeA.refl _
  ·skip
   refine pcO E0_ok (fun _=>[0,2,3]) Tryz.func114 (h:=fun KF=>?_)
   unfold E0
   repeat' (first
    |(with_reducible first|refine nx ?_|refine t_seq fun K=>?_|refine t_br (fun hc=>?_) fun hc=>?_|refine t_bx ?_|apply And.intro|intro vr)
    |((with_reducible first|refine ny ?_|refine t_dwh (h:=fun K KL=>?_));intros;simp only [go_sem,geff]))
   refine end_ret rfl ?_
   simp only [fin,go_sem]
   exact LeA.refl _
noncomputable def truCon (f:FuncId) (h:f=86∨f=114):PCon Tryz.prog where
  f:=f
  c:=fun
   |[.lit (.bool b)]=>some (True,.lit (.int .i64 (tru b)))
   |_=>none
  ok:=by
   intro args p r hc hp
   split at hc
   ·cases hc;exact tru_pc h
   ·cases hc
  fk:=by
   rcases h with rfl|rfl
   ·exact fk86
   ·exact fk114
noncomputable def con86:=truCon 86 (.inl rfl)
noncomputable def con114:=truCon 114 (.inr rfl)
theorem con86_f:con86.f=86:=rfl
theorem con114_f:con114.f=114:=rfl
theorem con86_c {b:Bool}:con86.c [.lit (.bool b)]=some (True,.lit (.int .i64 (tru b))):=rfl
theorem con114_c {b:Bool}:con114.c [.lit (.bool b)]=some (True,.lit (.int .i64 (tru b))):=rfl
theorem tdiv_bd {a b:Int} (ha:el a) (hb:b≠0): -2147483648≤a.tdiv b∧a.tdiv b≤2147483648:=by
  unfold el at ha
  have:=Int.natAbs_tdiv_le_natAbs a b
  omega
def flo (a b:Int):Int:=if b=0 then 0 else if a.tmod b≠0∧decide (a<0)≠decide (b<0) then a.tdiv b - 1 else a.tdiv b
theorem flo_pc {f:FuncId} {a b:Int} (hf:f=89∨f=87) (ha:el a):PC Tryz.prog f [.lit (.int .i64 a),.lit (.int .i64 b)] (.lit (.int .i64 (flo a b))):=by
  unfold flo
  by_cases hb:b=0
  ·subst hb
   rcases hf with rfl|rfl
   ·skip
    refine pcO E0_ok (fun _=>[0,1,4,5,7,21]) Tryz.func89 (h:=fun KF=>?_)
    unfold E0
    repeat' (first
     |(with_reducible first|refine nx ?_|refine t_seq fun K=>?_|refine t_br (fun hc=>?_) fun hc=>?_|refine t_bx ?_|apply And.intro|intro vr)
     |((with_reducible first|refine ny ?_|refine t_dwh (h:=fun K KL=>?_));intros;simp only [go_sem,geff]))
    refine end_ret rfl ?_
    simp only [fin,go_sem]
    exact LeA.refl _
   ·skip
    refine pcO E0_ok (fun _=>[0,1,4,5,7,21]) Tryz.func87 (h:=fun KF=>?_)
    unfold E0
    repeat' (first
     |(with_reducible first|refine nx ?_|refine t_seq fun K=>?_|refine t_br (fun hc=>?_) fun hc=>?_|refine t_bx ?_|apply And.intro|intro vr)
     |((with_reducible first|refine ny ?_|refine t_dwh (h:=fun K KL=>?_));intros;simp only [go_sem,geff]))
    refine end_ret rfl ?_
    simp only [fin,go_sem]
    exact LeA.refl _
  have hd:=tdiv_bd ha hb
  have z:(b==0)=false:=by rw [beq_eq_false_iff_ne];exact hb
  rw [if_neg hb]
  by_cases h0:a.tmod b=0
  ·have z0:(a.tmod b !=0)=false:=by rw [bne_eq_false_iff_eq];exact h0
   rw [if_neg (fun h=>h.1 h0)]
   rcases hf with rfl|rfl
   ·skip
    refine pcO E0_ok (fun _=>[0,1,4,5,7,21]) Tryz.func89 (h:=fun KF=>?_)
    unfold E0
    repeat' (first
     |(with_reducible first|refine nx ?_|refine t_seq fun K=>?_|refine t_br (fun hc=>?_) fun hc=>?_|refine t_bx ?_|apply And.intro|intro vr)
     |((with_reducible first|refine ny ?_|refine t_dwh (h:=fun K KL=>?_));intros;simp only [go_sem,geff,z,z0]))
    all_goals try exact om
    refine end_ret rfl ?_
    simp only [fin,go_sem]
    exact LeA.refl _
   ·skip
    refine pcO E0_ok (fun _=>[0,1,4,5,7,21]) Tryz.func87 (h:=fun KF=>?_)
    unfold E0
    repeat' (first
     |(with_reducible first|refine nx ?_|refine t_seq fun K=>?_|refine t_br (fun hc=>?_) fun hc=>?_|refine t_bx ?_|apply And.intro|intro vr)
     |((with_reducible first|refine ny ?_|refine t_dwh (h:=fun K KL=>?_));intros;simp only [go_sem,geff,z,z0]))
    all_goals try exact om
    refine end_ret rfl ?_
    simp only [fin,go_sem]
    exact LeA.refl _
  have z0:(a.tmod b !=0)=true:=by rw [bne_iff_ne];exact h0
  by_cases h1:decide (a<0)=decide (b<0)
  ·have z1:(decide (a<0)==decide (b<0))=true:=by rw [beq_iff_eq];exact h1
   rw [if_neg (fun h=>h.2 h1)]
   rcases hf with rfl|rfl
   ·skip
    refine pcO E0_ok (fun _=>[0,1,4,5,7,21]) Tryz.func89 (h:=fun KF=>?_)
    unfold E0
    repeat' (first
     |(with_reducible first|refine nx ?_|refine t_seq fun K=>?_|refine t_br (fun hc=>?_) fun hc=>?_|refine t_bx ?_|apply And.intro|intro vr)
     |((with_reducible first|refine ny ?_|refine t_dwh (h:=fun K KL=>?_));intros;simp only [go_sem,geff,z,z0,z1]))
    all_goals try exact om
    refine end_ret rfl ?_
    simp only [fin,go_sem]
    exact LeA.refl _
   ·skip
    refine pcO E0_ok (fun _=>[0,1,4,5,7,21]) Tryz.func87 (h:=fun KF=>?_)
    unfold E0
    repeat' (first
     |(with_reducible first|refine nx ?_|refine t_seq fun K=>?_|refine t_br (fun hc=>?_) fun hc=>?_|refine t_bx ?_|apply And.intro|intro vr)
     |((with_reducible first|refine ny ?_|refine t_dwh (h:=fun K KL=>?_));intros;simp only [go_sem,geff,z,z0,z1]))
    all_goals try exact om
    refine end_ret rfl ?_
    simp only [fin,go_sem]
    exact LeA.refl _
  ·have z1:(decide (a<0)==decide (b<0))=false:=by rw [beq_eq_false_iff_ne];exact h1
   rw [if_pos ⟨h0,h1⟩]
   rcases hf with rfl|rfl
   ·skip
    refine pcO E0_ok (fun _=>[0,1,4,5,7,21]) Tryz.func89 (h:=fun KF=>?_)
    unfold E0
    repeat' (first
     |(with_reducible first|refine nx ?_|refine t_seq fun K=>?_|refine t_br (fun hc=>?_) fun hc=>?_|refine t_bx ?_|apply And.intro|intro vr)
     |((with_reducible first|refine ny ?_|refine t_dwh (h:=fun K KL=>?_));intros;simp only [go_sem,geff,z,z0,z1]))
    all_goals try exact om
    refine end_ret rfl ?_
    simp only [fin,go_sem]
    exact LeA.refl _
   ·skip
    refine pcO E0_ok (fun _=>[0,1,4,5,7,21]) Tryz.func87 (h:=fun KF=>?_)
    unfold E0
    repeat' (first
     |(with_reducible first|refine nx ?_|refine t_seq fun K=>?_|refine t_br (fun hc=>?_) fun hc=>?_|refine t_bx ?_|apply And.intro|intro vr)
     |((with_reducible first|refine ny ?_|refine t_dwh (h:=fun K KL=>?_));intros;simp only [go_sem,geff,z,z0,z1]))
    all_goals try exact om
    refine end_ret rfl ?_
    simp only [fin,go_sem]
    exact LeA.refl _
noncomputable def floCon (f:FuncId) (h:f=89∨f=87):PCon Tryz.prog where
  f:=f
  c:=fun
   |[.lit (.int .i64 a),.lit (.int .i64 b)]=>some (el a,.lit (.int .i64 (flo a b)))
   |_=>none
  ok:=by
   intro args p r hc hp
   split at hc
   ·cases hc;exact flo_pc h hp
   ·cases hc
  fk:=by
   rcases h with rfl|rfl
   ·exact fk89
   ·exact fk87
noncomputable def con89:=floCon 89 (.inl rfl)
noncomputable def con87:=floCon 87 (.inr rfl)
theorem con89_f:con89.f=89:=rfl
theorem con87_f:con87.f=87:=rfl
theorem con89_c {a b:Int}:con89.c [.lit (.int .i64 a),.lit (.int .i64 b)]=some (el a,.lit (.int .i64 (flo a b))):=rfl
theorem con87_c {a b:Int}:con87.c [.lit (.int .i64 a),.lit (.int .i64 b)]=some (el a,.lit (.int .i64 (flo a b))):=rfl
def sgn (a:Int):Int:=if a<0 then -1 else if a>0 then 1 else 0
theorem nan_pc {a:Int}:PC Tryz.prog 113 [.lit (.int .i64 a)] (.lit (.bool false)):=by
  refine pcO E0_ok (fun _=>[0,2]) Tryz.func113 (h:=fun KF=>?_)
  unfold E0
  repeat' (first
   |(with_reducible first|refine nx ?_|refine t_seq fun K=>?_|refine t_br (fun hc=>?_) fun hc=>?_|refine t_bx ?_|apply And.intro|intro vr)
   |((with_reducible first|refine ny ?_|refine t_dwh (h:=fun K KL=>?_));intros;simp only [go_sem,geff,bne_self_eq_false]))
  refine end_ret rfl ?_
  simp only [fin,go_sem,bne_self_eq_false]
  exact LeA.refl _
noncomputable def con113:PCon Tryz.prog where
  f:=113
  c:=fun
   |[.lit (.int .i64 _)]=>some (True,.lit (.bool false))
   |_=>none
  ok:=by
   intro args p r hc hp
   split at hc
   ·cases hc;exact nan_pc
   ·cases hc
  fk:=fk113
theorem con113_f:con113.f=113:=rfl
theorem con113_c {a:Int}:con113.c [.lit (.int .i64 a)]=some (True,.lit (.bool false)):=rfl
noncomputable def E1:Env:=envOf (P:=Tryz.prog) zer (fun _=>false) (fun _=>false) [con113] []
theorem E1_ok:EnvOk Tryz.prog E1:=envOk zer_ok
theorem cmp_pc {a:Int}:PC Tryz.prog 90 [.lit (.int .i64 a),.lit (.int .i64 0)] (.lit (.int .i64 (sgn a))):=by
  unfold sgn
  by_cases h1:a<0
  ·have z:decide (a<0)=true:=decide_eq_true h1
   rw [if_pos h1]
   refine pcO E1_ok (fun _=>[0,1,4,5,6,11,12,13,16,19]) Tryz.func90 (h:=fun KF=>?_)
   unfold E1
   repeat' (first
    |(with_reducible first|refine nx ?_|refine t_seq fun K=>?_|refine t_br (fun hc=>?_) fun hc=>?_|refine t_bx ?_|apply And.intro|intro vr)
    |((with_reducible first|refine ny ?_|refine t_dwh (h:=fun K KL=>?_));intros;simp only [go_sem,geff,con113_f,con113_c,z]))
   refine end_ret rfl ?_
   simp only [fin,go_sem]
   exact LeA.refl _
  have z:decide (a<0)=false:=decide_eq_false h1
  rw [if_neg h1]
  by_cases h2:a>0
  ·have z2:decide (a>0)=true:=decide_eq_true h2
   rw [if_pos h2]
   refine pcO E1_ok (fun _=>[0,1,4,5,6,11,12,13,16,19]) Tryz.func90 (h:=fun KF=>?_)
   unfold E1
   repeat' (first
    |(with_reducible first|refine nx ?_|refine t_seq fun K=>?_|refine t_br (fun hc=>?_) fun hc=>?_|refine t_bx ?_|apply And.intro|intro vr)
    |((with_reducible first|refine ny ?_|refine t_dwh (h:=fun K KL=>?_));intros;simp only [go_sem,geff,con113_f,con113_c,z,z2]))
   refine end_ret rfl ?_
   simp only [fin,go_sem]
   exact LeA.refl _
  ·have z2:decide (a>0)=false:=decide_eq_false h2
   rw [if_neg h2]
   refine pcO E1_ok (fun _=>[0,1,4,5,6,11,12,13,16,19]) Tryz.func90 (h:=fun KF=>?_)
   unfold E1
   repeat' (first
    |(with_reducible first|refine nx ?_|refine t_seq fun K=>?_|refine t_br (fun hc=>?_) fun hc=>?_|refine t_bx ?_|apply And.intro|intro vr)
    |((with_reducible first|refine ny ?_|refine t_dwh (h:=fun K KL=>?_));intros;simp only [go_sem,geff,con113_f,con113_c,z,z2]))
   refine end_ret rfl ?_
   simp only [fin,go_sem]
   exact LeA.refl _
noncomputable def con90:PCon Tryz.prog where
  f:=90
  c:=fun
   |[.lit (.int .i64 a),.lit (.int .i64 0)]=>some (True,.lit (.int .i64 (sgn a)))
   |_=>none
  ok:=by
   intro args p r hc hp
   split at hc
   ·cases hc;exact cmp_pc
   ·cases hc
  fk:=fk90
theorem con90_f:con90.f=90:=rfl
theorem con90_c {a:Int}:con90.c [.lit (.int .i64 a),.lit (.int .i64 0)]=some (True,.lit (.int .i64 (sgn a))):=rfl
def sInt:ByteArray:=⟨#[105,110,116]⟩
def sBool:ByteArray:=⟨#[98,111,111,108]⟩
def sA:ByteArray:=⟨#[65]⟩
def vld (s:ByteArray) (n:Int):Bool:=if eqS s sInt=true then decide (-2147483648≤n∧n≤2147483647) else if eqS s sBool=true then decide (n=0∨n=1) else false
theorem eqS_iff {a b:ByteArray}:eqS a b=true ↔ a=b:=by
  unfold eqS
  rw [beq_iff_eq]
  constructor
  ·intro h
   apply ByteArray.ext
   apply Array.ext'
   simpa using h
  ·intro h;rw [h]
theorem eqS_refl (b:ByteArray):eqS b b=true:=eqS_iff.2 rfl
theorem vld_pc {f:FuncId} {s:ByteArray} {n:Int} (hf:f=40∨f=38):PC Tryz.prog f [.lit (.string s),.lit (.int .i64 n)] (.lit (.bool (vld s n))):=by
  unfold vld sInt sBool
  by_cases h1:eqS s ⟨#[105,110,116]⟩=true
  ·have hs:s=⟨#[105,110,116]⟩:=eqS_iff.1 h1
   have h2:eqS s ⟨#[98,111,111,108]⟩=false:=by rw [hs];rfl
   rw [if_pos h1]
   by_cases h3:n≥ -2147483648
   ·have z3:decide (n≥ -2147483648)=true:=decide_eq_true h3
    have e:decide (-2147483648≤n∧n≤2147483647)=decide (n≤2147483647):=by simp;omega
    rw [e]
    rcases hf with rfl|rfl
    ·skip
     refine pcO E0_ok (fun _=>[0,1,4,5,6,14]) Tryz.func40 (h:=fun KF=>?_)
     unfold E0
     repeat' (first
      |(with_reducible first|refine nx ?_|refine t_seq fun K=>?_|refine t_br (fun hc=>?_) fun hc=>?_|refine t_bx ?_|apply And.intro|intro vr)
      |((with_reducible first|refine ny ?_|refine t_dwh (h:=fun K KL=>?_));intros;simp only [go_sem,geff,h1,h2,z3]))
     refine end_ret rfl ?_
     simp only [fin,go_sem]
     exact LeA.refl _
    ·skip
     refine pcO E0_ok (fun _=>[0,1,4,6]) Tryz.func38 (h:=fun KF=>?_)
     unfold E0
     repeat' (first
      |(with_reducible first|refine nx ?_|refine t_seq fun K=>?_|refine t_br (fun hc=>?_) fun hc=>?_|refine t_bx ?_|apply And.intro|intro vr)
      |((with_reducible first|refine ny ?_|refine t_dwh (h:=fun K KL=>?_));intros;simp only [go_sem,geff,h1,h2,z3]))
     refine end_ret rfl ?_
     simp only [fin,go_sem]
     exact LeA.refl _
   ·have z3:decide (n≥ -2147483648)=false:=decide_eq_false h3
    have e:decide (-2147483648≤n∧n≤2147483647)=false:=by simp;omega
    rw [e]
    rcases hf with rfl|rfl
    ·skip
     refine pcO E0_ok (fun _=>[0,1,4,5,6,14]) Tryz.func40 (h:=fun KF=>?_)
     unfold E0
     repeat' (first
      |(with_reducible first|refine nx ?_|refine t_seq fun K=>?_|refine t_br (fun hc=>?_) fun hc=>?_|refine t_bx ?_|apply And.intro|intro vr)
      |((with_reducible first|refine ny ?_|refine t_dwh (h:=fun K KL=>?_));intros;simp only [go_sem,geff,h1,h2,z3]))
     refine end_ret rfl ?_
     simp only [fin,go_sem]
     exact LeA.refl _
    ·skip
     refine pcO E0_ok (fun _=>[0,1,4,6]) Tryz.func38 (h:=fun KF=>?_)
     unfold E0
     repeat' (first
      |(with_reducible first|refine nx ?_|refine t_seq fun K=>?_|refine t_br (fun hc=>?_) fun hc=>?_|refine t_bx ?_|apply And.intro|intro vr)
      |((with_reducible first|refine ny ?_|refine t_dwh (h:=fun K KL=>?_));intros;simp only [go_sem,geff,h1,h2,z3]))
     refine end_ret rfl ?_
     simp only [fin,go_sem]
     exact LeA.refl _
  ·have h1':eqS s ⟨#[105,110,116]⟩=false:=by simpa using h1
   rw [if_neg h1]
   by_cases h2:eqS s ⟨#[98,111,111,108]⟩=true
   ·rw [if_pos h2]
    by_cases h3:n=0
    ·have z3:(n==0)=true:=by rw [beq_iff_eq];exact h3
     have e:decide (n=0∨n=1)=true:=decide_eq_true (.inl h3)
     rw [e]
     rcases hf with rfl|rfl
     ·skip
      refine pcO E0_ok (fun _=>[0,1,4,5,6,14]) Tryz.func40 (h:=fun KF=>?_)
      unfold E0
      repeat' (first
       |(with_reducible first|refine nx ?_|refine t_seq fun K=>?_|refine t_br (fun hc=>?_) fun hc=>?_|refine t_bx ?_|apply And.intro|intro vr)
       |((with_reducible first|refine ny ?_|refine t_dwh (h:=fun K KL=>?_));intros;simp only [go_sem,geff,h1',h2,z3]))
      refine end_ret rfl ?_
      simp only [fin,go_sem]
      exact LeA.refl _
     ·skip
      refine pcO E0_ok (fun _=>[0,1,4,6]) Tryz.func38 (h:=fun KF=>?_)
      unfold E0
      repeat' (first
       |(with_reducible first|refine nx ?_|refine t_seq fun K=>?_|refine t_br (fun hc=>?_) fun hc=>?_|refine t_bx ?_|apply And.intro|intro vr)
       |((with_reducible first|refine ny ?_|refine t_dwh (h:=fun K KL=>?_));intros;simp only [go_sem,geff,h1',h2,z3]))
      refine end_ret rfl ?_
      simp only [fin,go_sem]
      exact LeA.refl _
    ·have z3:(n==0)=false:=by rw [beq_eq_false_iff_ne];exact h3
     have e:decide (n=0∨n=1)=(n==1):=by
       by_cases h4:n=1
       ·subst h4;rfl
       ·rw [decide_eq_false (by omega)];symm;rw [beq_eq_false_iff_ne];exact h4
     rw [e]
     rcases hf with rfl|rfl
     ·skip
      refine pcO E0_ok (fun _=>[0,1,4,5,6,14]) Tryz.func40 (h:=fun KF=>?_)
      unfold E0
      repeat' (first
       |(with_reducible first|refine nx ?_|refine t_seq fun K=>?_|refine t_br (fun hc=>?_) fun hc=>?_|refine t_bx ?_|apply And.intro|intro vr)
       |((with_reducible first|refine ny ?_|refine t_dwh (h:=fun K KL=>?_));intros;simp only [go_sem,geff,h1',h2,z3]))
      refine end_ret rfl ?_
      simp only [fin,go_sem]
      exact LeA.refl _
     ·skip
      refine pcO E0_ok (fun _=>[0,1,4,6]) Tryz.func38 (h:=fun KF=>?_)
      unfold E0
      repeat' (first
       |(with_reducible first|refine nx ?_|refine t_seq fun K=>?_|refine t_br (fun hc=>?_) fun hc=>?_|refine t_bx ?_|apply And.intro|intro vr)
       |((with_reducible first|refine ny ?_|refine t_dwh (h:=fun K KL=>?_));intros;simp only [go_sem,geff,h1',h2,z3]))
      refine end_ret rfl ?_
      simp only [fin,go_sem]
      exact LeA.refl _
   ·have h2':eqS s ⟨#[98,111,111,108]⟩=false:=by simpa using h2
    rw [if_neg h2]
    rcases hf with rfl|rfl
    ·skip
     refine pcO E0_ok (fun _=>[0,1,4,5,6,14]) Tryz.func40 (h:=fun KF=>?_)
     unfold E0
     repeat' (first
      |(with_reducible first|refine nx ?_|refine t_seq fun K=>?_|refine t_br (fun hc=>?_) fun hc=>?_|refine t_bx ?_|apply And.intro|intro vr)
      |((with_reducible first|refine ny ?_|refine t_dwh (h:=fun K KL=>?_));intros;simp only [go_sem,geff,h1',h2']))
     refine end_ret rfl ?_
     simp only [fin,go_sem]
     exact LeA.refl _
    ·skip
     refine pcO E0_ok (fun _=>[0,1,4,6]) Tryz.func38 (h:=fun KF=>?_)
     unfold E0
     repeat' (first
      |(with_reducible first|refine nx ?_|refine t_seq fun K=>?_|refine t_br (fun hc=>?_) fun hc=>?_|refine t_bx ?_|apply And.intro|intro vr)
      |((with_reducible first|refine ny ?_|refine t_dwh (h:=fun K KL=>?_));intros;simp only [go_sem,geff,h1',h2']))
     refine end_ret rfl ?_
     simp only [fin,go_sem]
     exact LeA.refl _
noncomputable def vldCon (f:FuncId) (h:f=40∨f=38):PCon Tryz.prog where
  f:=f
  c:=fun
   |[.lit (.string s),.lit (.int .i64 n)]=>some (True,.lit (.bool (vld s n)))
   |_=>none
  ok:=by
   intro args p r hc hp
   split at hc
   ·cases hc;exact vld_pc h
   ·cases hc
  fk:=by
   rcases h with rfl|rfl
   ·exact fk40
   ·exact fk38
noncomputable def con40:=vldCon 40 (.inl rfl)
noncomputable def con38:=vldCon 38 (.inr rfl)
theorem con40_f:con40.f=40:=rfl
theorem con38_f:con38.f=38:=rfl
theorem con40_c {s:ByteArray} {n:Int}:con40.c [.lit (.string s),.lit (.int .i64 n)]=some (True,.lit (.bool (vld s n))):=rfl
theorem con38_c {s:ByteArray} {n:Int}:con38.c [.lit (.string s),.lit (.int .i64 n)]=some (True,.lit (.bool (vld s n))):=rfl
end Go.Proofs.YtcpjahmajkhchaaGreat.El

namespace Go.Proofs.YtcpjahmajkhchaaGreat.El
open Go.Proofs.YtcpjahmajkhchaaGreat
open Go Go.Fw
set_option maxRecDepth 20000
abbrev w0:ByteArray:=⟨#[97,100,100]⟩
abbrev w1:ByteArray:=⟨#[115,117,98]⟩
abbrev w2:ByteArray:=⟨#[109,117,108]⟩
abbrev w3:ByteArray:=⟨#[100,105,118]⟩
abbrev w4:ByteArray:=⟨#[109,111,100]⟩
abbrev w5:ByteArray:=⟨#[109,105,110]⟩
abbrev w6:ByteArray:=⟨#[109,97,120]⟩
abbrev w7:ByteArray:=⟨#[110,101,103]⟩
abbrev w8:ByteArray:=⟨#[97,98,115]⟩
abbrev w9:ByteArray:=⟨#[115,105,103,110]⟩
abbrev w10:ByteArray:=⟨#[108,116]⟩
abbrev w11:ByteArray:=⟨#[108,101]⟩
abbrev w12:ByteArray:=⟨#[103,116]⟩
abbrev w13:ByteArray:=⟨#[103,101]⟩
abbrev w14:ByteArray:=⟨#[101,113]⟩
abbrev w15:ByteArray:=⟨#[110,101]⟩
abbrev w16:ByteArray:=⟨#[97,110,100]⟩
abbrev w17:ByteArray:=⟨#[111,114]⟩
abbrev w18:ByteArray:=⟨#[120,111,114]⟩
abbrev w19:ByteArray:=⟨#[110,111,116]⟩
abbrev w20:ByteArray:=⟨#[115,101,108,101,99,116]⟩
abbrev w21:ByteArray:=⟨#[116,111,105,110,116]⟩
abbrev w22:ByteArray:=⟨#[105,110,116]⟩
abbrev w23:ByteArray:=⟨#[98,111,111,108]⟩
abbrev w24:ByteArray:=⟨#[65]⟩
abbrev w25:ByteArray:=⟨#[]⟩
theorem qr0:eqS w0 w0=true∧eqS w0 w1=false∧eqS w0 w2=false∧eqS w0 w3=false∧eqS w0 w4=false∧eqS w0 w5=false∧eqS w0 w6=false∧eqS w0 w7=false∧eqS w0 w8=false∧eqS w0 w9=false∧eqS w0 w10=false∧eqS w0 w11=false∧eqS w0 w12=false∧eqS w0 w13=false∧eqS w0 w14=false∧eqS w0 w15=false∧eqS w0 w16=false∧eqS w0 w17=false∧eqS w0 w18=false∧eqS w0 w19=false∧eqS w0 w20=false∧eqS w0 w21=false∧eqS w0 w22=false∧eqS w0 w23=false∧eqS w0 w24=false∧eqS w0 w25=false:=by and_intros<;>rfl
theorem qr1:eqS w1 w0=false∧eqS w1 w1=true∧eqS w1 w2=false∧eqS w1 w3=false∧eqS w1 w4=false∧eqS w1 w5=false∧eqS w1 w6=false∧eqS w1 w7=false∧eqS w1 w8=false∧eqS w1 w9=false∧eqS w1 w10=false∧eqS w1 w11=false∧eqS w1 w12=false∧eqS w1 w13=false∧eqS w1 w14=false∧eqS w1 w15=false∧eqS w1 w16=false∧eqS w1 w17=false∧eqS w1 w18=false∧eqS w1 w19=false∧eqS w1 w20=false∧eqS w1 w21=false∧eqS w1 w22=false∧eqS w1 w23=false∧eqS w1 w24=false∧eqS w1 w25=false:=by and_intros<;>rfl
theorem qr2:eqS w2 w0=false∧eqS w2 w1=false∧eqS w2 w2=true∧eqS w2 w3=false∧eqS w2 w4=false∧eqS w2 w5=false∧eqS w2 w6=false∧eqS w2 w7=false∧eqS w2 w8=false∧eqS w2 w9=false∧eqS w2 w10=false∧eqS w2 w11=false∧eqS w2 w12=false∧eqS w2 w13=false∧eqS w2 w14=false∧eqS w2 w15=false∧eqS w2 w16=false∧eqS w2 w17=false∧eqS w2 w18=false∧eqS w2 w19=false∧eqS w2 w20=false∧eqS w2 w21=false∧eqS w2 w22=false∧eqS w2 w23=false∧eqS w2 w24=false∧eqS w2 w25=false:=by and_intros<;>rfl
theorem qr3:eqS w3 w0=false∧eqS w3 w1=false∧eqS w3 w2=false∧eqS w3 w3=true∧eqS w3 w4=false∧eqS w3 w5=false∧eqS w3 w6=false∧eqS w3 w7=false∧eqS w3 w8=false∧eqS w3 w9=false∧eqS w3 w10=false∧eqS w3 w11=false∧eqS w3 w12=false∧eqS w3 w13=false∧eqS w3 w14=false∧eqS w3 w15=false∧eqS w3 w16=false∧eqS w3 w17=false∧eqS w3 w18=false∧eqS w3 w19=false∧eqS w3 w20=false∧eqS w3 w21=false∧eqS w3 w22=false∧eqS w3 w23=false∧eqS w3 w24=false∧eqS w3 w25=false:=by and_intros<;>rfl
theorem qr4:eqS w4 w0=false∧eqS w4 w1=false∧eqS w4 w2=false∧eqS w4 w3=false∧eqS w4 w4=true∧eqS w4 w5=false∧eqS w4 w6=false∧eqS w4 w7=false∧eqS w4 w8=false∧eqS w4 w9=false∧eqS w4 w10=false∧eqS w4 w11=false∧eqS w4 w12=false∧eqS w4 w13=false∧eqS w4 w14=false∧eqS w4 w15=false∧eqS w4 w16=false∧eqS w4 w17=false∧eqS w4 w18=false∧eqS w4 w19=false∧eqS w4 w20=false∧eqS w4 w21=false∧eqS w4 w22=false∧eqS w4 w23=false∧eqS w4 w24=false∧eqS w4 w25=false:=by and_intros<;>rfl
theorem qr5:eqS w5 w0=false∧eqS w5 w1=false∧eqS w5 w2=false∧eqS w5 w3=false∧eqS w5 w4=false∧eqS w5 w5=true∧eqS w5 w6=false∧eqS w5 w7=false∧eqS w5 w8=false∧eqS w5 w9=false∧eqS w5 w10=false∧eqS w5 w11=false∧eqS w5 w12=false∧eqS w5 w13=false∧eqS w5 w14=false∧eqS w5 w15=false∧eqS w5 w16=false∧eqS w5 w17=false∧eqS w5 w18=false∧eqS w5 w19=false∧eqS w5 w20=false∧eqS w5 w21=false∧eqS w5 w22=false∧eqS w5 w23=false∧eqS w5 w24=false∧eqS w5 w25=false:=by and_intros<;>rfl
theorem qr6:eqS w6 w0=false∧eqS w6 w1=false∧eqS w6 w2=false∧eqS w6 w3=false∧eqS w6 w4=false∧eqS w6 w5=false∧eqS w6 w6=true∧eqS w6 w7=false∧eqS w6 w8=false∧eqS w6 w9=false∧eqS w6 w10=false∧eqS w6 w11=false∧eqS w6 w12=false∧eqS w6 w13=false∧eqS w6 w14=false∧eqS w6 w15=false∧eqS w6 w16=false∧eqS w6 w17=false∧eqS w6 w18=false∧eqS w6 w19=false∧eqS w6 w20=false∧eqS w6 w21=false∧eqS w6 w22=false∧eqS w6 w23=false∧eqS w6 w24=false∧eqS w6 w25=false:=by and_intros<;>rfl
theorem qr7:eqS w7 w0=false∧eqS w7 w1=false∧eqS w7 w2=false∧eqS w7 w3=false∧eqS w7 w4=false∧eqS w7 w5=false∧eqS w7 w6=false∧eqS w7 w7=true∧eqS w7 w8=false∧eqS w7 w9=false∧eqS w7 w10=false∧eqS w7 w11=false∧eqS w7 w12=false∧eqS w7 w13=false∧eqS w7 w14=false∧eqS w7 w15=false∧eqS w7 w16=false∧eqS w7 w17=false∧eqS w7 w18=false∧eqS w7 w19=false∧eqS w7 w20=false∧eqS w7 w21=false∧eqS w7 w22=false∧eqS w7 w23=false∧eqS w7 w24=false∧eqS w7 w25=false:=by and_intros<;>rfl
theorem qr8:eqS w8 w0=false∧eqS w8 w1=false∧eqS w8 w2=false∧eqS w8 w3=false∧eqS w8 w4=false∧eqS w8 w5=false∧eqS w8 w6=false∧eqS w8 w7=false∧eqS w8 w8=true∧eqS w8 w9=false∧eqS w8 w10=false∧eqS w8 w11=false∧eqS w8 w12=false∧eqS w8 w13=false∧eqS w8 w14=false∧eqS w8 w15=false∧eqS w8 w16=false∧eqS w8 w17=false∧eqS w8 w18=false∧eqS w8 w19=false∧eqS w8 w20=false∧eqS w8 w21=false∧eqS w8 w22=false∧eqS w8 w23=false∧eqS w8 w24=false∧eqS w8 w25=false:=by and_intros<;>rfl
theorem qr9:eqS w9 w0=false∧eqS w9 w1=false∧eqS w9 w2=false∧eqS w9 w3=false∧eqS w9 w4=false∧eqS w9 w5=false∧eqS w9 w6=false∧eqS w9 w7=false∧eqS w9 w8=false∧eqS w9 w9=true∧eqS w9 w10=false∧eqS w9 w11=false∧eqS w9 w12=false∧eqS w9 w13=false∧eqS w9 w14=false∧eqS w9 w15=false∧eqS w9 w16=false∧eqS w9 w17=false∧eqS w9 w18=false∧eqS w9 w19=false∧eqS w9 w20=false∧eqS w9 w21=false∧eqS w9 w22=false∧eqS w9 w23=false∧eqS w9 w24=false∧eqS w9 w25=false:=by and_intros<;>rfl
theorem qr10:eqS w10 w0=false∧eqS w10 w1=false∧eqS w10 w2=false∧eqS w10 w3=false∧eqS w10 w4=false∧eqS w10 w5=false∧eqS w10 w6=false∧eqS w10 w7=false∧eqS w10 w8=false∧eqS w10 w9=false∧eqS w10 w10=true∧eqS w10 w11=false∧eqS w10 w12=false∧eqS w10 w13=false∧eqS w10 w14=false∧eqS w10 w15=false∧eqS w10 w16=false∧eqS w10 w17=false∧eqS w10 w18=false∧eqS w10 w19=false∧eqS w10 w20=false∧eqS w10 w21=false∧eqS w10 w22=false∧eqS w10 w23=false∧eqS w10 w24=false∧eqS w10 w25=false:=by and_intros<;>rfl
theorem qr11:eqS w11 w0=false∧eqS w11 w1=false∧eqS w11 w2=false∧eqS w11 w3=false∧eqS w11 w4=false∧eqS w11 w5=false∧eqS w11 w6=false∧eqS w11 w7=false∧eqS w11 w8=false∧eqS w11 w9=false∧eqS w11 w10=false∧eqS w11 w11=true∧eqS w11 w12=false∧eqS w11 w13=false∧eqS w11 w14=false∧eqS w11 w15=false∧eqS w11 w16=false∧eqS w11 w17=false∧eqS w11 w18=false∧eqS w11 w19=false∧eqS w11 w20=false∧eqS w11 w21=false∧eqS w11 w22=false∧eqS w11 w23=false∧eqS w11 w24=false∧eqS w11 w25=false:=by and_intros<;>rfl
theorem qr12:eqS w12 w0=false∧eqS w12 w1=false∧eqS w12 w2=false∧eqS w12 w3=false∧eqS w12 w4=false∧eqS w12 w5=false∧eqS w12 w6=false∧eqS w12 w7=false∧eqS w12 w8=false∧eqS w12 w9=false∧eqS w12 w10=false∧eqS w12 w11=false∧eqS w12 w12=true∧eqS w12 w13=false∧eqS w12 w14=false∧eqS w12 w15=false∧eqS w12 w16=false∧eqS w12 w17=false∧eqS w12 w18=false∧eqS w12 w19=false∧eqS w12 w20=false∧eqS w12 w21=false∧eqS w12 w22=false∧eqS w12 w23=false∧eqS w12 w24=false∧eqS w12 w25=false:=by and_intros<;>rfl
theorem qr13:eqS w13 w0=false∧eqS w13 w1=false∧eqS w13 w2=false∧eqS w13 w3=false∧eqS w13 w4=false∧eqS w13 w5=false∧eqS w13 w6=false∧eqS w13 w7=false∧eqS w13 w8=false∧eqS w13 w9=false∧eqS w13 w10=false∧eqS w13 w11=false∧eqS w13 w12=false∧eqS w13 w13=true∧eqS w13 w14=false∧eqS w13 w15=false∧eqS w13 w16=false∧eqS w13 w17=false∧eqS w13 w18=false∧eqS w13 w19=false∧eqS w13 w20=false∧eqS w13 w21=false∧eqS w13 w22=false∧eqS w13 w23=false∧eqS w13 w24=false∧eqS w13 w25=false:=by and_intros<;>rfl
theorem qr14:eqS w14 w0=false∧eqS w14 w1=false∧eqS w14 w2=false∧eqS w14 w3=false∧eqS w14 w4=false∧eqS w14 w5=false∧eqS w14 w6=false∧eqS w14 w7=false∧eqS w14 w8=false∧eqS w14 w9=false∧eqS w14 w10=false∧eqS w14 w11=false∧eqS w14 w12=false∧eqS w14 w13=false∧eqS w14 w14=true∧eqS w14 w15=false∧eqS w14 w16=false∧eqS w14 w17=false∧eqS w14 w18=false∧eqS w14 w19=false∧eqS w14 w20=false∧eqS w14 w21=false∧eqS w14 w22=false∧eqS w14 w23=false∧eqS w14 w24=false∧eqS w14 w25=false:=by and_intros<;>rfl
theorem qr15:eqS w15 w0=false∧eqS w15 w1=false∧eqS w15 w2=false∧eqS w15 w3=false∧eqS w15 w4=false∧eqS w15 w5=false∧eqS w15 w6=false∧eqS w15 w7=false∧eqS w15 w8=false∧eqS w15 w9=false∧eqS w15 w10=false∧eqS w15 w11=false∧eqS w15 w12=false∧eqS w15 w13=false∧eqS w15 w14=false∧eqS w15 w15=true∧eqS w15 w16=false∧eqS w15 w17=false∧eqS w15 w18=false∧eqS w15 w19=false∧eqS w15 w20=false∧eqS w15 w21=false∧eqS w15 w22=false∧eqS w15 w23=false∧eqS w15 w24=false∧eqS w15 w25=false:=by and_intros<;>rfl
theorem qr16:eqS w16 w0=false∧eqS w16 w1=false∧eqS w16 w2=false∧eqS w16 w3=false∧eqS w16 w4=false∧eqS w16 w5=false∧eqS w16 w6=false∧eqS w16 w7=false∧eqS w16 w8=false∧eqS w16 w9=false∧eqS w16 w10=false∧eqS w16 w11=false∧eqS w16 w12=false∧eqS w16 w13=false∧eqS w16 w14=false∧eqS w16 w15=false∧eqS w16 w16=true∧eqS w16 w17=false∧eqS w16 w18=false∧eqS w16 w19=false∧eqS w16 w20=false∧eqS w16 w21=false∧eqS w16 w22=false∧eqS w16 w23=false∧eqS w16 w24=false∧eqS w16 w25=false:=by and_intros<;>rfl
theorem qr17:eqS w17 w0=false∧eqS w17 w1=false∧eqS w17 w2=false∧eqS w17 w3=false∧eqS w17 w4=false∧eqS w17 w5=false∧eqS w17 w6=false∧eqS w17 w7=false∧eqS w17 w8=false∧eqS w17 w9=false∧eqS w17 w10=false∧eqS w17 w11=false∧eqS w17 w12=false∧eqS w17 w13=false∧eqS w17 w14=false∧eqS w17 w15=false∧eqS w17 w16=false∧eqS w17 w17=true∧eqS w17 w18=false∧eqS w17 w19=false∧eqS w17 w20=false∧eqS w17 w21=false∧eqS w17 w22=false∧eqS w17 w23=false∧eqS w17 w24=false∧eqS w17 w25=false:=by and_intros<;>rfl
theorem qr18:eqS w18 w0=false∧eqS w18 w1=false∧eqS w18 w2=false∧eqS w18 w3=false∧eqS w18 w4=false∧eqS w18 w5=false∧eqS w18 w6=false∧eqS w18 w7=false∧eqS w18 w8=false∧eqS w18 w9=false∧eqS w18 w10=false∧eqS w18 w11=false∧eqS w18 w12=false∧eqS w18 w13=false∧eqS w18 w14=false∧eqS w18 w15=false∧eqS w18 w16=false∧eqS w18 w17=false∧eqS w18 w18=true∧eqS w18 w19=false∧eqS w18 w20=false∧eqS w18 w21=false∧eqS w18 w22=false∧eqS w18 w23=false∧eqS w18 w24=false∧eqS w18 w25=false:=by and_intros<;>rfl
theorem qr19:eqS w19 w0=false∧eqS w19 w1=false∧eqS w19 w2=false∧eqS w19 w3=false∧eqS w19 w4=false∧eqS w19 w5=false∧eqS w19 w6=false∧eqS w19 w7=false∧eqS w19 w8=false∧eqS w19 w9=false∧eqS w19 w10=false∧eqS w19 w11=false∧eqS w19 w12=false∧eqS w19 w13=false∧eqS w19 w14=false∧eqS w19 w15=false∧eqS w19 w16=false∧eqS w19 w17=false∧eqS w19 w18=false∧eqS w19 w19=true∧eqS w19 w20=false∧eqS w19 w21=false∧eqS w19 w22=false∧eqS w19 w23=false∧eqS w19 w24=false∧eqS w19 w25=false:=by and_intros<;>rfl
theorem qr20:eqS w20 w0=false∧eqS w20 w1=false∧eqS w20 w2=false∧eqS w20 w3=false∧eqS w20 w4=false∧eqS w20 w5=false∧eqS w20 w6=false∧eqS w20 w7=false∧eqS w20 w8=false∧eqS w20 w9=false∧eqS w20 w10=false∧eqS w20 w11=false∧eqS w20 w12=false∧eqS w20 w13=false∧eqS w20 w14=false∧eqS w20 w15=false∧eqS w20 w16=false∧eqS w20 w17=false∧eqS w20 w18=false∧eqS w20 w19=false∧eqS w20 w20=true∧eqS w20 w21=false∧eqS w20 w22=false∧eqS w20 w23=false∧eqS w20 w24=false∧eqS w20 w25=false:=by and_intros<;>rfl
theorem qr21:eqS w21 w0=false∧eqS w21 w1=false∧eqS w21 w2=false∧eqS w21 w3=false∧eqS w21 w4=false∧eqS w21 w5=false∧eqS w21 w6=false∧eqS w21 w7=false∧eqS w21 w8=false∧eqS w21 w9=false∧eqS w21 w10=false∧eqS w21 w11=false∧eqS w21 w12=false∧eqS w21 w13=false∧eqS w21 w14=false∧eqS w21 w15=false∧eqS w21 w16=false∧eqS w21 w17=false∧eqS w21 w18=false∧eqS w21 w19=false∧eqS w21 w20=false∧eqS w21 w21=true∧eqS w21 w22=false∧eqS w21 w23=false∧eqS w21 w24=false∧eqS w21 w25=false:=by and_intros<;>rfl
theorem qr22:eqS w22 w0=false∧eqS w22 w1=false∧eqS w22 w2=false∧eqS w22 w3=false∧eqS w22 w4=false∧eqS w22 w5=false∧eqS w22 w6=false∧eqS w22 w7=false∧eqS w22 w8=false∧eqS w22 w9=false∧eqS w22 w10=false∧eqS w22 w11=false∧eqS w22 w12=false∧eqS w22 w13=false∧eqS w22 w14=false∧eqS w22 w15=false∧eqS w22 w16=false∧eqS w22 w17=false∧eqS w22 w18=false∧eqS w22 w19=false∧eqS w22 w20=false∧eqS w22 w21=false∧eqS w22 w22=true∧eqS w22 w23=false∧eqS w22 w24=false∧eqS w22 w25=false:=by and_intros<;>rfl
theorem qr23:eqS w23 w0=false∧eqS w23 w1=false∧eqS w23 w2=false∧eqS w23 w3=false∧eqS w23 w4=false∧eqS w23 w5=false∧eqS w23 w6=false∧eqS w23 w7=false∧eqS w23 w8=false∧eqS w23 w9=false∧eqS w23 w10=false∧eqS w23 w11=false∧eqS w23 w12=false∧eqS w23 w13=false∧eqS w23 w14=false∧eqS w23 w15=false∧eqS w23 w16=false∧eqS w23 w17=false∧eqS w23 w18=false∧eqS w23 w19=false∧eqS w23 w20=false∧eqS w23 w21=false∧eqS w23 w22=false∧eqS w23 w23=true∧eqS w23 w24=false∧eqS w23 w25=false:=by and_intros<;>rfl
theorem qr24:eqS w24 w0=false∧eqS w24 w1=false∧eqS w24 w2=false∧eqS w24 w3=false∧eqS w24 w4=false∧eqS w24 w5=false∧eqS w24 w6=false∧eqS w24 w7=false∧eqS w24 w8=false∧eqS w24 w9=false∧eqS w24 w10=false∧eqS w24 w11=false∧eqS w24 w12=false∧eqS w24 w13=false∧eqS w24 w14=false∧eqS w24 w15=false∧eqS w24 w16=false∧eqS w24 w17=false∧eqS w24 w18=false∧eqS w24 w19=false∧eqS w24 w20=false∧eqS w24 w21=false∧eqS w24 w22=false∧eqS w24 w23=false∧eqS w24 w24=true∧eqS w24 w25=false:=by and_intros<;>rfl
theorem qr25:eqS w25 w0=false∧eqS w25 w1=false∧eqS w25 w2=false∧eqS w25 w3=false∧eqS w25 w4=false∧eqS w25 w5=false∧eqS w25 w6=false∧eqS w25 w7=false∧eqS w25 w8=false∧eqS w25 w9=false∧eqS w25 w10=false∧eqS w25 w11=false∧eqS w25 w12=false∧eqS w25 w13=false∧eqS w25 w14=false∧eqS w25 w15=false∧eqS w25 w16=false∧eqS w25 w17=false∧eqS w25 w18=false∧eqS w25 w19=false∧eqS w25 w20=false∧eqS w25 w21=false∧eqS w25 w22=false∧eqS w25 w23=false∧eqS w25 w24=false∧eqS w25 w25=true:=by and_intros<;>rfl
attribute [go_sem] qr0 qr1 qr2 qr3 qr4 qr5 qr6 qr7 qr8 qr9 qr10 qr11 qr12 qr13 qr14 qr15 qr16 qr17 qr18 qr19 qr20 qr21 qr22 qr23 qr24 qr25
structure Rw where
  op:ByteArray
  ps:List ByteArray
  rs:ByteArray
instance:Inhabited Rw:=⟨⟨⟨#[]⟩,[],⟨#[]⟩⟩⟩
def rowsL:List Rw:=[⟨(⟨#[97,100,100]⟩:ByteArray),[(⟨#[105,110,116]⟩:ByteArray),(⟨#[105,110,116]⟩:ByteArray)],(⟨#[105,110,116]⟩:ByteArray)⟩,⟨(⟨#[115,117,98]⟩:ByteArray),[(⟨#[105,110,116]⟩:ByteArray),(⟨#[105,110,116]⟩:ByteArray)],(⟨#[105,110,116]⟩:ByteArray)⟩,⟨(⟨#[109,117,108]⟩:ByteArray),[(⟨#[105,110,116]⟩:ByteArray),(⟨#[105,110,116]⟩:ByteArray)],(⟨#[105,110,116]⟩:ByteArray)⟩,⟨(⟨#[100,105,118]⟩:ByteArray),[(⟨#[105,110,116]⟩:ByteArray),(⟨#[105,110,116]⟩:ByteArray)],(⟨#[105,110,116]⟩:ByteArray)⟩,⟨(⟨#[109,111,100]⟩:ByteArray),[(⟨#[105,110,116]⟩:ByteArray),(⟨#[105,110,116]⟩:ByteArray)],(⟨#[105,110,116]⟩:ByteArray)⟩,⟨(⟨#[109,105,110]⟩:ByteArray),[(⟨#[105,110,116]⟩:ByteArray),(⟨#[105,110,116]⟩:ByteArray)],(⟨#[105,110,116]⟩:ByteArray)⟩,⟨(⟨#[109,97,120]⟩:ByteArray),[(⟨#[105,110,116]⟩:ByteArray),(⟨#[105,110,116]⟩:ByteArray)],(⟨#[105,110,116]⟩:ByteArray)⟩,⟨(⟨#[110,101,103]⟩:ByteArray),[(⟨#[105,110,116]⟩:ByteArray)],(⟨#[105,110,116]⟩:ByteArray)⟩,⟨(⟨#[97,98,115]⟩:ByteArray),[(⟨#[105,110,116]⟩:ByteArray)],(⟨#[105,110,116]⟩:ByteArray)⟩,⟨(⟨#[115,105,103,110]⟩:ByteArray),[(⟨#[105,110,116]⟩:ByteArray)],(⟨#[105,110,116]⟩:ByteArray)⟩,⟨(⟨#[108,116]⟩:ByteArray),[(⟨#[105,110,116]⟩:ByteArray),(⟨#[105,110,116]⟩:ByteArray)],(⟨#[98,111,111,108]⟩:ByteArray)⟩,⟨(⟨#[108,101]⟩:ByteArray),[(⟨#[105,110,116]⟩:ByteArray),(⟨#[105,110,116]⟩:ByteArray)],(⟨#[98,111,111,108]⟩:ByteArray)⟩,⟨(⟨#[103,116]⟩:ByteArray),[(⟨#[105,110,116]⟩:ByteArray),(⟨#[105,110,116]⟩:ByteArray)],(⟨#[98,111,111,108]⟩:ByteArray)⟩,⟨(⟨#[103,101]⟩:ByteArray),[(⟨#[105,110,116]⟩:ByteArray),(⟨#[105,110,116]⟩:ByteArray)],(⟨#[98,111,111,108]⟩:ByteArray)⟩,⟨(⟨#[101,113]⟩:ByteArray),[(⟨#[65]⟩:ByteArray),(⟨#[65]⟩:ByteArray)],(⟨#[98,111,111,108]⟩:ByteArray)⟩,⟨(⟨#[110,101]⟩:ByteArray),[(⟨#[65]⟩:ByteArray),(⟨#[65]⟩:ByteArray)],(⟨#[98,111,111,108]⟩:ByteArray)⟩,⟨(⟨#[97,110,100]⟩:ByteArray),[(⟨#[98,111,111,108]⟩:ByteArray),(⟨#[98,111,111,108]⟩:ByteArray)],(⟨#[98,111,111,108]⟩:ByteArray)⟩,⟨(⟨#[111,114]⟩:ByteArray),[(⟨#[98,111,111,108]⟩:ByteArray),(⟨#[98,111,111,108]⟩:ByteArray)],(⟨#[98,111,111,108]⟩:ByteArray)⟩,⟨(⟨#[120,111,114]⟩:ByteArray),[(⟨#[98,111,111,108]⟩:ByteArray),(⟨#[98,111,111,108]⟩:ByteArray)],(⟨#[98,111,111,108]⟩:ByteArray)⟩,⟨(⟨#[110,111,116]⟩:ByteArray),[(⟨#[98,111,111,108]⟩:ByteArray)],(⟨#[98,111,111,108]⟩:ByteArray)⟩,⟨(⟨#[115,101,108,101,99,116]⟩:ByteArray),[(⟨#[98,111,111,108]⟩:ByteArray),(⟨#[65]⟩:ByteArray),(⟨#[65]⟩:ByteArray)],(⟨#[65]⟩:ByteArray)⟩,⟨(⟨#[116,111,105,110,116]⟩:ByteArray),[(⟨#[98,111,111,108]⟩:ByteArray)],(⟨#[105,110,116]⟩:ByteArray)⟩]
def rowC (r:Rw):List AV:=[.lit (.string r.op),.sl true 1 (strs r.ps),.lit (.string r.rs)]
def rowCells:List AV:=rowsL.flatMap rowC
theorem rowCells_len:rowCells.length=66:=rfl
set_option maxHeartbeats 4000000 in
theorem rows_pc:PC Tryz.prog 84 [] (.agg rowCells):=by
  refine pcO E0_ok (fun _=>[0,1,2,3,4]) Tryz.func84 (h:=fun KF=>?_)
  unfold E0
  repeat' (first
   |(with_reducible first|refine nx ?_|refine t_seq fun K=>?_|refine t_br (fun hc=>?_) fun hc=>?_|refine t_bx ?_|apply And.intro|intro vr)
   |((with_reducible first|refine ny ?_|refine t_dwh (h:=fun K KL=>?_));intros;simp only [go_sem,geff]))
  all_goals try exact om
  refine end_ret rfl ?_
  simp only [fin,go_sem]
  exact LeA.refl _
end Go.Proofs.YtcpjahmajkhchaaGreat.El

namespace Go.Proofs.YtcpjahmajkhchaaGreat.El
open Go.Proofs.YtcpjahmajkhchaaGreat
open Go Go.Fw
set_option maxRecDepth 20000
noncomputable def con84:PCon Tryz.prog where
  f:=84
  c:=fun
   |[]=>some (True,.agg rowCells)
   |_=>none
  ok:=by
   intro args p r hc hp
   split at hc
   ·cases hc;exact rows_pc
   ·cases hc
  fk:=fk84
theorem con84_f:con84.f=84:=rfl
theorem con84_c:con84.c []=some (True,.agg rowCells):=rfl
theorem clone_pc {l:List ByteArray} (hl:l.length≤1000000):PC Tryz.prog 85 [.sl false 1 (strs l)] (.sl false 1 (strs l)):=by
  refine pcO E0_ok (fun _=>[0,2,4]) Tryz.func85 (h:=fun KF=>?_)
  unfold E0
  repeat' (first
   |(with_reducible first|refine nx ?_|refine t_seq fun K=>?_|refine t_br (fun hc=>?_) fun hc=>?_|refine t_bx ?_|apply And.intro|intro vr)
   |((with_reducible first|refine ny ?_|refine t_dwh (h:=fun K KL=>?_));intros;simp only [go_sem,geff]))
  all_goals try exact om
  ·skip
   refine end_ret rfl ?_
   simp only [fin,go_sem]
   rw [show strs l=[] from by assumption]
   exact LeA.nil false 1
  ·skip
   refine end_ret rfl ?_
   simp only [fin,go_sem]
   exact LeA.refl _
noncomputable def con85:PCon Tryz.prog where
  f:=85
  c:=fun
   |[x]=>(slS x).map fun l=>(l.length≤1000000,.sl false 1 (strs l))
   |_=>none
  ok:=by
   intro args p r hc hp
   split at hc
   ·rename_i x
    cases hx:slS x with
    |none=>rw [hx] at hc;cases hc
    |some l=>
     rw [hx] at hc
     cases hc
     exact PC.weak (clone_pc hp) ⟨slS_le hx,trivial⟩
   ·cases hc
  fk:=fk85
theorem con85_f:con85.f=85:=rfl
theorem con85_c {x:AV}:con85.c [x]=(slS x).map fun l=>(l.length≤1000000,.sl false 1 (strs l)):=rfl
theorem yes_def {x:AV}:yes x=some (True,x):=rfl
theorem need_def {p:Prop} {x:AV}:need p x=some (p,x):=rfl
def typesS (op:ByteArray):Option Rw:=rowsL.find? fun r=>eqS r.op op
def typesV (o:Option Rw):AV:=match o with
  |some r=> .tup [.sl false 1 (strs r.ps),.lit (.string r.rs),.lit (.bool true)]
  |none=> .tup [.lit (.slice none 0 0),.lit (.string ⟨#[]⟩),.lit (.bool false)]
theorem rows_len:rowsL.length=22:=rfl
theorem rows_ps:∀ r∈rowsL,r.ps.length≤3:=by decide
theorem row_cells:∀ i,i<22→(rowCells.drop (i*3)).take 3=rowC (rowsL.getD i default):=by
  intro i hi
  have:i=0∨i=1∨i=2∨i=3∨i=4∨i=5∨i=6∨i=7∨i=8∨i=9∨i=10∨i=11∨i=12∨i=13∨i=14∨i=15∨i=16∨i=17∨i=18∨i=19∨i=20∨i=21:=by omega
  rcases this with rfl|rfl|rfl|rfl|rfl|rfl|rfl|rfl|rfl|rfl|rfl|rfl|rfl|rfl|rfl|rfl|rfl|rfl|rfl|rfl|rfl|rfl<;>rfl
theorem rowCells_all:rowCells.all scal0=false:=rfl
noncomputable def E2:Env:=envOf (P:=Tryz.prog) zer (fun _=>false) (fun _=>false) [con84,con85] []
theorem E2_ok:EnvOk Tryz.prog E2:=envOk zer_ok
set_option maxHeartbeats 1000000 in
theorem types_pc {op:ByteArray}:PC Tryz.prog 65 [.lit (.string op)] (typesV (typesS op)):=by
  unfold typesS
  generalize hR:rowsL.find? (fun r=>eqS r.op op)=R
  refine pcO E2_ok (fun _=>[0,2,3,4,6,7,8,9,14]) Tryz.func65 (h:=fun KF=>?_)
  unfold E2
  repeat' (first
   |(with_reducible first|refine nx ?_|refine t_seq fun K=>?_|refine t_br (fun hc=>?_) fun hc=>?_|refine t_bx ?_|apply And.intro|intro vr)
   |((with_reducible first|refine ny ?_|refine t_dwh (h:=fun K KL=>?_));intros;simp only [go_sem,geff,con84_f,con84_c,rowCells_all,Bool.false_eq_true]))
  refine t_loop (ι:={i:Nat // i≤22∧(rowsL.drop i).find? (fun r=>eqS r.op op)=R}×List AObj) (fun i=>⟨upd (upd (upd topF 8 (.lit (.int .i64 i.1.1))) 7 (.agg rowCells)) 0 (.lit (.string op)),i.2⟩) (fun i=>22 - i.1.1) (⟨0,by omega,hR⟩,[]) ?_ ?_
  ·skip
   (refine Le.frame ?_;repeat' (first|exact leF_top _|(with_reducible refine leF_sl ?_ ?_)|(refine leF_upd (LeR.of_eq ?_) ?_)))<;>(try (simp only [go_sem];try rfl))
  ·rintro ⟨⟨i,hi,hF⟩,g⟩ K0
   rcases Nat.lt_or_ge i 22 with hc|hc
   ·have g1:decide ((i:Int)<22)=true:=decide_eq_true (by omega)
    have g2:=row_cells i hc
    have g3:(i*3+3≤66)=True:=eq_true (by omega)
    have hd:rowsL.drop i=rowsL.getD i default::rowsL.drop (i+1):=by
      rw [List.drop_eq_getElem_cons (by rw [rows_len];exact hc),getD_elem _ _ (by rw [rows_len];exact hc)]
    have hps:=rows_ps (rowsL.getD i default) (by rw [getD_elem _ _ (by rw [rows_len];exact hc)];exact List.getElem_mem _)
    generalize rowsL.getD i default=r at g2 hd hps
    obtain ⟨nm,ps,rs⟩:=r
    simp only at hps
    rw [hd,List.find?_cons] at hF
    have k1:∀ (A:AObj),(g++[A])[g.length]? =some A:=fun A=>getA0 rfl
    have k2:∀ (A B:AObj),(g++[A]).set g.length B=g++[B]:=fun A B=>setA0 rfl
    by_cases he:eqS nm op=true
    ·have:R=some ⟨nm,ps,rs⟩:=by rw [←hF];simp only [he]
     subst this
     repeat' (first
      |(with_reducible first|refine nx ?_|refine t_seq fun K=>?_|refine t_br (fun hc=>?_) fun hc=>?_|refine t_bx ?_|apply And.intro|intro vr)
      |((with_reducible first|refine ny ?_|refine t_dwh (h:=fun K KL=>?_));intros;simp only [go_sem,geff,g1,Int.toNat_natCast,g3,rowCells_len,g2,rowC,yes_def,need_def,k1,k2,he,con84_f,con85_f,con85_c,slS_sl,typesV]))
     all_goals try exact om
     refine end_ret rfl ?_
     simp only [fin,go_sem]
     exact LeA.refl _
    ·have he':eqS nm op=false:=by simpa using he
     have hF':(rowsL.drop (i+1)).find? (fun r=>eqS r.op op)=R:=by rw [←hF];simp only [he']
     repeat' (first
      |(with_reducible first|refine nx ?_|refine t_seq fun K=>?_|refine t_br (fun hc=>?_) fun hc=>?_|refine t_bx ?_|apply And.intro|intro vr)
      |((with_reducible first|refine ny ?_|refine t_dwh (h:=fun K KL=>?_));intros;simp only [go_sem,geff,g1,Int.toNat_natCast,g3,rowCells_len,g2,rowC,yes_def,need_def,k1,k2,he',con84_f,con85_f,con85_c,slS_sl]))
     all_goals try exact om
     refine ⟨(⟨i+1,by omega,hF'⟩,g++[.box 122 [.lit (.string nm),.sl true 1 (strs ps),.lit (.string rs)]]),by simp only;omega,?_⟩
     (refine Le.frame ?_;repeat' (first|exact leF_top _|(with_reducible refine leF_sl ?_ ?_)|(refine leF_upd (LeR.of_eq ?_) ?_)))<;>(try (simp only [go_sem];try rfl))
   ·have g1:decide ((i:Int)<22)=false:=decide_eq_false (by omega)
    have:i=22:=by omega
    subst this
    have:R=none:=by rw [←hF];rfl
    subst this
    repeat' (first
     |(with_reducible first|refine nx ?_|refine t_seq fun K=>?_|refine t_br (fun hc=>?_) fun hc=>?_|refine t_bx ?_|apply And.intro|intro vr)
     |((with_reducible first|refine ny ?_|refine t_dwh (h:=fun K KL=>?_));intros;simp only [go_sem,geff,g1,typesV]))
    refine end_ret rfl ?_
    simp only [fin,go_sem]
    exact LeA.refl _
theorem eqS_comm (a b:ByteArray):eqS a b=eqS b a:=by
  by_cases h:eqS a b=true
  ·rw [h,eqS_iff.1 h];exact (eqS_refl b).symm
  ·have: ¬ eqS b a=true:=fun e=>h (by rw [eqS_iff.1 e];exact eqS_refl a)
   simp only [Bool.not_eq_true] at h this
   rw [h,this]
set_option maxHeartbeats 4000000 in
theorem rtypes_pc {op:ByteArray}:PC Tryz.prog 44 [.lit (.string op)] (typesV (typesS op)):=by
  by_cases h0:op=(⟨#[97,100,100]⟩:ByteArray)
  ·subst h0
   refine pcO E0_ok (fun _=>[0,2,3,4,5,6,15,20,26,30,35,38,41]) Tryz.func44 (h:=fun KF=>?_)
   unfold E0
   repeat' (first
    |(with_reducible first|refine nx ?_|refine t_seq fun K=>?_|refine t_br (fun hc=>?_) fun hc=>?_|refine t_bx ?_|apply And.intro|intro vr)
    |((with_reducible first|refine ny ?_|refine t_dwh (h:=fun K KL=>?_));intros;simp only [go_sem,geff]))
   all_goals try exact om
   refine end_ret rfl ?_
   simp only [fin,go_sem]
   exact LeA.tup ⟨LeA.full true 1 _,LeA.refl _,LeA.refl _,trivial⟩
  have z0:eqS op (⟨#[97,100,100]⟩:ByteArray)=false:=Bool.eq_false_iff.2 fun e=>h0 (eqS_iff.1 e)
  by_cases h1:op=(⟨#[115,117,98]⟩:ByteArray)
  ·subst h1
   refine pcO E0_ok (fun _=>[0,2,3,4,5,6,15,20,26,30,35,38,41]) Tryz.func44 (h:=fun KF=>?_)
   unfold E0
   repeat' (first
    |(with_reducible first|refine nx ?_|refine t_seq fun K=>?_|refine t_br (fun hc=>?_) fun hc=>?_|refine t_bx ?_|apply And.intro|intro vr)
    |((with_reducible first|refine ny ?_|refine t_dwh (h:=fun K KL=>?_));intros;simp only [go_sem,geff]))
   all_goals try exact om
   refine end_ret rfl ?_
   simp only [fin,go_sem]
   exact LeA.tup ⟨LeA.full true 1 _,LeA.refl _,LeA.refl _,trivial⟩
  have z1:eqS op (⟨#[115,117,98]⟩:ByteArray)=false:=Bool.eq_false_iff.2 fun e=>h1 (eqS_iff.1 e)
  by_cases h2:op=(⟨#[109,117,108]⟩:ByteArray)
  ·subst h2
   refine pcO E0_ok (fun _=>[0,2,3,4,5,6,15,20,26,30,35,38,41]) Tryz.func44 (h:=fun KF=>?_)
   unfold E0
   repeat' (first
    |(with_reducible first|refine nx ?_|refine t_seq fun K=>?_|refine t_br (fun hc=>?_) fun hc=>?_|refine t_bx ?_|apply And.intro|intro vr)
    |((with_reducible first|refine ny ?_|refine t_dwh (h:=fun K KL=>?_));intros;simp only [go_sem,geff]))
   all_goals try exact om
   refine end_ret rfl ?_
   simp only [fin,go_sem]
   exact LeA.tup ⟨LeA.full true 1 _,LeA.refl _,LeA.refl _,trivial⟩
  have z2:eqS op (⟨#[109,117,108]⟩:ByteArray)=false:=Bool.eq_false_iff.2 fun e=>h2 (eqS_iff.1 e)
  by_cases h3:op=(⟨#[100,105,118]⟩:ByteArray)
  ·subst h3
   refine pcO E0_ok (fun _=>[0,2,3,4,5,6,15,20,26,30,35,38,41]) Tryz.func44 (h:=fun KF=>?_)
   unfold E0
   repeat' (first
    |(with_reducible first|refine nx ?_|refine t_seq fun K=>?_|refine t_br (fun hc=>?_) fun hc=>?_|refine t_bx ?_|apply And.intro|intro vr)
    |((with_reducible first|refine ny ?_|refine t_dwh (h:=fun K KL=>?_));intros;simp only [go_sem,geff]))
   all_goals try exact om
   refine end_ret rfl ?_
   simp only [fin,go_sem]
   exact LeA.tup ⟨LeA.full true 1 _,LeA.refl _,LeA.refl _,trivial⟩
  have z3:eqS op (⟨#[100,105,118]⟩:ByteArray)=false:=Bool.eq_false_iff.2 fun e=>h3 (eqS_iff.1 e)
  by_cases h4:op=(⟨#[109,111,100]⟩:ByteArray)
  ·subst h4
   refine pcO E0_ok (fun _=>[0,2,3,4,5,6,15,20,26,30,35,38,41]) Tryz.func44 (h:=fun KF=>?_)
   unfold E0
   repeat' (first
    |(with_reducible first|refine nx ?_|refine t_seq fun K=>?_|refine t_br (fun hc=>?_) fun hc=>?_|refine t_bx ?_|apply And.intro|intro vr)
    |((with_reducible first|refine ny ?_|refine t_dwh (h:=fun K KL=>?_));intros;simp only [go_sem,geff]))
   all_goals try exact om
   refine end_ret rfl ?_
   simp only [fin,go_sem]
   exact LeA.tup ⟨LeA.full true 1 _,LeA.refl _,LeA.refl _,trivial⟩
  have z4:eqS op (⟨#[109,111,100]⟩:ByteArray)=false:=Bool.eq_false_iff.2 fun e=>h4 (eqS_iff.1 e)
  by_cases h5:op=(⟨#[109,105,110]⟩:ByteArray)
  ·subst h5
   refine pcO E0_ok (fun _=>[0,2,3,4,5,6,15,20,26,30,35,38,41]) Tryz.func44 (h:=fun KF=>?_)
   unfold E0
   repeat' (first
    |(with_reducible first|refine nx ?_|refine t_seq fun K=>?_|refine t_br (fun hc=>?_) fun hc=>?_|refine t_bx ?_|apply And.intro|intro vr)
    |((with_reducible first|refine ny ?_|refine t_dwh (h:=fun K KL=>?_));intros;simp only [go_sem,geff]))
   all_goals try exact om
   refine end_ret rfl ?_
   simp only [fin,go_sem]
   exact LeA.tup ⟨LeA.full true 1 _,LeA.refl _,LeA.refl _,trivial⟩
  have z5:eqS op (⟨#[109,105,110]⟩:ByteArray)=false:=Bool.eq_false_iff.2 fun e=>h5 (eqS_iff.1 e)
  by_cases h6:op=(⟨#[109,97,120]⟩:ByteArray)
  ·subst h6
   refine pcO E0_ok (fun _=>[0,2,3,4,5,6,15,20,26,30,35,38,41]) Tryz.func44 (h:=fun KF=>?_)
   unfold E0
   repeat' (first
    |(with_reducible first|refine nx ?_|refine t_seq fun K=>?_|refine t_br (fun hc=>?_) fun hc=>?_|refine t_bx ?_|apply And.intro|intro vr)
    |((with_reducible first|refine ny ?_|refine t_dwh (h:=fun K KL=>?_));intros;simp only [go_sem,geff]))
   all_goals try exact om
   refine end_ret rfl ?_
   simp only [fin,go_sem]
   exact LeA.tup ⟨LeA.full true 1 _,LeA.refl _,LeA.refl _,trivial⟩
  have z6:eqS op (⟨#[109,97,120]⟩:ByteArray)=false:=Bool.eq_false_iff.2 fun e=>h6 (eqS_iff.1 e)
  by_cases h7:op=(⟨#[110,101,103]⟩:ByteArray)
  ·subst h7
   refine pcO E0_ok (fun _=>[0,2,3,4,5,6,15,20,26,30,35,38,41]) Tryz.func44 (h:=fun KF=>?_)
   unfold E0
   repeat' (first
    |(with_reducible first|refine nx ?_|refine t_seq fun K=>?_|refine t_br (fun hc=>?_) fun hc=>?_|refine t_bx ?_|apply And.intro|intro vr)
    |((with_reducible first|refine ny ?_|refine t_dwh (h:=fun K KL=>?_));intros;simp only [go_sem,geff]))
   all_goals try exact om
   refine end_ret rfl ?_
   simp only [fin,go_sem]
   exact LeA.tup ⟨LeA.full true 1 _,LeA.refl _,LeA.refl _,trivial⟩
  have z7:eqS op (⟨#[110,101,103]⟩:ByteArray)=false:=Bool.eq_false_iff.2 fun e=>h7 (eqS_iff.1 e)
  by_cases h8:op=(⟨#[97,98,115]⟩:ByteArray)
  ·subst h8
   refine pcO E0_ok (fun _=>[0,2,3,4,5,6,15,20,26,30,35,38,41]) Tryz.func44 (h:=fun KF=>?_)
   unfold E0
   repeat' (first
    |(with_reducible first|refine nx ?_|refine t_seq fun K=>?_|refine t_br (fun hc=>?_) fun hc=>?_|refine t_bx ?_|apply And.intro|intro vr)
    |((with_reducible first|refine ny ?_|refine t_dwh (h:=fun K KL=>?_));intros;simp only [go_sem,geff]))
   all_goals try exact om
   refine end_ret rfl ?_
   simp only [fin,go_sem]
   exact LeA.tup ⟨LeA.full true 1 _,LeA.refl _,LeA.refl _,trivial⟩
  have z8:eqS op (⟨#[97,98,115]⟩:ByteArray)=false:=Bool.eq_false_iff.2 fun e=>h8 (eqS_iff.1 e)
  by_cases h9:op=(⟨#[115,105,103,110]⟩:ByteArray)
  ·subst h9
   refine pcO E0_ok (fun _=>[0,2,3,4,5,6,15,20,26,30,35,38,41]) Tryz.func44 (h:=fun KF=>?_)
   unfold E0
   repeat' (first
    |(with_reducible first|refine nx ?_|refine t_seq fun K=>?_|refine t_br (fun hc=>?_) fun hc=>?_|refine t_bx ?_|apply And.intro|intro vr)
    |((with_reducible first|refine ny ?_|refine t_dwh (h:=fun K KL=>?_));intros;simp only [go_sem,geff]))
   all_goals try exact om
   refine end_ret rfl ?_
   simp only [fin,go_sem]
   exact LeA.tup ⟨LeA.full true 1 _,LeA.refl _,LeA.refl _,trivial⟩
  have z9:eqS op (⟨#[115,105,103,110]⟩:ByteArray)=false:=Bool.eq_false_iff.2 fun e=>h9 (eqS_iff.1 e)
  by_cases h10:op=(⟨#[108,116]⟩:ByteArray)
  ·subst h10
   refine pcO E0_ok (fun _=>[0,2,3,4,5,6,15,20,26,30,35,38,41]) Tryz.func44 (h:=fun KF=>?_)
   unfold E0
   repeat' (first
    |(with_reducible first|refine nx ?_|refine t_seq fun K=>?_|refine t_br (fun hc=>?_) fun hc=>?_|refine t_bx ?_|apply And.intro|intro vr)
    |((with_reducible first|refine ny ?_|refine t_dwh (h:=fun K KL=>?_));intros;simp only [go_sem,geff]))
   all_goals try exact om
   refine end_ret rfl ?_
   simp only [fin,go_sem]
   exact LeA.tup ⟨LeA.full true 1 _,LeA.refl _,LeA.refl _,trivial⟩
  have z10:eqS op (⟨#[108,116]⟩:ByteArray)=false:=Bool.eq_false_iff.2 fun e=>h10 (eqS_iff.1 e)
  by_cases h11:op=(⟨#[108,101]⟩:ByteArray)
  ·subst h11
   refine pcO E0_ok (fun _=>[0,2,3,4,5,6,15,20,26,30,35,38,41]) Tryz.func44 (h:=fun KF=>?_)
   unfold E0
   repeat' (first
    |(with_reducible first|refine nx ?_|refine t_seq fun K=>?_|refine t_br (fun hc=>?_) fun hc=>?_|refine t_bx ?_|apply And.intro|intro vr)
    |((with_reducible first|refine ny ?_|refine t_dwh (h:=fun K KL=>?_));intros;simp only [go_sem,geff]))
   all_goals try exact om
   refine end_ret rfl ?_
   simp only [fin,go_sem]
   exact LeA.tup ⟨LeA.full true 1 _,LeA.refl _,LeA.refl _,trivial⟩
  have z11:eqS op (⟨#[108,101]⟩:ByteArray)=false:=Bool.eq_false_iff.2 fun e=>h11 (eqS_iff.1 e)
  by_cases h12:op=(⟨#[103,116]⟩:ByteArray)
  ·subst h12
   refine pcO E0_ok (fun _=>[0,2,3,4,5,6,15,20,26,30,35,38,41]) Tryz.func44 (h:=fun KF=>?_)
   unfold E0
   repeat' (first
    |(with_reducible first|refine nx ?_|refine t_seq fun K=>?_|refine t_br (fun hc=>?_) fun hc=>?_|refine t_bx ?_|apply And.intro|intro vr)
    |((with_reducible first|refine ny ?_|refine t_dwh (h:=fun K KL=>?_));intros;simp only [go_sem,geff]))
   all_goals try exact om
   refine end_ret rfl ?_
   simp only [fin,go_sem]
   exact LeA.tup ⟨LeA.full true 1 _,LeA.refl _,LeA.refl _,trivial⟩
  have z12:eqS op (⟨#[103,116]⟩:ByteArray)=false:=Bool.eq_false_iff.2 fun e=>h12 (eqS_iff.1 e)
  by_cases h13:op=(⟨#[103,101]⟩:ByteArray)
  ·subst h13
   refine pcO E0_ok (fun _=>[0,2,3,4,5,6,15,20,26,30,35,38,41]) Tryz.func44 (h:=fun KF=>?_)
   unfold E0
   repeat' (first
    |(with_reducible first|refine nx ?_|refine t_seq fun K=>?_|refine t_br (fun hc=>?_) fun hc=>?_|refine t_bx ?_|apply And.intro|intro vr)
    |((with_reducible first|refine ny ?_|refine t_dwh (h:=fun K KL=>?_));intros;simp only [go_sem,geff]))
   all_goals try exact om
   refine end_ret rfl ?_
   simp only [fin,go_sem]
   exact LeA.tup ⟨LeA.full true 1 _,LeA.refl _,LeA.refl _,trivial⟩
  have z13:eqS op (⟨#[103,101]⟩:ByteArray)=false:=Bool.eq_false_iff.2 fun e=>h13 (eqS_iff.1 e)
  by_cases h14:op=(⟨#[101,113]⟩:ByteArray)
  ·subst h14
   refine pcO E0_ok (fun _=>[0,2,3,4,5,6,15,20,26,30,35,38,41]) Tryz.func44 (h:=fun KF=>?_)
   unfold E0
   repeat' (first
    |(with_reducible first|refine nx ?_|refine t_seq fun K=>?_|refine t_br (fun hc=>?_) fun hc=>?_|refine t_bx ?_|apply And.intro|intro vr)
    |((with_reducible first|refine ny ?_|refine t_dwh (h:=fun K KL=>?_));intros;simp only [go_sem,geff]))
   all_goals try exact om
   refine end_ret rfl ?_
   simp only [fin,go_sem]
   exact LeA.tup ⟨LeA.full true 1 _,LeA.refl _,LeA.refl _,trivial⟩
  have z14:eqS op (⟨#[101,113]⟩:ByteArray)=false:=Bool.eq_false_iff.2 fun e=>h14 (eqS_iff.1 e)
  by_cases h15:op=(⟨#[110,101]⟩:ByteArray)
  ·subst h15
   refine pcO E0_ok (fun _=>[0,2,3,4,5,6,15,20,26,30,35,38,41]) Tryz.func44 (h:=fun KF=>?_)
   unfold E0
   repeat' (first
    |(with_reducible first|refine nx ?_|refine t_seq fun K=>?_|refine t_br (fun hc=>?_) fun hc=>?_|refine t_bx ?_|apply And.intro|intro vr)
    |((with_reducible first|refine ny ?_|refine t_dwh (h:=fun K KL=>?_));intros;simp only [go_sem,geff]))
   all_goals try exact om
   refine end_ret rfl ?_
   simp only [fin,go_sem]
   exact LeA.tup ⟨LeA.full true 1 _,LeA.refl _,LeA.refl _,trivial⟩
  have z15:eqS op (⟨#[110,101]⟩:ByteArray)=false:=Bool.eq_false_iff.2 fun e=>h15 (eqS_iff.1 e)
  by_cases h16:op=(⟨#[97,110,100]⟩:ByteArray)
  ·subst h16
   refine pcO E0_ok (fun _=>[0,2,3,4,5,6,15,20,26,30,35,38,41]) Tryz.func44 (h:=fun KF=>?_)
   unfold E0
   repeat' (first
    |(with_reducible first|refine nx ?_|refine t_seq fun K=>?_|refine t_br (fun hc=>?_) fun hc=>?_|refine t_bx ?_|apply And.intro|intro vr)
    |((with_reducible first|refine ny ?_|refine t_dwh (h:=fun K KL=>?_));intros;simp only [go_sem,geff]))
   all_goals try exact om
   refine end_ret rfl ?_
   simp only [fin,go_sem]
   exact LeA.tup ⟨LeA.full true 1 _,LeA.refl _,LeA.refl _,trivial⟩
  have z16:eqS op (⟨#[97,110,100]⟩:ByteArray)=false:=Bool.eq_false_iff.2 fun e=>h16 (eqS_iff.1 e)
  by_cases h17:op=(⟨#[111,114]⟩:ByteArray)
  ·subst h17
   refine pcO E0_ok (fun _=>[0,2,3,4,5,6,15,20,26,30,35,38,41]) Tryz.func44 (h:=fun KF=>?_)
   unfold E0
   repeat' (first
    |(with_reducible first|refine nx ?_|refine t_seq fun K=>?_|refine t_br (fun hc=>?_) fun hc=>?_|refine t_bx ?_|apply And.intro|intro vr)
    |((with_reducible first|refine ny ?_|refine t_dwh (h:=fun K KL=>?_));intros;simp only [go_sem,geff]))
   all_goals try exact om
   refine end_ret rfl ?_
   simp only [fin,go_sem]
   exact LeA.tup ⟨LeA.full true 1 _,LeA.refl _,LeA.refl _,trivial⟩
  have z17:eqS op (⟨#[111,114]⟩:ByteArray)=false:=Bool.eq_false_iff.2 fun e=>h17 (eqS_iff.1 e)
  by_cases h18:op=(⟨#[120,111,114]⟩:ByteArray)
  ·subst h18
   refine pcO E0_ok (fun _=>[0,2,3,4,5,6,15,20,26,30,35,38,41]) Tryz.func44 (h:=fun KF=>?_)
   unfold E0
   repeat' (first
    |(with_reducible first|refine nx ?_|refine t_seq fun K=>?_|refine t_br (fun hc=>?_) fun hc=>?_|refine t_bx ?_|apply And.intro|intro vr)
    |((with_reducible first|refine ny ?_|refine t_dwh (h:=fun K KL=>?_));intros;simp only [go_sem,geff]))
   all_goals try exact om
   refine end_ret rfl ?_
   simp only [fin,go_sem]
   exact LeA.tup ⟨LeA.full true 1 _,LeA.refl _,LeA.refl _,trivial⟩
  have z18:eqS op (⟨#[120,111,114]⟩:ByteArray)=false:=Bool.eq_false_iff.2 fun e=>h18 (eqS_iff.1 e)
  by_cases h19:op=(⟨#[110,111,116]⟩:ByteArray)
  ·subst h19
   refine pcO E0_ok (fun _=>[0,2,3,4,5,6,15,20,26,30,35,38,41]) Tryz.func44 (h:=fun KF=>?_)
   unfold E0
   repeat' (first
    |(with_reducible first|refine nx ?_|refine t_seq fun K=>?_|refine t_br (fun hc=>?_) fun hc=>?_|refine t_bx ?_|apply And.intro|intro vr)
    |((with_reducible first|refine ny ?_|refine t_dwh (h:=fun K KL=>?_));intros;simp only [go_sem,geff]))
   all_goals try exact om
   refine end_ret rfl ?_
   simp only [fin,go_sem]
   exact LeA.tup ⟨LeA.full true 1 _,LeA.refl _,LeA.refl _,trivial⟩
  have z19:eqS op (⟨#[110,111,116]⟩:ByteArray)=false:=Bool.eq_false_iff.2 fun e=>h19 (eqS_iff.1 e)
  by_cases h20:op=(⟨#[115,101,108,101,99,116]⟩:ByteArray)
  ·subst h20
   refine pcO E0_ok (fun _=>[0,2,3,4,5,6,15,20,26,30,35,38,41]) Tryz.func44 (h:=fun KF=>?_)
   unfold E0
   repeat' (first
    |(with_reducible first|refine nx ?_|refine t_seq fun K=>?_|refine t_br (fun hc=>?_) fun hc=>?_|refine t_bx ?_|apply And.intro|intro vr)
    |((with_reducible first|refine ny ?_|refine t_dwh (h:=fun K KL=>?_));intros;simp only [go_sem,geff]))
   all_goals try exact om
   refine end_ret rfl ?_
   simp only [fin,go_sem]
   exact LeA.tup ⟨LeA.full true 1 _,LeA.refl _,LeA.refl _,trivial⟩
  have z20:eqS op (⟨#[115,101,108,101,99,116]⟩:ByteArray)=false:=Bool.eq_false_iff.2 fun e=>h20 (eqS_iff.1 e)
  by_cases h21:op=(⟨#[116,111,105,110,116]⟩:ByteArray)
  ·subst h21
   refine pcO E0_ok (fun _=>[0,2,3,4,5,6,15,20,26,30,35,38,41]) Tryz.func44 (h:=fun KF=>?_)
   unfold E0
   repeat' (first
    |(with_reducible first|refine nx ?_|refine t_seq fun K=>?_|refine t_br (fun hc=>?_) fun hc=>?_|refine t_bx ?_|apply And.intro|intro vr)
    |((with_reducible first|refine ny ?_|refine t_dwh (h:=fun K KL=>?_));intros;simp only [go_sem,geff]))
   all_goals try exact om
   refine end_ret rfl ?_
   simp only [fin,go_sem]
   exact LeA.tup ⟨LeA.full true 1 _,LeA.refl _,LeA.refl _,trivial⟩
  have z21:eqS op (⟨#[116,111,105,110,116]⟩:ByteArray)=false:=Bool.eq_false_iff.2 fun e=>h21 (eqS_iff.1 e)
  have hN:typesS op=none:=by
    unfold typesS
    rw [List.find?_eq_none]
    intro r hr
    rw [eqS_comm]
    have:r=rowsL.getD 0 default∨r=rowsL.getD 1 default∨r=rowsL.getD 2 default∨r=rowsL.getD 3 default∨r=rowsL.getD 4 default∨r=rowsL.getD 5 default∨r=rowsL.getD 6 default∨r=rowsL.getD 7 default∨r=rowsL.getD 8 default∨r=rowsL.getD 9 default∨r=rowsL.getD 10 default∨r=rowsL.getD 11 default∨r=rowsL.getD 12 default∨r=rowsL.getD 13 default∨r=rowsL.getD 14 default∨r=rowsL.getD 15 default∨r=rowsL.getD 16 default∨r=rowsL.getD 17 default∨r=rowsL.getD 18 default∨r=rowsL.getD 19 default∨r=rowsL.getD 20 default∨r=rowsL.getD 21 default:=by
      simp only [rowsL,List.mem_cons,List.mem_nil_iff,or_false] at hr
      exact hr
    rcases this with rfl|rfl|rfl|rfl|rfl|rfl|rfl|rfl|rfl|rfl|rfl|rfl|rfl|rfl|rfl|rfl|rfl|rfl|rfl|rfl|rfl|rfl<;>simp only [Bool.not_eq_true]
    all_goals first|exact z0|exact z1|exact z2|exact z3|exact z4|exact z5|exact z6|exact z7|exact z8|exact z9|exact z10|exact z11|exact z12|exact z13|exact z14|exact z15|exact z16|exact z17|exact z18|exact z19|exact z20|exact z21
  rw [hN]
  refine pcO E0_ok (fun _=>[0,2,3,4,5,6,15,20,26,30,35,38,41]) Tryz.func44 (h:=fun KF=>?_)
  unfold E0
  repeat' (first
   |(with_reducible first|refine nx ?_|refine t_seq fun K=>?_|refine t_br (fun hc=>?_) fun hc=>?_|refine t_bx ?_|apply And.intro|intro vr)
   |((with_reducible first|refine ny ?_|refine t_dwh (h:=fun K KL=>?_));intros;simp only [go_sem,geff,z0,z1,z2,z3,z4,z5,z6,z7,z8,z9,z10,z11,z12,z13,z14,z15,z16,z17,z18,z19,z20,z21]))
  refine end_ret rfl ?_
  simp only [fin,go_sem]
  exact LeA.refl _
end Go.Proofs.YtcpjahmajkhchaaGreat.El

namespace Go.Proofs.YtcpjahmajkhchaaGreat.El
open Go.Proofs.YtcpjahmajkhchaaGreat
open Go Go.Fw
set_option maxRecDepth 20000
theorem vld_int {n:Int}:vld sInt n=true ↔ el n:=by
  unfold vld el
  rw [if_pos (eqS_refl _)]
  simp
theorem vld_bool {n:Int}:vld sBool n=true ↔ n=0∨n=1:=by
  unfold vld
  rw [if_neg (show ¬ eqS sBool sInt=true by decide),if_pos (eqS_refl _)]
  simp
theorem flo_spec {a b:Int} (hb:b≠0):(0<b→0≤a - b*flo a b∧a - b*flo a b<b)∧(b<0→a - b*flo a b≤0∧b<a - b*flo a b):=by
  have e:=Int.mul_tdiv_add_tmod a b
  have p1:0≤a→0≤a.tmod b:=Int.tmod_nonneg b
  have p2:a≤0→a.tmod b≤0:=fun h=>by
    have:=Int.tmod_nonneg b (show 0≤ -a by omega)
    rw [Int.neg_tmod] at this
    omega
  have p3:(a.tmod b).natAbs<b.natAbs:=by
    rw [Int.natAbs_tmod]
    exact Nat.mod_lt _ (by omega)
  unfold flo
  rw [if_neg hb]
  have e2:b*(a.tdiv b - 1)=b*a.tdiv b - b:=by rw [Int.mul_sub,Int.mul_one]
  by_cases h0:a.tmod b=0
  ·rw [if_neg (fun h=>h.1 h0)]
   constructor<;>intro h<;>omega
  ·by_cases h1:decide (a<0)=decide (b<0)
   ·rw [if_neg (fun h=>h.2 h1)]
    have h2:a<0 ↔ b<0:=decide_eq_decide.1 h1
    constructor<;>intro h<;>omega
   ·rw [if_pos ⟨h0,h1⟩,e2]
    have h2: ¬ (a<0 ↔ b<0):=fun h=>h1 (by rw [decide_eq_decide];exact h)
    constructor<;>intro h<;>omega
def vS:Nat→List Int→Int
  |0,[a,b]=>w32 (a+b)
  |1,[a,b]=>w32 (a - b)
  |2,[a,b]=>w32 (a*b)
  |3,[a,b]=>w32 (flo a b)
  |4,[a,b]=>if b=0 then 0 else a - b*flo a b
  |5,[a,b]=>minI a b
  |6,[a,b]=>maxI a b
  |7,[a]=>w32 (0 - a)
  |8,[a]=>w32 (maxI a (0 - a))
  |9,[a]=>sgn a
  |10,[a,b]=>tru (decide (a<b))
  |11,[a,b]=>tru (decide (a≤b))
  |12,[a,b]=>tru (decide (a>b))
  |13,[a,b]=>tru (decide (a≥b))
  |14,[a,b]=>tru (a==b)
  |15,[a,b]=>tru (a !=b)
  |16,[a,b]=>minI a b
  |17,[a,b]=>maxI a b
  |18,[a,b]=>if a=b then 0 else 1
  |19,[a]=>1 - a
  |20,[a,b,c]=>if a=1 then b else c
  |21,[a]=>a
  |_,_=>0
def elT (s:ByteArray):ByteArray:=if eqS s sA=true then sInt else s
def okA (ps:List ByteArray) (xs:List Int):Bool:=(ps.zip xs).all fun p=>vld (elT p.1) p.2
def psN (i:Nat):List ByteArray:=(rowsL.getD i default).ps
def okL (i:Nat) (xs:List Int):Prop:=xs.length=(psN i).length∧okA (psN i) xs=true
def rowIx (op:ByteArray):Option Nat:=(List.range 22).find? fun i=>eqS (rowsL.getD i default).op op
theorem ix_cases (op:ByteArray):(∃ i,i<22∧op=(rowsL.getD i default).op∧rowIx op=some i∧typesS op=some (rowsL.getD i default))∨(rowIx op=none∧typesS op=none):=by
  by_cases h:∃ i,i<22∧op=(rowsL.getD i default).op
  ·left
   obtain ⟨i,hi,rfl⟩:=h
   refine ⟨i,hi,rfl,?_⟩
   have:i=0∨i=1∨i=2∨i=3∨i=4∨i=5∨i=6∨i=7∨i=8∨i=9∨i=10∨i=11∨i=12∨i=13∨i=14∨i=15∨i=16∨i=17∨i=18∨i=19∨i=20∨i=21:=by omega
   rcases this with rfl|rfl|rfl|rfl|rfl|rfl|rfl|rfl|rfl|rfl|rfl|rfl|rfl|rfl|rfl|rfl|rfl|rfl|rfl|rfl|rfl|rfl
   all_goals exact ⟨rfl,rfl⟩
  ·right
   constructor
   ·unfold rowIx
    rw [List.find?_eq_none]
    intro i hi he
    exact h ⟨i,by simpa using hi,(eqS_iff.1 he).symm⟩
   ·unfold typesS
    rw [List.find?_eq_none]
    intro r hr he
    obtain ⟨i,hi,rfl⟩:=List.mem_iff_getElem.1 hr
    rw [rows_len] at hi
    exact h ⟨i,hi,by rw [getD_elem _ _ (by rw [rows_len];exact hi)];exact (eqS_iff.1 he).symm⟩
theorem okL_0 {xs:List Int}:okL 0 xs ↔ ∃ a b,xs=[a,b]∧el a∧el b:=by
  constructor
  ·rintro ⟨h1,h2⟩
   match xs,h1,h2 with
   |[a,b],_,h2=>
    refine ⟨a,b,rfl,?_⟩
    simp only [okA,psN,rowsL,List.getD_cons_zero,List.getD_cons_succ,List.zip_cons_cons,List.zip_nil_right,List.zip_nil_left,List.all_cons,List.all_nil,Bool.and_true,Bool.and_eq_true] at h2
    exact ⟨vld_int.1 h2.1,vld_int.1 h2.2⟩
  ·rintro ⟨a,b,rfl,h0,h1⟩
   refine ⟨rfl,?_⟩
   simp only [okA,psN,rowsL,List.getD_cons_zero,List.getD_cons_succ,List.zip_cons_cons,List.zip_nil_right,List.zip_nil_left,List.all_cons,List.all_nil,Bool.and_true,Bool.and_eq_true]
   exact ⟨vld_int.2 h0,vld_int.2 h1⟩
theorem okL_1 {xs:List Int}:okL 1 xs ↔ ∃ a b,xs=[a,b]∧el a∧el b:=by
  constructor
  ·rintro ⟨h1,h2⟩
   match xs,h1,h2 with
   |[a,b],_,h2=>
    refine ⟨a,b,rfl,?_⟩
    simp only [okA,psN,rowsL,List.getD_cons_zero,List.getD_cons_succ,List.zip_cons_cons,List.zip_nil_right,List.zip_nil_left,List.all_cons,List.all_nil,Bool.and_true,Bool.and_eq_true] at h2
    exact ⟨vld_int.1 h2.1,vld_int.1 h2.2⟩
  ·rintro ⟨a,b,rfl,h0,h1⟩
   refine ⟨rfl,?_⟩
   simp only [okA,psN,rowsL,List.getD_cons_zero,List.getD_cons_succ,List.zip_cons_cons,List.zip_nil_right,List.zip_nil_left,List.all_cons,List.all_nil,Bool.and_true,Bool.and_eq_true]
   exact ⟨vld_int.2 h0,vld_int.2 h1⟩
theorem okL_2 {xs:List Int}:okL 2 xs ↔ ∃ a b,xs=[a,b]∧el a∧el b:=by
  constructor
  ·rintro ⟨h1,h2⟩
   match xs,h1,h2 with
   |[a,b],_,h2=>
    refine ⟨a,b,rfl,?_⟩
    simp only [okA,psN,rowsL,List.getD_cons_zero,List.getD_cons_succ,List.zip_cons_cons,List.zip_nil_right,List.zip_nil_left,List.all_cons,List.all_nil,Bool.and_true,Bool.and_eq_true] at h2
    exact ⟨vld_int.1 h2.1,vld_int.1 h2.2⟩
  ·rintro ⟨a,b,rfl,h0,h1⟩
   refine ⟨rfl,?_⟩
   simp only [okA,psN,rowsL,List.getD_cons_zero,List.getD_cons_succ,List.zip_cons_cons,List.zip_nil_right,List.zip_nil_left,List.all_cons,List.all_nil,Bool.and_true,Bool.and_eq_true]
   exact ⟨vld_int.2 h0,vld_int.2 h1⟩
theorem okL_3 {xs:List Int}:okL 3 xs ↔ ∃ a b,xs=[a,b]∧el a∧el b:=by
  constructor
  ·rintro ⟨h1,h2⟩
   match xs,h1,h2 with
   |[a,b],_,h2=>
    refine ⟨a,b,rfl,?_⟩
    simp only [okA,psN,rowsL,List.getD_cons_zero,List.getD_cons_succ,List.zip_cons_cons,List.zip_nil_right,List.zip_nil_left,List.all_cons,List.all_nil,Bool.and_true,Bool.and_eq_true] at h2
    exact ⟨vld_int.1 h2.1,vld_int.1 h2.2⟩
  ·rintro ⟨a,b,rfl,h0,h1⟩
   refine ⟨rfl,?_⟩
   simp only [okA,psN,rowsL,List.getD_cons_zero,List.getD_cons_succ,List.zip_cons_cons,List.zip_nil_right,List.zip_nil_left,List.all_cons,List.all_nil,Bool.and_true,Bool.and_eq_true]
   exact ⟨vld_int.2 h0,vld_int.2 h1⟩
theorem okL_4 {xs:List Int}:okL 4 xs ↔ ∃ a b,xs=[a,b]∧el a∧el b:=by
  constructor
  ·rintro ⟨h1,h2⟩
   match xs,h1,h2 with
   |[a,b],_,h2=>
    refine ⟨a,b,rfl,?_⟩
    simp only [okA,psN,rowsL,List.getD_cons_zero,List.getD_cons_succ,List.zip_cons_cons,List.zip_nil_right,List.zip_nil_left,List.all_cons,List.all_nil,Bool.and_true,Bool.and_eq_true] at h2
    exact ⟨vld_int.1 h2.1,vld_int.1 h2.2⟩
  ·rintro ⟨a,b,rfl,h0,h1⟩
   refine ⟨rfl,?_⟩
   simp only [okA,psN,rowsL,List.getD_cons_zero,List.getD_cons_succ,List.zip_cons_cons,List.zip_nil_right,List.zip_nil_left,List.all_cons,List.all_nil,Bool.and_true,Bool.and_eq_true]
   exact ⟨vld_int.2 h0,vld_int.2 h1⟩
theorem okL_5 {xs:List Int}:okL 5 xs ↔ ∃ a b,xs=[a,b]∧el a∧el b:=by
  constructor
  ·rintro ⟨h1,h2⟩
   match xs,h1,h2 with
   |[a,b],_,h2=>
    refine ⟨a,b,rfl,?_⟩
    simp only [okA,psN,rowsL,List.getD_cons_zero,List.getD_cons_succ,List.zip_cons_cons,List.zip_nil_right,List.zip_nil_left,List.all_cons,List.all_nil,Bool.and_true,Bool.and_eq_true] at h2
    exact ⟨vld_int.1 h2.1,vld_int.1 h2.2⟩
  ·rintro ⟨a,b,rfl,h0,h1⟩
   refine ⟨rfl,?_⟩
   simp only [okA,psN,rowsL,List.getD_cons_zero,List.getD_cons_succ,List.zip_cons_cons,List.zip_nil_right,List.zip_nil_left,List.all_cons,List.all_nil,Bool.and_true,Bool.and_eq_true]
   exact ⟨vld_int.2 h0,vld_int.2 h1⟩
theorem okL_6 {xs:List Int}:okL 6 xs ↔ ∃ a b,xs=[a,b]∧el a∧el b:=by
  constructor
  ·rintro ⟨h1,h2⟩
   match xs,h1,h2 with
   |[a,b],_,h2=>
    refine ⟨a,b,rfl,?_⟩
    simp only [okA,psN,rowsL,List.getD_cons_zero,List.getD_cons_succ,List.zip_cons_cons,List.zip_nil_right,List.zip_nil_left,List.all_cons,List.all_nil,Bool.and_true,Bool.and_eq_true] at h2
    exact ⟨vld_int.1 h2.1,vld_int.1 h2.2⟩
  ·rintro ⟨a,b,rfl,h0,h1⟩
   refine ⟨rfl,?_⟩
   simp only [okA,psN,rowsL,List.getD_cons_zero,List.getD_cons_succ,List.zip_cons_cons,List.zip_nil_right,List.zip_nil_left,List.all_cons,List.all_nil,Bool.and_true,Bool.and_eq_true]
   exact ⟨vld_int.2 h0,vld_int.2 h1⟩
theorem okL_7 {xs:List Int}:okL 7 xs ↔ ∃ a,xs=[a]∧el a:=by
  constructor
  ·rintro ⟨h1,h2⟩
   match xs,h1,h2 with
   |[a],_,h2=>
    refine ⟨a,rfl,?_⟩
    simp only [okA,psN,rowsL,List.getD_cons_zero,List.getD_cons_succ,List.zip_cons_cons,List.zip_nil_right,List.zip_nil_left,List.all_cons,List.all_nil,Bool.and_true,Bool.and_eq_true] at h2
    exact vld_int.1 h2
  ·rintro ⟨a,rfl,h0⟩
   refine ⟨rfl,?_⟩
   simp only [okA,psN,rowsL,List.getD_cons_zero,List.getD_cons_succ,List.zip_cons_cons,List.zip_nil_right,List.zip_nil_left,List.all_cons,List.all_nil,Bool.and_true,Bool.and_eq_true]
   exact vld_int.2 h0
theorem okL_8 {xs:List Int}:okL 8 xs ↔ ∃ a,xs=[a]∧el a:=by
  constructor
  ·rintro ⟨h1,h2⟩
   match xs,h1,h2 with
   |[a],_,h2=>
    refine ⟨a,rfl,?_⟩
    simp only [okA,psN,rowsL,List.getD_cons_zero,List.getD_cons_succ,List.zip_cons_cons,List.zip_nil_right,List.zip_nil_left,List.all_cons,List.all_nil,Bool.and_true,Bool.and_eq_true] at h2
    exact vld_int.1 h2
  ·rintro ⟨a,rfl,h0⟩
   refine ⟨rfl,?_⟩
   simp only [okA,psN,rowsL,List.getD_cons_zero,List.getD_cons_succ,List.zip_cons_cons,List.zip_nil_right,List.zip_nil_left,List.all_cons,List.all_nil,Bool.and_true,Bool.and_eq_true]
   exact vld_int.2 h0
theorem okL_9 {xs:List Int}:okL 9 xs ↔ ∃ a,xs=[a]∧el a:=by
  constructor
  ·rintro ⟨h1,h2⟩
   match xs,h1,h2 with
   |[a],_,h2=>
    refine ⟨a,rfl,?_⟩
    simp only [okA,psN,rowsL,List.getD_cons_zero,List.getD_cons_succ,List.zip_cons_cons,List.zip_nil_right,List.zip_nil_left,List.all_cons,List.all_nil,Bool.and_true,Bool.and_eq_true] at h2
    exact vld_int.1 h2
  ·rintro ⟨a,rfl,h0⟩
   refine ⟨rfl,?_⟩
   simp only [okA,psN,rowsL,List.getD_cons_zero,List.getD_cons_succ,List.zip_cons_cons,List.zip_nil_right,List.zip_nil_left,List.all_cons,List.all_nil,Bool.and_true,Bool.and_eq_true]
   exact vld_int.2 h0
theorem okL_10 {xs:List Int}:okL 10 xs ↔ ∃ a b,xs=[a,b]∧el a∧el b:=by
  constructor
  ·rintro ⟨h1,h2⟩
   match xs,h1,h2 with
   |[a,b],_,h2=>
    refine ⟨a,b,rfl,?_⟩
    simp only [okA,psN,rowsL,List.getD_cons_zero,List.getD_cons_succ,List.zip_cons_cons,List.zip_nil_right,List.zip_nil_left,List.all_cons,List.all_nil,Bool.and_true,Bool.and_eq_true] at h2
    exact ⟨vld_int.1 h2.1,vld_int.1 h2.2⟩
  ·rintro ⟨a,b,rfl,h0,h1⟩
   refine ⟨rfl,?_⟩
   simp only [okA,psN,rowsL,List.getD_cons_zero,List.getD_cons_succ,List.zip_cons_cons,List.zip_nil_right,List.zip_nil_left,List.all_cons,List.all_nil,Bool.and_true,Bool.and_eq_true]
   exact ⟨vld_int.2 h0,vld_int.2 h1⟩
theorem okL_11 {xs:List Int}:okL 11 xs ↔ ∃ a b,xs=[a,b]∧el a∧el b:=by
  constructor
  ·rintro ⟨h1,h2⟩
   match xs,h1,h2 with
   |[a,b],_,h2=>
    refine ⟨a,b,rfl,?_⟩
    simp only [okA,psN,rowsL,List.getD_cons_zero,List.getD_cons_succ,List.zip_cons_cons,List.zip_nil_right,List.zip_nil_left,List.all_cons,List.all_nil,Bool.and_true,Bool.and_eq_true] at h2
    exact ⟨vld_int.1 h2.1,vld_int.1 h2.2⟩
  ·rintro ⟨a,b,rfl,h0,h1⟩
   refine ⟨rfl,?_⟩
   simp only [okA,psN,rowsL,List.getD_cons_zero,List.getD_cons_succ,List.zip_cons_cons,List.zip_nil_right,List.zip_nil_left,List.all_cons,List.all_nil,Bool.and_true,Bool.and_eq_true]
   exact ⟨vld_int.2 h0,vld_int.2 h1⟩
theorem okL_12 {xs:List Int}:okL 12 xs ↔ ∃ a b,xs=[a,b]∧el a∧el b:=by
  constructor
  ·rintro ⟨h1,h2⟩
   match xs,h1,h2 with
   |[a,b],_,h2=>
    refine ⟨a,b,rfl,?_⟩
    simp only [okA,psN,rowsL,List.getD_cons_zero,List.getD_cons_succ,List.zip_cons_cons,List.zip_nil_right,List.zip_nil_left,List.all_cons,List.all_nil,Bool.and_true,Bool.and_eq_true] at h2
    exact ⟨vld_int.1 h2.1,vld_int.1 h2.2⟩
  ·rintro ⟨a,b,rfl,h0,h1⟩
   refine ⟨rfl,?_⟩
   simp only [okA,psN,rowsL,List.getD_cons_zero,List.getD_cons_succ,List.zip_cons_cons,List.zip_nil_right,List.zip_nil_left,List.all_cons,List.all_nil,Bool.and_true,Bool.and_eq_true]
   exact ⟨vld_int.2 h0,vld_int.2 h1⟩
theorem okL_13 {xs:List Int}:okL 13 xs ↔ ∃ a b,xs=[a,b]∧el a∧el b:=by
  constructor
  ·rintro ⟨h1,h2⟩
   match xs,h1,h2 with
   |[a,b],_,h2=>
    refine ⟨a,b,rfl,?_⟩
    simp only [okA,psN,rowsL,List.getD_cons_zero,List.getD_cons_succ,List.zip_cons_cons,List.zip_nil_right,List.zip_nil_left,List.all_cons,List.all_nil,Bool.and_true,Bool.and_eq_true] at h2
    exact ⟨vld_int.1 h2.1,vld_int.1 h2.2⟩
  ·rintro ⟨a,b,rfl,h0,h1⟩
   refine ⟨rfl,?_⟩
   simp only [okA,psN,rowsL,List.getD_cons_zero,List.getD_cons_succ,List.zip_cons_cons,List.zip_nil_right,List.zip_nil_left,List.all_cons,List.all_nil,Bool.and_true,Bool.and_eq_true]
   exact ⟨vld_int.2 h0,vld_int.2 h1⟩
theorem okL_14 {xs:List Int}:okL 14 xs ↔ ∃ a b,xs=[a,b]∧el a∧el b:=by
  constructor
  ·rintro ⟨h1,h2⟩
   match xs,h1,h2 with
   |[a,b],_,h2=>
    refine ⟨a,b,rfl,?_⟩
    simp only [okA,psN,rowsL,List.getD_cons_zero,List.getD_cons_succ,List.zip_cons_cons,List.zip_nil_right,List.zip_nil_left,List.all_cons,List.all_nil,Bool.and_true,Bool.and_eq_true] at h2
    exact ⟨vld_int.1 h2.1,vld_int.1 h2.2⟩
  ·rintro ⟨a,b,rfl,h0,h1⟩
   refine ⟨rfl,?_⟩
   simp only [okA,psN,rowsL,List.getD_cons_zero,List.getD_cons_succ,List.zip_cons_cons,List.zip_nil_right,List.zip_nil_left,List.all_cons,List.all_nil,Bool.and_true,Bool.and_eq_true]
   exact ⟨vld_int.2 h0,vld_int.2 h1⟩
theorem okL_15 {xs:List Int}:okL 15 xs ↔ ∃ a b,xs=[a,b]∧el a∧el b:=by
  constructor
  ·rintro ⟨h1,h2⟩
   match xs,h1,h2 with
   |[a,b],_,h2=>
    refine ⟨a,b,rfl,?_⟩
    simp only [okA,psN,rowsL,List.getD_cons_zero,List.getD_cons_succ,List.zip_cons_cons,List.zip_nil_right,List.zip_nil_left,List.all_cons,List.all_nil,Bool.and_true,Bool.and_eq_true] at h2
    exact ⟨vld_int.1 h2.1,vld_int.1 h2.2⟩
  ·rintro ⟨a,b,rfl,h0,h1⟩
   refine ⟨rfl,?_⟩
   simp only [okA,psN,rowsL,List.getD_cons_zero,List.getD_cons_succ,List.zip_cons_cons,List.zip_nil_right,List.zip_nil_left,List.all_cons,List.all_nil,Bool.and_true,Bool.and_eq_true]
   exact ⟨vld_int.2 h0,vld_int.2 h1⟩
theorem okL_16 {xs:List Int}:okL 16 xs ↔ ∃ a b,xs=[a,b]∧(a=0∨a=1)∧(b=0∨b=1):=by
  constructor
  ·rintro ⟨h1,h2⟩
   match xs,h1,h2 with
   |[a,b],_,h2=>
    refine ⟨a,b,rfl,?_⟩
    simp only [okA,psN,rowsL,List.getD_cons_zero,List.getD_cons_succ,List.zip_cons_cons,List.zip_nil_right,List.zip_nil_left,List.all_cons,List.all_nil,Bool.and_true,Bool.and_eq_true] at h2
    exact ⟨vld_bool.1 h2.1,vld_bool.1 h2.2⟩
  ·rintro ⟨a,b,rfl,h0,h1⟩
   refine ⟨rfl,?_⟩
   simp only [okA,psN,rowsL,List.getD_cons_zero,List.getD_cons_succ,List.zip_cons_cons,List.zip_nil_right,List.zip_nil_left,List.all_cons,List.all_nil,Bool.and_true,Bool.and_eq_true]
   exact ⟨vld_bool.2 h0,vld_bool.2 h1⟩
theorem okL_17 {xs:List Int}:okL 17 xs ↔ ∃ a b,xs=[a,b]∧(a=0∨a=1)∧(b=0∨b=1):=by
  constructor
  ·rintro ⟨h1,h2⟩
   match xs,h1,h2 with
   |[a,b],_,h2=>
    refine ⟨a,b,rfl,?_⟩
    simp only [okA,psN,rowsL,List.getD_cons_zero,List.getD_cons_succ,List.zip_cons_cons,List.zip_nil_right,List.zip_nil_left,List.all_cons,List.all_nil,Bool.and_true,Bool.and_eq_true] at h2
    exact ⟨vld_bool.1 h2.1,vld_bool.1 h2.2⟩
  ·rintro ⟨a,b,rfl,h0,h1⟩
   refine ⟨rfl,?_⟩
   simp only [okA,psN,rowsL,List.getD_cons_zero,List.getD_cons_succ,List.zip_cons_cons,List.zip_nil_right,List.zip_nil_left,List.all_cons,List.all_nil,Bool.and_true,Bool.and_eq_true]
   exact ⟨vld_bool.2 h0,vld_bool.2 h1⟩
theorem okL_18 {xs:List Int}:okL 18 xs ↔ ∃ a b,xs=[a,b]∧(a=0∨a=1)∧(b=0∨b=1):=by
  constructor
  ·rintro ⟨h1,h2⟩
   match xs,h1,h2 with
   |[a,b],_,h2=>
    refine ⟨a,b,rfl,?_⟩
    simp only [okA,psN,rowsL,List.getD_cons_zero,List.getD_cons_succ,List.zip_cons_cons,List.zip_nil_right,List.zip_nil_left,List.all_cons,List.all_nil,Bool.and_true,Bool.and_eq_true] at h2
    exact ⟨vld_bool.1 h2.1,vld_bool.1 h2.2⟩
  ·rintro ⟨a,b,rfl,h0,h1⟩
   refine ⟨rfl,?_⟩
   simp only [okA,psN,rowsL,List.getD_cons_zero,List.getD_cons_succ,List.zip_cons_cons,List.zip_nil_right,List.zip_nil_left,List.all_cons,List.all_nil,Bool.and_true,Bool.and_eq_true]
   exact ⟨vld_bool.2 h0,vld_bool.2 h1⟩
theorem okL_19 {xs:List Int}:okL 19 xs ↔ ∃ a,xs=[a]∧(a=0∨a=1):=by
  constructor
  ·rintro ⟨h1,h2⟩
   match xs,h1,h2 with
   |[a],_,h2=>
    refine ⟨a,rfl,?_⟩
    simp only [okA,psN,rowsL,List.getD_cons_zero,List.getD_cons_succ,List.zip_cons_cons,List.zip_nil_right,List.zip_nil_left,List.all_cons,List.all_nil,Bool.and_true,Bool.and_eq_true] at h2
    exact vld_bool.1 h2
  ·rintro ⟨a,rfl,h0⟩
   refine ⟨rfl,?_⟩
   simp only [okA,psN,rowsL,List.getD_cons_zero,List.getD_cons_succ,List.zip_cons_cons,List.zip_nil_right,List.zip_nil_left,List.all_cons,List.all_nil,Bool.and_true,Bool.and_eq_true]
   exact vld_bool.2 h0
theorem okL_20 {xs:List Int}:okL 20 xs ↔ ∃ a b c,xs=[a,b,c]∧(a=0∨a=1)∧el b∧el c:=by
  constructor
  ·rintro ⟨h1,h2⟩
   match xs,h1,h2 with
   |[a,b,c],_,h2=>
    refine ⟨a,b,c,rfl,?_⟩
    simp only [okA,psN,rowsL,List.getD_cons_zero,List.getD_cons_succ,List.zip_cons_cons,List.zip_nil_right,List.zip_nil_left,List.all_cons,List.all_nil,Bool.and_true,Bool.and_eq_true] at h2
    exact ⟨vld_bool.1 h2.1,vld_int.1 h2.2.1,vld_int.1 h2.2.2⟩
  ·rintro ⟨a,b,c,rfl,h0,h1,h2⟩
   refine ⟨rfl,?_⟩
   simp only [okA,psN,rowsL,List.getD_cons_zero,List.getD_cons_succ,List.zip_cons_cons,List.zip_nil_right,List.zip_nil_left,List.all_cons,List.all_nil,Bool.and_true,Bool.and_eq_true]
   exact ⟨vld_bool.2 h0,vld_int.2 h1,vld_int.2 h2⟩
theorem okL_21 {xs:List Int}:okL 21 xs ↔ ∃ a,xs=[a]∧(a=0∨a=1):=by
  constructor
  ·rintro ⟨h1,h2⟩
   match xs,h1,h2 with
   |[a],_,h2=>
    refine ⟨a,rfl,?_⟩
    simp only [okA,psN,rowsL,List.getD_cons_zero,List.getD_cons_succ,List.zip_cons_cons,List.zip_nil_right,List.zip_nil_left,List.all_cons,List.all_nil,Bool.and_true,Bool.and_eq_true] at h2
    exact vld_bool.1 h2
  ·rintro ⟨a,rfl,h0⟩
   refine ⟨rfl,?_⟩
   simp only [okA,psN,rowsL,List.getD_cons_zero,List.getD_cons_succ,List.zip_cons_cons,List.zip_nil_right,List.zip_nil_left,List.all_cons,List.all_nil,Bool.and_true,Bool.and_eq_true]
   exact vld_bool.2 h0
noncomputable def E4:Env:=envOf (P:=Tryz.prog) zer (fun _=>false) (fun _=>false) [con114] []
theorem E4_ok:EnvOk Tryz.prog E4:=envOk zer_ok
theorem compare_10 {a b:Int}:PC Tryz.prog 91 [.lit (.string (⟨#[108,116]⟩:ByteArray)),.lit (.int .i64 a),.lit (.int .i64 b)] (.lit (.int .i64 (tru (decide (a<b))))):=by
  refine pcO E4_ok (fun _=>[0,1,2,6,7,8,14,20,26,32]) Tryz.func91 (h:=fun KF=>?_)
  unfold E4
  repeat' (first
   |(with_reducible first|refine nx ?_|refine t_seq fun K=>?_|refine t_br (fun hc=>?_) fun hc=>?_|refine t_bx ?_|apply And.intro|intro vr)
   |((with_reducible first|refine ny ?_|refine t_dwh (h:=fun K KL=>?_));intros;simp only [go_sem,geff,con114_f,con114_c]))
  refine end_ret rfl ?_
  simp only [fin,go_sem]
  exact LeA.refl _
theorem compare_11 {a b:Int}:PC Tryz.prog 91 [.lit (.string (⟨#[108,101]⟩:ByteArray)),.lit (.int .i64 a),.lit (.int .i64 b)] (.lit (.int .i64 (tru (decide (a≤b))))):=by
  refine pcO E4_ok (fun _=>[0,1,2,6,7,8,14,20,26,32]) Tryz.func91 (h:=fun KF=>?_)
  unfold E4
  repeat' (first
   |(with_reducible first|refine nx ?_|refine t_seq fun K=>?_|refine t_br (fun hc=>?_) fun hc=>?_|refine t_bx ?_|apply And.intro|intro vr)
   |((with_reducible first|refine ny ?_|refine t_dwh (h:=fun K KL=>?_));intros;simp only [go_sem,geff,con114_f,con114_c]))
  refine end_ret rfl ?_
  simp only [fin,go_sem]
  exact LeA.refl _
theorem compare_12 {a b:Int}:PC Tryz.prog 91 [.lit (.string (⟨#[103,116]⟩:ByteArray)),.lit (.int .i64 a),.lit (.int .i64 b)] (.lit (.int .i64 (tru (decide (a>b))))):=by
  refine pcO E4_ok (fun _=>[0,1,2,6,7,8,14,20,26,32]) Tryz.func91 (h:=fun KF=>?_)
  unfold E4
  repeat' (first
   |(with_reducible first|refine nx ?_|refine t_seq fun K=>?_|refine t_br (fun hc=>?_) fun hc=>?_|refine t_bx ?_|apply And.intro|intro vr)
   |((with_reducible first|refine ny ?_|refine t_dwh (h:=fun K KL=>?_));intros;simp only [go_sem,geff,con114_f,con114_c]))
  refine end_ret rfl ?_
  simp only [fin,go_sem]
  exact LeA.refl _
theorem compare_13 {a b:Int}:PC Tryz.prog 91 [.lit (.string (⟨#[103,101]⟩:ByteArray)),.lit (.int .i64 a),.lit (.int .i64 b)] (.lit (.int .i64 (tru (decide (a≥b))))):=by
  refine pcO E4_ok (fun _=>[0,1,2,6,7,8,14,20,26,32]) Tryz.func91 (h:=fun KF=>?_)
  unfold E4
  repeat' (first
   |(with_reducible first|refine nx ?_|refine t_seq fun K=>?_|refine t_br (fun hc=>?_) fun hc=>?_|refine t_bx ?_|apply And.intro|intro vr)
   |((with_reducible first|refine ny ?_|refine t_dwh (h:=fun K KL=>?_));intros;simp only [go_sem,geff,con114_f,con114_c]))
  refine end_ret rfl ?_
  simp only [fin,go_sem]
  exact LeA.refl _
theorem compare_14 {a b:Int}:PC Tryz.prog 91 [.lit (.string (⟨#[101,113]⟩:ByteArray)),.lit (.int .i64 a),.lit (.int .i64 b)] (.lit (.int .i64 (tru (a==b)))):=by
  refine pcO E4_ok (fun _=>[0,1,2,6,7,8,14,20,26,32]) Tryz.func91 (h:=fun KF=>?_)
  unfold E4
  repeat' (first
   |(with_reducible first|refine nx ?_|refine t_seq fun K=>?_|refine t_br (fun hc=>?_) fun hc=>?_|refine t_bx ?_|apply And.intro|intro vr)
   |((with_reducible first|refine ny ?_|refine t_dwh (h:=fun K KL=>?_));intros;simp only [go_sem,geff,con114_f,con114_c]))
  refine end_ret rfl ?_
  simp only [fin,go_sem]
  exact LeA.refl _
theorem compare_15 {a b:Int}:PC Tryz.prog 91 [.lit (.string (⟨#[110,101]⟩:ByteArray)),.lit (.int .i64 a),.lit (.int .i64 b)] (.lit (.int .i64 (tru (a !=b)))):=by
  refine pcO E4_ok (fun _=>[0,1,2,6,7,8,14,20,26,32]) Tryz.func91 (h:=fun KF=>?_)
  unfold E4
  repeat' (first
   |(with_reducible first|refine nx ?_|refine t_seq fun K=>?_|refine t_br (fun hc=>?_) fun hc=>?_|refine t_bx ?_|apply And.intro|intro vr)
   |((with_reducible first|refine ny ?_|refine t_dwh (h:=fun K KL=>?_));intros;simp only [go_sem,geff,con114_f,con114_c]))
  refine end_ret rfl ?_
  simp only [fin,go_sem]
  exact LeA.refl _
noncomputable def con91:PCon Tryz.prog where
  f:=91
  c:=fun
   |[.lit (.string op),.lit (.int .i64 a),.lit (.int .i64 b)]=>match rowIx op with
    |some 10=>some (True,.lit (.int .i64 (tru (decide (a<b)))))
    |some 11=>some (True,.lit (.int .i64 (tru (decide (a≤b)))))
    |some 12=>some (True,.lit (.int .i64 (tru (decide (a>b)))))
    |some 13=>some (True,.lit (.int .i64 (tru (decide (a≥b)))))
    |some 14=>some (True,.lit (.int .i64 (tru (a==b))))
    |some 15=>some (True,.lit (.int .i64 (tru (a !=b))))
    |_=>none
   |_=>none
  ok:=by
   intro args p r hc hp
   split at hc
   ·rename_i op a b
    rcases ix_cases op with ⟨i,hi,he,hx,_⟩|⟨hx,_⟩
    ·rw [hx] at hc
     split at hc
     ·rename_i e;cases e;cases hc;subst he;exact compare_10
     ·rename_i e;cases e;cases hc;subst he;exact compare_11
     ·rename_i e;cases e;cases hc;subst he;exact compare_12
     ·rename_i e;cases e;cases hc;subst he;exact compare_13
     ·rename_i e;cases e;cases hc;subst he;exact compare_14
     ·rename_i e;cases e;cases hc;subst he;exact compare_15
     ·cases hc
    ·rw [hx] at hc;cases hc
   ·cases hc
  fk:=fk91
theorem con91_f:con91.f=91:=rfl
theorem con91_10 {a b:Int}:con91.c [.lit (.string (⟨#[108,116]⟩:ByteArray)),.lit (.int .i64 a),.lit (.int .i64 b)]=some (True,.lit (.int .i64 (tru (decide (a<b))))):=rfl
theorem con91_11 {a b:Int}:con91.c [.lit (.string (⟨#[108,101]⟩:ByteArray)),.lit (.int .i64 a),.lit (.int .i64 b)]=some (True,.lit (.int .i64 (tru (decide (a≤b))))):=rfl
theorem con91_12 {a b:Int}:con91.c [.lit (.string (⟨#[103,116]⟩:ByteArray)),.lit (.int .i64 a),.lit (.int .i64 b)]=some (True,.lit (.int .i64 (tru (decide (a>b))))):=rfl
theorem con91_13 {a b:Int}:con91.c [.lit (.string (⟨#[103,101]⟩:ByteArray)),.lit (.int .i64 a),.lit (.int .i64 b)]=some (True,.lit (.int .i64 (tru (decide (a≥b))))):=rfl
theorem con91_14 {a b:Int}:con91.c [.lit (.string (⟨#[101,113]⟩:ByteArray)),.lit (.int .i64 a),.lit (.int .i64 b)]=some (True,.lit (.int .i64 (tru (a==b)))):=rfl
theorem con91_15 {a b:Int}:con91.c [.lit (.string (⟨#[110,101]⟩:ByteArray)),.lit (.int .i64 a),.lit (.int .i64 b)]=some (True,.lit (.int .i64 (tru (a !=b)))):=rfl
theorem flo_bd {a b:Int} (ha:el a): -2147483649≤flo a b∧flo a b≤2147483648:=by
  unfold flo
  split
  ·omega
  ·rename_i hb
   have:=tdiv_bd ha hb
   split<;>omega
theorem mul_bd {a b:Int} (ha:el a) (hb:el b): -4611686018427387904≤a*b∧a*b≤4611686018427387904:=by
  unfold el at*
  have h:(a*b).natAbs≤2147483648*2147483648:=by
    rw [Int.natAbs_mul]
    exact Nat.mul_le_mul (by omega) (by omega)
  omega
theorem bflo_bd {a b:Int} (ha:el a) (hb:el b) (h:b≠0): -4294967296≤b*flo a b∧b*flo a b≤4294967296:=by
  have:=flo_spec (a:=a) h
  unfold el at*
  omega
theorem max_el {a b:Int} (ha:el a):a≤maxI a b∧maxI a b≤max a b:=by
  unfold maxI
  split<;>omega
end Go.Proofs.YtcpjahmajkhchaaGreat.El

namespace Go.Proofs.YtcpjahmajkhchaaGreat.El
open Go.Proofs.YtcpjahmajkhchaaGreat
open Go Go.Fw
set_option maxRecDepth 20000
noncomputable def E5:Env:=envOf (P:=Tryz.prog) zer (fun _=>false) (fun _=>false) [con88,con89,con90,con91] []
theorem E5_ok:EnvOk Tryz.prog E5:=envOk zer_ok
set_option maxHeartbeats 1000000 in
theorem v26_0 {a b:Int} (h0:el a) (h1:el b):PC Tryz.prog 68 [.lit (.string (⟨#[97,100,100]⟩:ByteArray)),.sl false 1 [.lit (.int .i64 a),.lit (.int .i64 b)]] (.lit (.int .i64 (vS 0 [a,b]))):=by
  unfold el at h0 h1
  refine pcO E5_ok (fun _=>[0,1,4,5,6,16,26,36,46,51,67,77,87,94,105,111,120,126,135]) Tryz.func68 (h:=fun KF=>?_)
  unfold E5
  repeat' (first
   |(with_reducible first|refine nx ?_|refine t_seq fun K=>?_|refine t_br (fun hc=>?_) fun hc=>?_|refine t_bx ?_|apply And.intro|intro vr)
   |((with_reducible first|refine ny ?_|refine t_dwh (h:=fun K KL=>?_));intros;simp only [go_sem,geff,con88_f,con89_f,con90_f,con91_f,con88_c,con89_c,con90_c,con91_10,con91_11,con91_12,con91_13,con91_14,con91_15]))
  all_goals try exact om
  refine end_ret rfl ?_
  simp only [fin,go_sem,vS]
  exact LeA.refl _
set_option maxHeartbeats 1000000 in
theorem v26_1 {a b:Int} (h0:el a) (h1:el b):PC Tryz.prog 68 [.lit (.string (⟨#[115,117,98]⟩:ByteArray)),.sl false 1 [.lit (.int .i64 a),.lit (.int .i64 b)]] (.lit (.int .i64 (vS 1 [a,b]))):=by
  unfold el at h0 h1
  refine pcO E5_ok (fun _=>[0,1,4,5,6,16,26,36,46,51,67,77,87,94,105,111,120,126,135]) Tryz.func68 (h:=fun KF=>?_)
  unfold E5
  repeat' (first
   |(with_reducible first|refine nx ?_|refine t_seq fun K=>?_|refine t_br (fun hc=>?_) fun hc=>?_|refine t_bx ?_|apply And.intro|intro vr)
   |((with_reducible first|refine ny ?_|refine t_dwh (h:=fun K KL=>?_));intros;simp only [go_sem,geff,con88_f,con89_f,con90_f,con91_f,con88_c,con89_c,con90_c,con91_10,con91_11,con91_12,con91_13,con91_14,con91_15]))
  all_goals try exact om
  refine end_ret rfl ?_
  simp only [fin,go_sem,vS]
  exact LeA.refl _
set_option maxHeartbeats 1000000 in
theorem v26_2 {a b:Int} (h0:el a) (h1:el b):PC Tryz.prog 68 [.lit (.string (⟨#[109,117,108]⟩:ByteArray)),.sl false 1 [.lit (.int .i64 a),.lit (.int .i64 b)]] (.lit (.int .i64 (vS 2 [a,b]))):=by
  have hm:=mul_bd h0 h1
  refine pcO E5_ok (fun _=>[0,1,4,5,6,16,26,36,46,51,67,77,87,94,105,111,120,126,135]) Tryz.func68 (h:=fun KF=>?_)
  unfold E5
  repeat' (first
   |(with_reducible first|refine nx ?_|refine t_seq fun K=>?_|refine t_br (fun hc=>?_) fun hc=>?_|refine t_bx ?_|apply And.intro|intro vr)
   |((with_reducible first|refine ny ?_|refine t_dwh (h:=fun K KL=>?_));intros;simp only [go_sem,geff,con88_f,con89_f,con90_f,con91_f,con88_c,con89_c,con90_c,con91_10,con91_11,con91_12,con91_13,con91_14,con91_15]))
  all_goals try exact om
  refine end_ret rfl ?_
  simp only [fin,go_sem,vS]
  exact LeA.refl _
set_option maxHeartbeats 1000000 in
theorem v26_3 {a b:Int} (h0:el a) (h1:el b):PC Tryz.prog 68 [.lit (.string (⟨#[100,105,118]⟩:ByteArray)),.sl false 1 [.lit (.int .i64 a),.lit (.int .i64 b)]] (.lit (.int .i64 (vS 3 [a,b]))):=by
  refine pcO E5_ok (fun _=>[0,1,4,5,6,16,26,36,46,51,67,77,87,94,105,111,120,126,135]) Tryz.func68 (h:=fun KF=>?_)
  unfold E5
  repeat' (first
   |(with_reducible first|refine nx ?_|refine t_seq fun K=>?_|refine t_br (fun hc=>?_) fun hc=>?_|refine t_bx ?_|apply And.intro|intro vr)
   |((with_reducible first|refine ny ?_|refine t_dwh (h:=fun K KL=>?_));intros;simp only [go_sem,geff,con88_f,con89_f,con90_f,con91_f,con88_c,con89_c,con90_c,con91_10,con91_11,con91_12,con91_13,con91_14,con91_15,eq_true h0]))
  all_goals try exact om
  refine end_ret rfl ?_
  simp only [fin,go_sem,vS]
  exact LeA.refl _
set_option maxHeartbeats 1000000 in
theorem v26_4 {a b:Int} (h0:el a) (h1:el b):PC Tryz.prog 68 [.lit (.string (⟨#[109,111,100]⟩:ByteArray)),.sl false 1 [.lit (.int .i64 a),.lit (.int .i64 b)]] (.lit (.int .i64 (vS 4 [a,b]))):=by
  simp only [vS]
  by_cases hb:b=0
  ·have g1:(b==0)=true:=by rw [beq_iff_eq];exact hb
   rw [if_pos hb]
   refine pcO E5_ok (fun _=>[0,1,4,5,6,16,26,36,46,51,67,77,87,94,105,111,120,126,135]) Tryz.func68 (h:=fun KF=>?_)
   unfold E5
   repeat' (first
    |(with_reducible first|refine nx ?_|refine t_seq fun K=>?_|refine t_br (fun hc=>?_) fun hc=>?_|refine t_bx ?_|apply And.intro|intro vr)
    |((with_reducible first|refine ny ?_|refine t_dwh (h:=fun K KL=>?_));intros;simp only [go_sem,geff,con88_f,con89_f,con90_f,con91_f,con88_c,con89_c,con90_c,con91_10,con91_11,con91_12,con91_13,con91_14,con91_15,g1]))
   all_goals try exact om
   refine end_ret rfl ?_
   simp only [fin,go_sem,vS]
   exact LeA.refl _
  ·have g1:(b==0)=false:=by rw [beq_eq_false_iff_ne];exact hb
   rw [if_neg hb]
   have hm:=bflo_bd h0 h1 hb
   have hl:=flo_bd (b:=b) h0
   have h0':=h0
   have h1':=h1
   unfold el at h0' h1'
   refine pcO E5_ok (fun _=>[0,1,4,5,6,16,26,36,46,51,67,77,87,94,105,111,120,126,135]) Tryz.func68 (h:=fun KF=>?_)
   unfold E5
   repeat' (first
    |(with_reducible first|refine nx ?_|refine t_seq fun K=>?_|refine t_br (fun hc=>?_) fun hc=>?_|refine t_bx ?_|apply And.intro|intro vr)
    |((with_reducible first|refine ny ?_|refine t_dwh (h:=fun K KL=>?_));intros;simp only [go_sem,geff,con88_f,con89_f,con90_f,con91_f,con88_c,con89_c,con90_c,con91_10,con91_11,con91_12,con91_13,con91_14,con91_15,g1,eq_true h0]))
   all_goals try exact om
   refine end_ret rfl ?_
   simp only [fin,go_sem,vS]
   exact LeA.refl _
set_option maxHeartbeats 1000000 in
theorem v26_5 {a b:Int} (h0:el a) (h1:el b):PC Tryz.prog 68 [.lit (.string (⟨#[109,105,110]⟩:ByteArray)),.sl false 1 [.lit (.int .i64 a),.lit (.int .i64 b)]] (.lit (.int .i64 (vS 5 [a,b]))):=by
  refine pcO E5_ok (fun _=>[0,1,4,5,6,16,26,36,46,51,67,77,87,94,105,111,120,126,135]) Tryz.func68 (h:=fun KF=>?_)
  unfold E5
  repeat' (first
   |(with_reducible first|refine nx ?_|refine t_seq fun K=>?_|refine t_br (fun hc=>?_) fun hc=>?_|refine t_bx ?_|apply And.intro|intro vr)
   |((with_reducible first|refine ny ?_|refine t_dwh (h:=fun K KL=>?_));intros;simp only [go_sem,geff,con88_f,con89_f,con90_f,con91_f,con88_c,con89_c,con90_c,con91_10,con91_11,con91_12,con91_13,con91_14,con91_15]))
  all_goals try exact om
  refine end_ret rfl ?_
  simp only [fin,go_sem,vS]
  exact LeA.refl _
set_option maxHeartbeats 1000000 in
theorem v26_6 {a b:Int} (h0:el a) (h1:el b):PC Tryz.prog 68 [.lit (.string (⟨#[109,97,120]⟩:ByteArray)),.sl false 1 [.lit (.int .i64 a),.lit (.int .i64 b)]] (.lit (.int .i64 (vS 6 [a,b]))):=by
  refine pcO E5_ok (fun _=>[0,1,4,5,6,16,26,36,46,51,67,77,87,94,105,111,120,126,135]) Tryz.func68 (h:=fun KF=>?_)
  unfold E5
  repeat' (first
   |(with_reducible first|refine nx ?_|refine t_seq fun K=>?_|refine t_br (fun hc=>?_) fun hc=>?_|refine t_bx ?_|apply And.intro|intro vr)
   |((with_reducible first|refine ny ?_|refine t_dwh (h:=fun K KL=>?_));intros;simp only [go_sem,geff,con88_f,con89_f,con90_f,con91_f,con88_c,con89_c,con90_c,con91_10,con91_11,con91_12,con91_13,con91_14,con91_15]))
  all_goals try exact om
  refine end_ret rfl ?_
  simp only [fin,go_sem,vS]
  exact LeA.refl _
set_option maxHeartbeats 1000000 in
theorem v26_7 {a:Int} (h0:el a):PC Tryz.prog 68 [.lit (.string (⟨#[110,101,103]⟩:ByteArray)),.sl false 1 [.lit (.int .i64 a)]] (.lit (.int .i64 (vS 7 [a]))):=by
  unfold el at h0
  refine pcO E5_ok (fun _=>[0,1,4,5,6,16,26,36,46,51,67,77,87,94,105,111,120,126,135]) Tryz.func68 (h:=fun KF=>?_)
  unfold E5
  repeat' (first
   |(with_reducible first|refine nx ?_|refine t_seq fun K=>?_|refine t_br (fun hc=>?_) fun hc=>?_|refine t_bx ?_|apply And.intro|intro vr)
   |((with_reducible first|refine ny ?_|refine t_dwh (h:=fun K KL=>?_));intros;simp only [go_sem,geff,con88_f,con89_f,con90_f,con91_f,con88_c,con89_c,con90_c,con91_10,con91_11,con91_12,con91_13,con91_14,con91_15]))
  all_goals try exact om
  refine end_ret rfl ?_
  simp only [fin,go_sem,vS]
  exact LeA.refl _
set_option maxHeartbeats 1000000 in
theorem v26_8 {a:Int} (h0:el a):PC Tryz.prog 68 [.lit (.string (⟨#[97,98,115]⟩:ByteArray)),.sl false 1 [.lit (.int .i64 a)]] (.lit (.int .i64 (vS 8 [a]))):=by
  unfold el at h0
  have hm:=max_el (b:=0 - a) h0
  refine pcO E5_ok (fun _=>[0,1,4,5,6,16,26,36,46,51,67,77,87,94,105,111,120,126,135]) Tryz.func68 (h:=fun KF=>?_)
  unfold E5
  repeat' (first
   |(with_reducible first|refine nx ?_|refine t_seq fun K=>?_|refine t_br (fun hc=>?_) fun hc=>?_|refine t_bx ?_|apply And.intro|intro vr)
   |((with_reducible first|refine ny ?_|refine t_dwh (h:=fun K KL=>?_));intros;simp only [go_sem,geff,con88_f,con89_f,con90_f,con91_f,con88_c,con89_c,con90_c,con91_10,con91_11,con91_12,con91_13,con91_14,con91_15]))
  all_goals try exact om
  refine end_ret rfl ?_
  simp only [fin,go_sem,vS]
  exact LeA.refl _
set_option maxHeartbeats 1000000 in
theorem v26_9 {a:Int} (h0:el a):PC Tryz.prog 68 [.lit (.string (⟨#[115,105,103,110]⟩:ByteArray)),.sl false 1 [.lit (.int .i64 a)]] (.lit (.int .i64 (vS 9 [a]))):=by
  refine pcO E5_ok (fun _=>[0,1,4,5,6,16,26,36,46,51,67,77,87,94,105,111,120,126,135]) Tryz.func68 (h:=fun KF=>?_)
  unfold E5
  repeat' (first
   |(with_reducible first|refine nx ?_|refine t_seq fun K=>?_|refine t_br (fun hc=>?_) fun hc=>?_|refine t_bx ?_|apply And.intro|intro vr)
   |((with_reducible first|refine ny ?_|refine t_dwh (h:=fun K KL=>?_));intros;simp only [go_sem,geff,con88_f,con89_f,con90_f,con91_f,con88_c,con89_c,con90_c,con91_10,con91_11,con91_12,con91_13,con91_14,con91_15]))
  all_goals try exact om
  refine end_ret rfl ?_
  simp only [fin,go_sem,vS]
  exact LeA.refl _
set_option maxHeartbeats 1000000 in
theorem v26_10 {a b:Int} (h0:el a) (h1:el b):PC Tryz.prog 68 [.lit (.string (⟨#[108,116]⟩:ByteArray)),.sl false 1 [.lit (.int .i64 a),.lit (.int .i64 b)]] (.lit (.int .i64 (vS 10 [a,b]))):=by
  refine pcO E5_ok (fun _=>[0,1,4,5,6,16,26,36,46,51,67,77,87,94,105,111,120,126,135]) Tryz.func68 (h:=fun KF=>?_)
  unfold E5
  repeat' (first
   |(with_reducible first|refine nx ?_|refine t_seq fun K=>?_|refine t_br (fun hc=>?_) fun hc=>?_|refine t_bx ?_|apply And.intro|intro vr)
   |((with_reducible first|refine ny ?_|refine t_dwh (h:=fun K KL=>?_));intros;simp only [go_sem,geff,con88_f,con89_f,con90_f,con91_f,con88_c,con89_c,con90_c,con91_10,con91_11,con91_12,con91_13,con91_14,con91_15]))
  all_goals try exact om
  refine end_ret rfl ?_
  simp only [fin,go_sem,vS]
  exact LeA.refl _
set_option maxHeartbeats 1000000 in
theorem v26_11 {a b:Int} (h0:el a) (h1:el b):PC Tryz.prog 68 [.lit (.string (⟨#[108,101]⟩:ByteArray)),.sl false 1 [.lit (.int .i64 a),.lit (.int .i64 b)]] (.lit (.int .i64 (vS 11 [a,b]))):=by
  refine pcO E5_ok (fun _=>[0,1,4,5,6,16,26,36,46,51,67,77,87,94,105,111,120,126,135]) Tryz.func68 (h:=fun KF=>?_)
  unfold E5
  repeat' (first
   |(with_reducible first|refine nx ?_|refine t_seq fun K=>?_|refine t_br (fun hc=>?_) fun hc=>?_|refine t_bx ?_|apply And.intro|intro vr)
   |((with_reducible first|refine ny ?_|refine t_dwh (h:=fun K KL=>?_));intros;simp only [go_sem,geff,con88_f,con89_f,con90_f,con91_f,con88_c,con89_c,con90_c,con91_10,con91_11,con91_12,con91_13,con91_14,con91_15]))
  all_goals try exact om
  refine end_ret rfl ?_
  simp only [fin,go_sem,vS]
  exact LeA.refl _
set_option maxHeartbeats 1000000 in
theorem v26_12 {a b:Int} (h0:el a) (h1:el b):PC Tryz.prog 68 [.lit (.string (⟨#[103,116]⟩:ByteArray)),.sl false 1 [.lit (.int .i64 a),.lit (.int .i64 b)]] (.lit (.int .i64 (vS 12 [a,b]))):=by
  refine pcO E5_ok (fun _=>[0,1,4,5,6,16,26,36,46,51,67,77,87,94,105,111,120,126,135]) Tryz.func68 (h:=fun KF=>?_)
  unfold E5
  repeat' (first
   |(with_reducible first|refine nx ?_|refine t_seq fun K=>?_|refine t_br (fun hc=>?_) fun hc=>?_|refine t_bx ?_|apply And.intro|intro vr)
   |((with_reducible first|refine ny ?_|refine t_dwh (h:=fun K KL=>?_));intros;simp only [go_sem,geff,con88_f,con89_f,con90_f,con91_f,con88_c,con89_c,con90_c,con91_10,con91_11,con91_12,con91_13,con91_14,con91_15]))
  all_goals try exact om
  refine end_ret rfl ?_
  simp only [fin,go_sem,vS]
  exact LeA.refl _
set_option maxHeartbeats 1000000 in
theorem v26_13 {a b:Int} (h0:el a) (h1:el b):PC Tryz.prog 68 [.lit (.string (⟨#[103,101]⟩:ByteArray)),.sl false 1 [.lit (.int .i64 a),.lit (.int .i64 b)]] (.lit (.int .i64 (vS 13 [a,b]))):=by
  refine pcO E5_ok (fun _=>[0,1,4,5,6,16,26,36,46,51,67,77,87,94,105,111,120,126,135]) Tryz.func68 (h:=fun KF=>?_)
  unfold E5
  repeat' (first
   |(with_reducible first|refine nx ?_|refine t_seq fun K=>?_|refine t_br (fun hc=>?_) fun hc=>?_|refine t_bx ?_|apply And.intro|intro vr)
   |((with_reducible first|refine ny ?_|refine t_dwh (h:=fun K KL=>?_));intros;simp only [go_sem,geff,con88_f,con89_f,con90_f,con91_f,con88_c,con89_c,con90_c,con91_10,con91_11,con91_12,con91_13,con91_14,con91_15]))
  all_goals try exact om
  refine end_ret rfl ?_
  simp only [fin,go_sem,vS]
  exact LeA.refl _
set_option maxHeartbeats 1000000 in
theorem v26_14 {a b:Int} (h0:el a) (h1:el b):PC Tryz.prog 68 [.lit (.string (⟨#[101,113]⟩:ByteArray)),.sl false 1 [.lit (.int .i64 a),.lit (.int .i64 b)]] (.lit (.int .i64 (vS 14 [a,b]))):=by
  refine pcO E5_ok (fun _=>[0,1,4,5,6,16,26,36,46,51,67,77,87,94,105,111,120,126,135]) Tryz.func68 (h:=fun KF=>?_)
  unfold E5
  repeat' (first
   |(with_reducible first|refine nx ?_|refine t_seq fun K=>?_|refine t_br (fun hc=>?_) fun hc=>?_|refine t_bx ?_|apply And.intro|intro vr)
   |((with_reducible first|refine ny ?_|refine t_dwh (h:=fun K KL=>?_));intros;simp only [go_sem,geff,con88_f,con89_f,con90_f,con91_f,con88_c,con89_c,con90_c,con91_10,con91_11,con91_12,con91_13,con91_14,con91_15]))
  all_goals try exact om
  refine end_ret rfl ?_
  simp only [fin,go_sem,vS]
  exact LeA.refl _
set_option maxHeartbeats 1000000 in
theorem v26_15 {a b:Int} (h0:el a) (h1:el b):PC Tryz.prog 68 [.lit (.string (⟨#[110,101]⟩:ByteArray)),.sl false 1 [.lit (.int .i64 a),.lit (.int .i64 b)]] (.lit (.int .i64 (vS 15 [a,b]))):=by
  refine pcO E5_ok (fun _=>[0,1,4,5,6,16,26,36,46,51,67,77,87,94,105,111,120,126,135]) Tryz.func68 (h:=fun KF=>?_)
  unfold E5
  repeat' (first
   |(with_reducible first|refine nx ?_|refine t_seq fun K=>?_|refine t_br (fun hc=>?_) fun hc=>?_|refine t_bx ?_|apply And.intro|intro vr)
   |((with_reducible first|refine ny ?_|refine t_dwh (h:=fun K KL=>?_));intros;simp only [go_sem,geff,con88_f,con89_f,con90_f,con91_f,con88_c,con89_c,con90_c,con91_10,con91_11,con91_12,con91_13,con91_14,con91_15]))
  all_goals try exact om
  refine end_ret rfl ?_
  simp only [fin,go_sem,vS]
  exact LeA.refl _
set_option maxHeartbeats 1000000 in
theorem v26_16 {a b:Int} (h0:a=0∨a=1) (h1:b=0∨b=1):PC Tryz.prog 68 [.lit (.string (⟨#[97,110,100]⟩:ByteArray)),.sl false 1 [.lit (.int .i64 a),.lit (.int .i64 b)]] (.lit (.int .i64 (vS 16 [a,b]))):=by
  refine pcO E5_ok (fun _=>[0,1,4,5,6,16,26,36,46,51,67,77,87,94,105,111,120,126,135]) Tryz.func68 (h:=fun KF=>?_)
  unfold E5
  repeat' (first
   |(with_reducible first|refine nx ?_|refine t_seq fun K=>?_|refine t_br (fun hc=>?_) fun hc=>?_|refine t_bx ?_|apply And.intro|intro vr)
   |((with_reducible first|refine ny ?_|refine t_dwh (h:=fun K KL=>?_));intros;simp only [go_sem,geff,con88_f,con89_f,con90_f,con91_f,con88_c,con89_c,con90_c,con91_10,con91_11,con91_12,con91_13,con91_14,con91_15]))
  all_goals try exact om
  refine end_ret rfl ?_
  simp only [fin,go_sem,vS]
  exact LeA.refl _
set_option maxHeartbeats 1000000 in
theorem v26_17 {a b:Int} (h0:a=0∨a=1) (h1:b=0∨b=1):PC Tryz.prog 68 [.lit (.string (⟨#[111,114]⟩:ByteArray)),.sl false 1 [.lit (.int .i64 a),.lit (.int .i64 b)]] (.lit (.int .i64 (vS 17 [a,b]))):=by
  refine pcO E5_ok (fun _=>[0,1,4,5,6,16,26,36,46,51,67,77,87,94,105,111,120,126,135]) Tryz.func68 (h:=fun KF=>?_)
  unfold E5
  repeat' (first
   |(with_reducible first|refine nx ?_|refine t_seq fun K=>?_|refine t_br (fun hc=>?_) fun hc=>?_|refine t_bx ?_|apply And.intro|intro vr)
   |((with_reducible first|refine ny ?_|refine t_dwh (h:=fun K KL=>?_));intros;simp only [go_sem,geff,con88_f,con89_f,con90_f,con91_f,con88_c,con89_c,con90_c,con91_10,con91_11,con91_12,con91_13,con91_14,con91_15]))
  all_goals try exact om
  refine end_ret rfl ?_
  simp only [fin,go_sem,vS]
  exact LeA.refl _
set_option maxHeartbeats 1000000 in
theorem v26_18 {a b:Int} (h0:a=0∨a=1) (h1:b=0∨b=1):PC Tryz.prog 68 [.lit (.string (⟨#[120,111,114]⟩:ByteArray)),.sl false 1 [.lit (.int .i64 a),.lit (.int .i64 b)]] (.lit (.int .i64 (vS 18 [a,b]))):=by
  rcases h0 with rfl|rfl<;>rcases h1 with rfl|rfl
  ·skip
   refine pcO E5_ok (fun _=>[0,1,4,5,6,16,26,36,46,51,67,77,87,94,105,111,120,126,135]) Tryz.func68 (h:=fun KF=>?_)
   unfold E5
   repeat' (first
    |(with_reducible first|refine nx ?_|refine t_seq fun K=>?_|refine t_br (fun hc=>?_) fun hc=>?_|refine t_bx ?_|apply And.intro|intro vr)
    |((with_reducible first|refine ny ?_|refine t_dwh (h:=fun K KL=>?_));intros;simp only [go_sem,geff,con88_f,con89_f,con90_f,con91_f,con88_c,con89_c,con90_c,con91_10,con91_11,con91_12,con91_13,con91_14,con91_15]))
   all_goals try exact om
   refine end_ret rfl ?_
   simp only [fin,go_sem,vS]
   exact LeA.refl _
  ·skip
   refine pcO E5_ok (fun _=>[0,1,4,5,6,16,26,36,46,51,67,77,87,94,105,111,120,126,135]) Tryz.func68 (h:=fun KF=>?_)
   unfold E5
   repeat' (first
    |(with_reducible first|refine nx ?_|refine t_seq fun K=>?_|refine t_br (fun hc=>?_) fun hc=>?_|refine t_bx ?_|apply And.intro|intro vr)
    |((with_reducible first|refine ny ?_|refine t_dwh (h:=fun K KL=>?_));intros;simp only [go_sem,geff,con88_f,con89_f,con90_f,con91_f,con88_c,con89_c,con90_c,con91_10,con91_11,con91_12,con91_13,con91_14,con91_15]))
   all_goals try exact om
   refine end_ret rfl ?_
   simp only [fin,go_sem,vS]
   exact LeA.refl _
  ·skip
   refine pcO E5_ok (fun _=>[0,1,4,5,6,16,26,36,46,51,67,77,87,94,105,111,120,126,135]) Tryz.func68 (h:=fun KF=>?_)
   unfold E5
   repeat' (first
    |(with_reducible first|refine nx ?_|refine t_seq fun K=>?_|refine t_br (fun hc=>?_) fun hc=>?_|refine t_bx ?_|apply And.intro|intro vr)
    |((with_reducible first|refine ny ?_|refine t_dwh (h:=fun K KL=>?_));intros;simp only [go_sem,geff,con88_f,con89_f,con90_f,con91_f,con88_c,con89_c,con90_c,con91_10,con91_11,con91_12,con91_13,con91_14,con91_15]))
   all_goals try exact om
   refine end_ret rfl ?_
   simp only [fin,go_sem,vS]
   exact LeA.refl _
  ·skip
   refine pcO E5_ok (fun _=>[0,1,4,5,6,16,26,36,46,51,67,77,87,94,105,111,120,126,135]) Tryz.func68 (h:=fun KF=>?_)
   unfold E5
   repeat' (first
    |(with_reducible first|refine nx ?_|refine t_seq fun K=>?_|refine t_br (fun hc=>?_) fun hc=>?_|refine t_bx ?_|apply And.intro|intro vr)
    |((with_reducible first|refine ny ?_|refine t_dwh (h:=fun K KL=>?_));intros;simp only [go_sem,geff,con88_f,con89_f,con90_f,con91_f,con88_c,con89_c,con90_c,con91_10,con91_11,con91_12,con91_13,con91_14,con91_15]))
   all_goals try exact om
   refine end_ret rfl ?_
   simp only [fin,go_sem,vS]
   exact LeA.refl _
set_option maxHeartbeats 1000000 in
theorem v26_19 {a:Int} (h0:a=0∨a=1):PC Tryz.prog 68 [.lit (.string (⟨#[110,111,116]⟩:ByteArray)),.sl false 1 [.lit (.int .i64 a)]] (.lit (.int .i64 (vS 19 [a]))):=by
  have h0': -1≤a∧a≤1:=by omega
  refine pcO E5_ok (fun _=>[0,1,4,5,6,16,26,36,46,51,67,77,87,94,105,111,120,126,135]) Tryz.func68 (h:=fun KF=>?_)
  unfold E5
  repeat' (first
   |(with_reducible first|refine nx ?_|refine t_seq fun K=>?_|refine t_br (fun hc=>?_) fun hc=>?_|refine t_bx ?_|apply And.intro|intro vr)
   |((with_reducible first|refine ny ?_|refine t_dwh (h:=fun K KL=>?_));intros;simp only [go_sem,geff,con88_f,con89_f,con90_f,con91_f,con88_c,con89_c,con90_c,con91_10,con91_11,con91_12,con91_13,con91_14,con91_15]))
  all_goals try exact om
  refine end_ret rfl ?_
  simp only [fin,go_sem,vS]
  exact LeA.refl _
set_option maxHeartbeats 1000000 in
theorem v26_20 {a b c:Int} (h0:a=0∨a=1) (h1:el b) (h2:el c):PC Tryz.prog 68 [.lit (.string (⟨#[115,101,108,101,99,116]⟩:ByteArray)),.sl false 1 [.lit (.int .i64 a),.lit (.int .i64 b),.lit (.int .i64 c)]] (.lit (.int .i64 (vS 20 [a,b,c]))):=by
  rcases h0 with rfl|rfl
  ·skip
   refine pcO E5_ok (fun _=>[0,1,4,5,6,16,26,36,46,51,67,77,87,94,105,111,120,126,135]) Tryz.func68 (h:=fun KF=>?_)
   unfold E5
   repeat' (first
    |(with_reducible first|refine nx ?_|refine t_seq fun K=>?_|refine t_br (fun hc=>?_) fun hc=>?_|refine t_bx ?_|apply And.intro|intro vr)
    |((with_reducible first|refine ny ?_|refine t_dwh (h:=fun K KL=>?_));intros;simp only [go_sem,geff,con88_f,con89_f,con90_f,con91_f,con88_c,con89_c,con90_c,con91_10,con91_11,con91_12,con91_13,con91_14,con91_15]))
   all_goals try exact om
   refine end_ret rfl ?_
   simp only [fin,go_sem,vS]
   exact LeA.refl _
  ·skip
   refine pcO E5_ok (fun _=>[0,1,4,5,6,16,26,36,46,51,67,77,87,94,105,111,120,126,135]) Tryz.func68 (h:=fun KF=>?_)
   unfold E5
   repeat' (first
    |(with_reducible first|refine nx ?_|refine t_seq fun K=>?_|refine t_br (fun hc=>?_) fun hc=>?_|refine t_bx ?_|apply And.intro|intro vr)
    |((with_reducible first|refine ny ?_|refine t_dwh (h:=fun K KL=>?_));intros;simp only [go_sem,geff,con88_f,con89_f,con90_f,con91_f,con88_c,con89_c,con90_c,con91_10,con91_11,con91_12,con91_13,con91_14,con91_15]))
   all_goals try exact om
   refine end_ret rfl ?_
   simp only [fin,go_sem,vS]
   exact LeA.refl _
set_option maxHeartbeats 1000000 in
theorem v26_21 {a:Int} (h0:a=0∨a=1):PC Tryz.prog 68 [.lit (.string (⟨#[116,111,105,110,116]⟩:ByteArray)),.sl false 1 [.lit (.int .i64 a)]] (.lit (.int .i64 (vS 21 [a]))):=by
  refine pcO E5_ok (fun _=>[0,1,4,5,6,16,26,36,46,51,67,77,87,94,105,111,120,126,135]) Tryz.func68 (h:=fun KF=>?_)
  unfold E5
  repeat' (first
   |(with_reducible first|refine nx ?_|refine t_seq fun K=>?_|refine t_br (fun hc=>?_) fun hc=>?_|refine t_bx ?_|apply And.intro|intro vr)
   |((with_reducible first|refine ny ?_|refine t_dwh (h:=fun K KL=>?_));intros;simp only [go_sem,geff,con88_f,con89_f,con90_f,con91_f,con88_c,con89_c,con90_c,con91_10,con91_11,con91_12,con91_13,con91_14,con91_15]))
  all_goals try exact om
  refine end_ret rfl ?_
  simp only [fin,go_sem,vS]
  exact LeA.refl _
noncomputable def con68:PCon Tryz.prog where
  f:=68
  c:=fun
   |[.lit (.string op),x]=>(rowIx op).bind fun i=>(slK .i64 x).map fun xs=>(okL i xs,.lit (.int .i64 (vS i xs)))
   |_=>none
  ok:=by
   intro args p r hc hp
   split at hc
   ·rename_i op x
    rcases ix_cases op with ⟨i,hi,he,hx,_⟩|⟨hx,_⟩
    ·rw [hx] at hc
     cases hl:slK .i64 x with
     |none=>rw [hl] at hc;cases hc
     |some xs=>
      rw [hl] at hc
      cases hc
      refine PC.weak (bs:=[.lit (.string op),.sl false 1 (ints .i64 xs)]) ?_ ⟨LeA.refl _,slK_le hl,trivial⟩
      subst he
      clear hx hl
      have:i=0∨i=1∨i=2∨i=3∨i=4∨i=5∨i=6∨i=7∨i=8∨i=9∨i=10∨i=11∨i=12∨i=13∨i=14∨i=15∨i=16∨i=17∨i=18∨i=19∨i=20∨i=21:=by omega
      rcases this with rfl|rfl|rfl|rfl|rfl|rfl|rfl|rfl|rfl|rfl|rfl|rfl|rfl|rfl|rfl|rfl|rfl|rfl|rfl|rfl|rfl|rfl
      ·obtain ⟨a,b,rfl,h0,h1⟩:=okL_0.1 hp;exact v26_0 h0 h1
      ·obtain ⟨a,b,rfl,h0,h1⟩:=okL_1.1 hp;exact v26_1 h0 h1
      ·obtain ⟨a,b,rfl,h0,h1⟩:=okL_2.1 hp;exact v26_2 h0 h1
      ·obtain ⟨a,b,rfl,h0,h1⟩:=okL_3.1 hp;exact v26_3 h0 h1
      ·obtain ⟨a,b,rfl,h0,h1⟩:=okL_4.1 hp;exact v26_4 h0 h1
      ·obtain ⟨a,b,rfl,h0,h1⟩:=okL_5.1 hp;exact v26_5 h0 h1
      ·obtain ⟨a,b,rfl,h0,h1⟩:=okL_6.1 hp;exact v26_6 h0 h1
      ·obtain ⟨a,rfl,h0⟩:=okL_7.1 hp;exact v26_7 h0
      ·obtain ⟨a,rfl,h0⟩:=okL_8.1 hp;exact v26_8 h0
      ·obtain ⟨a,rfl,h0⟩:=okL_9.1 hp;exact v26_9 h0
      ·obtain ⟨a,b,rfl,h0,h1⟩:=okL_10.1 hp;exact v26_10 h0 h1
      ·obtain ⟨a,b,rfl,h0,h1⟩:=okL_11.1 hp;exact v26_11 h0 h1
      ·obtain ⟨a,b,rfl,h0,h1⟩:=okL_12.1 hp;exact v26_12 h0 h1
      ·obtain ⟨a,b,rfl,h0,h1⟩:=okL_13.1 hp;exact v26_13 h0 h1
      ·obtain ⟨a,b,rfl,h0,h1⟩:=okL_14.1 hp;exact v26_14 h0 h1
      ·obtain ⟨a,b,rfl,h0,h1⟩:=okL_15.1 hp;exact v26_15 h0 h1
      ·obtain ⟨a,b,rfl,h0,h1⟩:=okL_16.1 hp;exact v26_16 h0 h1
      ·obtain ⟨a,b,rfl,h0,h1⟩:=okL_17.1 hp;exact v26_17 h0 h1
      ·obtain ⟨a,b,rfl,h0,h1⟩:=okL_18.1 hp;exact v26_18 h0 h1
      ·obtain ⟨a,rfl,h0⟩:=okL_19.1 hp;exact v26_19 h0
      ·obtain ⟨a,b,c,rfl,h0,h1,h2⟩:=okL_20.1 hp;exact v26_20 h0 h1 h2
      ·obtain ⟨a,rfl,h0⟩:=okL_21.1 hp;exact v26_21 h0
    ·rw [hx] at hc;cases hc
   ·cases hc
  fk:=fk68
theorem con68_f:con68.f=68:=rfl
theorem con68_c {op:ByteArray} {x:AV}:con68.c [.lit (.string op),x]=(rowIx op).bind fun i=>(slK .i64 x).map fun xs=>(okL i xs,.lit (.int .i64 (vS i xs))):=rfl
end Go.Proofs.YtcpjahmajkhchaaGreat.El
