import Derived.Test.YtnlimcijgpaegaaRows
import Derived.Test.YtnlimcijgpaegaaFwB

set_option linter.all false

namespace Go.Proofs.Ytnlimcijgpaegaa
open Go Go.Fw
noncomputable abbrev PG:=Try.prog
theorem g2:PG.underlying 2=some (.int .i64)∧byT PG 2=8∧aggT PG 2=some false∧structOk PG 2=false∧(zeroT PG 2).isSome=true∧zOk PG 2=true∧(PG.underlying 2).isSome=true:=by and_intros<;>kernel_rfl
theorem sz2:szT Try.prog 2=1:=by kernel_rfl
theorem u3:Try.prog.underlying 3=some (.int .i64):=by kernel_rfl
theorem sz3:szT Try.prog 3=1:=by kernel_rfl
theorem g3:byT PG 3=8∧aggT PG 3=some false∧structOk PG 3=false∧(zeroT PG 3).isSome=true∧zOk PG 3=true∧(PG.underlying 3).isSome=true:=by and_intros<;>kernel_rfl
theorem g4:PG.underlying 4=some .bool∧szT PG 4=1∧byT PG 4=1∧aggT PG 4=some false∧structOk PG 4=false∧(zeroT PG 4).isSome=true∧zOk PG 4=true∧(PG.underlying 4).isSome=true:=by and_intros<;>kernel_rfl
theorem u5:Try.prog.underlying 5=some (.int .u8):=by kernel_rfl
theorem g5:szT PG 5=1∧byT PG 5=1∧aggT PG 5=some false∧structOk PG 5=false∧(zeroT PG 5).isSome=true∧zOk PG 5=true∧(PG.underlying 5).isSome=true:=by and_intros<;>kernel_rfl
theorem g6:PG.underlying 6=some (.int .u8)∧szT PG 6=1∧byT PG 6=1∧aggT PG 6=some false∧structOk PG 6=false∧(zeroT PG 6).isSome=true∧zOk PG 6=true∧(PG.underlying 6).isSome=true:=by and_intros<;>kernel_rfl
theorem g7:szT PG 7=4∧byT PG 7=24∧aggT PG 7=some true∧structOk PG 7=true∧fieldT PG 7 0=some (2,0)∧fieldT PG 7 1=some (3,1)∧fieldT PG 7 2=some (4,2)∧fieldT PG 7 3=some (6,3)∧seqK PG 7=some [0,0,2,0]∧(zeroT PG 7).isSome=true∧zOk PG 7=true∧(PG.underlying 7).isSome=true:=by and_intros<;>kernel_rfl
theorem g8:szT PG 8=4∧byT PG 8=24∧aggT PG 8=some true∧structOk PG 8=true∧fieldT PG 8 0=some (2,0)∧fieldT PG 8 1=some (3,1)∧fieldT PG 8 2=some (4,2)∧fieldT PG 8 3=some (6,3)∧seqK PG 8=some [0,0,2,0]∧(zeroT PG 8).isSome=true∧zOk PG 8=true∧(PG.underlying 8).isSome=true:=by and_intros<;>kernel_rfl
theorem u9:Try.prog.underlying 9=some .string:=by kernel_rfl
theorem g9:szT PG 9=1∧byT PG 9=16∧aggT PG 9=some false∧structOk PG 9=false∧(zeroT PG 9).isSome=true∧zOk PG 9=true∧(PG.underlying 9).isSome=true:=by and_intros<;>kernel_rfl
theorem g10:PG.underlying 10=some .string∧szT PG 10=1∧byT PG 10=16∧aggT PG 10=some false∧structOk PG 10=false∧(zeroT PG 10).isSome=true∧zOk PG 10=true∧(PG.underlying 10).isSome=true:=by and_intros<;>kernel_rfl
theorem g11:PG.underlying 11=some .string∧szT PG 11=1∧byT PG 11=16∧aggT PG 11=some false∧structOk PG 11=false∧(zeroT PG 11).isSome=true∧zOk PG 11=true∧(PG.underlying 11).isSome=true:=by and_intros<;>kernel_rfl
theorem g12:PG.underlying 12=some (.int .u64)∧szT PG 12=1∧byT PG 12=8∧aggT PG 12=some false∧structOk PG 12=false∧(zeroT PG 12).isSome=true∧zOk PG 12=true∧(PG.underlying 12).isSome=true:=by and_intros<;>kernel_rfl
theorem g13:szT PG 13=2∧byT PG 13=24∧aggT PG 13=some true∧structOk PG 13=true∧fieldT PG 13 0=some (9,0)∧fieldT PG 13 1=some (12,1)∧(zeroT PG 13).isSome=true∧zOk PG 13=true∧(PG.underlying 13).isSome=true:=by and_intros<;>kernel_rfl
theorem g14:szT PG 14=2∧byT PG 14=24∧aggT PG 14=some true∧structOk PG 14=true∧fieldT PG 14 0=some (9,0)∧fieldT PG 14 1=some (12,1)∧(zeroT PG 14).isSome=true∧zOk PG 14=true∧(PG.underlying 14).isSome=true:=by and_intros<;>kernel_rfl
theorem g15:PG.underlying 15=some (.pointer 217)∧szT PG 15=1∧byT PG 15=8∧aggT PG 15=some false∧structOk PG 15=false∧(zeroT PG 15).isSome=true∧zOk PG 15=true∧(PG.underlying 15).isSome=true:=by and_intros<;>kernel_rfl
theorem g16:PG.underlying 16=some (.pointer 220)∧szT PG 16=1∧byT PG 16=8∧aggT PG 16=some false∧structOk PG 16=false∧(zeroT PG 16).isSome=true∧zOk PG 16=true∧(PG.underlying 16).isSome=true:=by and_intros<;>kernel_rfl
theorem g17:PG.underlying 17=some (.pointer 229)∧szT PG 17=1∧byT PG 17=8∧aggT PG 17=some false∧structOk PG 17=false∧(zeroT PG 17).isSome=true∧zOk PG 17=true∧(PG.underlying 17).isSome=true:=by and_intros<;>kernel_rfl
theorem g18:szT PG 18=1∧byT PG 18=8∧aggT PG 18=some true∧structOk PG 18=true∧fieldT PG 18 0=some (17,0)∧(zeroT PG 18).isSome=true∧zOk PG 18=true∧(PG.underlying 18).isSome=true:=by and_intros<;>kernel_rfl
theorem g19:szT PG 19=1∧byT PG 19=8∧aggT PG 19=some true∧structOk PG 19=true∧fieldT PG 19 0=some (17,0)∧(zeroT PG 19).isSome=true∧zOk PG 19=true∧(PG.underlying 19).isSome=true:=by and_intros<;>kernel_rfl
theorem g21:PG.underlying 21=some (.int .i32)∧szT PG 21=1∧byT PG 21=4∧aggT PG 21=some false∧structOk PG 21=false∧(zeroT PG 21).isSome=true∧zOk PG 21=true∧(PG.underlying 21).isSome=true:=by and_intros<;>kernel_rfl
theorem g22:PG.underlying 22=some (.slice 28)∧szT PG 22=1∧byT PG 22=24∧aggT PG 22=some false∧structOk PG 22=false∧(zeroT PG 22).isSome=true∧zOk PG 22=true∧(PG.underlying 22).isSome=true∧appT PG #[22,22]=some 28:=by and_intros<;>kernel_rfl
theorem g23:PG.underlying 23=some (.int .u16)∧szT PG 23=1∧byT PG 23=2∧aggT PG 23=some false∧structOk PG 23=false∧(zeroT PG 23).isSome=true∧zOk PG 23=true∧(PG.underlying 23).isSome=true:=by and_intros<;>kernel_rfl
theorem g24:PG.underlying 24=some (.array 3 23)∧szT PG 24=3∧byT PG 24=6∧aggT PG 24=some true∧structOk PG 24=false∧(zeroT PG 24).isSome=true∧zOk PG 24=true∧(PG.underlying 24).isSome=true:=by and_intros<;>kernel_rfl
theorem g26:PG.underlying 26=some (.slice 29)∧szT PG 26=1∧byT PG 26=24∧aggT PG 26=some false∧structOk PG 26=false∧(zeroT PG 26).isSome=true∧zOk PG 26=true∧(PG.underlying 26).isSome=true∧appT PG #[26,26]=some 29:=by and_intros<;>kernel_rfl
theorem g27:szT PG 27=2∧byT PG 27=16∧aggT PG 27=some true∧structOk PG 27=true∧fieldT PG 27 0=some (3,0)∧fieldT PG 27 1=some (3,1)∧seqK PG 27=some [0,0]∧(zeroT PG 27).isSome=true∧zOk PG 27=true∧(PG.underlying 27).isSome=true:=by and_intros<;>kernel_rfl
theorem g28:szT PG 28=2∧byT PG 28=16∧aggT PG 28=some true∧structOk PG 28=true∧fieldT PG 28 0=some (3,0)∧fieldT PG 28 1=some (3,1)∧seqK PG 28=some [0,0]∧(zeroT PG 28).isSome=true∧zOk PG 28=true∧(PG.underlying 28).isSome=true:=by and_intros<;>kernel_rfl
theorem g29:szT PG 29=2∧byT PG 29=16∧aggT PG 29=some true∧structOk PG 29=true∧fieldT PG 29 0=some (3,0)∧fieldT PG 29 1=some (3,1)∧seqK PG 29=some [0,0]∧(zeroT PG 29).isSome=true∧zOk PG 29=true∧(PG.underlying 29).isSome=true:=by and_intros<;>kernel_rfl
theorem u34:Try.prog.underlying 34=some (.slice 3):=by kernel_rfl
theorem g34:szT PG 34=1∧byT PG 34=24∧aggT PG 34=some false∧structOk PG 34=false∧(zeroT PG 34).isSome=true∧zOk PG 34=true∧(PG.underlying 34).isSome=true∧appT PG #[34,34]=some 3:=by and_intros<;>kernel_rfl
theorem g38:PG.underlying 38=some (.array 2 5)∧szT PG 38=2∧byT PG 38=2∧aggT PG 38=some true∧structOk PG 38=false∧(zeroT PG 38).isSome=true∧zOk PG 38=true∧(PG.underlying 38).isSome=true:=by and_intros<;>kernel_rfl
theorem g39:PG.underlying 39=some (.array 3 38)∧szT PG 39=6∧byT PG 39=6∧aggT PG 39=some true∧structOk PG 39=false∧(zeroT PG 39).isSome=true∧zOk PG 39=true∧(PG.underlying 39).isSome=true:=by and_intros<;>kernel_rfl
theorem u41:Try.prog.underlying 41=some (.slice 73):=by kernel_rfl
theorem g41:szT PG 41=1∧byT PG 41=24∧aggT PG 41=some false∧structOk PG 41=false∧(zeroT PG 41).isSome=true∧zOk PG 41=true∧(PG.underlying 41).isSome=true∧appT PG #[41,41]=some 73:=by and_intros<;>kernel_rfl
theorem u42:Try.prog.underlying 42=some (.slice 99):=by kernel_rfl
theorem g42:szT PG 42=1∧byT PG 42=24∧aggT PG 42=some false∧structOk PG 42=false∧(zeroT PG 42).isSome=true∧zOk PG 42=true∧(PG.underlying 42).isSome=true∧appT PG #[42,42]=some 99:=by and_intros<;>kernel_rfl
theorem u43:Try.prog.underlying 43=some (.slice 96):=by kernel_rfl
theorem g43:szT PG 43=1∧byT PG 43=24∧aggT PG 43=some false∧structOk PG 43=false∧(zeroT PG 43).isSome=true∧zOk PG 43=true∧(PG.underlying 43).isSome=true∧appT PG #[43,43]=some 96:=by and_intros<;>kernel_rfl
theorem g44:szT PG 44=6∧byT PG 44=112∧aggT PG 44=some true∧structOk PG 44=true∧fieldT PG 44 0=some (3,0)∧fieldT PG 44 1=some (3,1)∧fieldT PG 44 2=some (41,2)∧fieldT PG 44 3=some (42,3)∧fieldT PG 44 4=some (42,4)∧fieldT PG 44 5=some (43,5)∧(zeroT PG 44).isSome=true∧zOk PG 44=true∧(PG.underlying 44).isSome=true:=by and_intros<;>kernel_rfl
theorem g45:szT PG 45=6∧byT PG 45=112∧structOk PG 45=true∧fieldT PG 45 0=some (3,0)∧fieldT PG 45 1=some (3,1)∧fieldT PG 45 2=some (41,2)∧fieldT PG 45 3=some (42,3)∧fieldT PG 45 4=some (42,4)∧fieldT PG 45 5=some (43,5)∧(zeroT PG 45).isSome=true∧zOk PG 45=true∧(PG.underlying 45).isSome=true:=by and_intros<;>kernel_rfl
theorem ag45:aggT Try.prog 45=some true:=by kernel_rfl
theorem g47:PG.underlying 47=some (.int .i64)∧szT PG 47=1∧byT PG 47=8∧aggT PG 47=some false∧structOk PG 47=false∧(zeroT PG 47).isSome=true∧zOk PG 47=true∧(PG.underlying 47).isSome=true:=by and_intros<;>kernel_rfl
theorem g52:szT PG 52=4∧byT PG 52=32∧aggT PG 52=some true∧structOk PG 52=true∧fieldT PG 52 0=some (3,0)∧fieldT PG 52 1=some (3,1)∧fieldT PG 52 2=some (3,2)∧fieldT PG 52 3=some (3,3)∧seqK PG 52=some [0,0,0,0]∧(zeroT PG 52).isSome=true∧zOk PG 52=true∧(PG.underlying 52).isSome=true:=by and_intros<;>kernel_rfl
theorem g53:szT PG 53=4∧byT PG 53=32∧aggT PG 53=some true∧structOk PG 53=true∧fieldT PG 53 0=some (3,0)∧fieldT PG 53 1=some (3,1)∧fieldT PG 53 2=some (3,2)∧fieldT PG 53 3=some (3,3)∧seqK PG 53=some [0,0,0,0]∧(zeroT PG 53).isSome=true∧zOk PG 53=true∧(PG.underlying 53).isSome=true:=by and_intros<;>kernel_rfl
theorem g54:PG.underlying 54=some (.slice 22)∧szT PG 54=1∧byT PG 54=24∧aggT PG 54=some false∧structOk PG 54=false∧(zeroT PG 54).isSome=true∧zOk PG 54=true∧(PG.underlying 54).isSome=true∧appT PG #[54,54]=some 22:=by and_intros<;>kernel_rfl
theorem g55:szT PG 55=12∧byT PG 55=160∧aggT PG 55=some true∧structOk PG 55=true∧fieldT PG 55 0=some (34,0)∧fieldT PG 55 1=some (34,1)∧fieldT PG 55 2=some (53,2)∧fieldT PG 55 3=some (34,6)∧fieldT PG 55 4=some (3,7)∧fieldT PG 55 5=some (4,8)∧fieldT PG 55 6=some (54,9)∧fieldT PG 55 7=some (4,10)∧fieldT PG 55 8=some (3,11)∧(zeroT PG 55).isSome=true∧zOk PG 55=true∧(PG.underlying 55).isSome=true:=by and_intros<;>kernel_rfl
theorem g56:szT PG 56=12∧byT PG 56=160∧aggT PG 56=some true∧structOk PG 56=true∧fieldT PG 56 0=some (34,0)∧fieldT PG 56 1=some (34,1)∧fieldT PG 56 2=some (53,2)∧fieldT PG 56 3=some (34,6)∧fieldT PG 56 4=some (3,7)∧fieldT PG 56 5=some (4,8)∧fieldT PG 56 6=some (54,9)∧fieldT PG 56 7=some (4,10)∧fieldT PG 56 8=some (3,11)∧(zeroT PG 56).isSome=true∧zOk PG 56=true∧(PG.underlying 56).isSome=true:=by and_intros<;>kernel_rfl
theorem g59:PG.underlying 59=some (.slice 26)∧szT PG 59=1∧byT PG 59=24∧aggT PG 59=some false∧structOk PG 59=false∧(zeroT PG 59).isSome=true∧zOk PG 59=true∧(PG.underlying 59).isSome=true∧appT PG #[59,59]=some 26:=by and_intros<;>kernel_rfl
theorem u64:Try.prog.underlying 64=some (.slice 71):=by kernel_rfl
theorem g64:szT PG 64=1∧byT PG 64=24∧aggT PG 64=some false∧structOk PG 64=false∧(zeroT PG 64).isSome=true∧zOk PG 64=true∧(PG.underlying 64).isSome=true∧appT PG #[64,64]=some 71:=by and_intros<;>kernel_rfl
theorem g66:szT PG 66=6∧byT PG 66=80∧aggT PG 66=some true∧structOk PG 66=true∧fieldT PG 66 0=some (43,0)∧fieldT PG 66 1=some (53,1)∧fieldT PG 66 2=some (34,5)∧(zeroT PG 66).isSome=true∧zOk PG 66=true∧(PG.underlying 66).isSome=true:=by and_intros<;>kernel_rfl
theorem g67:szT PG 67=6∧byT PG 67=80∧aggT PG 67=some true∧structOk PG 67=true∧fieldT PG 67 0=some (43,0)∧fieldT PG 67 1=some (53,1)∧fieldT PG 67 2=some (34,5)∧(zeroT PG 67).isSome=true∧zOk PG 67=true∧(PG.underlying 67).isSome=true:=by and_intros<;>kernel_rfl
theorem g71:PG.underlying 71=some (.int .i16)∧szT PG 71=1∧byT PG 71=2∧aggT PG 71=some false∧structOk PG 71=false∧(zeroT PG 71).isSome=true∧zOk PG 71=true∧(PG.underlying 71).isSome=true:=by and_intros<;>kernel_rfl
theorem g72:szT PG 72=6∧byT PG 72=56∧aggT PG 72=some true∧structOk PG 72=true∧fieldT PG 72 0=some (3,0)∧fieldT PG 72 1=some (9,1)∧fieldT PG 72 2=some (3,2)∧fieldT PG 72 3=some (3,3)∧fieldT PG 72 4=some (3,4)∧fieldT PG 72 5=some (3,5)∧seqK PG 72=some [0,1,0,0,0,0]∧(zeroT PG 72).isSome=true∧zOk PG 72=true∧(PG.underlying 72).isSome=true:=by and_intros<;>kernel_rfl
theorem sz73:szT Try.prog 73=6:=by kernel_rfl
theorem g73:byT PG 73=56∧structOk PG 73=true∧fieldT PG 73 0=some (3,0)∧fieldT PG 73 1=some (9,1)∧fieldT PG 73 2=some (3,2)∧fieldT PG 73 3=some (3,3)∧fieldT PG 73 4=some (3,4)∧fieldT PG 73 5=some (3,5)∧seqK PG 73=some [0,1,0,0,0,0]∧(zeroT PG 73).isSome=true∧zOk PG 73=true∧(PG.underlying 73).isSome=true:=by and_intros<;>kernel_rfl
theorem ag73:aggT Try.prog 73=some true:=by kernel_rfl
theorem g75:szT PG 75=6∧byT PG 75=80∧aggT PG 75=some true∧structOk PG 75=true∧fieldT PG 75 0=some (43,0)∧fieldT PG 75 1=some (53,1)∧fieldT PG 75 2=some (34,5)∧(zeroT PG 75).isSome=true∧zOk PG 75=true∧(PG.underlying 75).isSome=true:=by and_intros<;>kernel_rfl
theorem g81:szT PG 81=1∧byT PG 81=8∧aggT PG 81=some false∧structOk PG 81=false∧(zeroT PG 81).isSome=true∧zOk PG 81=true∧(PG.underlying 81).isSome=true:=by and_intros<;>kernel_rfl
theorem g84:PG.underlying 84=some (.slice 9)∧szT PG 84=1∧byT PG 84=24∧aggT PG 84=some false∧structOk PG 84=false∧(zeroT PG 84).isSome=true∧zOk PG 84=true∧(PG.underlying 84).isSome=true∧appT PG #[84,84]=some 9:=by and_intros<;>kernel_rfl
theorem g95:szT PG 95=3∧byT PG 95=64∧aggT PG 95=some true∧structOk PG 95=true∧fieldT PG 95 0=some (9,0)∧fieldT PG 95 1=some (34,1)∧fieldT PG 95 2=some (34,2)∧(zeroT PG 95).isSome=true∧zOk PG 95=true∧(PG.underlying 95).isSome=true:=by and_intros<;>kernel_rfl
theorem sz96:szT Try.prog 96=3:=by kernel_rfl
theorem g96:byT PG 96=64∧structOk PG 96=true∧fieldT PG 96 0=some (9,0)∧fieldT PG 96 1=some (34,1)∧fieldT PG 96 2=some (34,2)∧(zeroT PG 96).isSome=true∧zOk PG 96=true∧(PG.underlying 96).isSome=true:=by and_intros<;>kernel_rfl
theorem ag96:aggT Try.prog 96=some true:=by kernel_rfl
theorem g98:szT PG 98=2∧byT PG 98=16∧aggT PG 98=some true∧structOk PG 98=true∧fieldT PG 98 0=some (3,0)∧fieldT PG 98 1=some (3,1)∧seqK PG 98=some [0,0]∧(zeroT PG 98).isSome=true∧zOk PG 98=true∧(PG.underlying 98).isSome=true:=by and_intros<;>kernel_rfl
theorem sz99:szT Try.prog 99=2:=by kernel_rfl
theorem g99:byT PG 99=16∧structOk PG 99=true∧fieldT PG 99 0=some (3,0)∧fieldT PG 99 1=some (3,1)∧seqK PG 99=some [0,0]∧(zeroT PG 99).isSome=true∧zOk PG 99=true∧(PG.underlying 99).isSome=true:=by and_intros<;>kernel_rfl
theorem ag99:aggT Try.prog 99=some true:=by kernel_rfl
theorem g103:PG.underlying 103=some (.pointer 106)∧szT PG 103=1∧byT PG 103=8∧aggT PG 103=some false∧structOk PG 103=false∧(zeroT PG 103).isSome=true∧zOk PG 103=true∧(PG.underlying 103).isSome=true:=by and_intros<;>kernel_rfl
theorem g104:szT PG 104=1∧byT PG 104=8∧aggT PG 104=some false∧structOk PG 104=false∧(zeroT PG 104).isSome=true∧zOk PG 104=true∧(PG.underlying 104).isSome=true:=by and_intros<;>kernel_rfl
theorem g105:szT PG 105=9∧byT PG 105=168∧aggT PG 105=some true∧structOk PG 105=true∧fieldT PG 105 0=some (45,0)∧fieldT PG 105 1=some (34,6)∧fieldT PG 105 2=some (59,7)∧fieldT PG 105 3=some (104,8)∧(zeroT PG 105).isSome=true∧zOk PG 105=true∧(PG.underlying 105).isSome=true:=by and_intros<;>kernel_rfl
theorem g106:szT PG 106=9∧byT PG 106=168∧aggT PG 106=some true∧structOk PG 106=true∧fieldT PG 106 0=some (45,0)∧fieldT PG 106 1=some (34,6)∧fieldT PG 106 2=some (59,7)∧fieldT PG 106 3=some (104,8)∧(zeroT PG 106).isSome=true∧zOk PG 106=true∧(PG.underlying 106).isSome=true:=by and_intros<;>kernel_rfl
theorem g115:PG.underlying 115=some (.pointer 120)∧szT PG 115=1∧byT PG 115=8∧aggT PG 115=some false∧structOk PG 115=false∧(zeroT PG 115).isSome=true∧zOk PG 115=true∧(PG.underlying 115).isSome=true:=by and_intros<;>kernel_rfl
theorem g119:szT PG 119=17∧byT PG 119=264∧aggT PG 119=some true∧structOk PG 119=true∧fieldT PG 119 0=some (45,0)∧fieldT PG 119 1=some (34,6)∧fieldT PG 119 2=some (34,7)∧fieldT PG 119 3=some (34,8)∧fieldT PG 119 4=some (53,9)∧fieldT PG 119 5=some (34,13)∧fieldT PG 119 6=some (3,14)∧fieldT PG 119 7=some (3,15)∧fieldT PG 119 8=some (47,16)∧(zeroT PG 119).isSome=true∧zOk PG 119=true∧(PG.underlying 119).isSome=true:=by and_intros<;>kernel_rfl
theorem g120:szT PG 120=17∧byT PG 120=264∧aggT PG 120=some true∧structOk PG 120=true∧fieldT PG 120 0=some (45,0)∧fieldT PG 120 1=some (34,6)∧fieldT PG 120 2=some (34,7)∧fieldT PG 120 3=some (34,8)∧fieldT PG 120 4=some (53,9)∧fieldT PG 120 5=some (34,13)∧fieldT PG 120 6=some (3,14)∧fieldT PG 120 7=some (3,15)∧fieldT PG 120 8=some (47,16)∧(zeroT PG 120).isSome=true∧zOk PG 120=true∧(PG.underlying 120).isSome=true:=by and_intros<;>kernel_rfl
theorem g150:PG.underlying 150=some (.int .u64)∧szT PG 150=1∧byT PG 150=8∧aggT PG 150=some false∧structOk PG 150=false∧(zeroT PG 150).isSome=true∧zOk PG 150=true∧(PG.underlying 150).isSome=true:=by and_intros<;>kernel_rfl
theorem g152:szT PG 152=3∧byT PG 152=56∧aggT PG 152=some true∧structOk PG 152=true∧fieldT PG 152 0=some (9,0)∧fieldT PG 152 1=some (84,1)∧fieldT PG 152 2=some (9,2)∧(zeroT PG 152).isSome=true∧zOk PG 152=true∧(PG.underlying 152).isSome=true:=by and_intros<;>kernel_rfl
theorem g153:szT PG 153=3∧byT PG 153=56∧aggT PG 153=some true∧structOk PG 153=true∧fieldT PG 153 0=some (9,0)∧fieldT PG 153 1=some (84,1)∧fieldT PG 153 2=some (9,2)∧(zeroT PG 153).isSome=true∧zOk PG 153=true∧(PG.underlying 153).isSome=true:=by and_intros<;>kernel_rfl
theorem g154:PG.underlying 154=some (.array 22 153)∧szT PG 154=66∧byT PG 154=1232∧aggT PG 154=some true∧structOk PG 154=false∧(zeroT PG 154).isSome=true∧zOk PG 154=true∧(PG.underlying 154).isSome=true:=by and_intros<;>kernel_rfl
theorem g160:PG.underlying 160=some (.array 4 3)∧szT PG 160=4∧byT PG 160=32∧aggT PG 160=some true∧structOk PG 160=false∧(zeroT PG 160).isSome=true∧zOk PG 160=true∧(PG.underlying 160).isSome=true:=by and_intros<;>kernel_rfl
theorem g163:szT PG 163=4∧byT PG 163=72∧aggT PG 163=some true∧structOk PG 163=true∧fieldT PG 163 0=some (9,0)∧fieldT PG 163 1=some (34,1)∧fieldT PG 163 2=some (4,2)∧fieldT PG 163 3=some (34,3)∧(zeroT PG 163).isSome=true∧zOk PG 163=true∧(PG.underlying 163).isSome=true:=by and_intros<;>kernel_rfl
theorem g164:szT PG 164=4∧byT PG 164=72∧aggT PG 164=some true∧structOk PG 164=true∧fieldT PG 164 0=some (9,0)∧fieldT PG 164 1=some (34,1)∧fieldT PG 164 2=some (4,2)∧fieldT PG 164 3=some (34,3)∧(zeroT PG 164).isSome=true∧zOk PG 164=true∧(PG.underlying 164).isSome=true:=by and_intros<;>kernel_rfl
theorem g168:PG.underlying 168=some (.slice 42)∧szT PG 168=1∧byT PG 168=24∧aggT PG 168=some false∧structOk PG 168=false∧(zeroT PG 168).isSome=true∧zOk PG 168=true∧(PG.underlying 168).isSome=true∧appT PG #[168,168]=some 42:=by and_intros<;>kernel_rfl
theorem g175:PG.underlying 175=some (.array 16 164)∧szT PG 175=64∧byT PG 175=1152∧aggT PG 175=some true∧structOk PG 175=false∧(zeroT PG 175).isSome=true∧zOk PG 175=true∧(PG.underlying 175).isSome=true:=by and_intros<;>kernel_rfl
theorem g180:PG.underlying 180=some (.array 16 133)∧szT PG 180=16∧byT PG 180=128∧aggT PG 180=some true∧structOk PG 180=false∧(zeroT PG 180).isSome=true∧zOk PG 180=true∧(PG.underlying 180).isSome=true:=by and_intros<;>kernel_rfl
theorem g185:PG.underlying 185=some (.int .i64)∧szT PG 185=1∧byT PG 185=8∧aggT PG 185=some false∧structOk PG 185=false∧(zeroT PG 185).isSome=true∧zOk PG 185=true∧(PG.underlying 185).isSome=true:=by and_intros<;>kernel_rfl
theorem g193:PG.underlying 193=some (.int .u32)∧szT PG 193=1∧byT PG 193=4∧aggT PG 193=some false∧structOk PG 193=false∧(zeroT PG 193).isSome=true∧zOk PG 193=true∧(PG.underlying 193).isSome=true:=by and_intros<;>kernel_rfl
theorem g195:PG.underlying 195=some (.int .u64)∧szT PG 195=1∧byT PG 195=8∧aggT PG 195=some false∧structOk PG 195=false∧(zeroT PG 195).isSome=true∧zOk PG 195=true∧(PG.underlying 195).isSome=true:=by and_intros<;>kernel_rfl
theorem g201:PG.underlying 201=some (.int .u64)∧szT PG 201=1∧byT PG 201=8∧aggT PG 201=some false∧structOk PG 201=false∧(zeroT PG 201).isSome=true∧zOk PG 201=true∧(PG.underlying 201).isSome=true:=by and_intros<;>kernel_rfl
theorem g205:PG.underlying 205=some (.pointer 3)∧szT PG 205=1∧byT PG 205=8∧aggT PG 205=some false∧structOk PG 205=false∧(zeroT PG 205).isSome=true∧zOk PG 205=true∧(PG.underlying 205).isSome=true:=by and_intros<;>kernel_rfl
theorem g210:PG.underlying 210=some (.pointer 201)∧szT PG 210=1∧byT PG 210=8∧aggT PG 210=some false∧structOk PG 210=false∧(zeroT PG 210).isSome=true∧zOk PG 210=true∧(PG.underlying 210).isSome=true:=by and_intros<;>kernel_rfl
theorem g216:szT PG 216=4∧byT PG 216=40∧aggT PG 216=some true∧structOk PG 216=true∧fieldT PG 216 0=some (17,0)∧fieldT PG 216 1=some (17,1)∧fieldT PG 216 2=some (17,2)∧fieldT PG 216 3=some (9,3)∧(zeroT PG 216).isSome=true∧zOk PG 216=true∧(PG.underlying 216).isSome=true:=by and_intros<;>kernel_rfl
theorem g217:szT PG 217=4∧byT PG 217=40∧aggT PG 217=some true∧structOk PG 217=true∧fieldT PG 217 0=some (17,0)∧fieldT PG 217 1=some (17,1)∧fieldT PG 217 2=some (17,2)∧fieldT PG 217 3=some (9,3)∧(zeroT PG 217).isSome=true∧zOk PG 217=true∧(PG.underlying 217).isSome=true:=by and_intros<;>kernel_rfl
theorem g218:PG.underlying 218=some (.array 0 16)∧szT PG 218=0∧byT PG 218=0∧aggT PG 218=some true∧structOk PG 218=false∧(zeroT PG 218).isSome=true∧zOk PG 218=true∧(PG.underlying 218).isSome=true:=by and_intros<;>kernel_rfl
theorem g219:szT PG 219=0∧byT PG 219=0∧aggT PG 219=some true∧structOk PG 219=true∧fieldT PG 219 0=some (218,0)∧(zeroT PG 219).isSome=true∧zOk PG 219=true∧(PG.underlying 219).isSome=true:=by and_intros<;>kernel_rfl
theorem g220:szT PG 220=0∧byT PG 220=0∧aggT PG 220=some true∧structOk PG 220=true∧fieldT PG 220 0=some (218,0)∧(zeroT PG 220).isSome=true∧zOk PG 220=true∧(PG.underlying 220).isSome=true:=by and_intros<;>kernel_rfl
theorem g222:PG.underlying 222=some (.int .u8)∧szT PG 222=1∧byT PG 222=1∧aggT PG 222=some false∧structOk PG 222=false∧(zeroT PG 222).isSome=true∧zOk PG 222=true∧(PG.underlying 222).isSome=true:=by and_intros<;>kernel_rfl
theorem g223:PG.underlying 223=some (.int .u8)∧szT PG 223=1∧byT PG 223=1∧aggT PG 223=some false∧structOk PG 223=false∧(zeroT PG 223).isSome=true∧zOk PG 223=true∧(PG.underlying 223).isSome=true:=by and_intros<;>kernel_rfl
theorem g225:PG.underlying 225=some (.pointer 5)∧szT PG 225=1∧byT PG 225=8∧aggT PG 225=some false∧structOk PG 225=false∧(zeroT PG 225).isSome=true∧zOk PG 225=true∧(PG.underlying 225).isSome=true:=by and_intros<;>kernel_rfl
theorem g226:PG.underlying 226=some (.int .i32)∧szT PG 226=1∧byT PG 226=4∧aggT PG 226=some false∧structOk PG 226=false∧(zeroT PG 226).isSome=true∧zOk PG 226=true∧(PG.underlying 226).isSome=true:=by and_intros<;>kernel_rfl
theorem g227:PG.underlying 227=some (.int .i32)∧szT PG 227=1∧byT PG 227=4∧aggT PG 227=some false∧structOk PG 227=false∧(zeroT PG 227).isSome=true∧zOk PG 227=true∧(PG.underlying 227).isSome=true:=by and_intros<;>kernel_rfl
theorem g228:szT PG 228=11∧byT PG 228=48∧aggT PG 228=some true∧structOk PG 228=true∧fieldT PG 228 0=some (12,0)∧fieldT PG 228 1=some (12,1)∧fieldT PG 228 2=some (193,2)∧fieldT PG 228 3=some (222,3)∧fieldT PG 228 4=some (5,4)∧fieldT PG 228 5=some (5,5)∧fieldT PG 228 6=some (223,6)∧fieldT PG 228 7=some (224,7)∧fieldT PG 228 8=some (225,8)∧fieldT PG 228 9=some (226,9)∧fieldT PG 228 10=some (227,10)∧(zeroT PG 228).isSome=true∧zOk PG 228=true∧(PG.underlying 228).isSome=true:=by and_intros<;>kernel_rfl
theorem g229:szT PG 229=11∧byT PG 229=48∧aggT PG 229=some true∧structOk PG 229=true∧fieldT PG 229 0=some (12,0)∧fieldT PG 229 1=some (12,1)∧fieldT PG 229 2=some (193,2)∧fieldT PG 229 3=some (222,3)∧fieldT PG 229 4=some (5,4)∧fieldT PG 229 5=some (5,5)∧fieldT PG 229 6=some (223,6)∧fieldT PG 229 7=some (224,7)∧fieldT PG 229 8=some (225,8)∧fieldT PG 229 9=some (226,9)∧fieldT PG 229 10=some (227,10)∧(zeroT PG 229).isSome=true∧zOk PG 229=true∧(PG.underlying 229).isSome=true:=by and_intros<;>kernel_rfl
theorem g20:isIfT PG 20=true:=by kernel_rfl
def zerL:List (Nat×AV):=[(2,.lit (.int .i64 0)),
  (3,.lit (.int .i64 0)),
  (4,.lit (.bool false)),
  (5,.lit (.int .u8 0)),
  (6,.lit (.int .u8 0)),
  (7,.agg [.lit (.int .i64 0),.lit (.int .i64 0),.lit (.bool false),.lit (.int .u8 0)]),
  (8,.agg [.lit (.int .i64 0),.lit (.int .i64 0),.lit (.bool false),.lit (.int .u8 0)]),
  (9,.lit (.string ByteArray.empty)),
  (10,.lit (.string ByteArray.empty)),
  (11,.lit (.string ByteArray.empty)),
  (12,.lit (.int .u64 0)),
  (13,.agg [.lit (.string ByteArray.empty),.lit (.int .u64 0)]),
  (14,.agg [.lit (.string ByteArray.empty),.lit (.int .u64 0)]),
  (15,.lit (.pointer none)),
  (16,.lit (.pointer none)),
  (17,.lit (.pointer none)),
  (18,.agg [.lit (.pointer none)]),
  (19,.agg [.lit (.pointer none)]),
  (21,.lit (.int .i32 0)),
  (22,.sl true 2 []),
  (23,.lit (.int .u16 0)),
  (24,.agg [.lit (.int .u16 0),.lit (.int .u16 0),.lit (.int .u16 0)]),
  (26,.sl true 2 []),
  (27,.agg [.lit (.int .i64 0),.lit (.int .i64 0)]),
  (28,.agg [.lit (.int .i64 0),.lit (.int .i64 0)]),
  (29,.agg [.lit (.int .i64 0),.lit (.int .i64 0)]),
  (34,.sl true 1 []),
  (38,.agg [.lit (.int .u8 0),.lit (.int .u8 0)]),
  (39,.agg [.lit (.int .u8 0),.lit (.int .u8 0),.lit (.int .u8 0),.lit (.int .u8 0),.lit (.int .u8 0),.lit (.int .u8 0)]),
  (41,.sl true 6 []),
  (42,.sl true 2 []),
  (43,.sl true 3 []),
  (44,.agg [.lit (.int .i64 0),.lit (.int .i64 0),.sl true 6 [],.sl true 2 [],.sl true 2 [],.sl true 3 []]),
  (45,.agg [.lit (.int .i64 0),.lit (.int .i64 0),.sl true 6 [],.sl true 2 [],.sl true 2 [],.sl true 3 []]),
  (47,.lit (.int .i64 0)),
  (52,.agg [.lit (.int .i64 0),.lit (.int .i64 0),.lit (.int .i64 0),.lit (.int .i64 0)]),
  (53,.agg [.lit (.int .i64 0),.lit (.int .i64 0),.lit (.int .i64 0),.lit (.int .i64 0)]),
  (54,.sl true 1 []),
  (55,.agg [.sl true 1 [],.sl true 1 [],.lit (.int .i64 0),.lit (.int .i64 0),.lit (.int .i64 0),.lit (.int .i64 0),.sl true 1 [],.lit (.int .i64 0),.lit (.bool false),.sl true 1 [],.lit (.bool false),.lit (.int .i64 0)]),
  (56,.agg [.sl true 1 [],.sl true 1 [],.lit (.int .i64 0),.lit (.int .i64 0),.lit (.int .i64 0),.lit (.int .i64 0),.sl true 1 [],.lit (.int .i64 0),.lit (.bool false),.sl true 1 [],.lit (.bool false),.lit (.int .i64 0)]),
  (59,.sl true 1 []),
  (64,.sl true 1 []),
  (66,.agg [.sl true 3 [],.lit (.int .i64 0),.lit (.int .i64 0),.lit (.int .i64 0),.lit (.int .i64 0),.sl true 1 []]),
  (67,.agg [.sl true 3 [],.lit (.int .i64 0),.lit (.int .i64 0),.lit (.int .i64 0),.lit (.int .i64 0),.sl true 1 []]),
  (71,.lit (.int .i16 0)),
  (72,.agg [.lit (.int .i64 0),.lit (.string ByteArray.empty),.lit (.int .i64 0),.lit (.int .i64 0),.lit (.int .i64 0),.lit (.int .i64 0)]),
  (73,.agg [.lit (.int .i64 0),.lit (.string ByteArray.empty),.lit (.int .i64 0),.lit (.int .i64 0),.lit (.int .i64 0),.lit (.int .i64 0)]),
  (75,.agg [.sl true 3 [],.lit (.int .i64 0),.lit (.int .i64 0),.lit (.int .i64 0),.lit (.int .i64 0),.sl true 1 []]),
  (81,.lit (.map none)),
  (84,.sl true 1 []),
  (95,.agg [.lit (.string ByteArray.empty),.sl true 1 [],.sl true 1 []]),
  (96,.agg [.lit (.string ByteArray.empty),.sl true 1 [],.sl true 1 []]),
  (98,.agg [.lit (.int .i64 0),.lit (.int .i64 0)]),
  (99,.agg [.lit (.int .i64 0),.lit (.int .i64 0)]),
  (103,.lit (.pointer none)),
  (104,.lit (.map none)),
  (105,.agg [.lit (.int .i64 0),.lit (.int .i64 0),.sl true 6 [],.sl true 2 [],.sl true 2 [],.sl true 3 [],.sl true 1 [],.sl true 1 [],.lit (.map none)]),
  (106,.agg [.lit (.int .i64 0),.lit (.int .i64 0),.sl true 6 [],.sl true 2 [],.sl true 2 [],.sl true 3 [],.sl true 1 [],.sl true 1 [],.lit (.map none)]),
  (115,.lit (.pointer none)),
  (119,.agg [.lit (.int .i64 0),.lit (.int .i64 0),.sl true 6 [],.sl true 2 [],.sl true 2 [],.sl true 3 [],.sl true 1 [],.sl true 1 [],.sl true 1 [],.lit (.int .i64 0),.lit (.int .i64 0),.lit (.int .i64 0),.lit (.int .i64 0),.sl true 1 [],.lit (.int .i64 0),.lit (.int .i64 0),.lit (.int .i64 0)]),
  (120,.agg [.lit (.int .i64 0),.lit (.int .i64 0),.sl true 6 [],.sl true 2 [],.sl true 2 [],.sl true 3 [],.sl true 1 [],.sl true 1 [],.sl true 1 [],.lit (.int .i64 0),.lit (.int .i64 0),.lit (.int .i64 0),.lit (.int .i64 0),.sl true 1 [],.lit (.int .i64 0),.lit (.int .i64 0),.lit (.int .i64 0)]),
  (150,.lit (.int .u64 0)),
  (152,.agg [.lit (.string ByteArray.empty),.sl true 1 [],.lit (.string ByteArray.empty)]),
  (153,.agg [.lit (.string ByteArray.empty),.sl true 1 [],.lit (.string ByteArray.empty)]),
  (154,.agg [.lit (.string ByteArray.empty),.sl true 1 [],.lit (.string ByteArray.empty),.lit (.string ByteArray.empty),.sl true 1 [],.lit (.string ByteArray.empty),.lit (.string ByteArray.empty),.sl true 1 [],.lit (.string ByteArray.empty),.lit (.string ByteArray.empty),.sl true 1 [],.lit (.string ByteArray.empty),.lit (.string ByteArray.empty),.sl true 1 [],.lit (.string ByteArray.empty),.lit (.string ByteArray.empty),.sl true 1 [],.lit (.string ByteArray.empty),.lit (.string ByteArray.empty),.sl true 1 [],.lit (.string ByteArray.empty),.lit (.string ByteArray.empty),.sl true 1 [],.lit (.string ByteArray.empty),.lit (.string ByteArray.empty),.sl true 1 [],.lit (.string ByteArray.empty),.lit (.string ByteArray.empty),.sl true 1 [],.lit (.string ByteArray.empty),.lit (.string ByteArray.empty),.sl true 1 [],.lit (.string ByteArray.empty),.lit (.string ByteArray.empty),.sl true 1 [],.lit (.string ByteArray.empty),.lit (.string ByteArray.empty),.sl true 1 [],.lit (.string ByteArray.empty),.lit (.string ByteArray.empty),.sl true 1 [],.lit (.string ByteArray.empty),.lit (.string ByteArray.empty),.sl true 1 [],.lit (.string ByteArray.empty),.lit (.string ByteArray.empty),.sl true 1 [],.lit (.string ByteArray.empty),.lit (.string ByteArray.empty),.sl true 1 [],.lit (.string ByteArray.empty),.lit (.string ByteArray.empty),.sl true 1 [],.lit (.string ByteArray.empty),.lit (.string ByteArray.empty),.sl true 1 [],.lit (.string ByteArray.empty),.lit (.string ByteArray.empty),.sl true 1 [],.lit (.string ByteArray.empty),.lit (.string ByteArray.empty),.sl true 1 [],.lit (.string ByteArray.empty),.lit (.string ByteArray.empty),.sl true 1 [],.lit (.string ByteArray.empty)]),
  (160,.agg [.lit (.int .i64 0),.lit (.int .i64 0),.lit (.int .i64 0),.lit (.int .i64 0)]),
  (163,.agg [.lit (.string ByteArray.empty),.sl true 1 [],.lit (.bool false),.sl true 1 []]),
  (164,.agg [.lit (.string ByteArray.empty),.sl true 1 [],.lit (.bool false),.sl true 1 []]),
  (168,.sl true 1 []),
  (175,.agg [.lit (.string ByteArray.empty),.sl true 1 [],.lit (.bool false),.sl true 1 [],.lit (.string ByteArray.empty),.sl true 1 [],.lit (.bool false),.sl true 1 [],.lit (.string ByteArray.empty),.sl true 1 [],.lit (.bool false),.sl true 1 [],.lit (.string ByteArray.empty),.sl true 1 [],.lit (.bool false),.sl true 1 [],.lit (.string ByteArray.empty),.sl true 1 [],.lit (.bool false),.sl true 1 [],.lit (.string ByteArray.empty),.sl true 1 [],.lit (.bool false),.sl true 1 [],.lit (.string ByteArray.empty),.sl true 1 [],.lit (.bool false),.sl true 1 [],.lit (.string ByteArray.empty),.sl true 1 [],.lit (.bool false),.sl true 1 [],.lit (.string ByteArray.empty),.sl true 1 [],.lit (.bool false),.sl true 1 [],.lit (.string ByteArray.empty),.sl true 1 [],.lit (.bool false),.sl true 1 [],.lit (.string ByteArray.empty),.sl true 1 [],.lit (.bool false),.sl true 1 [],.lit (.string ByteArray.empty),.sl true 1 [],.lit (.bool false),.sl true 1 [],.lit (.string ByteArray.empty),.sl true 1 [],.lit (.bool false),.sl true 1 [],.lit (.string ByteArray.empty),.sl true 1 [],.lit (.bool false),.sl true 1 [],.lit (.string ByteArray.empty),.sl true 1 [],.lit (.bool false),.sl true 1 [],.lit (.string ByteArray.empty),.sl true 1 [],.lit (.bool false),.sl true 1 []]),
  (180,.agg [.lit .nilFunc,.lit .nilFunc,.lit .nilFunc,.lit .nilFunc,.lit .nilFunc,.lit .nilFunc,.lit .nilFunc,.lit .nilFunc,.lit .nilFunc,.lit .nilFunc,.lit .nilFunc,.lit .nilFunc,.lit .nilFunc,.lit .nilFunc,.lit .nilFunc,.lit .nilFunc]),
  (185,.lit (.int .i64 0)),
  (193,.lit (.int .u32 0)),
  (195,.lit (.int .u64 0)),
  (201,.lit (.int .u64 0)),
  (205,.lit (.pointer none)),
  (210,.lit (.pointer none)),
  (216,.agg [.lit (.pointer none),.lit (.pointer none),.lit (.pointer none),.lit (.string ByteArray.empty)]),
  (217,.agg [.lit (.pointer none),.lit (.pointer none),.lit (.pointer none),.lit (.string ByteArray.empty)]),
  (222,.lit (.int .u8 0)),
  (223,.lit (.int .u8 0)),
  (225,.lit (.pointer none)),
  (226,.lit (.int .i32 0)),
  (227,.lit (.int .i32 0)),
  (228,.agg [.lit (.int .u64 0),.lit (.int .u64 0),.lit (.int .u32 0),.lit (.int .u8 0),.lit (.int .u8 0),.lit (.int .u8 0),.lit (.int .u8 0),.lit .nilFunc,.lit (.pointer none),.lit (.int .i32 0),.lit (.int .i32 0)]),
  (229,.agg [.lit (.int .u64 0),.lit (.int .u64 0),.lit (.int .u32 0),.lit (.int .u8 0),.lit (.int .u8 0),.lit (.int .u8 0),.lit (.int .u8 0),.lit .nilFunc,.lit (.pointer none),.lit (.int .i32 0),.lit (.int .i32 0)])]
def zer (t:TypeId):AV:=lookZ zerL t
theorem zr2:ZerOk Try.prog (2,.lit (.int .i64 0)):=fun v h=>by
  rw [show zeroT Try.prog 2=some (.int .i64 0) from by kernel_rfl] at h;cases h;exact .lit _
theorem zv2:zer 2= .lit (.int .i64 0):=rfl
theorem zr3:ZerOk Try.prog (3,.lit (.int .i64 0)):=fun v h=>by
  rw [show zeroT Try.prog 3=some (.int .i64 0) from by kernel_rfl] at h;cases h;exact .lit _
theorem zv3:zer 3= .lit (.int .i64 0):=rfl
theorem zr4:ZerOk Try.prog (4,.lit (.bool false)):=fun v h=>by
  rw [show zeroT Try.prog 4=some (.bool false) from by kernel_rfl] at h;cases h;exact .lit _
theorem zv4:zer 4= .lit (.bool false):=rfl
theorem zr5:ZerOk Try.prog (5,.lit (.int .u8 0)):=fun v h=>by
  rw [show zeroT Try.prog 5=some (.int .u8 0) from by kernel_rfl] at h;cases h;exact .lit _
theorem zv5:zer 5= .lit (.int .u8 0):=rfl
theorem zr6:ZerOk Try.prog (6,.lit (.int .u8 0)):=fun v h=>by
  rw [show zeroT Try.prog 6=some (.int .u8 0) from by kernel_rfl] at h;cases h;exact .lit _
theorem zv6:zer 6= .lit (.int .u8 0):=rfl
theorem zr7:ZerOk Try.prog (7,.agg [.lit (.int .i64 0),.lit (.int .i64 0),.lit (.bool false),.lit (.int .u8 0)]):=fun v h=>by
  rw [show zeroT Try.prog 7=some (.agg #[(.int .i64 0),(.int .i64 0),(.bool false),(.int .u8 0)]) from by kernel_rfl] at h;cases h
  exact zr_agg _ _ (zl_cons (.lit _) rfl (zl_cons (.lit _) rfl (zl_cons (.lit _) rfl (zl_cons (.lit _) rfl (zl_nil)))))
theorem zv7:zer 7= .agg [.lit (.int .i64 0),.lit (.int .i64 0),.lit (.bool false),.lit (.int .u8 0)]:=rfl
theorem zr8:ZerOk Try.prog (8,.agg [.lit (.int .i64 0),.lit (.int .i64 0),.lit (.bool false),.lit (.int .u8 0)]):=fun v h=>by
  rw [show zeroT Try.prog 8=some (.agg #[(.int .i64 0),(.int .i64 0),(.bool false),(.int .u8 0)]) from by kernel_rfl] at h;cases h
  exact zr_agg _ _ (zl_cons (.lit _) rfl (zl_cons (.lit _) rfl (zl_cons (.lit _) rfl (zl_cons (.lit _) rfl (zl_nil)))))
theorem zv8:zer 8= .agg [.lit (.int .i64 0),.lit (.int .i64 0),.lit (.bool false),.lit (.int .u8 0)]:=rfl
theorem zr9:ZerOk Try.prog (9,.lit (.string ByteArray.empty)):=fun v h=>by
  rw [show zeroT Try.prog 9=some (.string ByteArray.empty) from by kernel_rfl] at h;cases h;exact .lit _
theorem zv9:zer 9= .lit (.string ByteArray.empty):=rfl
theorem zr10:ZerOk Try.prog (10,.lit (.string ByteArray.empty)):=fun v h=>by
  rw [show zeroT Try.prog 10=some (.string ByteArray.empty) from by kernel_rfl] at h;cases h;exact .lit _
theorem zv10:zer 10= .lit (.string ByteArray.empty):=rfl
theorem zr11:ZerOk Try.prog (11,.lit (.string ByteArray.empty)):=fun v h=>by
  rw [show zeroT Try.prog 11=some (.string ByteArray.empty) from by kernel_rfl] at h;cases h;exact .lit _
theorem zv11:zer 11= .lit (.string ByteArray.empty):=rfl
theorem zr12:ZerOk Try.prog (12,.lit (.int .u64 0)):=fun v h=>by
  rw [show zeroT Try.prog 12=some (.int .u64 0) from by kernel_rfl] at h;cases h;exact .lit _
theorem zv12:zer 12= .lit (.int .u64 0):=rfl
theorem zr13:ZerOk Try.prog (13,.agg [.lit (.string ByteArray.empty),.lit (.int .u64 0)]):=fun v h=>by
  rw [show zeroT Try.prog 13=some (.agg #[(.string ByteArray.empty),(.int .u64 0)]) from by kernel_rfl] at h;cases h
  exact zr_agg _ _ (zl_cons (.lit _) rfl (zl_cons (.lit _) rfl (zl_nil)))
theorem zv13:zer 13= .agg [.lit (.string ByteArray.empty),.lit (.int .u64 0)]:=rfl
theorem zr14:ZerOk Try.prog (14,.agg [.lit (.string ByteArray.empty),.lit (.int .u64 0)]):=fun v h=>by
  rw [show zeroT Try.prog 14=some (.agg #[(.string ByteArray.empty),(.int .u64 0)]) from by kernel_rfl] at h;cases h
  exact zr_agg _ _ (zl_cons (.lit _) rfl (zl_cons (.lit _) rfl (zl_nil)))
theorem zv14:zer 14= .agg [.lit (.string ByteArray.empty),.lit (.int .u64 0)]:=rfl
theorem zr15:ZerOk Try.prog (15,.lit (.pointer none)):=fun v h=>by
  rw [show zeroT Try.prog 15=some (.pointer none) from by kernel_rfl] at h;cases h;exact .lit _
theorem zv15:zer 15= .lit (.pointer none):=rfl
theorem zr16:ZerOk Try.prog (16,.lit (.pointer none)):=fun v h=>by
  rw [show zeroT Try.prog 16=some (.pointer none) from by kernel_rfl] at h;cases h;exact .lit _
theorem zv16:zer 16= .lit (.pointer none):=rfl
theorem zr17:ZerOk Try.prog (17,.lit (.pointer none)):=fun v h=>by
  rw [show zeroT Try.prog 17=some (.pointer none) from by kernel_rfl] at h;cases h;exact .lit _
theorem zv17:zer 17= .lit (.pointer none):=rfl
theorem zr18:ZerOk Try.prog (18,.agg [.lit (.pointer none)]):=fun v h=>by
  rw [show zeroT Try.prog 18=some (.agg #[(.pointer none)]) from by kernel_rfl] at h;cases h
  exact zr_agg _ _ (zl_cons (.lit _) rfl (zl_nil))
theorem zv18:zer 18= .agg [.lit (.pointer none)]:=rfl
theorem zr19:ZerOk Try.prog (19,.agg [.lit (.pointer none)]):=fun v h=>by
  rw [show zeroT Try.prog 19=some (.agg #[(.pointer none)]) from by kernel_rfl] at h;cases h
  exact zr_agg _ _ (zl_cons (.lit _) rfl (zl_nil))
theorem zv19:zer 19= .agg [.lit (.pointer none)]:=rfl
theorem zr21:ZerOk Try.prog (21,.lit (.int .i32 0)):=fun v h=>by
  rw [show zeroT Try.prog 21=some (.int .i32 0) from by kernel_rfl] at h;cases h;exact .lit _
theorem zv21:zer 21= .lit (.int .i32 0):=rfl
theorem zr22:ZerOk Try.prog (22,.sl true 2 []):=fun v h=>by
  rw [show zeroT Try.prog 22=some (.slice none 0 0) from by kernel_rfl] at h;cases h;exact .nil _ _ _
theorem zv22:zer 22= .sl true 2 []:=rfl
theorem zr23:ZerOk Try.prog (23,.lit (.int .u16 0)):=fun v h=>by
  rw [show zeroT Try.prog 23=some (.int .u16 0) from by kernel_rfl] at h;cases h;exact .lit _
theorem zv23:zer 23= .lit (.int .u16 0):=rfl
theorem zr24:ZerOk Try.prog (24,.agg [.lit (.int .u16 0),.lit (.int .u16 0),.lit (.int .u16 0)]):=fun v h=>by
  rw [show zeroT Try.prog 24=some (.agg #[(.int .u16 0),(.int .u16 0),(.int .u16 0)]) from by kernel_rfl] at h;cases h
  exact zr_agg _ _ (zl_cons (.lit _) rfl (zl_cons (.lit _) rfl (zl_cons (.lit _) rfl (zl_nil))))
theorem zv24:zer 24= .agg [.lit (.int .u16 0),.lit (.int .u16 0),.lit (.int .u16 0)]:=rfl
theorem zr26:ZerOk Try.prog (26,.sl true 2 []):=fun v h=>by
  rw [show zeroT Try.prog 26=some (.slice none 0 0) from by kernel_rfl] at h;cases h;exact .nil _ _ _
theorem zv26:zer 26= .sl true 2 []:=rfl
theorem zr27:ZerOk Try.prog (27,.agg [.lit (.int .i64 0),.lit (.int .i64 0)]):=fun v h=>by
  rw [show zeroT Try.prog 27=some (.agg #[(.int .i64 0),(.int .i64 0)]) from by kernel_rfl] at h;cases h
  exact zr_agg _ _ (zl_cons (.lit _) rfl (zl_cons (.lit _) rfl (zl_nil)))
theorem zv27:zer 27= .agg [.lit (.int .i64 0),.lit (.int .i64 0)]:=rfl
theorem zr28:ZerOk Try.prog (28,.agg [.lit (.int .i64 0),.lit (.int .i64 0)]):=fun v h=>by
  rw [show zeroT Try.prog 28=some (.agg #[(.int .i64 0),(.int .i64 0)]) from by kernel_rfl] at h;cases h
  exact zr_agg _ _ (zl_cons (.lit _) rfl (zl_cons (.lit _) rfl (zl_nil)))
theorem zv28:zer 28= .agg [.lit (.int .i64 0),.lit (.int .i64 0)]:=rfl
theorem zr29:ZerOk Try.prog (29,.agg [.lit (.int .i64 0),.lit (.int .i64 0)]):=fun v h=>by
  rw [show zeroT Try.prog 29=some (.agg #[(.int .i64 0),(.int .i64 0)]) from by kernel_rfl] at h;cases h
  exact zr_agg _ _ (zl_cons (.lit _) rfl (zl_cons (.lit _) rfl (zl_nil)))
theorem zv29:zer 29= .agg [.lit (.int .i64 0),.lit (.int .i64 0)]:=rfl
theorem zr34:ZerOk Try.prog (34,.sl true 1 []):=fun v h=>by
  rw [show zeroT Try.prog 34=some (.slice none 0 0) from by kernel_rfl] at h;cases h;exact .nil _ _ _
theorem zv34:zer 34= .sl true 1 []:=rfl
theorem zr38:ZerOk Try.prog (38,.agg [.lit (.int .u8 0),.lit (.int .u8 0)]):=fun v h=>by
  rw [show zeroT Try.prog 38=some (.agg #[(.int .u8 0),(.int .u8 0)]) from by kernel_rfl] at h;cases h
  exact zr_agg _ _ (zl_cons (.lit _) rfl (zl_cons (.lit _) rfl (zl_nil)))
theorem zv38:zer 38= .agg [.lit (.int .u8 0),.lit (.int .u8 0)]:=rfl
theorem zr39:ZerOk Try.prog (39,.agg [.lit (.int .u8 0),.lit (.int .u8 0),.lit (.int .u8 0),.lit (.int .u8 0),.lit (.int .u8 0),.lit (.int .u8 0)]):=fun v h=>by
  rw [show zeroT Try.prog 39=some (.agg #[(.int .u8 0),(.int .u8 0),(.int .u8 0),(.int .u8 0),(.int .u8 0),(.int .u8 0)]) from by kernel_rfl] at h;cases h
  exact zr_agg _ _ (zl_cons (.lit _) rfl (zl_cons (.lit _) rfl (zl_cons (.lit _) rfl (zl_cons (.lit _) rfl (zl_cons (.lit _) rfl (zl_cons (.lit _) rfl (zl_nil)))))))
theorem zv39:zer 39= .agg [.lit (.int .u8 0),.lit (.int .u8 0),.lit (.int .u8 0),.lit (.int .u8 0),.lit (.int .u8 0),.lit (.int .u8 0)]:=rfl
theorem zr41:ZerOk Try.prog (41,.sl true 6 []):=fun v h=>by
  rw [show zeroT Try.prog 41=some (.slice none 0 0) from by kernel_rfl] at h;cases h;exact .nil _ _ _
theorem zv41:zer 41= .sl true 6 []:=rfl
theorem zr42:ZerOk Try.prog (42,.sl true 2 []):=fun v h=>by
  rw [show zeroT Try.prog 42=some (.slice none 0 0) from by kernel_rfl] at h;cases h;exact .nil _ _ _
theorem zv42:zer 42= .sl true 2 []:=rfl
theorem zr43:ZerOk Try.prog (43,.sl true 3 []):=fun v h=>by
  rw [show zeroT Try.prog 43=some (.slice none 0 0) from by kernel_rfl] at h;cases h;exact .nil _ _ _
theorem zv43:zer 43= .sl true 3 []:=rfl
theorem zr44:ZerOk Try.prog (44,.agg [.lit (.int .i64 0),.lit (.int .i64 0),.sl true 6 [],.sl true 2 [],.sl true 2 [],.sl true 3 []]):=fun v h=>by
  rw [show zeroT Try.prog 44=some (.agg #[(.int .i64 0),(.int .i64 0),(.slice none 0 0),(.slice none 0 0),(.slice none 0 0),(.slice none 0 0)]) from by kernel_rfl] at h;cases h
  exact zr_agg _ _ (zl_cons (.lit _) rfl (zl_cons (.lit _) rfl (zl_cons (.nil _ _ _) rfl (zl_cons (.nil _ _ _) rfl (zl_cons (.nil _ _ _) rfl (zl_cons (.nil _ _ _) rfl (zl_nil)))))))
theorem zv44:zer 44= .agg [.lit (.int .i64 0),.lit (.int .i64 0),.sl true 6 [],.sl true 2 [],.sl true 2 [],.sl true 3 []]:=rfl
theorem zr45:ZerOk Try.prog (45,.agg [.lit (.int .i64 0),.lit (.int .i64 0),.sl true 6 [],.sl true 2 [],.sl true 2 [],.sl true 3 []]):=fun v h=>by
  rw [show zeroT Try.prog 45=some (.agg #[(.int .i64 0),(.int .i64 0),(.slice none 0 0),(.slice none 0 0),(.slice none 0 0),(.slice none 0 0)]) from by kernel_rfl] at h;cases h
  exact zr_agg _ _ (zl_cons (.lit _) rfl (zl_cons (.lit _) rfl (zl_cons (.nil _ _ _) rfl (zl_cons (.nil _ _ _) rfl (zl_cons (.nil _ _ _) rfl (zl_cons (.nil _ _ _) rfl (zl_nil)))))))
theorem zv45:zer 45= .agg [.lit (.int .i64 0),.lit (.int .i64 0),.sl true 6 [],.sl true 2 [],.sl true 2 [],.sl true 3 []]:=rfl
theorem zr47:ZerOk Try.prog (47,.lit (.int .i64 0)):=fun v h=>by
  rw [show zeroT Try.prog 47=some (.int .i64 0) from by kernel_rfl] at h;cases h;exact .lit _
theorem zv47:zer 47= .lit (.int .i64 0):=rfl
theorem zr52:ZerOk Try.prog (52,.agg [.lit (.int .i64 0),.lit (.int .i64 0),.lit (.int .i64 0),.lit (.int .i64 0)]):=fun v h=>by
  rw [show zeroT Try.prog 52=some (.agg #[(.int .i64 0),(.int .i64 0),(.int .i64 0),(.int .i64 0)]) from by kernel_rfl] at h;cases h
  exact zr_agg _ _ (zl_cons (.lit _) rfl (zl_cons (.lit _) rfl (zl_cons (.lit _) rfl (zl_cons (.lit _) rfl (zl_nil)))))
theorem zv52:zer 52= .agg [.lit (.int .i64 0),.lit (.int .i64 0),.lit (.int .i64 0),.lit (.int .i64 0)]:=rfl
theorem zr53:ZerOk Try.prog (53,.agg [.lit (.int .i64 0),.lit (.int .i64 0),.lit (.int .i64 0),.lit (.int .i64 0)]):=fun v h=>by
  rw [show zeroT Try.prog 53=some (.agg #[(.int .i64 0),(.int .i64 0),(.int .i64 0),(.int .i64 0)]) from by kernel_rfl] at h;cases h
  exact zr_agg _ _ (zl_cons (.lit _) rfl (zl_cons (.lit _) rfl (zl_cons (.lit _) rfl (zl_cons (.lit _) rfl (zl_nil)))))
theorem zv53:zer 53= .agg [.lit (.int .i64 0),.lit (.int .i64 0),.lit (.int .i64 0),.lit (.int .i64 0)]:=rfl
theorem zr54:ZerOk Try.prog (54,.sl true 1 []):=fun v h=>by
  rw [show zeroT Try.prog 54=some (.slice none 0 0) from by kernel_rfl] at h;cases h;exact .nil _ _ _
theorem zv54:zer 54= .sl true 1 []:=rfl
theorem zr55:ZerOk Try.prog (55,.agg [.sl true 1 [],.sl true 1 [],.lit (.int .i64 0),.lit (.int .i64 0),.lit (.int .i64 0),.lit (.int .i64 0),.sl true 1 [],.lit (.int .i64 0),.lit (.bool false),.sl true 1 [],.lit (.bool false),.lit (.int .i64 0)]):=fun v h=>by
  rw [show zeroT Try.prog 55=some (.agg #[(.slice none 0 0),(.slice none 0 0),(.int .i64 0),(.int .i64 0),(.int .i64 0),(.int .i64 0),(.slice none 0 0),(.int .i64 0),(.bool false),(.slice none 0 0),(.bool false),(.int .i64 0)]) from by kernel_rfl] at h;cases h
  exact zr_agg _ _ (zl_cons (.nil _ _ _) rfl (zl_cons (.nil _ _ _) rfl (zl_cons (.lit _) rfl (zl_cons (.lit _) rfl (zl_cons (.lit _) rfl (zl_cons (.lit _) rfl (zl_cons (.nil _ _ _) rfl (zl_cons (.lit _) rfl (zl_cons (.lit _) rfl (zl_cons (.nil _ _ _) rfl (zl_cons (.lit _) rfl (zl_cons (.lit _) rfl (zl_nil)))))))))))))
theorem zv55:zer 55= .agg [.sl true 1 [],.sl true 1 [],.lit (.int .i64 0),.lit (.int .i64 0),.lit (.int .i64 0),.lit (.int .i64 0),.sl true 1 [],.lit (.int .i64 0),.lit (.bool false),.sl true 1 [],.lit (.bool false),.lit (.int .i64 0)]:=rfl
theorem zr56:ZerOk Try.prog (56,.agg [.sl true 1 [],.sl true 1 [],.lit (.int .i64 0),.lit (.int .i64 0),.lit (.int .i64 0),.lit (.int .i64 0),.sl true 1 [],.lit (.int .i64 0),.lit (.bool false),.sl true 1 [],.lit (.bool false),.lit (.int .i64 0)]):=fun v h=>by
  rw [show zeroT Try.prog 56=some (.agg #[(.slice none 0 0),(.slice none 0 0),(.int .i64 0),(.int .i64 0),(.int .i64 0),(.int .i64 0),(.slice none 0 0),(.int .i64 0),(.bool false),(.slice none 0 0),(.bool false),(.int .i64 0)]) from by kernel_rfl] at h;cases h
  exact zr_agg _ _ (zl_cons (.nil _ _ _) rfl (zl_cons (.nil _ _ _) rfl (zl_cons (.lit _) rfl (zl_cons (.lit _) rfl (zl_cons (.lit _) rfl (zl_cons (.lit _) rfl (zl_cons (.nil _ _ _) rfl (zl_cons (.lit _) rfl (zl_cons (.lit _) rfl (zl_cons (.nil _ _ _) rfl (zl_cons (.lit _) rfl (zl_cons (.lit _) rfl (zl_nil)))))))))))))
theorem zv56:zer 56= .agg [.sl true 1 [],.sl true 1 [],.lit (.int .i64 0),.lit (.int .i64 0),.lit (.int .i64 0),.lit (.int .i64 0),.sl true 1 [],.lit (.int .i64 0),.lit (.bool false),.sl true 1 [],.lit (.bool false),.lit (.int .i64 0)]:=rfl
theorem zr59:ZerOk Try.prog (59,.sl true 1 []):=fun v h=>by
  rw [show zeroT Try.prog 59=some (.slice none 0 0) from by kernel_rfl] at h;cases h;exact .nil _ _ _
theorem zv59:zer 59= .sl true 1 []:=rfl
theorem zr64:ZerOk Try.prog (64,.sl true 1 []):=fun v h=>by
  rw [show zeroT Try.prog 64=some (.slice none 0 0) from by kernel_rfl] at h;cases h;exact .nil _ _ _
theorem zv64:zer 64= .sl true 1 []:=rfl
theorem zr66:ZerOk Try.prog (66,.agg [.sl true 3 [],.lit (.int .i64 0),.lit (.int .i64 0),.lit (.int .i64 0),.lit (.int .i64 0),.sl true 1 []]):=fun v h=>by
  rw [show zeroT Try.prog 66=some (.agg #[(.slice none 0 0),(.int .i64 0),(.int .i64 0),(.int .i64 0),(.int .i64 0),(.slice none 0 0)]) from by kernel_rfl] at h;cases h
  exact zr_agg _ _ (zl_cons (.nil _ _ _) rfl (zl_cons (.lit _) rfl (zl_cons (.lit _) rfl (zl_cons (.lit _) rfl (zl_cons (.lit _) rfl (zl_cons (.nil _ _ _) rfl (zl_nil)))))))
theorem zv66:zer 66= .agg [.sl true 3 [],.lit (.int .i64 0),.lit (.int .i64 0),.lit (.int .i64 0),.lit (.int .i64 0),.sl true 1 []]:=rfl
theorem zr67:ZerOk Try.prog (67,.agg [.sl true 3 [],.lit (.int .i64 0),.lit (.int .i64 0),.lit (.int .i64 0),.lit (.int .i64 0),.sl true 1 []]):=fun v h=>by
  rw [show zeroT Try.prog 67=some (.agg #[(.slice none 0 0),(.int .i64 0),(.int .i64 0),(.int .i64 0),(.int .i64 0),(.slice none 0 0)]) from by kernel_rfl] at h;cases h
  exact zr_agg _ _ (zl_cons (.nil _ _ _) rfl (zl_cons (.lit _) rfl (zl_cons (.lit _) rfl (zl_cons (.lit _) rfl (zl_cons (.lit _) rfl (zl_cons (.nil _ _ _) rfl (zl_nil)))))))
theorem zv67:zer 67= .agg [.sl true 3 [],.lit (.int .i64 0),.lit (.int .i64 0),.lit (.int .i64 0),.lit (.int .i64 0),.sl true 1 []]:=rfl
theorem zr71:ZerOk Try.prog (71,.lit (.int .i16 0)):=fun v h=>by
  rw [show zeroT Try.prog 71=some (.int .i16 0) from by kernel_rfl] at h;cases h;exact .lit _
theorem zv71:zer 71= .lit (.int .i16 0):=rfl
theorem zr72:ZerOk Try.prog (72,.agg [.lit (.int .i64 0),.lit (.string ByteArray.empty),.lit (.int .i64 0),.lit (.int .i64 0),.lit (.int .i64 0),.lit (.int .i64 0)]):=fun v h=>by
  rw [show zeroT Try.prog 72=some (.agg #[(.int .i64 0),(.string ByteArray.empty),(.int .i64 0),(.int .i64 0),(.int .i64 0),(.int .i64 0)]) from by kernel_rfl] at h;cases h
  exact zr_agg _ _ (zl_cons (.lit _) rfl (zl_cons (.lit _) rfl (zl_cons (.lit _) rfl (zl_cons (.lit _) rfl (zl_cons (.lit _) rfl (zl_cons (.lit _) rfl (zl_nil)))))))
theorem zv72:zer 72= .agg [.lit (.int .i64 0),.lit (.string ByteArray.empty),.lit (.int .i64 0),.lit (.int .i64 0),.lit (.int .i64 0),.lit (.int .i64 0)]:=rfl
theorem zr73:ZerOk Try.prog (73,.agg [.lit (.int .i64 0),.lit (.string ByteArray.empty),.lit (.int .i64 0),.lit (.int .i64 0),.lit (.int .i64 0),.lit (.int .i64 0)]):=fun v h=>by
  rw [show zeroT Try.prog 73=some (.agg #[(.int .i64 0),(.string ByteArray.empty),(.int .i64 0),(.int .i64 0),(.int .i64 0),(.int .i64 0)]) from by kernel_rfl] at h;cases h
  exact zr_agg _ _ (zl_cons (.lit _) rfl (zl_cons (.lit _) rfl (zl_cons (.lit _) rfl (zl_cons (.lit _) rfl (zl_cons (.lit _) rfl (zl_cons (.lit _) rfl (zl_nil)))))))
theorem zv73:zer 73= .agg [.lit (.int .i64 0),.lit (.string ByteArray.empty),.lit (.int .i64 0),.lit (.int .i64 0),.lit (.int .i64 0),.lit (.int .i64 0)]:=rfl
theorem zr75:ZerOk Try.prog (75,.agg [.sl true 3 [],.lit (.int .i64 0),.lit (.int .i64 0),.lit (.int .i64 0),.lit (.int .i64 0),.sl true 1 []]):=fun v h=>by
  rw [show zeroT Try.prog 75=some (.agg #[(.slice none 0 0),(.int .i64 0),(.int .i64 0),(.int .i64 0),(.int .i64 0),(.slice none 0 0)]) from by kernel_rfl] at h;cases h
  exact zr_agg _ _ (zl_cons (.nil _ _ _) rfl (zl_cons (.lit _) rfl (zl_cons (.lit _) rfl (zl_cons (.lit _) rfl (zl_cons (.lit _) rfl (zl_cons (.nil _ _ _) rfl (zl_nil)))))))
theorem zv75:zer 75= .agg [.sl true 3 [],.lit (.int .i64 0),.lit (.int .i64 0),.lit (.int .i64 0),.lit (.int .i64 0),.sl true 1 []]:=rfl
theorem zr81:ZerOk Try.prog (81,.lit (.map none)):=fun v h=>by
  rw [show zeroT Try.prog 81=some (.map none) from by kernel_rfl] at h;cases h;exact .lit _
theorem zv81:zer 81= .lit (.map none):=rfl
theorem zr84:ZerOk Try.prog (84,.sl true 1 []):=fun v h=>by
  rw [show zeroT Try.prog 84=some (.slice none 0 0) from by kernel_rfl] at h;cases h;exact .nil _ _ _
theorem zv84:zer 84= .sl true 1 []:=rfl
theorem zr95:ZerOk Try.prog (95,.agg [.lit (.string ByteArray.empty),.sl true 1 [],.sl true 1 []]):=fun v h=>by
  rw [show zeroT Try.prog 95=some (.agg #[(.string ByteArray.empty),(.slice none 0 0),(.slice none 0 0)]) from by kernel_rfl] at h;cases h
  exact zr_agg _ _ (zl_cons (.lit _) rfl (zl_cons (.nil _ _ _) rfl (zl_cons (.nil _ _ _) rfl (zl_nil))))
theorem zv95:zer 95= .agg [.lit (.string ByteArray.empty),.sl true 1 [],.sl true 1 []]:=rfl
theorem zr96:ZerOk Try.prog (96,.agg [.lit (.string ByteArray.empty),.sl true 1 [],.sl true 1 []]):=fun v h=>by
  rw [show zeroT Try.prog 96=some (.agg #[(.string ByteArray.empty),(.slice none 0 0),(.slice none 0 0)]) from by kernel_rfl] at h;cases h
  exact zr_agg _ _ (zl_cons (.lit _) rfl (zl_cons (.nil _ _ _) rfl (zl_cons (.nil _ _ _) rfl (zl_nil))))
theorem zv96:zer 96= .agg [.lit (.string ByteArray.empty),.sl true 1 [],.sl true 1 []]:=rfl
theorem zr98:ZerOk Try.prog (98,.agg [.lit (.int .i64 0),.lit (.int .i64 0)]):=fun v h=>by
  rw [show zeroT Try.prog 98=some (.agg #[(.int .i64 0),(.int .i64 0)]) from by kernel_rfl] at h;cases h
  exact zr_agg _ _ (zl_cons (.lit _) rfl (zl_cons (.lit _) rfl (zl_nil)))
theorem zv98:zer 98= .agg [.lit (.int .i64 0),.lit (.int .i64 0)]:=rfl
theorem zr99:ZerOk Try.prog (99,.agg [.lit (.int .i64 0),.lit (.int .i64 0)]):=fun v h=>by
  rw [show zeroT Try.prog 99=some (.agg #[(.int .i64 0),(.int .i64 0)]) from by kernel_rfl] at h;cases h
  exact zr_agg _ _ (zl_cons (.lit _) rfl (zl_cons (.lit _) rfl (zl_nil)))
theorem zv99:zer 99= .agg [.lit (.int .i64 0),.lit (.int .i64 0)]:=rfl
theorem zr103:ZerOk Try.prog (103,.lit (.pointer none)):=fun v h=>by
  rw [show zeroT Try.prog 103=some (.pointer none) from by kernel_rfl] at h;cases h;exact .lit _
theorem zv103:zer 103= .lit (.pointer none):=rfl
theorem zr104:ZerOk Try.prog (104,.lit (.map none)):=fun v h=>by
  rw [show zeroT Try.prog 104=some (.map none) from by kernel_rfl] at h;cases h;exact .lit _
theorem zv104:zer 104= .lit (.map none):=rfl
theorem zr105:ZerOk Try.prog (105,.agg [.lit (.int .i64 0),.lit (.int .i64 0),.sl true 6 [],.sl true 2 [],.sl true 2 [],.sl true 3 [],.sl true 1 [],.sl true 1 [],.lit (.map none)]):=fun v h=>by
  rw [show zeroT Try.prog 105=some (.agg #[(.int .i64 0),(.int .i64 0),(.slice none 0 0),(.slice none 0 0),(.slice none 0 0),(.slice none 0 0),(.slice none 0 0),(.slice none 0 0),(.map none)]) from by kernel_rfl] at h;cases h
  exact zr_agg _ _ (zl_cons (.lit _) rfl (zl_cons (.lit _) rfl (zl_cons (.nil _ _ _) rfl (zl_cons (.nil _ _ _) rfl (zl_cons (.nil _ _ _) rfl (zl_cons (.nil _ _ _) rfl (zl_cons (.nil _ _ _) rfl (zl_cons (.nil _ _ _) rfl (zl_cons (.lit _) rfl (zl_nil))))))))))
theorem zv105:zer 105= .agg [.lit (.int .i64 0),.lit (.int .i64 0),.sl true 6 [],.sl true 2 [],.sl true 2 [],.sl true 3 [],.sl true 1 [],.sl true 1 [],.lit (.map none)]:=rfl
theorem zr106:ZerOk Try.prog (106,.agg [.lit (.int .i64 0),.lit (.int .i64 0),.sl true 6 [],.sl true 2 [],.sl true 2 [],.sl true 3 [],.sl true 1 [],.sl true 1 [],.lit (.map none)]):=fun v h=>by
  rw [show zeroT Try.prog 106=some (.agg #[(.int .i64 0),(.int .i64 0),(.slice none 0 0),(.slice none 0 0),(.slice none 0 0),(.slice none 0 0),(.slice none 0 0),(.slice none 0 0),(.map none)]) from by kernel_rfl] at h;cases h
  exact zr_agg _ _ (zl_cons (.lit _) rfl (zl_cons (.lit _) rfl (zl_cons (.nil _ _ _) rfl (zl_cons (.nil _ _ _) rfl (zl_cons (.nil _ _ _) rfl (zl_cons (.nil _ _ _) rfl (zl_cons (.nil _ _ _) rfl (zl_cons (.nil _ _ _) rfl (zl_cons (.lit _) rfl (zl_nil))))))))))
theorem zv106:zer 106= .agg [.lit (.int .i64 0),.lit (.int .i64 0),.sl true 6 [],.sl true 2 [],.sl true 2 [],.sl true 3 [],.sl true 1 [],.sl true 1 [],.lit (.map none)]:=rfl
theorem zr115:ZerOk Try.prog (115,.lit (.pointer none)):=fun v h=>by
  rw [show zeroT Try.prog 115=some (.pointer none) from by kernel_rfl] at h;cases h;exact .lit _
theorem zv115:zer 115= .lit (.pointer none):=rfl
theorem zr119:ZerOk Try.prog (119,.agg [.lit (.int .i64 0),.lit (.int .i64 0),.sl true 6 [],.sl true 2 [],.sl true 2 [],.sl true 3 [],.sl true 1 [],.sl true 1 [],.sl true 1 [],.lit (.int .i64 0),.lit (.int .i64 0),.lit (.int .i64 0),.lit (.int .i64 0),.sl true 1 [],.lit (.int .i64 0),.lit (.int .i64 0),.lit (.int .i64 0)]):=fun v h=>by
  rw [show zeroT Try.prog 119=some (.agg #[(.int .i64 0),(.int .i64 0),(.slice none 0 0),(.slice none 0 0),(.slice none 0 0),(.slice none 0 0),(.slice none 0 0),(.slice none 0 0),(.slice none 0 0),(.int .i64 0),(.int .i64 0),(.int .i64 0),(.int .i64 0),(.slice none 0 0),(.int .i64 0),(.int .i64 0),(.int .i64 0)]) from by kernel_rfl] at h;cases h
  exact zr_agg _ _ (zl_cons (.lit _) rfl (zl_cons (.lit _) rfl (zl_cons (.nil _ _ _) rfl (zl_cons (.nil _ _ _) rfl (zl_cons (.nil _ _ _) rfl (zl_cons (.nil _ _ _) rfl (zl_cons (.nil _ _ _) rfl (zl_cons (.nil _ _ _) rfl (zl_cons (.nil _ _ _) rfl (zl_cons (.lit _) rfl (zl_cons (.lit _) rfl (zl_cons (.lit _) rfl (zl_cons (.lit _) rfl (zl_cons (.nil _ _ _) rfl (zl_cons (.lit _) rfl (zl_cons (.lit _) rfl (zl_cons (.lit _) rfl (zl_nil))))))))))))))))))
theorem zv119:zer 119= .agg [.lit (.int .i64 0),.lit (.int .i64 0),.sl true 6 [],.sl true 2 [],.sl true 2 [],.sl true 3 [],.sl true 1 [],.sl true 1 [],.sl true 1 [],.lit (.int .i64 0),.lit (.int .i64 0),.lit (.int .i64 0),.lit (.int .i64 0),.sl true 1 [],.lit (.int .i64 0),.lit (.int .i64 0),.lit (.int .i64 0)]:=rfl
theorem zr120:ZerOk Try.prog (120,.agg [.lit (.int .i64 0),.lit (.int .i64 0),.sl true 6 [],.sl true 2 [],.sl true 2 [],.sl true 3 [],.sl true 1 [],.sl true 1 [],.sl true 1 [],.lit (.int .i64 0),.lit (.int .i64 0),.lit (.int .i64 0),.lit (.int .i64 0),.sl true 1 [],.lit (.int .i64 0),.lit (.int .i64 0),.lit (.int .i64 0)]):=fun v h=>by
  rw [show zeroT Try.prog 120=some (.agg #[(.int .i64 0),(.int .i64 0),(.slice none 0 0),(.slice none 0 0),(.slice none 0 0),(.slice none 0 0),(.slice none 0 0),(.slice none 0 0),(.slice none 0 0),(.int .i64 0),(.int .i64 0),(.int .i64 0),(.int .i64 0),(.slice none 0 0),(.int .i64 0),(.int .i64 0),(.int .i64 0)]) from by kernel_rfl] at h;cases h
  exact zr_agg _ _ (zl_cons (.lit _) rfl (zl_cons (.lit _) rfl (zl_cons (.nil _ _ _) rfl (zl_cons (.nil _ _ _) rfl (zl_cons (.nil _ _ _) rfl (zl_cons (.nil _ _ _) rfl (zl_cons (.nil _ _ _) rfl (zl_cons (.nil _ _ _) rfl (zl_cons (.nil _ _ _) rfl (zl_cons (.lit _) rfl (zl_cons (.lit _) rfl (zl_cons (.lit _) rfl (zl_cons (.lit _) rfl (zl_cons (.nil _ _ _) rfl (zl_cons (.lit _) rfl (zl_cons (.lit _) rfl (zl_cons (.lit _) rfl (zl_nil))))))))))))))))))
theorem zv120:zer 120= .agg [.lit (.int .i64 0),.lit (.int .i64 0),.sl true 6 [],.sl true 2 [],.sl true 2 [],.sl true 3 [],.sl true 1 [],.sl true 1 [],.sl true 1 [],.lit (.int .i64 0),.lit (.int .i64 0),.lit (.int .i64 0),.lit (.int .i64 0),.sl true 1 [],.lit (.int .i64 0),.lit (.int .i64 0),.lit (.int .i64 0)]:=rfl
theorem zr150:ZerOk Try.prog (150,.lit (.int .u64 0)):=fun v h=>by
  rw [show zeroT Try.prog 150=some (.int .u64 0) from by kernel_rfl] at h;cases h;exact .lit _
theorem zv150:zer 150= .lit (.int .u64 0):=rfl
theorem zr152:ZerOk Try.prog (152,.agg [.lit (.string ByteArray.empty),.sl true 1 [],.lit (.string ByteArray.empty)]):=fun v h=>by
  rw [show zeroT Try.prog 152=some (.agg #[(.string ByteArray.empty),(.slice none 0 0),(.string ByteArray.empty)]) from by kernel_rfl] at h;cases h
  exact zr_agg _ _ (zl_cons (.lit _) rfl (zl_cons (.nil _ _ _) rfl (zl_cons (.lit _) rfl (zl_nil))))
theorem zv152:zer 152= .agg [.lit (.string ByteArray.empty),.sl true 1 [],.lit (.string ByteArray.empty)]:=rfl
theorem zr153:ZerOk Try.prog (153,.agg [.lit (.string ByteArray.empty),.sl true 1 [],.lit (.string ByteArray.empty)]):=fun v h=>by
  rw [show zeroT Try.prog 153=some (.agg #[(.string ByteArray.empty),(.slice none 0 0),(.string ByteArray.empty)]) from by kernel_rfl] at h;cases h
  exact zr_agg _ _ (zl_cons (.lit _) rfl (zl_cons (.nil _ _ _) rfl (zl_cons (.lit _) rfl (zl_nil))))
theorem zv153:zer 153= .agg [.lit (.string ByteArray.empty),.sl true 1 [],.lit (.string ByteArray.empty)]:=rfl
theorem zr154:ZerOk Try.prog (154,.agg [.lit (.string ByteArray.empty),.sl true 1 [],.lit (.string ByteArray.empty),.lit (.string ByteArray.empty),.sl true 1 [],.lit (.string ByteArray.empty),.lit (.string ByteArray.empty),.sl true 1 [],.lit (.string ByteArray.empty),.lit (.string ByteArray.empty),.sl true 1 [],.lit (.string ByteArray.empty),.lit (.string ByteArray.empty),.sl true 1 [],.lit (.string ByteArray.empty),.lit (.string ByteArray.empty),.sl true 1 [],.lit (.string ByteArray.empty),.lit (.string ByteArray.empty),.sl true 1 [],.lit (.string ByteArray.empty),.lit (.string ByteArray.empty),.sl true 1 [],.lit (.string ByteArray.empty),.lit (.string ByteArray.empty),.sl true 1 [],.lit (.string ByteArray.empty),.lit (.string ByteArray.empty),.sl true 1 [],.lit (.string ByteArray.empty),.lit (.string ByteArray.empty),.sl true 1 [],.lit (.string ByteArray.empty),.lit (.string ByteArray.empty),.sl true 1 [],.lit (.string ByteArray.empty),.lit (.string ByteArray.empty),.sl true 1 [],.lit (.string ByteArray.empty),.lit (.string ByteArray.empty),.sl true 1 [],.lit (.string ByteArray.empty),.lit (.string ByteArray.empty),.sl true 1 [],.lit (.string ByteArray.empty),.lit (.string ByteArray.empty),.sl true 1 [],.lit (.string ByteArray.empty),.lit (.string ByteArray.empty),.sl true 1 [],.lit (.string ByteArray.empty),.lit (.string ByteArray.empty),.sl true 1 [],.lit (.string ByteArray.empty),.lit (.string ByteArray.empty),.sl true 1 [],.lit (.string ByteArray.empty),.lit (.string ByteArray.empty),.sl true 1 [],.lit (.string ByteArray.empty),.lit (.string ByteArray.empty),.sl true 1 [],.lit (.string ByteArray.empty),.lit (.string ByteArray.empty),.sl true 1 [],.lit (.string ByteArray.empty)]):=fun v h=>by
  rw [show zeroT Try.prog 154=some (.agg #[(.string ByteArray.empty),(.slice none 0 0),(.string ByteArray.empty),(.string ByteArray.empty),(.slice none 0 0),(.string ByteArray.empty),(.string ByteArray.empty),(.slice none 0 0),(.string ByteArray.empty),(.string ByteArray.empty),(.slice none 0 0),(.string ByteArray.empty),(.string ByteArray.empty),(.slice none 0 0),(.string ByteArray.empty),(.string ByteArray.empty),(.slice none 0 0),(.string ByteArray.empty),(.string ByteArray.empty),(.slice none 0 0),(.string ByteArray.empty),(.string ByteArray.empty),(.slice none 0 0),(.string ByteArray.empty),(.string ByteArray.empty),(.slice none 0 0),(.string ByteArray.empty),(.string ByteArray.empty),(.slice none 0 0),(.string ByteArray.empty),(.string ByteArray.empty),(.slice none 0 0),(.string ByteArray.empty),(.string ByteArray.empty),(.slice none 0 0),(.string ByteArray.empty),(.string ByteArray.empty),(.slice none 0 0),(.string ByteArray.empty),(.string ByteArray.empty),(.slice none 0 0),(.string ByteArray.empty),(.string ByteArray.empty),(.slice none 0 0),(.string ByteArray.empty),(.string ByteArray.empty),(.slice none 0 0),(.string ByteArray.empty),(.string ByteArray.empty),(.slice none 0 0),(.string ByteArray.empty),(.string ByteArray.empty),(.slice none 0 0),(.string ByteArray.empty),(.string ByteArray.empty),(.slice none 0 0),(.string ByteArray.empty),(.string ByteArray.empty),(.slice none 0 0),(.string ByteArray.empty),(.string ByteArray.empty),(.slice none 0 0),(.string ByteArray.empty),(.string ByteArray.empty),(.slice none 0 0),(.string ByteArray.empty)]) from by kernel_rfl] at h;cases h
  exact zr_agg _ _ (zl_cons (.lit _) rfl (zl_cons (.nil _ _ _) rfl (zl_cons (.lit _) rfl (zl_cons (.lit _) rfl (zl_cons (.nil _ _ _) rfl (zl_cons (.lit _) rfl (zl_cons (.lit _) rfl (zl_cons (.nil _ _ _) rfl (zl_cons (.lit _) rfl (zl_cons (.lit _) rfl (zl_cons (.nil _ _ _) rfl (zl_cons (.lit _) rfl (zl_cons (.lit _) rfl (zl_cons (.nil _ _ _) rfl (zl_cons (.lit _) rfl (zl_cons (.lit _) rfl (zl_cons (.nil _ _ _) rfl (zl_cons (.lit _) rfl (zl_cons (.lit _) rfl (zl_cons (.nil _ _ _) rfl (zl_cons (.lit _) rfl (zl_cons (.lit _) rfl (zl_cons (.nil _ _ _) rfl (zl_cons (.lit _) rfl (zl_cons (.lit _) rfl (zl_cons (.nil _ _ _) rfl (zl_cons (.lit _) rfl (zl_cons (.lit _) rfl (zl_cons (.nil _ _ _) rfl (zl_cons (.lit _) rfl (zl_cons (.lit _) rfl (zl_cons (.nil _ _ _) rfl (zl_cons (.lit _) rfl (zl_cons (.lit _) rfl (zl_cons (.nil _ _ _) rfl (zl_cons (.lit _) rfl (zl_cons (.lit _) rfl (zl_cons (.nil _ _ _) rfl (zl_cons (.lit _) rfl (zl_cons (.lit _) rfl (zl_cons (.nil _ _ _) rfl (zl_cons (.lit _) rfl (zl_cons (.lit _) rfl (zl_cons (.nil _ _ _) rfl (zl_cons (.lit _) rfl (zl_cons (.lit _) rfl (zl_cons (.nil _ _ _) rfl (zl_cons (.lit _) rfl (zl_cons (.lit _) rfl (zl_cons (.nil _ _ _) rfl (zl_cons (.lit _) rfl (zl_cons (.lit _) rfl (zl_cons (.nil _ _ _) rfl (zl_cons (.lit _) rfl (zl_cons (.lit _) rfl (zl_cons (.nil _ _ _) rfl (zl_cons (.lit _) rfl (zl_cons (.lit _) rfl (zl_cons (.nil _ _ _) rfl (zl_cons (.lit _) rfl (zl_cons (.lit _) rfl (zl_cons (.nil _ _ _) rfl (zl_cons (.lit _) rfl (zl_cons (.lit _) rfl (zl_cons (.nil _ _ _) rfl (zl_cons (.lit _) rfl (zl_nil)))))))))))))))))))))))))))))))))))))))))))))))))))))))))))))))))))
theorem zv154:zer 154= .agg [.lit (.string ByteArray.empty),.sl true 1 [],.lit (.string ByteArray.empty),.lit (.string ByteArray.empty),.sl true 1 [],.lit (.string ByteArray.empty),.lit (.string ByteArray.empty),.sl true 1 [],.lit (.string ByteArray.empty),.lit (.string ByteArray.empty),.sl true 1 [],.lit (.string ByteArray.empty),.lit (.string ByteArray.empty),.sl true 1 [],.lit (.string ByteArray.empty),.lit (.string ByteArray.empty),.sl true 1 [],.lit (.string ByteArray.empty),.lit (.string ByteArray.empty),.sl true 1 [],.lit (.string ByteArray.empty),.lit (.string ByteArray.empty),.sl true 1 [],.lit (.string ByteArray.empty),.lit (.string ByteArray.empty),.sl true 1 [],.lit (.string ByteArray.empty),.lit (.string ByteArray.empty),.sl true 1 [],.lit (.string ByteArray.empty),.lit (.string ByteArray.empty),.sl true 1 [],.lit (.string ByteArray.empty),.lit (.string ByteArray.empty),.sl true 1 [],.lit (.string ByteArray.empty),.lit (.string ByteArray.empty),.sl true 1 [],.lit (.string ByteArray.empty),.lit (.string ByteArray.empty),.sl true 1 [],.lit (.string ByteArray.empty),.lit (.string ByteArray.empty),.sl true 1 [],.lit (.string ByteArray.empty),.lit (.string ByteArray.empty),.sl true 1 [],.lit (.string ByteArray.empty),.lit (.string ByteArray.empty),.sl true 1 [],.lit (.string ByteArray.empty),.lit (.string ByteArray.empty),.sl true 1 [],.lit (.string ByteArray.empty),.lit (.string ByteArray.empty),.sl true 1 [],.lit (.string ByteArray.empty),.lit (.string ByteArray.empty),.sl true 1 [],.lit (.string ByteArray.empty),.lit (.string ByteArray.empty),.sl true 1 [],.lit (.string ByteArray.empty),.lit (.string ByteArray.empty),.sl true 1 [],.lit (.string ByteArray.empty)]:=rfl
theorem zr160:ZerOk Try.prog (160,.agg [.lit (.int .i64 0),.lit (.int .i64 0),.lit (.int .i64 0),.lit (.int .i64 0)]):=fun v h=>by
  rw [show zeroT Try.prog 160=some (.agg #[(.int .i64 0),(.int .i64 0),(.int .i64 0),(.int .i64 0)]) from by kernel_rfl] at h;cases h
  exact zr_agg _ _ (zl_cons (.lit _) rfl (zl_cons (.lit _) rfl (zl_cons (.lit _) rfl (zl_cons (.lit _) rfl (zl_nil)))))
theorem zv160:zer 160= .agg [.lit (.int .i64 0),.lit (.int .i64 0),.lit (.int .i64 0),.lit (.int .i64 0)]:=rfl
theorem zr163:ZerOk Try.prog (163,.agg [.lit (.string ByteArray.empty),.sl true 1 [],.lit (.bool false),.sl true 1 []]):=fun v h=>by
  rw [show zeroT Try.prog 163=some (.agg #[(.string ByteArray.empty),(.slice none 0 0),(.bool false),(.slice none 0 0)]) from by kernel_rfl] at h;cases h
  exact zr_agg _ _ (zl_cons (.lit _) rfl (zl_cons (.nil _ _ _) rfl (zl_cons (.lit _) rfl (zl_cons (.nil _ _ _) rfl (zl_nil)))))
theorem zv163:zer 163= .agg [.lit (.string ByteArray.empty),.sl true 1 [],.lit (.bool false),.sl true 1 []]:=rfl
theorem zr164:ZerOk Try.prog (164,.agg [.lit (.string ByteArray.empty),.sl true 1 [],.lit (.bool false),.sl true 1 []]):=fun v h=>by
  rw [show zeroT Try.prog 164=some (.agg #[(.string ByteArray.empty),(.slice none 0 0),(.bool false),(.slice none 0 0)]) from by kernel_rfl] at h;cases h
  exact zr_agg _ _ (zl_cons (.lit _) rfl (zl_cons (.nil _ _ _) rfl (zl_cons (.lit _) rfl (zl_cons (.nil _ _ _) rfl (zl_nil)))))
theorem zv164:zer 164= .agg [.lit (.string ByteArray.empty),.sl true 1 [],.lit (.bool false),.sl true 1 []]:=rfl
theorem zr168:ZerOk Try.prog (168,.sl true 1 []):=fun v h=>by
  rw [show zeroT Try.prog 168=some (.slice none 0 0) from by kernel_rfl] at h;cases h;exact .nil _ _ _
theorem zv168:zer 168= .sl true 1 []:=rfl
theorem zr175:ZerOk Try.prog (175,.agg [.lit (.string ByteArray.empty),.sl true 1 [],.lit (.bool false),.sl true 1 [],.lit (.string ByteArray.empty),.sl true 1 [],.lit (.bool false),.sl true 1 [],.lit (.string ByteArray.empty),.sl true 1 [],.lit (.bool false),.sl true 1 [],.lit (.string ByteArray.empty),.sl true 1 [],.lit (.bool false),.sl true 1 [],.lit (.string ByteArray.empty),.sl true 1 [],.lit (.bool false),.sl true 1 [],.lit (.string ByteArray.empty),.sl true 1 [],.lit (.bool false),.sl true 1 [],.lit (.string ByteArray.empty),.sl true 1 [],.lit (.bool false),.sl true 1 [],.lit (.string ByteArray.empty),.sl true 1 [],.lit (.bool false),.sl true 1 [],.lit (.string ByteArray.empty),.sl true 1 [],.lit (.bool false),.sl true 1 [],.lit (.string ByteArray.empty),.sl true 1 [],.lit (.bool false),.sl true 1 [],.lit (.string ByteArray.empty),.sl true 1 [],.lit (.bool false),.sl true 1 [],.lit (.string ByteArray.empty),.sl true 1 [],.lit (.bool false),.sl true 1 [],.lit (.string ByteArray.empty),.sl true 1 [],.lit (.bool false),.sl true 1 [],.lit (.string ByteArray.empty),.sl true 1 [],.lit (.bool false),.sl true 1 [],.lit (.string ByteArray.empty),.sl true 1 [],.lit (.bool false),.sl true 1 [],.lit (.string ByteArray.empty),.sl true 1 [],.lit (.bool false),.sl true 1 []]):=fun v h=>by
  rw [show zeroT Try.prog 175=some (.agg #[(.string ByteArray.empty),(.slice none 0 0),(.bool false),(.slice none 0 0),(.string ByteArray.empty),(.slice none 0 0),(.bool false),(.slice none 0 0),(.string ByteArray.empty),(.slice none 0 0),(.bool false),(.slice none 0 0),(.string ByteArray.empty),(.slice none 0 0),(.bool false),(.slice none 0 0),(.string ByteArray.empty),(.slice none 0 0),(.bool false),(.slice none 0 0),(.string ByteArray.empty),(.slice none 0 0),(.bool false),(.slice none 0 0),(.string ByteArray.empty),(.slice none 0 0),(.bool false),(.slice none 0 0),(.string ByteArray.empty),(.slice none 0 0),(.bool false),(.slice none 0 0),(.string ByteArray.empty),(.slice none 0 0),(.bool false),(.slice none 0 0),(.string ByteArray.empty),(.slice none 0 0),(.bool false),(.slice none 0 0),(.string ByteArray.empty),(.slice none 0 0),(.bool false),(.slice none 0 0),(.string ByteArray.empty),(.slice none 0 0),(.bool false),(.slice none 0 0),(.string ByteArray.empty),(.slice none 0 0),(.bool false),(.slice none 0 0),(.string ByteArray.empty),(.slice none 0 0),(.bool false),(.slice none 0 0),(.string ByteArray.empty),(.slice none 0 0),(.bool false),(.slice none 0 0),(.string ByteArray.empty),(.slice none 0 0),(.bool false),(.slice none 0 0)]) from by kernel_rfl] at h;cases h
  exact zr_agg _ _ (zl_cons (.lit _) rfl (zl_cons (.nil _ _ _) rfl (zl_cons (.lit _) rfl (zl_cons (.nil _ _ _) rfl (zl_cons (.lit _) rfl (zl_cons (.nil _ _ _) rfl (zl_cons (.lit _) rfl (zl_cons (.nil _ _ _) rfl (zl_cons (.lit _) rfl (zl_cons (.nil _ _ _) rfl (zl_cons (.lit _) rfl (zl_cons (.nil _ _ _) rfl (zl_cons (.lit _) rfl (zl_cons (.nil _ _ _) rfl (zl_cons (.lit _) rfl (zl_cons (.nil _ _ _) rfl (zl_cons (.lit _) rfl (zl_cons (.nil _ _ _) rfl (zl_cons (.lit _) rfl (zl_cons (.nil _ _ _) rfl (zl_cons (.lit _) rfl (zl_cons (.nil _ _ _) rfl (zl_cons (.lit _) rfl (zl_cons (.nil _ _ _) rfl (zl_cons (.lit _) rfl (zl_cons (.nil _ _ _) rfl (zl_cons (.lit _) rfl (zl_cons (.nil _ _ _) rfl (zl_cons (.lit _) rfl (zl_cons (.nil _ _ _) rfl (zl_cons (.lit _) rfl (zl_cons (.nil _ _ _) rfl (zl_cons (.lit _) rfl (zl_cons (.nil _ _ _) rfl (zl_cons (.lit _) rfl (zl_cons (.nil _ _ _) rfl (zl_cons (.lit _) rfl (zl_cons (.nil _ _ _) rfl (zl_cons (.lit _) rfl (zl_cons (.nil _ _ _) rfl (zl_cons (.lit _) rfl (zl_cons (.nil _ _ _) rfl (zl_cons (.lit _) rfl (zl_cons (.nil _ _ _) rfl (zl_cons (.lit _) rfl (zl_cons (.nil _ _ _) rfl (zl_cons (.lit _) rfl (zl_cons (.nil _ _ _) rfl (zl_cons (.lit _) rfl (zl_cons (.nil _ _ _) rfl (zl_cons (.lit _) rfl (zl_cons (.nil _ _ _) rfl (zl_cons (.lit _) rfl (zl_cons (.nil _ _ _) rfl (zl_cons (.lit _) rfl (zl_cons (.nil _ _ _) rfl (zl_cons (.lit _) rfl (zl_cons (.nil _ _ _) rfl (zl_cons (.lit _) rfl (zl_cons (.nil _ _ _) rfl (zl_cons (.lit _) rfl (zl_cons (.nil _ _ _) rfl (zl_cons (.lit _) rfl (zl_cons (.nil _ _ _) rfl (zl_nil)))))))))))))))))))))))))))))))))))))))))))))))))))))))))))))))))
theorem zv175:zer 175= .agg [.lit (.string ByteArray.empty),.sl true 1 [],.lit (.bool false),.sl true 1 [],.lit (.string ByteArray.empty),.sl true 1 [],.lit (.bool false),.sl true 1 [],.lit (.string ByteArray.empty),.sl true 1 [],.lit (.bool false),.sl true 1 [],.lit (.string ByteArray.empty),.sl true 1 [],.lit (.bool false),.sl true 1 [],.lit (.string ByteArray.empty),.sl true 1 [],.lit (.bool false),.sl true 1 [],.lit (.string ByteArray.empty),.sl true 1 [],.lit (.bool false),.sl true 1 [],.lit (.string ByteArray.empty),.sl true 1 [],.lit (.bool false),.sl true 1 [],.lit (.string ByteArray.empty),.sl true 1 [],.lit (.bool false),.sl true 1 [],.lit (.string ByteArray.empty),.sl true 1 [],.lit (.bool false),.sl true 1 [],.lit (.string ByteArray.empty),.sl true 1 [],.lit (.bool false),.sl true 1 [],.lit (.string ByteArray.empty),.sl true 1 [],.lit (.bool false),.sl true 1 [],.lit (.string ByteArray.empty),.sl true 1 [],.lit (.bool false),.sl true 1 [],.lit (.string ByteArray.empty),.sl true 1 [],.lit (.bool false),.sl true 1 [],.lit (.string ByteArray.empty),.sl true 1 [],.lit (.bool false),.sl true 1 [],.lit (.string ByteArray.empty),.sl true 1 [],.lit (.bool false),.sl true 1 [],.lit (.string ByteArray.empty),.sl true 1 [],.lit (.bool false),.sl true 1 []]:=rfl
theorem zr180:ZerOk Try.prog (180,.agg [.lit .nilFunc,.lit .nilFunc,.lit .nilFunc,.lit .nilFunc,.lit .nilFunc,.lit .nilFunc,.lit .nilFunc,.lit .nilFunc,.lit .nilFunc,.lit .nilFunc,.lit .nilFunc,.lit .nilFunc,.lit .nilFunc,.lit .nilFunc,.lit .nilFunc,.lit .nilFunc]):=fun v h=>by
  rw [show zeroT Try.prog 180=some (.agg #[.nilFunc,.nilFunc,.nilFunc,.nilFunc,.nilFunc,.nilFunc,.nilFunc,.nilFunc,.nilFunc,.nilFunc,.nilFunc,.nilFunc,.nilFunc,.nilFunc,.nilFunc,.nilFunc]) from by kernel_rfl] at h;cases h
  exact zr_agg _ _ (zl_cons (.lit _) rfl (zl_cons (.lit _) rfl (zl_cons (.lit _) rfl (zl_cons (.lit _) rfl (zl_cons (.lit _) rfl (zl_cons (.lit _) rfl (zl_cons (.lit _) rfl (zl_cons (.lit _) rfl (zl_cons (.lit _) rfl (zl_cons (.lit _) rfl (zl_cons (.lit _) rfl (zl_cons (.lit _) rfl (zl_cons (.lit _) rfl (zl_cons (.lit _) rfl (zl_cons (.lit _) rfl (zl_cons (.lit _) rfl (zl_nil)))))))))))))))))
theorem zv180:zer 180= .agg [.lit .nilFunc,.lit .nilFunc,.lit .nilFunc,.lit .nilFunc,.lit .nilFunc,.lit .nilFunc,.lit .nilFunc,.lit .nilFunc,.lit .nilFunc,.lit .nilFunc,.lit .nilFunc,.lit .nilFunc,.lit .nilFunc,.lit .nilFunc,.lit .nilFunc,.lit .nilFunc]:=rfl
theorem zr185:ZerOk Try.prog (185,.lit (.int .i64 0)):=fun v h=>by
  rw [show zeroT Try.prog 185=some (.int .i64 0) from by kernel_rfl] at h;cases h;exact .lit _
theorem zv185:zer 185= .lit (.int .i64 0):=rfl
theorem zr193:ZerOk Try.prog (193,.lit (.int .u32 0)):=fun v h=>by
  rw [show zeroT Try.prog 193=some (.int .u32 0) from by kernel_rfl] at h;cases h;exact .lit _
theorem zv193:zer 193= .lit (.int .u32 0):=rfl
theorem zr195:ZerOk Try.prog (195,.lit (.int .u64 0)):=fun v h=>by
  rw [show zeroT Try.prog 195=some (.int .u64 0) from by kernel_rfl] at h;cases h;exact .lit _
theorem zv195:zer 195= .lit (.int .u64 0):=rfl
theorem zr201:ZerOk Try.prog (201,.lit (.int .u64 0)):=fun v h=>by
  rw [show zeroT Try.prog 201=some (.int .u64 0) from by kernel_rfl] at h;cases h;exact .lit _
theorem zv201:zer 201= .lit (.int .u64 0):=rfl
theorem zr205:ZerOk Try.prog (205,.lit (.pointer none)):=fun v h=>by
  rw [show zeroT Try.prog 205=some (.pointer none) from by kernel_rfl] at h;cases h;exact .lit _
theorem zv205:zer 205= .lit (.pointer none):=rfl
theorem zr210:ZerOk Try.prog (210,.lit (.pointer none)):=fun v h=>by
  rw [show zeroT Try.prog 210=some (.pointer none) from by kernel_rfl] at h;cases h;exact .lit _
theorem zv210:zer 210= .lit (.pointer none):=rfl
theorem zr216:ZerOk Try.prog (216,.agg [.lit (.pointer none),.lit (.pointer none),.lit (.pointer none),.lit (.string ByteArray.empty)]):=fun v h=>by
  rw [show zeroT Try.prog 216=some (.agg #[(.pointer none),(.pointer none),(.pointer none),(.string ByteArray.empty)]) from by kernel_rfl] at h;cases h
  exact zr_agg _ _ (zl_cons (.lit _) rfl (zl_cons (.lit _) rfl (zl_cons (.lit _) rfl (zl_cons (.lit _) rfl (zl_nil)))))
theorem zv216:zer 216= .agg [.lit (.pointer none),.lit (.pointer none),.lit (.pointer none),.lit (.string ByteArray.empty)]:=rfl
theorem zr217:ZerOk Try.prog (217,.agg [.lit (.pointer none),.lit (.pointer none),.lit (.pointer none),.lit (.string ByteArray.empty)]):=fun v h=>by
  rw [show zeroT Try.prog 217=some (.agg #[(.pointer none),(.pointer none),(.pointer none),(.string ByteArray.empty)]) from by kernel_rfl] at h;cases h
  exact zr_agg _ _ (zl_cons (.lit _) rfl (zl_cons (.lit _) rfl (zl_cons (.lit _) rfl (zl_cons (.lit _) rfl (zl_nil)))))
theorem zv217:zer 217= .agg [.lit (.pointer none),.lit (.pointer none),.lit (.pointer none),.lit (.string ByteArray.empty)]:=rfl
theorem zr222:ZerOk Try.prog (222,.lit (.int .u8 0)):=fun v h=>by
  rw [show zeroT Try.prog 222=some (.int .u8 0) from by kernel_rfl] at h;cases h;exact .lit _
theorem zv222:zer 222= .lit (.int .u8 0):=rfl
theorem zr223:ZerOk Try.prog (223,.lit (.int .u8 0)):=fun v h=>by
  rw [show zeroT Try.prog 223=some (.int .u8 0) from by kernel_rfl] at h;cases h;exact .lit _
theorem zv223:zer 223= .lit (.int .u8 0):=rfl
theorem zr225:ZerOk Try.prog (225,.lit (.pointer none)):=fun v h=>by
  rw [show zeroT Try.prog 225=some (.pointer none) from by kernel_rfl] at h;cases h;exact .lit _
theorem zv225:zer 225= .lit (.pointer none):=rfl
theorem zr226:ZerOk Try.prog (226,.lit (.int .i32 0)):=fun v h=>by
  rw [show zeroT Try.prog 226=some (.int .i32 0) from by kernel_rfl] at h;cases h;exact .lit _
theorem zv226:zer 226= .lit (.int .i32 0):=rfl
theorem zr227:ZerOk Try.prog (227,.lit (.int .i32 0)):=fun v h=>by
  rw [show zeroT Try.prog 227=some (.int .i32 0) from by kernel_rfl] at h;cases h;exact .lit _
theorem zv227:zer 227= .lit (.int .i32 0):=rfl
theorem zr228:ZerOk Try.prog (228,.agg [.lit (.int .u64 0),.lit (.int .u64 0),.lit (.int .u32 0),.lit (.int .u8 0),.lit (.int .u8 0),.lit (.int .u8 0),.lit (.int .u8 0),.lit .nilFunc,.lit (.pointer none),.lit (.int .i32 0),.lit (.int .i32 0)]):=fun v h=>by
  rw [show zeroT Try.prog 228=some (.agg #[(.int .u64 0),(.int .u64 0),(.int .u32 0),(.int .u8 0),(.int .u8 0),(.int .u8 0),(.int .u8 0),.nilFunc,(.pointer none),(.int .i32 0),(.int .i32 0)]) from by kernel_rfl] at h;cases h
  exact zr_agg _ _ (zl_cons (.lit _) rfl (zl_cons (.lit _) rfl (zl_cons (.lit _) rfl (zl_cons (.lit _) rfl (zl_cons (.lit _) rfl (zl_cons (.lit _) rfl (zl_cons (.lit _) rfl (zl_cons (.lit _) rfl (zl_cons (.lit _) rfl (zl_cons (.lit _) rfl (zl_cons (.lit _) rfl (zl_nil))))))))))))
theorem zv228:zer 228= .agg [.lit (.int .u64 0),.lit (.int .u64 0),.lit (.int .u32 0),.lit (.int .u8 0),.lit (.int .u8 0),.lit (.int .u8 0),.lit (.int .u8 0),.lit .nilFunc,.lit (.pointer none),.lit (.int .i32 0),.lit (.int .i32 0)]:=rfl
theorem zr229:ZerOk Try.prog (229,.agg [.lit (.int .u64 0),.lit (.int .u64 0),.lit (.int .u32 0),.lit (.int .u8 0),.lit (.int .u8 0),.lit (.int .u8 0),.lit (.int .u8 0),.lit .nilFunc,.lit (.pointer none),.lit (.int .i32 0),.lit (.int .i32 0)]):=fun v h=>by
  rw [show zeroT Try.prog 229=some (.agg #[(.int .u64 0),(.int .u64 0),(.int .u32 0),(.int .u8 0),(.int .u8 0),(.int .u8 0),(.int .u8 0),.nilFunc,(.pointer none),(.int .i32 0),(.int .i32 0)]) from by kernel_rfl] at h;cases h
  exact zr_agg _ _ (zl_cons (.lit _) rfl (zl_cons (.lit _) rfl (zl_cons (.lit _) rfl (zl_cons (.lit _) rfl (zl_cons (.lit _) rfl (zl_cons (.lit _) rfl (zl_cons (.lit _) rfl (zl_cons (.lit _) rfl (zl_cons (.lit _) rfl (zl_cons (.lit _) rfl (zl_cons (.lit _) rfl (zl_nil))))))))))))
theorem zv229:zer 229= .agg [.lit (.int .u64 0),.lit (.int .u64 0),.lit (.int .u32 0),.lit (.int .u8 0),.lit (.int .u8 0),.lit (.int .u8 0),.lit (.int .u8 0),.lit .nilFunc,.lit (.pointer none),.lit (.int .i32 0),.lit (.int .i32 0)]:=rfl
theorem zer_ok:∀ t v,zeroT Try.prog t=some v→RC (fun _ _=>none) (zer t) v:=zer_sound zerL (zs_cons zr2 (zs_cons zr3 (zs_cons zr4 (zs_cons zr5 (zs_cons zr6 (zs_cons zr7 (zs_cons zr8 (zs_cons zr9 (zs_cons zr10 (zs_cons zr11 (zs_cons zr12 (zs_cons zr13 (zs_cons zr14 (zs_cons zr15 (zs_cons zr16 (zs_cons zr17 (zs_cons zr18 (zs_cons zr19 (zs_cons zr21 (zs_cons zr22 (zs_cons zr23 (zs_cons zr24 (zs_cons zr26 (zs_cons zr27 (zs_cons zr28 (zs_cons zr29 (zs_cons zr34 (zs_cons zr38 (zs_cons zr39 (zs_cons zr41 (zs_cons zr42 (zs_cons zr43 (zs_cons zr44 (zs_cons zr45 (zs_cons zr47 (zs_cons zr52 (zs_cons zr53 (zs_cons zr54 (zs_cons zr55 (zs_cons zr56 (zs_cons zr59 (zs_cons zr64 (zs_cons zr66 (zs_cons zr67 (zs_cons zr71 (zs_cons zr72 (zs_cons zr73 (zs_cons zr75 (zs_cons zr81 (zs_cons zr84 (zs_cons zr95 (zs_cons zr96 (zs_cons zr98 (zs_cons zr99 (zs_cons zr103 (zs_cons zr104 (zs_cons zr105 (zs_cons zr106 (zs_cons zr115 (zs_cons zr119 (zs_cons zr120 (zs_cons zr150 (zs_cons zr152 (zs_cons zr153 (zs_cons zr154 (zs_cons zr160 (zs_cons zr163 (zs_cons zr164 (zs_cons zr168 (zs_cons zr175 (zs_cons zr180 (zs_cons zr185 (zs_cons zr193 (zs_cons zr195 (zs_cons zr201 (zs_cons zr205 (zs_cons zr210 (zs_cons zr216 (zs_cons zr217 (zs_cons zr222 (zs_cons zr223 (zs_cons zr225 (zs_cons zr226 (zs_cons zr227 (zs_cons zr228 (zs_cons zr229 (zs_nil)))))))))))))))))))))))))))))))))))))))))))))))))))))))))))))))))))))))))))))))))))))))
theorem mixed:Try.prog.follows .mixedOrders=true:=by kernel_rfl
theorem fk16:fok Try.prog 16=true:=by kernel_rfl
theorem fk21:fok Try.prog 21=true:=by kernel_rfl
theorem fk22:fok Try.prog 22=true:=by kernel_rfl
theorem fk23:fok Try.prog 23=true:=by kernel_rfl
theorem fk24:fok Try.prog 24=true:=by kernel_rfl
theorem fk25:fok Try.prog 25=true:=by kernel_rfl
theorem fk29:fok Try.prog 29=true:=by kernel_rfl
theorem fk35:fok Try.prog 35=true:=by kernel_rfl
theorem fk38:fok Try.prog 38=true:=by kernel_rfl
theorem fk40:fok Try.prog 40=true:=by kernel_rfl
theorem fk42:fok Try.prog 42=true:=by kernel_rfl
theorem fk44:fok Try.prog 44=true:=by kernel_rfl
theorem fk45:fok Try.prog 45=true:=by kernel_rfl
theorem fk51:fok Try.prog 51=true:=by kernel_rfl
theorem fk52:fok Try.prog 52=true:=by kernel_rfl
theorem fk53:fok Try.prog 53=true:=by kernel_rfl
theorem fk54:fok Try.prog 54=true:=by kernel_rfl
theorem fk55:fok Try.prog 55=true:=by kernel_rfl
theorem fk56:fok Try.prog 56=true:=by kernel_rfl
theorem fk57:fok Try.prog 57=true:=by kernel_rfl
theorem fk58:fok Try.prog 58=true:=by kernel_rfl
theorem fk59:fok Try.prog 59=true:=by kernel_rfl
theorem fk74:fok Try.prog 74=true:=by kernel_rfl
theorem fk75:fok Try.prog 75=true:=by kernel_rfl
theorem fk76:fok Try.prog 76=true:=by kernel_rfl
theorem fk77:fok Try.prog 77=true:=by kernel_rfl
theorem fk78:fok Try.prog 78=true:=by kernel_rfl
theorem fk79:fok Try.prog 79=true:=by kernel_rfl
theorem fk80:fok Try.prog 80=true:=by kernel_rfl
theorem fk81:fok Try.prog 81=true:=by kernel_rfl
theorem fk82:fok Try.prog 82=true:=by kernel_rfl
theorem fk94:fok Try.prog 94=true:=by kernel_rfl
theorem fk95:fok Try.prog 95=true:=by kernel_rfl
theorem fk96:fok Try.prog 96=true:=by kernel_rfl
theorem fk97:fok Try.prog 97=true:=by kernel_rfl
theorem fk98:fok Try.prog 98=true:=by kernel_rfl
theorem fk99:fok Try.prog 99=true:=by kernel_rfl
theorem fk100:fok Try.prog 100=true:=by kernel_rfl
theorem fk101:fok Try.prog 101=true:=by kernel_rfl
theorem fk102:fok Try.prog 102=true:=by kernel_rfl
theorem fk103:fok Try.prog 103=true:=by kernel_rfl
theorem fk104:fok Try.prog 104=true:=by kernel_rfl
theorem fk107:fok Try.prog 107=true:=by kernel_rfl
theorem fk108:fok Try.prog 108=true:=by kernel_rfl
theorem fk109:fok Try.prog 109=true:=by kernel_rfl
theorem fk110:fok Try.prog 110=true:=by kernel_rfl
theorem fk111:fok Try.prog 111=true:=by kernel_rfl
theorem fk112:fok Try.prog 112=true:=by kernel_rfl
theorem fk113:fok Try.prog 113=true:=by kernel_rfl
theorem fk114:fok Try.prog 114=true:=by kernel_rfl
theorem fk115:fok Try.prog 115=true:=by kernel_rfl
theorem fk121:fok Try.prog 121=true:=by kernel_rfl
theorem fk123:fok Try.prog 123=true:=by kernel_rfl
theorem fk124:fok Try.prog 124=true:=by kernel_rfl
theorem fk125:fok Try.prog 125=true:=by kernel_rfl
theorem fk126:fok Try.prog 126=true:=by kernel_rfl
theorem fk127:fok Try.prog 127=true:=by kernel_rfl
theorem fk128:fok Try.prog 128=true:=by kernel_rfl
theorem fk129:fok Try.prog 129=true:=by kernel_rfl
theorem fk130:fok Try.prog 130=true:=by kernel_rfl
theorem fk141:fok Try.prog 141=true:=by kernel_rfl
theorem fk145:fok Try.prog 145=true:=by kernel_rfl
theorem fk146:fok Try.prog 146=true:=by kernel_rfl
theorem fk147:fok Try.prog 147=true:=by kernel_rfl
theorem fk148:fok Try.prog 148=true:=by kernel_rfl
theorem fk149:fok Try.prog 149=true:=by kernel_rfl
theorem fk150:fok Try.prog 150=true:=by kernel_rfl
theorem fk151:fok Try.prog 151=true:=by kernel_rfl
theorem fk152:fok Try.prog 152=true:=by kernel_rfl
theorem fk153:fok Try.prog 153=true:=by kernel_rfl
theorem fk154:fok Try.prog 154=true:=by kernel_rfl
theorem fk155:fok Try.prog 155=true:=by kernel_rfl
theorem fk156:fok Try.prog 156=true:=by kernel_rfl
theorem fk157:fok Try.prog 157=true:=by kernel_rfl
theorem fk158:fok Try.prog 158=true:=by kernel_rfl
theorem fk164:fok Try.prog 164=true:=by kernel_rfl
theorem fk165:fok Try.prog 165=true:=by kernel_rfl
theorem fk166:fok Try.prog 166=true:=by kernel_rfl
theorem fk167:fok Try.prog 167=true:=by kernel_rfl
theorem fk168:fok Try.prog 168=true:=by kernel_rfl
theorem fk169:fok Try.prog 169=true:=by kernel_rfl
theorem fk170:fok Try.prog 170=true:=by kernel_rfl
theorem fk171:fok Try.prog 171=true:=by kernel_rfl
theorem fk173:fok Try.prog 173=true:=by kernel_rfl
theorem fk174:fok Try.prog 174=true:=by kernel_rfl
theorem fk175:fok Try.prog 175=true:=by kernel_rfl
theorem fk176:fok Try.prog 176=true:=by kernel_rfl
theorem fk177:fok Try.prog 177=true:=by kernel_rfl
theorem fk178:fok Try.prog 178=true:=by kernel_rfl
attribute [go_sem] sz2 u3 sz3 u5 u9 u34 u41 u42 u43 ag45 u64 sz73 ag73 sz96 ag96 sz99 ag99 zv2 zv3 zv4 zv5 zv6 zv7 zv8 zv9 zv10 zv11 zv12 zv13 zv14 zv15 zv16 zv17 zv18 zv19 zv21 zv22 zv23 zv24 zv26 zv27 zv28 zv29 zv34 zv38 zv39 zv41 zv42 zv43 zv44 zv45 zv47 zv52 zv53 zv54 zv55 zv56 zv59 zv64 zv66 zv67 zv71 zv72 zv73 zv75 zv81 zv84 zv95 zv96 zv98 zv99 zv103 zv104 zv105 zv106 zv115 zv119 zv120 zv150 zv152 zv153 zv154 zv160 zv163 zv164 zv168 zv175 zv180 zv185 zv193 zv195 zv201 zv205 zv210 zv216 zv217 zv222 zv223 zv225 zv226 zv227 zv228 zv229 g2 g3 g4 g5 g6 g7 g8 g9 g10 g11 g12 g13 g14 g15 g16 g17 g18 g19 g21 g22 g23 g24 g26 g27 g28 g29 g34 g38 g39 g41 g42 g43 g44 g45 g47 g52 g53 g54 g55 g56 g59 g64 g66 g67 g71 g72 g73 g75 g81 g84 g95 g96 g98 g99 g103 g104 g105 g106 g115 g119 g120 g150 g152 g153 g154 g160 g163 g164 g168 g175 g180 g185 g193 g195 g201 g205 g210 g216 g217 g218 g219 g220 g222 g223 g225 g226 g227 g228 g229 g20
end Go.Proofs.Ytnlimcijgpaegaa

namespace Go.Proofs.Ytnlimcijgpaegaa
def kp7 (i:Nat):List Nat:=if i<9 then if i<4 then if i<2 then if i<1 then [1,2,3] else [1,2,3,19] else if i<3 then [6] else [1,2,3,33] else if i<6 then if i<5 then [6] else [1,2,3,7,8] else if i<7 then [1,2,3,7,8,9,10] else if i<8 then [1,2,3,7,8,9,10,11] else [1,2,3,7,8,9,10,11] else if i<14 then if i<11 then if i<10 then [1,2,3,7,8,9,10,11,52,53,54] else [1,2,3,7,8,9,10,11,52,53,54,55] else if i<12 then [1,2,3,7,8,9,10,11,12,13,52,53,54] else if i<13 then [1,2,3,7,8,9,10,11,52,53,54] else [1,2,3,7,8,9,10,11,52,53,54] else if i<16 then if i<15 then [1,2,7,8,9,10,11,80] else [6] else if i<17 then [1,2,7,9,10,11,14,15] else if i<18 then [2,7,9,10,14,15,16,17] else [6]
def kp8 (i:Nat):List Nat:=if i<5 then if i<2 then if i<1 then [1,2,3] else [1,2,3,12] else if i<3 then [6] else if i<4 then [1,2,3,16] else [6] else if i<8 then if i<6 then [1,2,3,7,8] else if i<7 then [1,2,3,7,24] else [6] else if i<9 then [1,3,7] else if i<10 then [7,9,10] else [6]
def kp16 (i:Nat):List Nat:=if i<14 then if i<7 then if i<3 then if i<1 then [0] else if i<2 then [0,9] else [2,3] else if i<5 then if i<4 then [0,4] else [0,4,5] else if i<6 then [0,4,5,6] else [0,4,5,6,16] else if i<10 then if i<8 then [0,4,5,6] else if i<9 then [0,4,5,6] else [0,4,5,6,27] else if i<12 then if i<11 then [0,4,5,6,27,28] else [0,4,5,6,27,28] else if i<13 then [0,4,5,6,33] else [2,3] else if i<21 then if i<17 then if i<15 then [0,4,5,6] else if i<16 then [0,4,5,6,27,38] else [0,4,5,6,55] else if i<19 then if i<18 then [2,3] else [0,4,5,6] else if i<20 then [0,4,5,6] else [0,4,5,6,71] else if i<24 then if i<22 then [0,4,5,6,75] else if i<23 then [2,3] else [0,4,5,6] else if i<26 then if i<25 then [0,4,5,6] else [4,92] else if i<27 then [2,3] else [2,3]
def kp21 (i:Nat):List Nat:=if i<2 then if i<1 then [] else [1] else if i<3 then [1,2,3] else if i<4 then [2,3,4,5] else [0]
def kp22 (i:Nat):List Nat:=if i<3 then if i<1 then [1,2] else if i<2 then [1,2,5] else [1,2,5,9] else if i<5 then if i<4 then [1,2,5] else [1,2,5,17] else if i<6 then [4] else [4]
def kp23 (i:Nat):List Nat:=if i<3 then if i<1 then [1,2,4] else if i<2 then [4,6,7] else [4,6,7,15] else if i<4 then [4,5] else if i<5 then [4,6] else [4,5]
def kp24 (i:Nat):List Nat:=if i<2 then if i<1 then [1,2] else [6,7] else if i<3 then [6,7,15] else if i<4 then [4,5] else [4,5]
def kp25 (i:Nat):List Nat:=if i<1 then [2,3] else [4]
def kp38 (i:Nat):List Nat:=if i<3 then if i<1 then [1,2] else if i<2 then [1,2,5] else [1,2,5,10] else if i<5 then if i<4 then [1,2,5] else [1,2,5,40] else if i<6 then [4] else [4]
def kp42 (i:Nat):List Nat:=if i<7 then if i<3 then if i<1 then [1] else if i<2 then [1,39] else [2] else if i<5 then if i<4 then [1,4] else [1,53] else if i<6 then [2] else [1,59,60,61] else if i<10 then if i<8 then [1,59,60,61,62] else if i<9 then [1,5,6,59,60,61] else [1,6,7,8,59,60,61] else if i<12 then if i<11 then [1,59,60,61,96] else [2] else if i<13 then [1,59,60,61] else [2]
def kp45 (i:Nat):List Nat:=if i<13 then if i<6 then if i<3 then if i<1 then [0] else if i<2 then [0,11] else [2,3] else if i<4 then [0,4,5] else if i<5 then [0,4,5,12,13,14] else [0,4,5,12,13,14,15] else if i<9 then if i<7 then [0,4,5,6,7,12,13,14] else if i<8 then [0,4,5,6,7,12,13,14] else [0,4,5,6,7,8,12,13,14] else if i<11 then if i<10 then [0,4,5,6,7,8,12,13,14,27] else [0,4,5,6,7,8,12,13,14,27,28] else if i<12 then [0,4,5,6,7,8,12,13,14,27,28] else [0,4,5,12,13,14] else if i<20 then if i<16 then if i<14 then [0,4,5,12,13,14,37] else if i<15 then [2,3] else [0,4,5,6,7,8,12,13,14,27,38] else if i<18 then if i<17 then [0,4,5,6,7,8,12,13,14,38] else [0,4,5,6,7,8,12,13,14,58] else if i<19 then [2,3] else [0,4,5,6,7,8,12,13,14] else if i<23 then if i<21 then [0,4,5,6,7,12,13,14] else if i<22 then [0,4,5,6,12,13,14,71] else [0,4,5,12,13,14] else if i<25 then if i<24 then [0,4,5,12,13,14] else [4,79] else if i<26 then [2,3] else [2,3]
def kp51 (i:Nat):List Nat:=if i<1 then [0] else if i<2 then [0,1,2] else [0]
def kp54 (i:Nat):List Nat:=if i<8 then if i<4 then if i<2 then if i<1 then [1,2] else [1,2,25] else if i<3 then [4,5] else [1,2,6] else if i<6 then if i<5 then [1,2,8] else [2,8,42,43,44] else if i<7 then [2,8,42,43,44,45] else [2,8,9,10,42,43,44] else if i<12 then if i<10 then if i<9 then [2,8,9,10,42,43,44,49] else [4,5] else if i<11 then [2,8,9,10,42,43,44,59] else [4,5] else if i<14 then if i<13 then [2,8,9,42,43,44] else [2,8,42,43,44] else if i<15 then [2,8,42,43,44] else if i<16 then [8] else [4,5]
def kp55 (i:Nat):List Nat:=if i<1 then [0,2] else []
def kp56 (i:Nat):List Nat:=if i<8 then if i<4 then if i<2 then if i<1 then [0] else [0,3] else if i<3 then [0,3,14,15,16] else [0,3,14,15,16,17] else if i<6 then if i<5 then [0,3,4,5,14,15,16] else [0,3,5,6,14,15,16] else if i<7 then [0,3,6,7,14,15,16] else [0,3,6,7,14,15,16,56,57,58] else if i<12 then if i<10 then if i<9 then [0,3,6,7,14,15,16,56,57,58,59] else [0,3,6,7,8,9,14,15,16,56,57,58] else if i<11 then [0,3,6,7,8,14,15,16,56,57,58,69] else [0,3,6,7,14,15,16,56,57,58] else if i<14 then if i<13 then [0,3,6,7,14,15,16,56,57,58] else [0,3,14,15,16] else if i<15 then [0,3,14,15,16] else [2]
def kp57 (i:Nat):List Nat:=if i<8 then if i<4 then if i<2 then if i<1 then [0] else [0,8] else if i<3 then [2] else [0,3] else if i<6 then if i<5 then [0,3,13] else [0,3] else if i<7 then [0,3,25] else [0,3,4] else if i<12 then if i<10 then if i<9 then [0,3,4,5] else [0,3,4,5,32] else if i<11 then [0,3,4,5] else [0,3,4,5,44] else if i<14 then if i<13 then [0,3,4,5] else [0,3,4,5] else if i<15 then [0,3] else if i<16 then [2] else [2]
def kp58 (i:Nat):List Nat:=if i<4 then if i<2 then if i<1 then [0,1] else [0,1,10] else if i<3 then [4] else [0,1,5] else if i<6 then if i<5 then [0,1,5,14] else [0,1,5] else if i<7 then [0,1,5,26] else if i<8 then [4] else [4]
def kp76 (i:Nat):List Nat:=if i<3 then if i<1 then [0,1] else if i<2 then [0,1,5] else [0,1,5,9] else if i<5 then if i<4 then [0,1,5] else [0,1,5,18] else if i<6 then [4] else [4]
def kp77 (i:Nat):List Nat:=if i<12 then if i<6 then if i<3 then if i<1 then [1,2] else if i<2 then [1,2,5,6] else [1,2,5,25] else if i<4 then [4] else if i<5 then [1,2,5,7] else [1,2,5,7,8] else if i<9 then if i<7 then [1,2,5,7,8,29] else if i<8 then [1,2,5,7,8] else [1,2,5,7,8,32] else if i<10 then [1,2,5,7,8,40] else if i<11 then [4] else [1,2,5,7,8,41] else if i<18 then if i<15 then if i<13 then [1,2,5,7,8,56] else if i<14 then [4] else [2,58] else if i<16 then [2,58,59] else if i<17 then [4] else [2,58,69] else if i<21 then if i<19 then [4] else if i<20 then [2,58,79] else [4] else if i<22 then [2,89] else if i<23 then [4] else [4]
def kp78 (i:Nat):List Nat:=if i<1 then [0,1] else [4]
def kp79 (i:Nat):List Nat:=if i<1 then [1,2] else [3]
def kp80 (i:Nat):List Nat:=if i<5 then if i<2 then if i<1 then [1,2] else [1,2,5,6] else if i<3 then [1,2,5,25] else if i<4 then [4] else [1,5,27,28] else if i<8 then if i<6 then [1,5,27,28,29] else if i<7 then [1,5,7,8,27,28] else [1,5,27,28,58] else if i<9 then [4] else if i<10 then [1,5,27,28] else [4]
def kp81 (i:Nat):List Nat:=if i<8 then if i<4 then if i<2 then if i<1 then [0] else [0,3] else if i<3 then [0,3,9,10,11] else [0,3,9,10,11,12] else if i<6 then if i<5 then [0,3,5,9,10,11] else [0,3,9,10,11] else if i<7 then [0,3,9,10,11,20] else [0,3,9,10,11] else if i<12 then if i<10 then if i<9 then [0,3,9,10,11] else [0,6] else if i<11 then [6,25,26,27] else [6,25,26,27,28] else if i<14 then if i<13 then [6,8,25,26,27] else [6,25,26,27] else if i<15 then [6,25,26,27] else [2]
def kp82 (i:Nat):List Nat:=if i<1 then [1] else if i<2 then [1,4,5] else [2,3]
def kp94 (i:Nat):List Nat:=if i<1 then [0,1] else [4]
def kp95 (i:Nat):List Nat:=if i<1 then [1] else [2]
def kp98 (i:Nat):List Nat:=if i<3 then if i<1 then [1] else if i<2 then [1,2] else [1,2,3] else if i<4 then [1,2,3,4] else if i<5 then [1,3] else []
def kp99 (i:Nat):List Nat:=if i<15 then if i<7 then if i<3 then if i<1 then [0,1,2,3,8] else if i<2 then [0,1,2,3,8,9] else [0,1,2,3,8,9,10] else if i<5 then if i<4 then [0,1,2,3,8,9,10,23] else [] else if i<6 then [0,1,2,3,8,9,10,29] else [] else if i<11 then if i<9 then if i<8 then [0,1,2,3,8,9,10,35] else [0,1,2,3,8,9,10] else if i<10 then [0,1,2,3,8,9,10] else [0,1,2,3,8,9,10,11,12] else if i<13 then if i<12 then [0,1,2,3,8,9,10,11,12,50] else [0,1,2,3,8,9,10,11] else if i<14 then [0,1,2,3,8,9,10,11] else [0,1,2,3,8,9,10,11,12] else if i<23 then if i<19 then if i<17 then if i<16 then [0,1,2,3,8,9,10,11,68] else [0,1,2,3,8,9,10,11,72] else if i<18 then [0,1,2,3,8,9,10,11,87] else [0,2,3,8,9,13] else if i<21 then if i<20 then [0,1,2,3,8,9] else [0,1,2,3,10,14,15] else if i<22 then [0,1,2,3,9,10,14] else [0,1,2,3,9,10,14,16,17] else if i<27 then if i<25 then if i<24 then [0,1,2,3,9,14,16,17,18] else [0,1,2,3,9,14,16,17,18,113] else if i<26 then [0,1,2,3,8,9,14] else [0,2,3,8,9,14] else if i<29 then if i<28 then [0,1,2,3,8,9] else [0,1,2,3,8,9,14] else if i<30 then [0,1,3,8,9,14] else [0,1,2,3,8,9]
def kp101 (i:Nat):List Nat:=if i<2 then if i<1 then [0] else [0,4] else if i<3 then [2] else [2]
def kp107 (i:Nat):List Nat:=if i<14 then if i<7 then if i<3 then if i<1 then [1] else if i<2 then [1,8] else [1,8,9] else if i<5 then if i<4 then [2,3] else [1,8,11] else if i<6 then [2,3] else [1,8,13] else if i<10 then if i<8 then [1,8,13] else if i<9 then [2,3] else [1,8,16] else if i<12 then if i<11 then [4,6] else [2,3] else if i<13 then [8,31] else [8,31] else if i<21 then if i<17 then if i<15 then [8,31] else if i<16 then [2,3] else [8,35] else if i<19 then if i<18 then [8,35] else [2,3] else if i<20 then [8,38] else [2,3] else if i<24 then if i<22 then [8,40] else if i<23 then [2,3] else [8,42] else if i<26 then if i<25 then [8,42] else [42] else if i<27 then [2,3] else [2,3]
def kp108 (i:Nat):List Nat:=if i<1 then [1,2] else [2]
def kp109 (i:Nat):List Nat:=if i<4 then if i<2 then if i<1 then [0,1] else [0,1,7,8] else if i<3 then [0,1,7,8,9] else [0,1,5,7,8] else if i<6 then if i<5 then [0,1,5,7,8,16] else [4] else if i<7 then [0,1,7,8] else [4]
def kp110 (i:Nat):List Nat:=if i<6 then if i<3 then if i<1 then [1,2] else if i<2 then [1,2,16] else [2,3] else if i<4 then [1,2,4] else if i<5 then [1,2,4,24] else [2,3] else if i<9 then if i<7 then [2,4,5,7] else if i<8 then [2,4,7,34,35] else [2,4,7,34,35,36] else if i<11 then if i<10 then [2,4,7,8,34,35] else [2,4,7,34,35] else if i<12 then [2,4,7,34,35] else [2,3]
def kp111 (i:Nat):List Nat:=if i<1 then [1,2] else [2]
def kp112 (i:Nat):List Nat:=if i<5 then if i<2 then if i<1 then [0,1,2] else [1,2,7] else if i<3 then [1,2,7,8] else if i<4 then [6] else [1,7,17] else if i<8 then if i<6 then [6] else if i<7 then [1,7,25] else [6] else if i<9 then [1,33] else if i<10 then [6] else [6]
def kp115 (i:Nat):List Nat:=if i<4 then if i<2 then if i<1 then [1] else [1,3] else if i<3 then [1,3,5] else [1,5,14,15,16] else if i<6 then if i<5 then [1,5,14,15,16,17] else [1,5,7,14,15,16] else if i<7 then [1,5,14,15,16] else if i<8 then [1,5,14,15,16] else [2]
def kp121 (i:Nat):List Nat:=if i<1 then [0] else [0]
def kp123 (i:Nat):List Nat:=if i<4 then if i<2 then if i<1 then [0,1] else [0,1,7,8] else if i<3 then [0,1,7,8,9] else [0,1,5,7,8] else if i<6 then if i<5 then [0,1,5,7,8,16] else [4] else if i<7 then [0,1,7,8] else [4]
def kp125 (i:Nat):List Nat:=if i<1 then [1,2] else [2]
def kp126 (i:Nat):List Nat:=if i<4 then if i<2 then if i<1 then [0,2,3,5] else [0,2,3,5,6,7] else if i<3 then [0,2,3,5,7,8] else [0,2,3,5,7,8,35] else if i<6 then if i<5 then [0,2,3,5,7,8] else [0,2,3,5,7,8] else if i<7 then [0,2,3,5,7,8] else [0,2,3,5,7,8]
def kp127 (i:Nat):List Nat:=if i<1 then [0] else if i<2 then [0,13] else []
def kp128 (i:Nat):List Nat:=if i<9 then if i<4 then if i<2 then if i<1 then [1,2,3,4,5,8] else [1,2,3,4,5,8,22] else if i<3 then [1,2,3,4,5,8] else [1,2,3,4,5,8,9] else if i<6 then if i<5 then [1,2,3,4,5,8,9] else [1,2,3,4,5,8,9,39] else if i<7 then [1,2,3,4,5,8,9,41] else if i<8 then [1,2,3,4,5,8,48] else [1,2,3,4,5,8] else if i<14 then if i<11 then if i<10 then [1,2,3,4,5,8,9,41,52] else [1,2,3,4,5,8] else if i<12 then [1,2,3,4,5,8] else if i<13 then [1,2,3,4,5,8,9,65] else [1,2,3,4,5,8,9,10] else if i<16 then if i<15 then [1,2,3,4,5,8,9,10,11] else [1,2,3,4,5,8,10,11,89] else if i<17 then [1,2,3,4,5,11] else if i<18 then [1,2,3,4,5,11] else [1,2,3,4,5,8]
def kp129 (i:Nat):List Nat:=if i<1 then [0,1,2,10] else []
def kp130 (i:Nat):List Nat:=if i<3 then if i<1 then [0,1,2,6] else if i<2 then [0,1,2,6,12] else [0,1,2,6] else if i<5 then if i<4 then [0,1,2,6,7] else [0,1,2,6,7,30] else if i<6 then [0,1,2,6,7] else [0,1,2,6,7]
def kp146 (i:Nat):List Nat:=if i<1 then [2,3] else [4]
def kp147 (i:Nat):List Nat:=if i<1 then [1] else [2]
def kp148 (i:Nat):List Nat:=if i<2 then if i<1 then [0,3] else [0,3,5] else if i<3 then [5] else [4]
def kp149 (i:Nat):List Nat:=if i<1 then [1,2] else [3]
def kp150 (i:Nat):List Nat:=if i<1 then [1,2] else [3]
def kp151 (i:Nat):List Nat:=if i<5 then if i<2 then if i<1 then [0,3] else [0,3,5] else if i<3 then [0,3,5,11,12,13] else if i<4 then [0,3,5,11,12,13,14] else [0,3,5,7,11,12,13] else if i<8 then if i<6 then [0,3,5,11,12,13] else if i<7 then [0,3,5,11,12,13] else [0,3,8,9] else if i<9 then [0,9] else if i<10 then [9] else [4]
def kp152 (i:Nat):List Nat:=if i<3 then if i<1 then [0,3] else if i<2 then [0,3,15] else [4] else if i<4 then [0] else if i<5 then [] else [4]
def kp153 (i:Nat):List Nat:=if i<4 then if i<2 then if i<1 then [0,3] else [0,3,5] else if i<3 then [0,3,5,29] else [4] else if i<6 then if i<5 then [0,5] else [0,5] else if i<7 then [] else [4]
def kp154 (i:Nat):List Nat:=if i<2 then if i<1 then [1,2] else [1] else if i<3 then [] else [3]
def kp155 (i:Nat):List Nat:=if i<2 then if i<1 then [0,3] else [0,3,13] else if i<3 then [] else [4]
def kp156 (i:Nat):List Nat:=if i<1 then [1,2] else [3]
def kp158 (i:Nat):List Nat:=if i<1 then [1] else if i<2 then [] else [3]
def kp169 (i:Nat):List Nat:=if i<1 then [1,2,3] else if i<2 then [] else [4]
def kp171 (i:Nat):List Nat:=if i<1 then [0,1] else [4]
end Go.Proofs.Ytnlimcijgpaegaa

namespace Go.Proofs.Ytnlimcijgpaegaa
open Go Go.Fw
set_option maxRecDepth 20000
def sInt:ByteArray:=⟨#[105,110,116]⟩
def sBool:ByteArray:=⟨#[98,111,111,108]⟩
def vld (s:ByteArray) (n:Int):Bool:=if eqS s sInt=true then decide (-2147483648≤n∧n≤2147483647) else if eqS s sBool=true then decide (n=0∨n=1) else false
def badD (d:Int):Bool:=decide (d<0)||decide (d>4096)
def prodS:List Int→Int→Int×Int
  |[],n=>(n,0)
  |d::t,n=>if n*d>4096 then (0,3) else prodS t (n*d)
def sizeS (l:List Int):Int×Int:=if l.length>6 then (0,13) else if l.any badD=true then (0,2) else if l.any (fun d=>0==d)=true then (0,0) else prodS l 1
structure Arr where
  e:ByteArray
  d:List Int
  x:List Int
def arrV (a:Arr):AV:= .agg [.lit (.string a.e),.sl false 1 (ints .i64 a.d),.sl false 1 (ints .i64 a.x)]
def nilA:Arr:=⟨⟨#[]⟩,[],[]⟩
instance:Inhabited Arr:=⟨nilA⟩
def arrs (l:List Arr):List AV:=l.map arrV
def ofE (a:Arr):Int:=if (eqS a.e sInt||eqS a.e sBool)=false then 12 else if (sizeS a.d).2≠0 then (sizeS a.d).2 else if (a.x.length:Int)≠(sizeS a.d).1 then 1 else if a.x.any (fun n=> !vld a.e n)=true then 2 else 0
def ofS (a:Arr):Arr×Int:=if ofE a=0 then (a,0) else (nilA,ofE a)
theorem prodS_bd {l:List Int} {n:Int} (hl:∀ d∈l,0≤d∧d≤4096) (hn:0≤n∧n≤4096):0≤(prodS l n).1∧(prodS l n).1≤4096:=by
  induction l generalizing n with
  |nil=>exact hn
  |cons d t ih=>
   unfold prodS
   split
   ·exact ⟨by decide,by decide⟩
   ·rename_i h
    have h1:=hl d (by simp)
    exact ih (fun x hx=>hl x (by simp [hx])) ⟨Int.mul_nonneg hn.1 h1.1,by omega⟩
theorem bad_no {l:List Int} (h: ¬ l.any badD=true):∀ d∈l,0≤d∧d≤4096:=by
  intro d hd
  have: ¬ badD d=true:=fun hb=>h (List.any_eq_true.2 ⟨d,hd,hb⟩)
  unfold badD at this
  simp only [Bool.or_eq_true,decide_eq_true_eq,not_or] at this
  omega
theorem sizeS_bd (l:List Int):0≤(sizeS l).1∧(sizeS l).1≤4096:=by
  unfold sizeS
  split
  ·exact ⟨by decide,by decide⟩
  split
  ·exact ⟨by decide,by decide⟩
  split
  ·exact ⟨by decide,by decide⟩
  rename_i h _
  exact prodS_bd (bad_no h) ⟨by decide,by decide⟩
theorem arrs_length (l:List Arr):(arrs l).length=l.length:=by simp [arrs]
theorem drop_getD {α:Type} {l:List α} {i:Nat} (z:α) (h:i<l.length):l.drop i=l.getD i z::l.drop (i+1):=by
  rw [List.drop_eq_getElem_cons h];simp [List.getD,h]
end Go.Proofs.Ytnlimcijgpaegaa

namespace Go.Proofs.Ytnlimcijgpaegaa
open Go Go.Fw
set_option maxRecDepth 20000
noncomputable def E0:Env:=envOf (P:=Try.prog) zer (fun _=>false) (fun _=>false) [] []
theorem E0_ok:EnvOk Try.prog E0:=envOk zer_ok
theorem eqS_iff {a b:ByteArray}:eqS a b=true ↔ a=b:=by
  unfold eqS
  rw [beq_iff_eq]
  constructor
  ·intro h
   apply ByteArray.ext
   apply Array.ext'
   simpa using h
  ·intro h;rw [h]
theorem eqS_refl (b:ByteArray):eqS b b=true:=eqS_iff.2 rfl
theorem vld_pc {f:FuncId} {s:ByteArray} {n:Int} (hf:f=168∨f=35):PC Try.prog f [.lit (.string s),.lit (.int .i64 n)] (.lit (.bool (vld s n))):=by
  unfold vld sInt sBool
  by_cases h1:eqS s ⟨#[105,110,116]⟩=true
  ·have hs:s=⟨#[105,110,116]⟩:=eqS_iff.1 h1
   have h2:eqS s ⟨#[98,111,111,108]⟩=false:=by rw [hs];rfl
   rw [if_pos h1]
   by_cases h3:n≥ -2147483648
   ·have z3:decide (n≥ -2147483648)=true:=decide_eq_true h3
    have e:decide (-2147483648≤n∧n≤2147483647)=decide (n≤2147483647):=by simp;omega
    rw [e]
    rcases hf with rfl|rfl
    ·skip
     refine pcO E0_ok (fun _=>[0,1,4,5,6,14]) Try.func168 (h:=fun KF=>?_)
     unfold E0
     repeat' (first
      |(with_reducible first|refine nx ?_|refine t_seq fun K=>?_|refine t_br (fun hc=>?_) fun hc=>?_|refine t_bx ?_|apply And.intro|intro vr)
      |((with_reducible first|refine ny ?_|refine t_dwh (h:=fun K KL=>?_));intros;simp only [go_sem,geff,h1,h2,z3]))
     refine end_ret rfl ?_
     simp only [fin,go_sem]
     exact LeA.refl _
    ·skip
     refine pcO E0_ok (fun _=>[0,1,4,6]) Try.func35 (h:=fun KF=>?_)
     unfold E0
     repeat' (first
      |(with_reducible first|refine nx ?_|refine t_seq fun K=>?_|refine t_br (fun hc=>?_) fun hc=>?_|refine t_bx ?_|apply And.intro|intro vr)
      |((with_reducible first|refine ny ?_|refine t_dwh (h:=fun K KL=>?_));intros;simp only [go_sem,geff,h1,h2,z3]))
     refine end_ret rfl ?_
     simp only [fin,go_sem]
     exact LeA.refl _
   ·have z3:decide (n≥ -2147483648)=false:=decide_eq_false h3
    have e:decide (-2147483648≤n∧n≤2147483647)=false:=by simp;omega
    rw [e]
    rcases hf with rfl|rfl
    ·skip
     refine pcO E0_ok (fun _=>[0,1,4,5,6,14]) Try.func168 (h:=fun KF=>?_)
     unfold E0
     repeat' (first
      |(with_reducible first|refine nx ?_|refine t_seq fun K=>?_|refine t_br (fun hc=>?_) fun hc=>?_|refine t_bx ?_|apply And.intro|intro vr)
      |((with_reducible first|refine ny ?_|refine t_dwh (h:=fun K KL=>?_));intros;simp only [go_sem,geff,h1,h2,z3]))
     refine end_ret rfl ?_
     simp only [fin,go_sem]
     exact LeA.refl _
    ·skip
     refine pcO E0_ok (fun _=>[0,1,4,6]) Try.func35 (h:=fun KF=>?_)
     unfold E0
     repeat' (first
      |(with_reducible first|refine nx ?_|refine t_seq fun K=>?_|refine t_br (fun hc=>?_) fun hc=>?_|refine t_bx ?_|apply And.intro|intro vr)
      |((with_reducible first|refine ny ?_|refine t_dwh (h:=fun K KL=>?_));intros;simp only [go_sem,geff,h1,h2,z3]))
     refine end_ret rfl ?_
     simp only [fin,go_sem]
     exact LeA.refl _
  ·have h1':eqS s ⟨#[105,110,116]⟩=false:=by simpa using h1
   rw [if_neg h1]
   by_cases h2:eqS s ⟨#[98,111,111,108]⟩=true
   ·rw [if_pos h2]
    by_cases h3:n=0
    ·have z3:(n==0)=true:=by rw [beq_iff_eq];exact h3
     have e:decide (n=0∨n=1)=true:=decide_eq_true (.inl h3)
     rw [e]
     rcases hf with rfl|rfl
     ·skip
      refine pcO E0_ok (fun _=>[0,1,4,5,6,14]) Try.func168 (h:=fun KF=>?_)
      unfold E0
      repeat' (first
       |(with_reducible first|refine nx ?_|refine t_seq fun K=>?_|refine t_br (fun hc=>?_) fun hc=>?_|refine t_bx ?_|apply And.intro|intro vr)
       |((with_reducible first|refine ny ?_|refine t_dwh (h:=fun K KL=>?_));intros;simp only [go_sem,geff,h1',h2,z3]))
      refine end_ret rfl ?_
      simp only [fin,go_sem]
      exact LeA.refl _
     ·skip
      refine pcO E0_ok (fun _=>[0,1,4,6]) Try.func35 (h:=fun KF=>?_)
      unfold E0
      repeat' (first
       |(with_reducible first|refine nx ?_|refine t_seq fun K=>?_|refine t_br (fun hc=>?_) fun hc=>?_|refine t_bx ?_|apply And.intro|intro vr)
       |((with_reducible first|refine ny ?_|refine t_dwh (h:=fun K KL=>?_));intros;simp only [go_sem,geff,h1',h2,z3]))
      refine end_ret rfl ?_
      simp only [fin,go_sem]
      exact LeA.refl _
    ·have z3:(n==0)=false:=by rw [beq_eq_false_iff_ne];exact h3
     have e:decide (n=0∨n=1)=(n==1):=by
       by_cases h4:n=1
       ·subst h4;rfl
       ·rw [decide_eq_false (by omega)];symm;rw [beq_eq_false_iff_ne];exact h4
     rw [e]
     rcases hf with rfl|rfl
     ·skip
      refine pcO E0_ok (fun _=>[0,1,4,5,6,14]) Try.func168 (h:=fun KF=>?_)
      unfold E0
      repeat' (first
       |(with_reducible first|refine nx ?_|refine t_seq fun K=>?_|refine t_br (fun hc=>?_) fun hc=>?_|refine t_bx ?_|apply And.intro|intro vr)
       |((with_reducible first|refine ny ?_|refine t_dwh (h:=fun K KL=>?_));intros;simp only [go_sem,geff,h1',h2,z3]))
      refine end_ret rfl ?_
      simp only [fin,go_sem]
      exact LeA.refl _
     ·skip
      refine pcO E0_ok (fun _=>[0,1,4,6]) Try.func35 (h:=fun KF=>?_)
      unfold E0
      repeat' (first
       |(with_reducible first|refine nx ?_|refine t_seq fun K=>?_|refine t_br (fun hc=>?_) fun hc=>?_|refine t_bx ?_|apply And.intro|intro vr)
       |((with_reducible first|refine ny ?_|refine t_dwh (h:=fun K KL=>?_));intros;simp only [go_sem,geff,h1',h2,z3]))
      refine end_ret rfl ?_
      simp only [fin,go_sem]
      exact LeA.refl _
   ·have h2':eqS s ⟨#[98,111,111,108]⟩=false:=by simpa using h2
    rw [if_neg h2]
    rcases hf with rfl|rfl
    ·skip
     refine pcO E0_ok (fun _=>[0,1,4,5,6,14]) Try.func168 (h:=fun KF=>?_)
     unfold E0
     repeat' (first
      |(with_reducible first|refine nx ?_|refine t_seq fun K=>?_|refine t_br (fun hc=>?_) fun hc=>?_|refine t_bx ?_|apply And.intro|intro vr)
      |((with_reducible first|refine ny ?_|refine t_dwh (h:=fun K KL=>?_));intros;simp only [go_sem,geff,h1',h2']))
     refine end_ret rfl ?_
     simp only [fin,go_sem]
     exact LeA.refl _
    ·skip
     refine pcO E0_ok (fun _=>[0,1,4,6]) Try.func35 (h:=fun KF=>?_)
     unfold E0
     repeat' (first
      |(with_reducible first|refine nx ?_|refine t_seq fun K=>?_|refine t_br (fun hc=>?_) fun hc=>?_|refine t_bx ?_|apply And.intro|intro vr)
      |((with_reducible first|refine ny ?_|refine t_dwh (h:=fun K KL=>?_));intros;simp only [go_sem,geff,h1',h2']))
     refine end_ret rfl ?_
     simp only [fin,go_sem]
     exact LeA.refl _
noncomputable def con168:PCon Try.prog where
  f:=168
  c:=fun
   |[.lit (.string s),.lit (.int .i64 n)]=>some (True,.lit (.bool (vld s n)))
   |_=>none
  ok:=by
   intro args p r hc hp
   split at hc
   ·cases hc;exact (vld_pc (.inl rfl))
   ·cases hc
  fk:=fk168
theorem con168_f:con168.f=168:=rfl
theorem con168_c {s:ByteArray} {n:Int}:con168.c [.lit (.string s),.lit (.int .i64 n)]=some (True,.lit (.bool (vld s n))):=rfl
def idxG (p:Int→Bool):List Int→Int→Int
  |[],_=> -1
  |d::t,i=>if p d=true then i else idxG p t (i+1)
theorem idxG_any (p:Int→Bool):∀ (l:List Int) (i:Int),0≤i→decide (idxG p l i≥0)=l.any p
  |[],_,_=>rfl
  |d::t,i,hi=>by
   unfold idxG
   by_cases h:p d=true
   ·rw [if_pos h,List.any_cons,h,decide_eq_true hi];rfl
   ·rw [if_neg h,idxG_any p t (i+1) (by omega),List.any_cons]
    simp only [Bool.not_eq_true] at h
    rw [h];rfl
theorem index_pc {l:List Int} {v:Int} (hl:l.length≤1000000):PC Try.prog 165 [.sl false 1 (ints .i64 l),.lit (.int .i64 v)] (.lit (.int .i64 (idxG (fun d=>v==d) l 0))):=by
  generalize hR:idxG (fun d=>v==d) l 0=R
  refine pcO E0_ok (fun _=>[0,1,4,5,7,8,9,16]) Try.func165 (h:=fun KF=>?_)
  unfold E0
  repeat' (first
   |(with_reducible first|refine nx ?_|refine t_seq fun K=>?_|refine t_br (fun hc=>?_) fun hc=>?_|refine t_bx ?_|apply And.intro|intro vr)
   |((with_reducible first|refine ny ?_|refine t_dwh (h:=fun K KL=>?_));intros;simp only [go_sem,geff]))
  refine t_loop (ι:={i:Nat // i≤l.length∧idxG (fun d=>v==d) (l.drop i) i=R}) (fun i=>⟨upd (upd (upd (upd topF 8 (.lit (.int .i64 i.1))) 7 (.lit (.int .i64 l.length))) 1 (.lit (.int .i64 v))) 0 (.sl false 1 (ints .i64 l)),[]⟩) (fun i=>l.length - i.1) ⟨0,by omega,hR⟩ ?_ ?_
  ·skip
   (refine Le.frame ?_;repeat' (first|exact leF_top _|(with_reducible refine leF_sl ?_ ?_)|(refine leF_upd (LeR.of_eq ?_) ?_)))<;>(try (simp only [go_sem];try rfl))
  ·rintro ⟨i,hi,hF⟩ K0
   rcases Nat.lt_or_ge i l.length with hc|hc
   ·have g1:decide ((i:Int)<(l.length:Int))=true:=decide_eq_true (by omega)
    have g2:=ints_getD .i64 l i hc
    rw [drop_getD 0 hc,idxG] at hF
    generalize l.getD i 0=d at g2 hF
    by_cases he:(v==d)=true
    ·rw [if_pos he] at hF
     subst hF
     repeat' (first
      |(with_reducible first|refine nx ?_|refine t_seq fun K=>?_|refine t_br (fun hc=>?_) fun hc=>?_|refine t_bx ?_|apply And.intro|intro vr)
      |((with_reducible first|refine ny ?_|refine t_dwh (h:=fun K KL=>?_));intros;simp only [go_sem,geff,g1,g2,he,Int.toNat_natCast]))
     all_goals try exact om
     refine end_ret rfl ?_
     simp only [fin,go_sem]
     exact LeA.refl _
    ·rw [if_neg he] at hF
     have he':(v==d)=false:=by simpa using he
     repeat' (first
      |(with_reducible first|refine nx ?_|refine t_seq fun K=>?_|refine t_br (fun hc=>?_) fun hc=>?_|refine t_bx ?_|apply And.intro|intro vr)
      |((with_reducible first|refine ny ?_|refine t_dwh (h:=fun K KL=>?_));intros;simp only [go_sem,geff,g1,g2,he',Int.toNat_natCast]))
     all_goals try exact om
     refine ⟨⟨i+1,by omega,by rw [←hF];congr 1⟩,by simp only;omega,?_⟩
     (refine Le.frame ?_;repeat' (first|exact leF_top _|(with_reducible refine leF_sl ?_ ?_)|(refine leF_upd (LeR.of_eq ?_) ?_)))<;>(try (simp only [go_sem];try rfl))
   ·have g1:decide ((i:Int)<(l.length:Int))=false:=decide_eq_false (by omega)
    rw [List.drop_eq_nil_of_le hc,idxG] at hF
    subst hF
    repeat' (first
     |(with_reducible first|refine nx ?_|refine t_seq fun K=>?_|refine t_br (fun hc=>?_) fun hc=>?_|refine t_bx ?_|apply And.intro|intro vr)
     |((with_reducible first|refine ny ?_|refine t_dwh (h:=fun K KL=>?_));intros;simp only [go_sem,geff,g1]))
    refine end_ret rfl ?_
    simp only [fin,go_sem]
    exact LeA.refl _
noncomputable def con165:PCon Try.prog where
  f:=165
  c:=fun
   |[xl,.lit (.int .i64 v)]=>match slK .i64 xl with|some l=>some (l.length≤1000000,.lit (.int .i64 (idxG (fun d=>v==d) l 0)))|_=>none
   |_=>none
  ok:=by
   intro args p r hc hp
   split at hc
   ·split at hc
    ·rename_i hl
     cases hc
     exact PC.weak (index_pc hp) ⟨slK_le hl,LeA.refl _,trivial⟩
    ·cases hc
   ·cases hc
  fk:=fk165
theorem con165_f:con165.f=165:=rfl
theorem con165_c {xl:AV} {v:Int}:con165.c [xl,.lit (.int .i64 v)]=match slK .i64 xl with|some l=>some (l.length≤1000000,.lit (.int .i64 (idxG (fun d=>v==d) l 0)))|_=>none:=rfl
noncomputable def E1:Env:=envOf (P:=Try.prog) zer (fun _=>false) (fun _=>false) [con165] []
theorem E1_ok:EnvOk Try.prog E1:=envOk zer_ok
theorem contains_pc {l:List Int} {v:Int} (hl:l.length≤1000000):PC Try.prog 141 [.sl false 1 (ints .i64 l),.lit (.int .i64 v)] (.lit (.bool (l.any fun d=>v==d))):=by
  have h:=idxG_any (fun d=>v==d) l 0 (by omega)
  refine pcO E1_ok (fun _=>[0,1,4]) Try.func141 (h:=fun KF=>?_)
  unfold E1
  repeat' (first
   |(with_reducible first|refine nx ?_|refine t_seq fun K=>?_|refine t_br (fun hc=>?_) fun hc=>?_|refine t_bx ?_|apply And.intro|intro vr)
   |((with_reducible first|refine ny ?_|refine t_dwh (h:=fun K KL=>?_));intros;simp only [go_sem,geff,con165_f,con165_c,slK_sl,h]))
  all_goals try exact om
  refine end_ret rfl ?_
  simp only [fin,go_sem]
  exact LeA.refl _
noncomputable def con141:PCon Try.prog where
  f:=141
  c:=fun
   |[xl,.lit (.int .i64 v)]=>match slK .i64 xl with|some l=>some (l.length≤1000000,.lit (.bool (l.any fun d=>v==d)))|_=>none
   |_=>none
  ok:=by
   intro args p r hc hp
   split at hc
   ·split at hc
    ·rename_i hl
     cases hc
     exact PC.weak (contains_pc hp) ⟨slK_le hl,LeA.refl _,trivial⟩
    ·cases hc
   ·cases hc
  fk:=fk141
theorem con141_f:con141.f=141:=rfl
theorem con141_c {xl:AV} {v:Int}:con141.c [xl,.lit (.int .i64 v)]=match slK .i64 xl with|some l=>some (l.length≤1000000,.lit (.bool (l.any fun d=>v==d)))|_=>none:=rfl
theorem clone_pc {l:List Int} (hl:l.length≤1000000):PC Try.prog 101 [.sl false 1 (ints .i64 l)] (.sl false 1 (ints .i64 l)):=by
  refine pcO E0_ok (fun _=>[0,2,4]) Try.func101 (h:=fun KF=>?_)
  unfold E0
  repeat' (first
   |(with_reducible first|refine nx ?_|refine t_seq fun K=>?_|refine t_br (fun hc=>?_) fun hc=>?_|refine t_bx ?_|apply And.intro|intro vr)
   |((with_reducible first|refine ny ?_|refine t_dwh (h:=fun K KL=>?_));intros;simp only [go_sem,geff]))
  all_goals try exact om
  ·skip
   refine end_ret rfl ?_
   simp only [fin,go_sem]
   rw [show ints .i64 l=[] from by assumption]
   exact LeA.nil false 1
  ·skip
   refine end_ret rfl ?_
   simp only [fin,go_sem]
   exact LeA.refl _
noncomputable def con101:PCon Try.prog where
  f:=101
  c:=fun
   |[xl]=>match slK .i64 xl with|some l=>some (l.length≤1000000,.sl false 1 (ints .i64 l))|_=>none
   |_=>none
  ok:=by
   intro args p r hc hp
   split at hc
   ·split at hc
    ·rename_i hl
     cases hc
     exact PC.weak (clone_pc hp) ⟨slK_le hl,trivial⟩
    ·cases hc
   ·cases hc
  fk:=fk101
theorem con101_f:con101.f=101:=rfl
theorem con101_c {xl:AV}:con101.c [xl]=match slK .i64 xl with|some l=>some (l.length≤1000000,.sl false 1 (ints .i64 l))|_=>none:=rfl
theorem drop_ne {l m:List Int} {i:Nat} (hl:i<l.length) (hm:i<m.length) (h:(l.getD i 0 !=m.getD i 0)=true):decide (l.drop i=m.drop i)=false:=by
  rw [drop_getD 0 hl,drop_getD 0 hm]
  rw [bne_iff_ne] at h
  exact decide_eq_false fun e=>h (List.cons.inj e).1
theorem drop_eq {l m:List Int} {i:Nat} (hl:i<l.length) (hm:i<m.length) (h:(l.getD i 0 !=m.getD i 0)=false):decide (l.drop i=m.drop i)=decide (l.drop (i+1)=m.drop (i+1)):=by
  rw [drop_getD 0 hl,drop_getD 0 hm]
  rw [bne_eq_false_iff_eq] at h
  rw [h]
  simp
theorem equal_pc {l m:List Int} (hl:l.length≤1000000):PC Try.prog 97 [.sl false 1 (ints .i64 l),.sl false 1 (ints .i64 m)] (.lit (.bool (decide (l=m)))):=by
  by_cases hn:l.length=m.length
  ·have g0:((l.length:Int) !=(m.length:Int))=false:=by rw [bne_eq_false_iff_eq];omega
   generalize hR:decide (l=m)=R
   refine pcO E0_ok (fun _=>[0,1,4,5,10,12,13,14,24]) Try.func97 (h:=fun KF=>?_)
   unfold E0
   repeat' (first
    |(with_reducible first|refine nx ?_|refine t_seq fun K=>?_|refine t_br (fun hc=>?_) fun hc=>?_|refine t_bx ?_|apply And.intro|intro vr)
    |((with_reducible first|refine ny ?_|refine t_dwh (h:=fun K KL=>?_));intros;simp only [go_sem,geff,g0]))
   refine t_loop (ι:={i:Nat // i≤l.length∧decide (l.drop i=m.drop i)=R}) (fun i=>⟨upd (upd (upd (upd topF 1 (.sl false 1 (ints .i64 m))) 0 (.sl false 1 (ints .i64 l))) 13 (.lit (.int .i64 i.1))) 12 (.lit (.int .i64 l.length)),[]⟩) (fun i=>l.length - i.1) ⟨0,by omega,hR⟩ ?_ ?_
   ·skip
    (refine Le.frame ?_;repeat' (first|exact leF_top _|(with_reducible refine leF_sl ?_ ?_)|(refine leF_upd (LeR.of_eq ?_) ?_)))<;>(try (simp only [go_sem];try rfl))
   ·rintro ⟨i,hi,hF⟩ K0
    rcases Nat.lt_or_ge i l.length with hc|hc
    ·have g1:decide ((i:Int)<(l.length:Int))=true:=decide_eq_true (by omega)
     have g2:=ints_getD .i64 l i hc
     have g3:=ints_getD .i64 m i (by omega)
     by_cases he:(l.getD i 0 !=m.getD i 0)=true
     ·rw [drop_ne hc (by omega) he] at hF
      subst hF
      repeat' (first
       |(with_reducible first|refine nx ?_|refine t_seq fun K=>?_|refine t_br (fun hc=>?_) fun hc=>?_|refine t_bx ?_|apply And.intro|intro vr)
       |((with_reducible first|refine ny ?_|refine t_dwh (h:=fun K KL=>?_));intros;simp only [go_sem,geff,g1,g2,g3,he,Int.toNat_natCast]))
      all_goals try exact om
      refine end_ret rfl ?_
      simp only [fin,go_sem]
      exact LeA.refl _
     ·have he':(l.getD i 0 !=m.getD i 0)=false:=by simpa using he
      rw [drop_eq hc (by omega) he'] at hF
      repeat' (first
       |(with_reducible first|refine nx ?_|refine t_seq fun K=>?_|refine t_br (fun hc=>?_) fun hc=>?_|refine t_bx ?_|apply And.intro|intro vr)
       |((with_reducible first|refine ny ?_|refine t_dwh (h:=fun K KL=>?_));intros;simp only [go_sem,geff,g1,g2,g3,he',Int.toNat_natCast]))
      all_goals try exact om
      refine ⟨⟨i+1,by omega,hF⟩,by simp only;omega,?_⟩
      (refine Le.frame ?_;repeat' (first|exact leF_top _|(with_reducible refine leF_sl ?_ ?_)|(refine leF_upd (LeR.of_eq ?_) ?_)))<;>(try (simp only [go_sem];try rfl))
    ·have g1:decide ((i:Int)<(l.length:Int))=false:=decide_eq_false (by omega)
     rw [List.drop_eq_nil_of_le hc,List.drop_eq_nil_of_le (by omega)] at hF
     subst hF
     repeat' (first
      |(with_reducible first|refine nx ?_|refine t_seq fun K=>?_|refine t_br (fun hc=>?_) fun hc=>?_|refine t_bx ?_|apply And.intro|intro vr)
      |((with_reducible first|refine ny ?_|refine t_dwh (h:=fun K KL=>?_));intros;simp only [go_sem,geff,g1]))
     refine end_ret rfl ?_
     simp only [fin,go_sem]
     exact LeA.refl _
  ·have g0:((l.length:Int) !=(m.length:Int))=true:=by rw [bne_iff_ne];omega
   have:decide (l=m)=false:=decide_eq_false fun e=>hn (by rw [e])
   rw [this]
   refine pcO E0_ok (fun _=>[0,1,4,5,10,12,13,14,24]) Try.func97 (h:=fun KF=>?_)
   unfold E0
   repeat' (first
    |(with_reducible first|refine nx ?_|refine t_seq fun K=>?_|refine t_br (fun hc=>?_) fun hc=>?_|refine t_bx ?_|apply And.intro|intro vr)
    |((with_reducible first|refine ny ?_|refine t_dwh (h:=fun K KL=>?_));intros;simp only [go_sem,geff,g0]))
   refine end_ret rfl ?_
   simp only [fin,go_sem]
   exact LeA.refl _
noncomputable def con97:PCon Try.prog where
  f:=97
  c:=fun
   |[xl,xm]=>match slK .i64 xl,slK .i64 xm with|some l,some m=>some (l.length≤1000000,.lit (.bool (decide (l=m))))|_,_=>none
   |_=>none
  ok:=by
   intro args p r hc hp
   split at hc
   ·split at hc
    ·rename_i hl hm
     cases hc
     exact PC.weak (equal_pc hp) ⟨slK_le hl,slK_le hm,trivial⟩
    ·cases hc
   ·cases hc
  fk:=fk97
theorem con97_f:con97.f=97:=rfl
theorem con97_c {xl:AV} {xm:AV}:con97.c [xl,xm]=match slK .i64 xl,slK .i64 xm with|some l,some m=>some (l.length≤1000000,.lit (.bool (decide (l=m))))|_,_=>none:=rfl
theorem same_pc {l m:List Int} (hl:l.length≤1000000):PC Try.prog 52 [.sl false 1 (ints .i64 l),.sl false 1 (ints .i64 m)] (.lit (.bool (decide (l=m)))):=by
  by_cases hn:l.length=m.length
  ·have g0:((l.length:Int) !=(m.length:Int))=false:=by rw [bne_eq_false_iff_eq];omega
   generalize hR:decide (l=m)=R
   refine pcO E0_ok (fun _=>[0,1,4,5,10,14,25]) Try.func52 (h:=fun KF=>?_)
   unfold E0
   repeat' (first
    |(with_reducible first|refine nx ?_|refine t_seq fun K=>?_|refine t_br (fun hc=>?_) fun hc=>?_|refine t_bx ?_|apply And.intro|intro vr)
    |((with_reducible first|refine ny ?_|refine t_dwh (h:=fun K KL=>?_));intros;simp only [go_sem,geff,g0]))
   refine t_loop (ι:={i:Nat // i≤l.length∧decide (l.drop i=m.drop i)=R}) (fun i=>⟨upd (upd (upd topF 1 (.sl false 1 (ints .i64 m))) 0 (.sl false 1 (ints .i64 l))) 5 (.lit (.int .i64 i.1)),[]⟩) (fun i=>l.length - i.1) ⟨0,by omega,hR⟩ ?_ ?_
   ·skip
    (refine Le.frame ?_;repeat' (first|exact leF_top _|(with_reducible refine leF_sl ?_ ?_)|(refine leF_upd (LeR.of_eq ?_) ?_)))<;>(try (simp only [go_sem];try rfl))
   ·rintro ⟨i,hi,hF⟩ K0
    rcases Nat.lt_or_ge i l.length with hc|hc
    ·have g1:decide ((i:Int)<(l.length:Int))=true:=decide_eq_true (by omega)
     have g2:=ints_getD .i64 l i hc
     have g3:=ints_getD .i64 m i (by omega)
     by_cases he:(l.getD i 0 !=m.getD i 0)=true
     ·rw [drop_ne hc (by omega) he] at hF
      subst hF
      repeat' (first
       |(with_reducible first|refine nx ?_|refine t_seq fun K=>?_|refine t_br (fun hc=>?_) fun hc=>?_|refine t_bx ?_|apply And.intro|intro vr)
       |((with_reducible first|refine ny ?_|refine t_dwh (h:=fun K KL=>?_));intros;simp only [go_sem,geff,g1,g2,g3,he,Int.toNat_natCast]))
      all_goals try exact om
      refine end_ret rfl ?_
      simp only [fin,go_sem]
      exact LeA.refl _
     ·have he':(l.getD i 0 !=m.getD i 0)=false:=by simpa using he
      rw [drop_eq hc (by omega) he'] at hF
      repeat' (first
       |(with_reducible first|refine nx ?_|refine t_seq fun K=>?_|refine t_br (fun hc=>?_) fun hc=>?_|refine t_bx ?_|apply And.intro|intro vr)
       |((with_reducible first|refine ny ?_|refine t_dwh (h:=fun K KL=>?_));intros;simp only [go_sem,geff,g1,g2,g3,he',Int.toNat_natCast]))
      all_goals try exact om
      refine ⟨⟨i+1,by omega,hF⟩,by simp only;omega,?_⟩
      (refine Le.frame ?_;repeat' (first|exact leF_top _|(with_reducible refine leF_sl ?_ ?_)|(refine leF_upd (LeR.of_eq ?_) ?_)))<;>(try (simp only [go_sem];try rfl))
    ·have g1:decide ((i:Int)<(l.length:Int))=false:=decide_eq_false (by omega)
     rw [List.drop_eq_nil_of_le hc,List.drop_eq_nil_of_le (by omega)] at hF
     subst hF
     repeat' (first
      |(with_reducible first|refine nx ?_|refine t_seq fun K=>?_|refine t_br (fun hc=>?_) fun hc=>?_|refine t_bx ?_|apply And.intro|intro vr)
      |((with_reducible first|refine ny ?_|refine t_dwh (h:=fun K KL=>?_));intros;simp only [go_sem,geff,g1]))
     refine end_ret rfl ?_
     simp only [fin,go_sem]
     exact LeA.refl _
  ·have g0:((l.length:Int) !=(m.length:Int))=true:=by rw [bne_iff_ne];omega
   have:decide (l=m)=false:=decide_eq_false fun e=>hn (by rw [e])
   rw [this]
   refine pcO E0_ok (fun _=>[0,1,4,5,10,14,25]) Try.func52 (h:=fun KF=>?_)
   unfold E0
   repeat' (first
    |(with_reducible first|refine nx ?_|refine t_seq fun K=>?_|refine t_br (fun hc=>?_) fun hc=>?_|refine t_bx ?_|apply And.intro|intro vr)
    |((with_reducible first|refine ny ?_|refine t_dwh (h:=fun K KL=>?_));intros;simp only [go_sem,geff,g0]))
   refine end_ret rfl ?_
   simp only [fin,go_sem]
   exact LeA.refl _
noncomputable def con52:PCon Try.prog where
  f:=52
  c:=fun
   |[xl,xm]=>match slK .i64 xl,slK .i64 xm with|some l,some m=>some (l.length≤1000000,.lit (.bool (decide (l=m))))|_,_=>none
   |_=>none
  ok:=by
   intro args p r hc hp
   split at hc
   ·split at hc
    ·rename_i hl hm
     cases hc
     exact PC.weak (same_pc hp) ⟨slK_le hl,slK_le hm,trivial⟩
    ·cases hc
   ·cases hc
  fk:=fk52
theorem con52_f:con52.f=52:=rfl
theorem con52_c {xl:AV} {xm:AV}:con52.c [xl,xm]=match slK .i64 xl,slK .i64 xm with|some l,some m=>some (l.length≤1000000,.lit (.bool (decide (l=m))))|_,_=>none:=rfl
end Go.Proofs.Ytnlimcijgpaegaa

namespace Go.Proofs.Ytnlimcijgpaegaa
open Go Go.Fw
set_option maxRecDepth 20000
def szV (p:Int×Int):AV:= .tup [.lit (.int .i64 p.1),.lit (.int .i64 p.2)]
theorem mul_bd {n d:Int} (hn:0≤n∧n≤4096) (hd:0≤d∧d≤4096):0≤n*d∧n*d≤16777216:=by
  constructor
  ·exact Int.mul_nonneg hn.1 hd.1
  ·have:=Int.mul_le_mul hn.2 hd.2 hd.1 (by omega)
   omega
structure Ls (l:List Int) (G:Int×Int) where
  i:Nat
  n:Int
  hi:i≤l.length
  hn:0≤n∧n≤4096
  hF:prodS (l.drop i) n=G
noncomputable def E2:Env:=envOf (P:=Try.prog) zer (fun _=>false) (fun _=>false) [con141] []
theorem E2_ok:EnvOk Try.prog E2:=envOk zer_ok
set_option maxHeartbeats 1000000 in
theorem size_pc {l:List Int} (hl:l.length≤1000000):PC Try.prog 114 [.sl false 1 (ints .i64 l)] (szV (sizeS l)):=by
  unfold sizeS
  by_cases h6:l.length>6
  ·have g0:decide ((l.length:Int)>6)=true:=decide_eq_true (by omega)
   rw [if_pos h6]
   refine pcO E2_ok (fun _=>[0,2,3,5,6,8,11,12,13,14,15,23,26,27,28,29,30,37]) Try.func114 (h:=fun KF=>?_)
   unfold E2
   repeat' (first
    |(with_reducible first|refine nx ?_|refine t_seq fun K=>?_|refine t_br (fun hc=>?_) fun hc=>?_|refine t_bx ?_|apply And.intro|intro vr)
    |((with_reducible first|refine ny ?_|refine t_dwh (h:=fun K KL=>?_));intros;simp only [go_sem,geff,con141_f,g0]))
   refine end_ret rfl ?_
   simp only [fin,go_sem,szV]
   exact LeA.refl _
  ·have g0:decide ((l.length:Int)>6)=false:=decide_eq_false (by omega)
   rw [if_neg h6]
   generalize hB:l.any badD=Bb
   generalize hG:prodS l 1=G
   refine pcO E2_ok (fun _=>[0,2,3,5,6,8,11,12,13,14,15,23,26,27,28,29,30,37]) Try.func114 (h:=fun KF=>?_)
   unfold E2
   repeat' (first
    |(with_reducible first|refine nx ?_|refine t_seq fun K=>?_|refine t_br (fun hc=>?_) fun hc=>?_|refine t_bx ?_|apply And.intro|intro vr)
    |((with_reducible first|refine ny ?_|refine t_dwh (h:=fun K KL=>?_));intros;simp only [go_sem,geff,con141_f,g0]))
   refine t_loop (ι:={i:Nat // i≤l.length∧(l.drop i).any badD=Bb}) (fun i=>⟨upd (upd (upd (upd topF 14 (.lit (.int .i64 i.1))) 13 (.lit (.int .i64 l.length))) 12 (.sl false 1 (ints .i64 l))) 0 (.sl false 1 (ints .i64 l)),[]⟩) (fun i=>l.length - i.1) ⟨0,by omega,hB⟩ ?_ ?_
   ·skip
    (refine Le.frame ?_;repeat' (first|exact leF_top _|(with_reducible refine leF_sl ?_ ?_)|(refine leF_upd (LeR.of_eq ?_) ?_)))<;>(try (simp only [go_sem];try rfl))
   ·rintro ⟨i,hi,hF⟩ K0
    rcases Nat.lt_or_ge i l.length with hc|hc
    ·have g1:decide ((i:Int)<(l.length:Int))=true:=decide_eq_true (by omega)
     have g2:=ints_getD .i64 l i hc
     rw [drop_getD 0 hc,List.any_cons] at hF
     generalize l.getD i 0=d at g2 hF
     rw [show badD d=(decide (d<0)||decide (d>4096)) from rfl] at hF
     by_cases d1:d<0
     ·have d1':decide (d<0)=true:=decide_eq_true d1
      have:Bb=true:=by rw [←hF,d1'];rfl
      subst this
      repeat' (first
       |(with_reducible first|refine nx ?_|refine t_seq fun K=>?_|refine t_br (fun hc=>?_) fun hc=>?_|refine t_bx ?_|apply And.intro|intro vr)
       |((with_reducible first|refine ny ?_|refine t_dwh (h:=fun K KL=>?_));intros;simp only [go_sem,geff,con141_f,g1,g2,d1',Int.toNat_natCast]))
      all_goals try exact om
      refine end_ret rfl ?_
      simp only [fin,go_sem,szV]
      exact LeA.refl _
     ·have d1':decide (d<0)=false:=decide_eq_false d1
      by_cases d2:d>4096
      ·have d2':decide (d>4096)=true:=decide_eq_true d2
       have:Bb=true:=by rw [←hF,d1',d2'];rfl
       subst this
       repeat' (first
        |(with_reducible first|refine nx ?_|refine t_seq fun K=>?_|refine t_br (fun hc=>?_) fun hc=>?_|refine t_bx ?_|apply And.intro|intro vr)
        |((with_reducible first|refine ny ?_|refine t_dwh (h:=fun K KL=>?_));intros;simp only [go_sem,geff,con141_f,g1,g2,d1',d2',Int.toNat_natCast]))
       all_goals try exact om
       refine end_ret rfl ?_
       simp only [fin,go_sem,szV]
       exact LeA.refl _
      ·have d2':decide (d>4096)=false:=decide_eq_false d2
       rw [d1',d2',Bool.false_or,Bool.false_or] at hF
       repeat' (first
        |(with_reducible first|refine nx ?_|refine t_seq fun K=>?_|refine t_br (fun hc=>?_) fun hc=>?_|refine t_bx ?_|apply And.intro|intro vr)
        |((with_reducible first|refine ny ?_|refine t_dwh (h:=fun K KL=>?_));intros;simp only [go_sem,geff,con141_f,g1,g2,d1',d2',Int.toNat_natCast]))
       all_goals try exact om
       refine ⟨⟨i+1,by omega,hF⟩,by simp only;omega,?_⟩
       (refine Le.frame ?_;repeat' (first|exact leF_top _|(with_reducible refine leF_sl ?_ ?_)|(refine leF_upd (LeR.of_eq ?_) ?_)))<;>(try (simp only [go_sem];try rfl))
    ·have g1:decide ((i:Int)<(l.length:Int))=false:=decide_eq_false (by omega)
     rw [List.drop_eq_nil_of_le hc,List.any_nil] at hF
     subst hF
     have hd:=bad_no (by rw [hB];simp)
     by_cases h0:(l.any fun d=>0==d)=true
     ·skip
      repeat' (first
       |(with_reducible first|refine nx ?_|refine t_seq fun K=>?_|refine t_br (fun hc=>?_) fun hc=>?_|refine t_bx ?_|apply And.intro|intro vr)
       |((with_reducible first|refine ny ?_|refine t_dwh (h:=fun K KL=>?_));intros;simp only [go_sem,geff,con141_f,con141_c,slK_sl,g1,h0]))
      all_goals try exact om
      refine end_ret rfl ?_
      simp only [fin,go_sem,szV,h0,Bool.false_eq_true]
      exact LeA.refl _
     ·have h0':(l.any fun d=>0==d)=false:=Bool.eq_false_iff.2 h0
      repeat' (first
       |(with_reducible first|refine nx ?_|refine t_seq fun K=>?_|refine t_br (fun hc=>?_) fun hc=>?_|refine t_bx ?_|apply And.intro|intro vr)
       |((with_reducible first|refine ny ?_|refine t_dwh (h:=fun K KL=>?_));intros;simp only [go_sem,geff,con141_f,con141_c,slK_sl,g1,h0']))
      all_goals try exact om
      refine t_loop (ι:=Ls l G) (fun i=>⟨upd (upd (upd (upd topF 29 (.lit (.int .i64 i.i))) 28 (.lit (.int .i64 l.length))) 27 (.sl false 1 (ints .i64 l))) 6 (.lit (.int .i64 i.n)),[]⟩) (fun i=>l.length - i.i) ⟨0,1,by omega,by omega,hG⟩ ?_ ?_
      ·skip
       (refine Le.frame ?_;repeat' (first|exact leF_top _|(with_reducible refine leF_sl ?_ ?_)|(refine leF_upd (LeR.of_eq ?_) ?_)))<;>(try (simp only [go_sem];try rfl))
      ·rintro ⟨i,n,hi,hn,hF⟩ K1
       rcases Nat.lt_or_ge i l.length with hc|hc
       ·have g1:decide ((i:Int)<(l.length:Int))=true:=decide_eq_true (by omega)
        have g2:=ints_getD .i64 l i hc
        have hd':=hd (l.getD i 0) (by rw [List.getD_eq_getElem?_getD,List.getElem?_eq_getElem hc];exact List.getElem_mem _)
        rw [drop_getD 0 hc,prodS] at hF
        generalize l.getD i 0=d at g2 hF hd'
        have hb:=mul_bd hn hd'
        by_cases hp:n*d>4096
        ·have hp':decide (n*d>4096)=true:=decide_eq_true hp
         rw [if_pos hp] at hF
         subst hF
         repeat' (first
          |(with_reducible first|refine nx ?_|refine t_seq fun K=>?_|refine t_br (fun hc=>?_) fun hc=>?_|refine t_bx ?_|apply And.intro|intro vr)
          |((with_reducible first|refine ny ?_|refine t_dwh (h:=fun K KL=>?_));intros;simp only [go_sem,geff,con141_f,g1,g2,hp',Int.toNat_natCast]))
         all_goals try exact om
         refine end_ret rfl ?_
         simp only [fin,go_sem,szV,h0',Bool.false_eq_true]
         exact LeA.refl _
        ·have hp':decide (n*d>4096)=false:=decide_eq_false hp
         rw [if_neg hp] at hF
         repeat' (first
          |(with_reducible first|refine nx ?_|refine t_seq fun K=>?_|refine t_br (fun hc=>?_) fun hc=>?_|refine t_bx ?_|apply And.intro|intro vr)
          |((with_reducible first|refine ny ?_|refine t_dwh (h:=fun K KL=>?_));intros;simp only [go_sem,geff,con141_f,g1,g2,hp',Int.toNat_natCast]))
         all_goals try exact om
         refine ⟨⟨i+1,n*d,by omega,by omega,hF⟩,by simp only;omega,?_⟩
         (refine Le.frame ?_;repeat' (first|exact leF_top _|(with_reducible refine leF_sl ?_ ?_)|(refine leF_upd (LeR.of_eq ?_) ?_)))<;>(try (simp only [go_sem];try rfl))
       ·have g1:decide ((i:Int)<(l.length:Int))=false:=decide_eq_false (by omega)
        rw [List.drop_eq_nil_of_le hc,prodS] at hF
        subst hF
        repeat' (first
         |(with_reducible first|refine nx ?_|refine t_seq fun K=>?_|refine t_br (fun hc=>?_) fun hc=>?_|refine t_bx ?_|apply And.intro|intro vr)
         |((with_reducible first|refine ny ?_|refine t_dwh (h:=fun K KL=>?_));intros;simp only [go_sem,geff,con141_f,g1]))
        refine end_ret rfl ?_
        simp only [fin,go_sem,szV,h0',Bool.false_eq_true]
        exact LeA.refl _
noncomputable def con114:PCon Try.prog where
  f:=114
  c:=fun
   |[xl]=>match slK .i64 xl with|some l=>some (l.length≤1000000,szV (sizeS l))|_=>none
   |_=>none
  ok:=by
   intro args p r hc hp
   split at hc
   ·split at hc
    ·rename_i hl
     cases hc
     exact PC.weak (size_pc hp) ⟨slK_le hl,trivial⟩
    ·cases hc
   ·cases hc
  fk:=fk114
theorem con114_f:con114.f=114:=rfl
theorem con114_c {xl:AV}:con114.c [xl]=match slK .i64 xl with|some l=>some (l.length≤1000000,szV (sizeS l))|_=>none:=rfl
set_option maxHeartbeats 1000000 in
theorem rsize_pc {l:List Int} (hl:l.length≤1000000):PC Try.prog 40 [.sl false 1 (ints .i64 l)] (szV (sizeS l)):=by
  unfold sizeS
  by_cases h6:l.length>6
  ·have g0:decide ((l.length:Int)>6)=true:=decide_eq_true (by omega)
   rw [if_pos h6]
   refine pcO E0_ok (fun _=>[0,2,3,4,5,6,7,10,14,28,37,41,51]) Try.func40 (h:=fun KF=>?_)
   unfold E0
   repeat' (first
    |(with_reducible first|refine nx ?_|refine t_seq fun K=>?_|refine t_br (fun hc=>?_) fun hc=>?_|refine t_bx ?_|apply And.intro|intro vr)
    |((with_reducible first|refine ny ?_|refine t_dwh (h:=fun K KL=>?_));intros;simp only [go_sem,geff,g0]))
   refine end_ret rfl ?_
   simp only [fin,go_sem,szV]
   exact LeA.refl _
  ·have g0:decide ((l.length:Int)>6)=false:=decide_eq_false (by omega)
   rw [if_neg h6]
   generalize hB:l.any badD=Bb
   generalize hG:prodS l 1=G
   generalize hZ:(l.any fun d=>0==d)=Z
   refine pcO E0_ok (fun _=>[0,2,3,4,5,6,7,10,14,28,37,41,51]) Try.func40 (h:=fun KF=>?_)
   unfold E0
   repeat' (first
    |(with_reducible first|refine nx ?_|refine t_seq fun K=>?_|refine t_br (fun hc=>?_) fun hc=>?_|refine t_bx ?_|apply And.intro|intro vr)
    |((with_reducible first|refine ny ?_|refine t_dwh (h:=fun K KL=>?_));intros;simp only [go_sem,geff,g0]))
   refine t_loop (ι:={i:Nat×Bool // i.1≤l.length∧(l.drop i.1).any badD=Bb∧(i.2||(l.drop i.1).any fun d=>0==d)=Z}) (fun i=>⟨upd (upd (upd topF 5 (.lit (.int .i64 i.1.1))) 4 (.lit (.bool i.1.2))) 0 (.sl false 1 (ints .i64 l)),[]⟩) (fun i=>l.length - i.1.1) ⟨(0,false),by simp,hB,by simpa using hZ⟩ ?_ ?_
   ·skip
    (refine Le.frame ?_;repeat' (first|exact leF_top _|(with_reducible refine leF_sl ?_ ?_)|(refine leF_upd (LeR.of_eq ?_) ?_)))<;>(try (simp only [go_sem];try rfl))
   ·rintro ⟨⟨i,z⟩,hi,hF,hY⟩ K0
    simp only at hi hF hY
    rcases Nat.lt_or_ge i l.length with hc|hc
    ·have g1:decide ((i:Int)<(l.length:Int))=true:=decide_eq_true (by omega)
     have g2:=ints_getD .i64 l i hc
     rw [drop_getD 0 hc,List.any_cons] at hF
     rw [drop_getD 0 hc,List.any_cons,←Bool.or_assoc] at hY
     generalize l.getD i 0=d at g2 hF hY
     rw [show badD d=(decide (d<0)||decide (d>4096)) from rfl] at hF
     by_cases d1:d<0
     ·have d1':decide (d<0)=true:=decide_eq_true d1
      have:Bb=true:=by rw [←hF,d1'];rfl
      subst this
      repeat' (first
       |(with_reducible first|refine nx ?_|refine t_seq fun K=>?_|refine t_br (fun hc=>?_) fun hc=>?_|refine t_bx ?_|apply And.intro|intro vr)
       |((with_reducible first|refine ny ?_|refine t_dwh (h:=fun K KL=>?_));intros;simp only [go_sem,geff,g1,g2,d1',Int.toNat_natCast]))
      all_goals try exact om
      refine end_ret rfl ?_
      simp only [fin,go_sem,szV]
      exact LeA.refl _
     ·have d1':decide (d<0)=false:=decide_eq_false d1
      by_cases d2:d>4096
      ·have d2':decide (d>4096)=true:=decide_eq_true d2
       have:Bb=true:=by rw [←hF,d1',d2'];rfl
       subst this
       repeat' (first
        |(with_reducible first|refine nx ?_|refine t_seq fun K=>?_|refine t_br (fun hc=>?_) fun hc=>?_|refine t_bx ?_|apply And.intro|intro vr)
        |((with_reducible first|refine ny ?_|refine t_dwh (h:=fun K KL=>?_));intros;simp only [go_sem,geff,g1,g2,d1',d2',Int.toNat_natCast]))
       all_goals try exact om
       refine end_ret rfl ?_
       simp only [fin,go_sem,szV]
       exact LeA.refl _
      ·have d2':decide (d>4096)=false:=decide_eq_false d2
       rw [d1',d2',Bool.false_or,Bool.false_or] at hF
       cases z
       ·by_cases e0:(d==0)=true
        ·have e1:(0==d)=true:=by rw [beq_iff_eq] at e0 ⊢;exact e0.symm
         rw [e1] at hY
         repeat' (first
          |(with_reducible first|refine nx ?_|refine t_seq fun K=>?_|refine t_br (fun hc=>?_) fun hc=>?_|refine t_bx ?_|apply And.intro|intro vr)
          |((with_reducible first|refine ny ?_|refine t_dwh (h:=fun K KL=>?_));intros;simp only [go_sem,geff,g1,g2,d1',d2',e0,Int.toNat_natCast]))
         all_goals try exact om
         refine ⟨⟨(i+1,true),by simp only;omega,hF,hY⟩,by simp only;omega,?_⟩
         (refine Le.frame ?_;repeat' (first|exact leF_top _|(with_reducible refine leF_sl ?_ ?_)|(refine leF_upd (LeR.of_eq ?_) ?_)))<;>(try (simp only [go_sem];try rfl))
        ·have e0':(d==0)=false:=by simpa using e0
         have e1:(0==d)=false:=by rw [beq_eq_false_iff_ne] at e0' ⊢;exact fun h=>e0' h.symm
         rw [e1] at hY
         repeat' (first
          |(with_reducible first|refine nx ?_|refine t_seq fun K=>?_|refine t_br (fun hc=>?_) fun hc=>?_|refine t_bx ?_|apply And.intro|intro vr)
          |((with_reducible first|refine ny ?_|refine t_dwh (h:=fun K KL=>?_));intros;simp only [go_sem,geff,g1,g2,d1',d2',e0',Int.toNat_natCast]))
         all_goals try exact om
         refine ⟨⟨(i+1,false),by simp only;omega,hF,hY⟩,by simp only;omega,?_⟩
         (refine Le.frame ?_;repeat' (first|exact leF_top _|(with_reducible refine leF_sl ?_ ?_)|(refine leF_upd (LeR.of_eq ?_) ?_)))<;>(try (simp only [go_sem];try rfl))
       ·skip
        repeat' (first
         |(with_reducible first|refine nx ?_|refine t_seq fun K=>?_|refine t_br (fun hc=>?_) fun hc=>?_|refine t_bx ?_|apply And.intro|intro vr)
         |((with_reducible first|refine ny ?_|refine t_dwh (h:=fun K KL=>?_));intros;simp only [go_sem,geff,g1,g2,d1',d2',Int.toNat_natCast]))
        all_goals try exact om
        refine ⟨⟨(i+1,true),by simp only;omega,hF,by rw [←hY];simp⟩,by simp only;omega,?_⟩
        (refine Le.frame ?_;repeat' (first|exact leF_top _|(with_reducible refine leF_sl ?_ ?_)|(refine leF_upd (LeR.of_eq ?_) ?_)))<;>(try (simp only [go_sem];try rfl))
    ·have g1:decide ((i:Int)<(l.length:Int))=false:=decide_eq_false (by omega)
     rw [List.drop_eq_nil_of_le hc,List.any_nil] at hF
     rw [List.drop_eq_nil_of_le hc,List.any_nil,Bool.or_false] at hY
     subst hF
     have hd:=bad_no (by rw [hB];simp)
     cases z
     ·subst hY
      repeat' (first
       |(with_reducible first|refine nx ?_|refine t_seq fun K=>?_|refine t_br (fun hc=>?_) fun hc=>?_|refine t_bx ?_|apply And.intro|intro vr)
       |((with_reducible first|refine ny ?_|refine t_dwh (h:=fun K KL=>?_));intros;simp only [go_sem,geff,g1]))
      refine t_loop (ι:=Ls l G) (fun i=>⟨upd (upd (upd topF 7 (.lit (.int .i64 i.i))) 6 (.lit (.int .i64 i.n))) 0 (.sl false 1 (ints .i64 l)),[]⟩) (fun i=>l.length - i.i) ⟨0,1,by omega,by omega,hG⟩ ?_ ?_
      ·skip
       (refine Le.frame ?_;repeat' (first|exact leF_top _|(with_reducible refine leF_sl ?_ ?_)|(refine leF_upd (LeR.of_eq ?_) ?_)))<;>(try (simp only [go_sem];try rfl))
      ·rintro ⟨i,n,hi,hn,hF⟩ K1
       rcases Nat.lt_or_ge i l.length with hc|hc
       ·have g1:decide ((i:Int)<(l.length:Int))=true:=decide_eq_true (by omega)
        have g2:=ints_getD .i64 l i hc
        have hd':=hd (l.getD i 0) (by rw [List.getD_eq_getElem?_getD,List.getElem?_eq_getElem hc];exact List.getElem_mem _)
        rw [drop_getD 0 hc,prodS] at hF
        generalize l.getD i 0=d at g2 hF hd'
        have hb:=mul_bd hn hd'
        by_cases hp:n*d>4096
        ·have hp':decide (n*d>4096)=true:=decide_eq_true hp
         rw [if_pos hp] at hF
         subst hF
         repeat' (first
          |(with_reducible first|refine nx ?_|refine t_seq fun K=>?_|refine t_br (fun hc=>?_) fun hc=>?_|refine t_bx ?_|apply And.intro|intro vr)
          |((with_reducible first|refine ny ?_|refine t_dwh (h:=fun K KL=>?_));intros;simp only [go_sem,geff,g1,g2,hp',Int.toNat_natCast]))
         all_goals try exact om
         refine end_ret rfl ?_
         simp only [fin,go_sem,szV,Bool.false_eq_true]
         exact LeA.refl _
        ·have hp':decide (n*d>4096)=false:=decide_eq_false hp
         rw [if_neg hp] at hF
         repeat' (first
          |(with_reducible first|refine nx ?_|refine t_seq fun K=>?_|refine t_br (fun hc=>?_) fun hc=>?_|refine t_bx ?_|apply And.intro|intro vr)
          |((with_reducible first|refine ny ?_|refine t_dwh (h:=fun K KL=>?_));intros;simp only [go_sem,geff,g1,g2,hp',Int.toNat_natCast]))
         all_goals try exact om
         refine ⟨⟨i+1,n*d,by omega,by omega,hF⟩,by simp only;omega,?_⟩
         (refine Le.frame ?_;repeat' (first|exact leF_top _|(with_reducible refine leF_sl ?_ ?_)|(refine leF_upd (LeR.of_eq ?_) ?_)))<;>(try (simp only [go_sem];try rfl))
       ·have g1:decide ((i:Int)<(l.length:Int))=false:=decide_eq_false (by omega)
        rw [List.drop_eq_nil_of_le hc,prodS] at hF
        subst hF
        repeat' (first
         |(with_reducible first|refine nx ?_|refine t_seq fun K=>?_|refine t_br (fun hc=>?_) fun hc=>?_|refine t_bx ?_|apply And.intro|intro vr)
         |((with_reducible first|refine ny ?_|refine t_dwh (h:=fun K KL=>?_));intros;simp only [go_sem,geff,g1]))
        refine end_ret rfl ?_
        simp only [fin,go_sem,szV,Bool.false_eq_true]
        exact LeA.refl _
     ·subst hY
      repeat' (first
       |(with_reducible first|refine nx ?_|refine t_seq fun K=>?_|refine t_br (fun hc=>?_) fun hc=>?_|refine t_bx ?_|apply And.intro|intro vr)
       |((with_reducible first|refine ny ?_|refine t_dwh (h:=fun K KL=>?_));intros;simp only [go_sem,geff,g1]))
      refine end_ret rfl ?_
      simp only [fin,go_sem,szV,Bool.false_eq_true]
      exact LeA.refl _
noncomputable def con40:PCon Try.prog where
  f:=40
  c:=fun
   |[xl]=>match slK .i64 xl with|some l=>some (l.length≤1000000,szV (sizeS l))|_=>none
   |_=>none
  ok:=by
   intro args p r hc hp
   split at hc
   ·split at hc
    ·rename_i hl
     cases hc
     exact PC.weak (rsize_pc hp) ⟨slK_le hl,trivial⟩
    ·cases hc
   ·cases hc
  fk:=fk40
theorem con40_f:con40.f=40:=rfl
theorem con40_c {xl:AV}:con40.c [xl]=match slK .i64 xl with|some l=>some (l.length≤1000000,szV (sizeS l))|_=>none:=rfl
end Go.Proofs.Ytnlimcijgpaegaa

namespace Go.Proofs.Ytnlimcijgpaegaa
open Go Go.Fw
set_option maxRecDepth 20000
theorem LeL.len:∀ {xs ys:List AV},LeL xs ys→xs.length=ys.length
  |[],[],_=>rfl
  |_::_,_::_,h=>by simp [LeL.len h.2]
  |[],_::_,h=>h.elim
  |_::_,[],h=>h.elim
theorem LeA.agg {xs ys:List AV} (h:LeL xs ys):LeA (.agg xs) (.agg ys):=fun C v hv=>by
  cases hv with
  |agg _ vs hl h1 hh=>exact .agg ys vs (h.rl ⟨hl,hh⟩).1 (fun i hi=>h1 i (by rw [LeL.len h];exact hi)) (h.rl ⟨hl,hh⟩).2
theorem LeL.append:∀ {xs ys us vs:List AV},LeL xs ys→LeL us vs→LeL (xs++us) (ys++vs)
  |[],[],_,_,_,h=>h
  |_::_,_::_,_,_,h,h'=>⟨h.1,LeL.append h.2 h'⟩
  |[],_::_,_,_,h,_=>h.elim
  |_::_,[],_,_,h,_=>h.elim
theorem LeL.get:∀ {xs ys:List AV},LeL xs ys→∀ i,LeA (xs.getD i .top) (ys.getD i .top)
  |[],[],_,_=>LeA.refl _
  |x::xs,y::ys,h,0=>by simpa using h.1
  |x::xs,y::ys,h,i+1=>by simpa using LeL.get h.2 i
  |[],_::_,h,_=>h.elim
  |_::_,[],h,_=>h.elim
theorem LeA.sl {b:Bool} {sz:Nat} {xs ys:List AV} (hl:xs.length=ys.length) (hw:∀ y∈ys,y.cells.length=sz) (h:LeL (flat xs) (flat ys)):LeA (.sl b sz xs) (.sl false sz ys):=fun C v hv=>by
  cases hv with
  |nil full sz a=>
   have:ys=[]:=List.eq_nil_of_length_eq_zero (by simpa using hl.symm)
   subst this
   exact .nil false sz a
  |sl full sz xs bb off cap f hc hm hf hw' hC h1 hR=>
   rw [hl]
   exact .sl false sz ys bb off cap f (by rw [←hl];exact hc) hm (by simp) hw (fun j hj=>hC j (by rw [LeL.len h];exact hj)) (fun j hj=>h1 j (by rw [LeL.len h];exact hj))
     (fun j hj=>LeL.get h j _ _ (hR j (by rw [LeL.len h];exact hj)))
def arrOf:AV→Option Arr
  |.agg [.lit (.string e),x,y]=>match slK .i64 x,slK .i64 y with
   |some d,some w=>some ⟨e,d,w⟩
   |_,_=>none
  |_=>none
theorem arrOf_agg {e:ByteArray} {x y:AV}:arrOf (.agg [.lit (.string e),x,y])=match slK .i64 x,slK .i64 y with
    |some d,some w=>some ⟨e,d,w⟩
    |_,_=>none:=rfl
theorem arrOf_V (a:Arr):arrOf (arrV a)=some a:=by simp [arrV,arrOf,slK_sl]
theorem arrOf_inv {x:AV} {a:Arr} (h:arrOf x=some a):∃ p q,x= .agg [.lit (.string a.e),p,q]∧LeA p (.sl false 1 (ints .i64 a.d))∧LeA q (.sl false 1 (ints .i64 a.x)):=by
  unfold arrOf at h
  split at h
  ·split at h
   ·rename_i h1 h2
    cases h
    exact ⟨_,_,rfl,slK_le h1,slK_le h2⟩
   ·cases h
  ·cases h
theorem arrOf_le {x:AV} {a:Arr} (h:arrOf x=some a):LeA x (arrV a):=by
  obtain ⟨p,q,rfl,h1,h2⟩:=arrOf_inv h
  exact LeA.agg ⟨LeA.refl _,h1,h2,trivial⟩
def arrL:List AV→Option (List Arr)
  |[]=>some []
  |x::xs=>match arrOf x,arrL xs with
   |some a,some l=>some (a::l)
   |_,_=>none
theorem arrL_cons {x:AV} {xs:List AV}:arrL (x::xs)=match arrOf x,arrL xs with
    |some a,some l=>some (a::l)
    |_,_=>none:=rfl
theorem arrL_arrs:∀ l:List Arr,arrL (arrs l)=some l
  |[]=>rfl
  |a::l=>by
   have:=arrL_arrs l
   unfold arrs at this ⊢
   rw [List.map_cons,arrL_cons,arrOf_V,this]
theorem arrL_inv:∀ {xs:List AV} {l:List Arr},arrL xs=some l→xs.length=l.length∧LeL (flat xs) (flat (arrs l))
  |[],l,h=>by cases h;exact ⟨rfl,trivial⟩
  |x::xs,l,h=>by
   rw [arrL_cons] at h
   split at h
   ·rename_i a m h1 h2
    cases h
    obtain ⟨e1,e2⟩:=arrL_inv h2
    obtain ⟨p,q,rfl,g1,g2⟩:=arrOf_inv h1
    refine ⟨by simp [e1],?_⟩
    have:LeL (AV.cells (.agg [.lit (.string a.e),p,q])) (AV.cells (arrV a)):=⟨LeA.refl _,g1,g2,trivial⟩
    exact LeL.append this e2
   ·cases h
theorem arrs_wid (l:List Arr):∀ y∈arrs l,y.cells.length=3:=by
  intro y hy
  obtain ⟨a,_,rfl⟩:=List.mem_map.1 hy
  rfl
def arrsOf (x:AV):Option (List Arr):=(slA 3 x).bind arrL
theorem arrsOf_le {x:AV} {l:List Arr} (h:arrsOf x=some l):LeA x (.sl false 3 (arrs l)):=by
  unfold arrsOf at h
  cases hx:slA 3 x with
  |none=>rw [hx] at h;cases h
  |some xs=>
   rw [hx] at h
   obtain ⟨h1,h2⟩:=arrL_inv (l:=l) h
   intro C v hv
   exact LeA.sl (b:=false) (by rw [arrs_length];exact h1) (arrs_wid l) h2 C v (slA_le hx C v hv)
theorem arrsOf_sl {b:Bool} {l:List Arr}:arrsOf (.sl b 3 (arrs l))=some l:=by simp [arrsOf,slA,arrL_arrs]
def aeV (p:Arr×Int):AV:= .tup [arrV p.1,.lit (.int .i64 p.2)]
end Go.Proofs.Ytnlimcijgpaegaa

namespace Go.Proofs.Ytnlimcijgpaegaa
open Go Go.Fw
set_option maxRecDepth 20000
noncomputable def E3:Env:=envOf (P:=Try.prog) zer (fun _=>false) (fun _=>false) [con168] []
theorem E3_ok:EnvOk Try.prog E3:=envOk zer_ok
theorem notel_ec {σ:List AObj} {o:Nat} {e:ByteArray} {n:Int} (ho:σ[o]? =some (.box 9 [.lit (.string e)])) {k:AV→List AObj→Prop} (hk:k (.lit (.bool (!vld e n))) σ):EC Try.prog 167 [.lit (.int .i64 n),.ref o 0] σ k:=by
  refine ecO E3_ok (fun _=>[0,1,3]) Try.func167 (h:=fun KF=>?_)
  unfold E3
  repeat' (first
   |(with_reducible first|refine nx ?_|refine t_seq fun K=>?_|refine t_br (fun hc=>?_) fun hc=>?_|refine t_bx ?_|apply And.intro|intro vr)
   |((with_reducible first|refine ny ?_|refine t_dwh (h:=fun K KL=>?_));intros;simp only [go_sem,geff,con168_f,con168_c,ho]))
  refine end_ret rfl ?_
  simp only [go_sem]
  exact hk
noncomputable def con167:ECon Try.prog where
  f:=167
  c:=fun args σ k=>match args with
   |[.lit (.int .i64 n),.ref o 0]=>match σ[o]? with
    |some (.box 9 [.lit (.string e)])=>k (.lit (.bool (!vld e n))) σ
    |_=>False
   |_=>False
  ok:=by
   intro args σ k h
   split at h
   ·split at h
    ·rename_i ho
     exact notel_ec ho h
    ·exact h.elim
   ·exact h.elim
  fk:=fk167
theorem con167_f:con167.f=167:=rfl
theorem con167_c {σ:List AObj} {k:AV→List AObj→Prop} {o:Nat} {n:Int}:con167.c [.lit (.int .i64 n),.ref o 0] σ k=match σ[o]? with
      |some (.box 9 [.lit (.string e)])=>k (.lit (.bool (!vld e n))) σ
      |_=>False:=rfl
noncomputable def E4:Env:=envOf (P:=Try.prog) zer (fun _=>false) (fun _=>false) [] [con167]
theorem E4_ok:EnvOk Try.prog E4:=envOk zer_ok
theorem indexf_ec {σ:List AObj} {o:Nat} {e:ByteArray} {l:List Int} (hl:l.length≤1000000) (ho:σ[o]? =some (.box 9 [.lit (.string e)])) {k:AV→List AObj→Prop} (hk:k (.lit (.int .i64 (idxG (fun n=> !vld e n) l 0))) σ):
    EC Try.prog 173 [.sl false 1 (ints .i64 l),.fn (.func 167) [] [.ref o 0]] σ k:=by
  generalize hR:idxG (fun n=> !vld e n) l 0=R at hk
  refine ecO E4_ok (fun _=>[0,1,4,5,7,8,9,16]) Try.func173 (h:=fun KF=>?_)
  unfold E4
  repeat' (first
   |(with_reducible first|refine nx ?_|refine t_seq fun K=>?_|refine t_br (fun hc=>?_) fun hc=>?_|refine t_bx ?_|apply And.intro|intro vr)
   |((with_reducible first|refine ny ?_|refine t_dwh (h:=fun K KL=>?_));intros;simp only [go_sem,geff,con167_f]))
  refine t_loop (ι:={i:Nat // i≤l.length∧idxG (fun n=> !vld e n) (l.drop i) i=R}) (fun i=>⟨upd (upd (upd (upd topF 8 (.lit (.int .i64 i.1))) 7 (.lit (.int .i64 l.length))) 1 (.fn (.func 167) [] [.ref o 0])) 0 (.sl false 1 (ints .i64 l)),σ⟩) (fun i=>l.length - i.1) ⟨0,by omega,hR⟩ ?_ ?_
  ·skip
   (refine Le.frame ?_;repeat' (first|exact leF_top _|(with_reducible refine leF_sl ?_ ?_)|(refine leF_upd (LeR.of_eq ?_) ?_)))<;>(try (simp only [go_sem];try rfl))
  ·rintro ⟨i,hi,hF⟩ K0
   rcases Nat.lt_or_ge i l.length with hc|hc
   ·have g1:decide ((i:Int)<(l.length:Int))=true:=decide_eq_true (by omega)
    have g2:=ints_getD .i64 l i hc
    rw [drop_getD 0 hc,idxG] at hF
    generalize l.getD i 0=d at g2 hF
    by_cases he:vld e d=true
    ·rw [if_neg (by simp [he])] at hF
     repeat' (first
      |(with_reducible first|refine nx ?_|refine t_seq fun K=>?_|refine t_br (fun hc=>?_) fun hc=>?_|refine t_bx ?_|apply And.intro|intro vr)
      |((with_reducible first|refine ny ?_|refine t_dwh (h:=fun K KL=>?_));intros;simp only [go_sem,geff,con167_f,con167_c,ho,g1,g2,he,Int.toNat_natCast,Bool.not_true]))
     all_goals try exact om
     refine ⟨⟨i+1,by omega,by rw [←hF];congr 1⟩,by simp only;omega,?_⟩
     (refine Le.frame ?_;repeat' (first|exact leF_top _|(with_reducible refine leF_sl ?_ ?_)|(refine leF_upd (LeR.of_eq ?_) ?_)))<;>(try (simp only [go_sem];try rfl))
    ·have he':vld e d=false:=by simpa using he
     rw [if_pos (by simp [he'])] at hF
     subst hF
     repeat' (first
      |(with_reducible first|refine nx ?_|refine t_seq fun K=>?_|refine t_br (fun hc=>?_) fun hc=>?_|refine t_bx ?_|apply And.intro|intro vr)
      |((with_reducible first|refine ny ?_|refine t_dwh (h:=fun K KL=>?_));intros;simp only [go_sem,geff,con167_f,con167_c,ho,g1,g2,he',Int.toNat_natCast,Bool.not_false]))
     all_goals try exact om
     refine end_ret rfl ?_
     simp only [go_sem]
     exact hk
   ·have g1:decide ((i:Int)<(l.length:Int))=false:=decide_eq_false (by omega)
    rw [List.drop_eq_nil_of_le hc,idxG] at hF
    subst hF
    repeat' (first
     |(with_reducible first|refine nx ?_|refine t_seq fun K=>?_|refine t_br (fun hc=>?_) fun hc=>?_|refine t_bx ?_|apply And.intro|intro vr)
     |((with_reducible first|refine ny ?_|refine t_dwh (h:=fun K KL=>?_));intros;simp only [go_sem,geff,con167_f,g1]))
    refine end_ret rfl ?_
    simp only [go_sem]
    exact hk
noncomputable def con173:ECon Try.prog where
  f:=173
  c:=fun args σ k=>match args with
   |[x,.fn (.func 167) [] [.ref o 0]]=>match slK .i64 x,σ[o]? with
    |some l,some (.box 9 [.lit (.string e)])=>l.length≤1000000∧k (.lit (.int .i64 (idxG (fun n=> !vld e n) l 0))) σ
    |_,_=>False
   |_=>False
  ok:=by
   intro args σ k h
   split at h
   ·split at h
    ·rename_i hx ho
     exact EC.weak (indexf_ec h.1 ho h.2) (LeRL.cons (slK_leR hx) (LeRL.cons (LeR.refl _) LeRL.nil))
    ·exact h.elim
   ·exact h.elim
  fk:=fk173
theorem con173_f:con173.f=173:=rfl
theorem con173_c {σ:List AObj} {k:AV→List AObj→Prop} {x:AV} {o:Nat}:con173.c [x,.fn (.func 167) [] [.ref o 0]] σ k=match slK .i64 x,σ[o]? with
      |some l,some (.box 9 [.lit (.string e)])=>l.length≤1000000∧k (.lit (.int .i64 (idxG (fun n=> !vld e n) l 0))) σ
      |_,_=>False:=rfl
noncomputable def E5:Env:=envOf (P:=Try.prog) zer (fun _=>false) (fun _=>false) [] [con173]
theorem E5_ok:EnvOk Try.prog E5:=envOk zer_ok
theorem containsf_ec {σ:List AObj} {o:Nat} {e:ByteArray} {l:List Int} (hl:l.length≤1000000) (ho:σ[o]? =some (.box 9 [.lit (.string e)])) {k:AV→List AObj→Prop} (hk:k (.lit (.bool (l.any fun n=> !vld e n))) σ):
    EC Try.prog 166 [.sl false 1 (ints .i64 l),.fn (.func 167) [] [.ref o 0]] σ k:=by
  rw [←idxG_any _ l 0 (by omega)] at hk
  refine ecO E5_ok (fun _=>[0,1,4]) Try.func166 (h:=fun KF=>?_)
  unfold E5
  repeat' (first
   |(with_reducible first|refine nx ?_|refine t_seq fun K=>?_|refine t_br (fun hc=>?_) fun hc=>?_|refine t_bx ?_|apply And.intro|intro vr)
   |((with_reducible first|refine ny ?_|refine t_dwh (h:=fun K KL=>?_));intros;simp only [go_sem,geff,con173_f,con173_c,slK_sl,ho]))
  all_goals try exact om
  refine end_ret rfl ?_
  simp only [go_sem]
  exact hk
noncomputable def con166:ECon Try.prog where
  f:=166
  c:=fun args σ k=>match args with
   |[x,.fn (.func 167) [] [.ref o 0]]=>match slK .i64 x,σ[o]? with
    |some l,some (.box 9 [.lit (.string e)])=>l.length≤1000000∧k (.lit (.bool (l.any fun n=> !vld e n))) σ
    |_,_=>False
   |_=>False
  ok:=by
   intro args σ k h
   split at h
   ·split at h
    ·rename_i hx ho
     exact EC.weak (containsf_ec h.1 ho h.2) (LeRL.cons (slK_leR hx) (LeRL.cons (LeR.refl _) LeRL.nil))
    ·exact h.elim
   ·exact h.elim
  fk:=fk166
theorem con166_f:con166.f=166:=rfl
theorem con166_c {σ:List AObj} {k:AV→List AObj→Prop} {x:AV} {o:Nat}:con166.c [x,.fn (.func 167) [] [.ref o 0]] σ k=match slK .i64 x,σ[o]? with
      |some l,some (.box 9 [.lit (.string e)])=>l.length≤1000000∧k (.lit (.bool (l.any fun n=> !vld e n))) σ
      |_,_=>False:=rfl
noncomputable def E6:Env:=envOf (P:=Try.prog) zer (fun _=>false) (fun _=>false) [] [con166]
theorem E6_ok:EnvOk Try.prog E6:=envOk zer_ok
theorem elements_pc {e:ByteArray} {l:List Int} (hl:l.length≤1000000):PC Try.prog 145 [.lit (.string e),.sl false 1 (ints .i64 l)] (.lit (.bool (!(l.any fun n=> !vld e n)))):=by
  refine pcO E6_ok (fun _=>[1,2,4]) Try.func145 (h:=fun KF=>?_)
  unfold E6
  repeat' (first
   |(with_reducible first|refine nx ?_|refine t_seq fun K=>?_|refine t_br (fun hc=>?_) fun hc=>?_|refine t_bx ?_|apply And.intro|intro vr)
   |((with_reducible first|refine ny ?_|refine t_dwh (h:=fun K KL=>?_));intros;simp only [go_sem,geff,con166_f,con166_c,slK_sl]))
  all_goals try exact om
  refine end_ret rfl ?_
  simp only [fin,go_sem]
  exact LeA.refl _
noncomputable def con145:PCon Try.prog where
  f:=145
  c:=fun
   |[.lit (.string e),xl]=>match slK .i64 xl with|some l=>some (l.length≤1000000,.lit (.bool (!(l.any fun n=> !vld e n))))|_=>none
   |_=>none
  ok:=by
   intro args p r hc hp
   split at hc
   ·split at hc
    ·rename_i hl
     cases hc
     exact PC.weak (elements_pc hp) ⟨LeA.refl _,slK_le hl,trivial⟩
    ·cases hc
   ·cases hc
  fk:=fk145
theorem con145_f:con145.f=145:=rfl
theorem con145_c {e:ByteArray} {xl:AV}:con145.c [.lit (.string e),xl]=match slK .i64 xl with|some l=>some (l.length≤1000000,.lit (.bool (!(l.any fun n=> !vld e n))))|_=>none:=rfl
theorem szV_def {p:Int×Int}:szV p= .tup [.lit (.int .i64 p.1),.lit (.int .i64 p.2)]:=rfl
theorem arrV_def {a:Arr}:arrV a= .agg [.lit (.string a.e),.sl false 1 (ints .i64 a.d),.sl false 1 (ints .i64 a.x)]:=rfl
theorem nilA_le:LeA (.agg [.lit (.string ByteArray.empty),.sl true 1 [],.sl true 1 []]) (arrV nilA):=LeA.agg ⟨LeA.of_eq rfl,LeA.full _ _ _,LeA.full _ _ _,trivial⟩
theorem nilAe_le {e:Int}:LeA (.tup [.agg [.lit (.string ByteArray.empty),.sl true 1 [],.sl true 1 []],.lit (.int .i64 e)]) (aeV (nilA,e)):=LeA.tup ⟨nilA_le,LeA.refl _,trivial⟩
def tyOk (e:ByteArray):Bool:=eqS e ⟨#[105,110,116]⟩||eqS e ⟨#[98,111,111,108]⟩
def bad (a:Arr):Bool:=a.x.any fun n=> !vld a.e n
theorem ofE_ty {a:Arr} (h:tyOk a.e=false):ofE a=12:=if_pos h
theorem ofE_sz {a:Arr} (h:tyOk a.e=true) (h2:(sizeS a.d).2≠0):ofE a=(sizeS a.d).2:=by
  unfold ofE;rw [if_neg (show ¬ (eqS a.e sInt||eqS a.e sBool)=false from fun e=>by have e:tyOk a.e=false:=e;rw [h] at e;cases e),if_pos h2]
theorem ofE_len {a:Arr} (h:tyOk a.e=true) (h2:(sizeS a.d).2=0) (h3:(a.x.length:Int)≠(sizeS a.d).1):ofE a=1:=by
  unfold ofE;rw [if_neg (show ¬ (eqS a.e sInt||eqS a.e sBool)=false from fun e=>by have e:tyOk a.e=false:=e;rw [h] at e;cases e),if_neg (by simpa using h2),if_pos h3]
theorem ofE_el {a:Arr} (h:tyOk a.e=true) (h2:(sizeS a.d).2=0) (h3:(a.x.length:Int)=(sizeS a.d).1):ofE a=if bad a=true then 2 else 0:=by
  unfold ofE;rw [if_neg (show ¬ (eqS a.e sInt||eqS a.e sBool)=false from fun e=>by have e:tyOk a.e=false:=e;rw [h] at e;cases e),if_neg (by simpa using h2),if_neg (by simpa using h3)];rfl
theorem ofS_err {a:Arr} {e:Int} (h:ofE a=e) (h0:e≠0):ofS a=(nilA,e):=by unfold ofS;rw [h,if_neg h0]
theorem ofS_ok {a:Arr} (h:ofE a=0):ofS a=(a,0):=by unfold ofS;rw [if_pos h]
noncomputable def E7:Env:=envOf (P:=Try.prog) zer (fun _=>false) (fun _=>false) [con101,con114,con145] []
theorem E7_ok:EnvOk Try.prog E7:=envOk zer_ok
set_option maxRecDepth 20000 in
set_option maxHeartbeats 2000000 in
theorem of_pc {e:ByteArray} {d x:List Int} (hd:d.length≤1000000) (hx:x.length≤1000000):PC Try.prog 124 [.lit (.string e),.sl false 1 (ints .i64 d),.sl false 1 (ints .i64 x)] (aeV (ofS ⟨e,d,x⟩)):=by
  have hz:=sizeS_bd d
  by_cases t:tyOk e=true
  ·generalize hS:sizeS d=s at hz
   obtain ⟨n,er⟩:=s
   simp only at hz
   have hS1:(sizeS d).1=n:=by rw [hS]
   have hS2:(sizeS d).2=er:=by rw [hS]
   by_cases t1:eqS e ⟨#[105,110,116]⟩=true
   ·skip
    by_cases e0:er=0
    ·subst e0
     by_cases hn:(x.length:Int)=n
     ·have n1:((x.length:Int) !=n)=false:=by rw [bne_eq_false_iff_eq];exact hn
      by_cases hb:bad ⟨e,d,x⟩=true
      ·rw [ofS_err (e:=2) (by rw [ofE_el t hS2 (by rw [hS1];exact hn),if_pos hb]) (by decide)]
       have hb':(x.any fun n=> !vld e n)=true:=hb
       refine pcO E7_ok (fun _=>[0,1,2,6,7,8,9,15,22,27,33]) Try.func124 (h:=fun KF=>?_)
       unfold E7
       repeat' (first
        |(with_reducible first|refine nx ?_|refine t_seq fun K=>?_|refine t_br (fun hc=>?_) fun hc=>?_|refine t_bx ?_|apply And.intro|intro vr)
        |((with_reducible first|refine ny ?_|refine t_dwh (h:=fun K KL=>?_));intros;simp only [go_sem,geff,con101_f,con114_f,con145_f,con101_c,con114_c,con145_c,slK_sl,t1,hS,szV_def,n1,hb',Bool.not_true]))
       all_goals try exact om
       refine end_ret rfl ?_
       simp only [fin,go_sem]
       exact nilAe_le
      ·rw [ofS_ok (by rw [ofE_el t hS2 (by rw [hS1];exact hn),if_neg hb])]
       have hb':(x.any fun n=> !vld e n)=false:=Bool.eq_false_iff.2 hb
       refine pcO E7_ok (fun _=>[0,1,2,6,7,8,9,15,22,27,33]) Try.func124 (h:=fun KF=>?_)
       unfold E7
       repeat' (first
        |(with_reducible first|refine nx ?_|refine t_seq fun K=>?_|refine t_br (fun hc=>?_) fun hc=>?_|refine t_bx ?_|apply And.intro|intro vr)
        |((with_reducible first|refine ny ?_|refine t_dwh (h:=fun K KL=>?_));intros;simp only [go_sem,geff,con101_f,con114_f,con145_f,con101_c,con114_c,con145_c,slK_sl,t1,hS,szV_def,n1,hb',Bool.not_false]))
       all_goals try exact om
       refine end_ret rfl ?_
       simp only [fin,go_sem]
       exact LeA.refl _
     ·have n1:((x.length:Int) !=n)=true:=by rw [bne_iff_ne];exact hn
      rw [ofS_err (e:=1) (ofE_len t hS2 (by rw [hS1];exact hn)) (by decide)]
      refine pcO E7_ok (fun _=>[0,1,2,6,7,8,9,15,22,27,33]) Try.func124 (h:=fun KF=>?_)
      unfold E7
      repeat' (first
       |(with_reducible first|refine nx ?_|refine t_seq fun K=>?_|refine t_br (fun hc=>?_) fun hc=>?_|refine t_bx ?_|apply And.intro|intro vr)
       |((with_reducible first|refine ny ?_|refine t_dwh (h:=fun K KL=>?_));intros;simp only [go_sem,geff,con101_f,con114_f,con145_f,con101_c,con114_c,con145_c,slK_sl,t1,hS,szV_def,n1]))
      all_goals try exact om
      refine end_ret rfl ?_
      simp only [fin,go_sem]
      exact nilAe_le
    ·have e1:(er !=0)=true:=by rw [bne_iff_ne];exact e0
     rw [ofS_err (by rw [ofE_sz t (by rw [hS2];exact e0)]) (by rw [hS2];exact e0)]
     refine pcO E7_ok (fun _=>[0,1,2,6,7,8,9,15,22,27,33]) Try.func124 (h:=fun KF=>?_)
     unfold E7
     repeat' (first
      |(with_reducible first|refine nx ?_|refine t_seq fun K=>?_|refine t_br (fun hc=>?_) fun hc=>?_|refine t_bx ?_|apply And.intro|intro vr)
      |((with_reducible first|refine ny ?_|refine t_dwh (h:=fun K KL=>?_));intros;simp only [go_sem,geff,con101_f,con114_f,con145_f,con101_c,con114_c,con145_c,slK_sl,t1,hS,szV_def,e1]))
     all_goals try exact om
     refine end_ret rfl ?_
     simp only [fin,go_sem,hS]
     exact nilAe_le
   ·have t2:eqS e ⟨#[98,111,111,108]⟩=true:=by unfold tyOk at t;rw [Bool.or_eq_true] at t;exact t.resolve_left t1
    have t1':eqS e ⟨#[105,110,116]⟩=false:=by simpa using t1
    by_cases e0:er=0
    ·subst e0
     by_cases hn:(x.length:Int)=n
     ·have n1:((x.length:Int) !=n)=false:=by rw [bne_eq_false_iff_eq];exact hn
      by_cases hb:bad ⟨e,d,x⟩=true
      ·rw [ofS_err (e:=2) (by rw [ofE_el t hS2 (by rw [hS1];exact hn),if_pos hb]) (by decide)]
       have hb':(x.any fun n=> !vld e n)=true:=hb
       refine pcO E7_ok (fun _=>[0,1,2,6,7,8,9,15,22,27,33]) Try.func124 (h:=fun KF=>?_)
       unfold E7
       repeat' (first
        |(with_reducible first|refine nx ?_|refine t_seq fun K=>?_|refine t_br (fun hc=>?_) fun hc=>?_|refine t_bx ?_|apply And.intro|intro vr)
        |((with_reducible first|refine ny ?_|refine t_dwh (h:=fun K KL=>?_));intros;simp only [go_sem,geff,con101_f,con114_f,con145_f,con101_c,con114_c,con145_c,slK_sl,t1',t2,hS,szV_def,n1,hb',Bool.not_true]))
       all_goals try exact om
       refine end_ret rfl ?_
       simp only [fin,go_sem]
       exact nilAe_le
      ·rw [ofS_ok (by rw [ofE_el t hS2 (by rw [hS1];exact hn),if_neg hb])]
       have hb':(x.any fun n=> !vld e n)=false:=Bool.eq_false_iff.2 hb
       refine pcO E7_ok (fun _=>[0,1,2,6,7,8,9,15,22,27,33]) Try.func124 (h:=fun KF=>?_)
       unfold E7
       repeat' (first
        |(with_reducible first|refine nx ?_|refine t_seq fun K=>?_|refine t_br (fun hc=>?_) fun hc=>?_|refine t_bx ?_|apply And.intro|intro vr)
        |((with_reducible first|refine ny ?_|refine t_dwh (h:=fun K KL=>?_));intros;simp only [go_sem,geff,con101_f,con114_f,con145_f,con101_c,con114_c,con145_c,slK_sl,t1',t2,hS,szV_def,n1,hb',Bool.not_false]))
       all_goals try exact om
       refine end_ret rfl ?_
       simp only [fin,go_sem]
       exact LeA.refl _
     ·have n1:((x.length:Int) !=n)=true:=by rw [bne_iff_ne];exact hn
      rw [ofS_err (e:=1) (ofE_len t hS2 (by rw [hS1];exact hn)) (by decide)]
      refine pcO E7_ok (fun _=>[0,1,2,6,7,8,9,15,22,27,33]) Try.func124 (h:=fun KF=>?_)
      unfold E7
      repeat' (first
       |(with_reducible first|refine nx ?_|refine t_seq fun K=>?_|refine t_br (fun hc=>?_) fun hc=>?_|refine t_bx ?_|apply And.intro|intro vr)
       |((with_reducible first|refine ny ?_|refine t_dwh (h:=fun K KL=>?_));intros;simp only [go_sem,geff,con101_f,con114_f,con145_f,con101_c,con114_c,con145_c,slK_sl,t1',t2,hS,szV_def,n1]))
      all_goals try exact om
      refine end_ret rfl ?_
      simp only [fin,go_sem]
      exact nilAe_le
    ·have e1:(er !=0)=true:=by rw [bne_iff_ne];exact e0
     rw [ofS_err (by rw [ofE_sz t (by rw [hS2];exact e0)]) (by rw [hS2];exact e0)]
     refine pcO E7_ok (fun _=>[0,1,2,6,7,8,9,15,22,27,33]) Try.func124 (h:=fun KF=>?_)
     unfold E7
     repeat' (first
      |(with_reducible first|refine nx ?_|refine t_seq fun K=>?_|refine t_br (fun hc=>?_) fun hc=>?_|refine t_bx ?_|apply And.intro|intro vr)
      |((with_reducible first|refine ny ?_|refine t_dwh (h:=fun K KL=>?_));intros;simp only [go_sem,geff,con101_f,con114_f,con145_f,con101_c,con114_c,con145_c,slK_sl,t1',t2,hS,szV_def,e1]))
     all_goals try exact om
     refine end_ret rfl ?_
     simp only [fin,go_sem,hS]
     exact nilAe_le
  ·have t':tyOk e=false:=by simpa using t
   have t1:eqS e ⟨#[105,110,116]⟩=false:=(Bool.or_eq_false_iff.1 t').1
   have t2:eqS e ⟨#[98,111,111,108]⟩=false:=(Bool.or_eq_false_iff.1 t').2
   rw [ofS_err (ofE_ty t') (by decide)]
   refine pcO E7_ok (fun _=>[0,1,2,6,7,8,9,15,22,27,33]) Try.func124 (h:=fun KF=>?_)
   unfold E7
   repeat' (first
    |(with_reducible first|refine nx ?_|refine t_seq fun K=>?_|refine t_br (fun hc=>?_) fun hc=>?_|refine t_bx ?_|apply And.intro|intro vr)
    |((with_reducible first|refine ny ?_|refine t_dwh (h:=fun K KL=>?_));intros;simp only [go_sem,geff,con101_f,con114_f,con145_f,con101_c,con114_c,con145_c,t1,t2]))
   all_goals try exact om
   refine end_ret rfl ?_
   simp only [fin,go_sem]
   exact nilAe_le
noncomputable def con124:PCon Try.prog where
  f:=124
  c:=fun
   |[.lit (.string e),xd,xx]=>match slK .i64 xd,slK .i64 xx with|some d,some x=>some (d.length≤1000000∧x.length≤1000000,aeV (ofS ⟨e,d,x⟩))|_,_=>none
   |_=>none
  ok:=by
   intro args p r hc hp
   split at hc
   ·split at hc
    ·rename_i hd hx
     cases hc
     exact PC.weak ((fun hp:_∧_=>of_pc hp.1 hp.2) hp) ⟨LeA.refl _,slK_le hd,slK_le hx,trivial⟩
    ·cases hc
   ·cases hc
  fk:=fk124
theorem con124_f:con124.f=124:=rfl
theorem con124_c {e:ByteArray} {xd:AV} {xx:AV}:con124.c [.lit (.string e),xd,xx]=match slK .i64 xd,slK .i64 xx with|some d,some x=>some (d.length≤1000000∧x.length≤1000000,aeV (ofS ⟨e,d,x⟩))|_,_=>none:=rfl
theorem aeV_def {p:Arr×Int}:aeV p= .tup [arrV p.1,.lit (.int .i64 p.2)]:=rfl
theorem ofS_snd (a:Arr):(ofS a).2=ofE a:=by
  unfold ofS
  split
  ·rename_i h;exact h.symm
  ·rfl
noncomputable def E9:Env:=envOf (P:=Try.prog) zer (fun _=>false) (fun _=>false) [con124] []
theorem E9_ok:EnvOk Try.prog E9:=envOk zer_ok
theorem valid_pc {a:Arr} (hd:a.d.length≤1000000) (hx:a.x.length≤1000000):PC Try.prog 96 [arrV a] (.lit (.bool (ofE a==0))):=by
  rw [←ofS_snd]
  refine pcO E9_ok (fun _=>[1,2,4]) Try.func96 (h:=fun KF=>?_)
  unfold E9
  repeat' (first
   |(with_reducible first|refine nx ?_|refine t_seq fun K=>?_|refine t_br (fun hc=>?_) fun hc=>?_|refine t_bx ?_|apply And.intro|intro vr)
   |((with_reducible first|refine ny ?_|refine t_dwh (h:=fun K KL=>?_));intros;simp only [go_sem,geff,con124_f,con124_c,slK_sl,arrV_def,aeV_def]))
  all_goals try exact om
  refine end_ret rfl ?_
  simp only [fin,go_sem]
  exact LeA.refl _
noncomputable def con96:PCon Try.prog where
  f:=96
  c:=fun
   |[xa]=>match arrOf xa with|some a=>some (a.d.length≤1000000∧a.x.length≤1000000,.lit (.bool (ofE a==0)))|_=>none
   |_=>none
  ok:=by
   intro args p r hc hp
   split at hc
   ·split at hc
    ·rename_i ha
     cases hc
     exact PC.weak ((fun hp:_∧_=>valid_pc hp.1 hp.2) hp) ⟨arrOf_le ha,trivial⟩
    ·cases hc
   ·cases hc
  fk:=fk96
theorem con96_f:con96.f=96:=rfl
theorem con96_c {xa:AV}:con96.c [xa]=match arrOf xa with|some a=>some (a.d.length≤1000000∧a.x.length≤1000000,.lit (.bool (ofE a==0)))|_=>none:=rfl
end Go.Proofs.Ytnlimcijgpaegaa

namespace Go.Proofs.Ytnlimcijgpaegaa
open Go Go.Fw
set_option maxRecDepth 20000
def okA (a:Arr):Prop:=a.d.length≤1000000∧a.x.length≤1000000
def fewA (a:Arr) (n:Int):Bool:=decide ((a.e.size:Int)≤20)&&(decide ((a.d.length:Int)≤8)&&decide ((a.x.length:Int)≤n))
theorem few_pc {a:Arr} {n:Int}:PC Try.prog 53 [arrV a,.lit (.int .i64 n)] (.lit (.bool (fewA a n))):=by
  unfold fewA
  by_cases h1:(a.e.size:Int)≤20
  ·have e1:decide ((a.e.size:Int)≤20)=true:=decide_eq_true h1
   by_cases h2:(a.d.length:Int)≤8
   ·have e2:decide ((a.d.length:Int)≤8)=true:=decide_eq_true h2
    rw [e1,e2]
    refine pcO E0_ok (fun _=>[1,2,4]) Try.func53 (h:=fun KF=>?_)
    unfold E0
    repeat' (first
     |(with_reducible first|refine nx ?_|refine t_seq fun K=>?_|refine t_br (fun hc=>?_) fun hc=>?_|refine t_bx ?_|apply And.intro|intro vr)
     |((with_reducible first|refine ny ?_|refine t_dwh (h:=fun K KL=>?_));intros;simp only [go_sem,geff,arrV_def,e1,e2]))
    all_goals try exact om
    refine end_ret rfl ?_
    simp only [fin,go_sem]
    exact LeA.refl _
   ·have e2:decide ((a.d.length:Int)≤8)=false:=decide_eq_false h2
    rw [e1,e2]
    refine pcO E0_ok (fun _=>[1,2,4]) Try.func53 (h:=fun KF=>?_)
    unfold E0
    repeat' (first
     |(with_reducible first|refine nx ?_|refine t_seq fun K=>?_|refine t_br (fun hc=>?_) fun hc=>?_|refine t_bx ?_|apply And.intro|intro vr)
     |((with_reducible first|refine ny ?_|refine t_dwh (h:=fun K KL=>?_));intros;simp only [go_sem,geff,arrV_def,e1,e2]))
    all_goals try exact om
    refine end_ret rfl ?_
    simp only [fin,go_sem]
    exact LeA.refl _
  ·have e1:decide ((a.e.size:Int)≤20)=false:=decide_eq_false h1
   rw [e1]
   refine pcO E0_ok (fun _=>[1,2,4]) Try.func53 (h:=fun KF=>?_)
   unfold E0
   repeat' (first
    |(with_reducible first|refine nx ?_|refine t_seq fun K=>?_|refine t_br (fun hc=>?_) fun hc=>?_|refine t_bx ?_|apply And.intro|intro vr)
    |((with_reducible first|refine ny ?_|refine t_dwh (h:=fun K KL=>?_));intros;simp only [go_sem,geff,arrV_def,e1]))
   all_goals try exact om
   refine end_ret rfl ?_
   simp only [fin,go_sem]
   exact LeA.refl _
noncomputable def con53:PCon Try.prog where
  f:=53
  c:=fun
   |[xa,.lit (.int .i64 n)]=>match arrOf xa with|some a=>some (True,.lit (.bool (fewA a n)))|_=>none
   |_=>none
  ok:=by
   intro args p r hc hp
   split at hc
   ·split at hc
    ·rename_i ha
     cases hc
     exact PC.weak few_pc ⟨arrOf_le ha,LeA.refl _,trivial⟩
    ·cases hc
   ·cases hc
  fk:=fk53
theorem con53_f:con53.f=53:=rfl
theorem con53_c {xa:AV} {n:Int}:con53.c [xa,.lit (.int .i64 n)]=match arrOf xa with|some a=>some (True,.lit (.bool (fewA a n)))|_=>none:=rfl
end Go.Proofs.Ytnlimcijgpaegaa

namespace Go.Proofs.Ytnlimcijgpaegaa
open Go Go.Fw
set_option maxRecDepth 20000
def fieldTs (P:Program) (t:TypeId):List TypeId:=match P.underlying t with
  |some (.struct fs)=>fs.toList.map (·.type)
  |_=>[]
theorem struct_of {P:Program} {t:TypeId} {ts:List TypeId} (hne:ts≠[]) (h:fieldTs P t=ts):∃ fs:Array Field,P.underlying t=some (.struct fs)∧fs.toList.map (·.type)=ts:=by
  unfold fieldTs at h
  split at h
  ·rename_i e;exact ⟨_,e,h⟩
  ·exact absurd h.symm hne
theorem sh_fields {P:Program} {t:TypeId} {ts:List TypeId} {xs:List AV} (hne:ts≠[]) (ht:fieldTs P t=ts) (h:Sh P t xs):
    ∃ xss:List (List AV),xs=xss.flatten∧xss.length=ts.length∧∀ (i:Nat) (u:TypeId) (ys:List AV),ts[i]? =some u→xss[i]? =some ys→Sh P u ys:=by
  obtain ⟨fs,hf,hm⟩:=struct_of hne ht
  obtain ⟨xss,h1,h2,h3⟩:=sh_struct hf h
  refine ⟨xss,h1,by rw [h2,←hm];simp,fun i u ys hu hy=>?_⟩
  rw [←hm,List.getElem?_map] at hu
  cases hi:fs.toList[i]? with
  |none=>rw [hi] at hu;cases hu
  |some f=>rw [hi] at hu;cases hu;exact h3 i f ys hi hy
theorem sh_three {P:Program} {t a b c:TypeId} {xs:List AV} (ht:fieldTs P t=[a,b,c]) (h:Sh P t xs):∃ p q r,xs=p++(q++r)∧Sh P a p∧Sh P b q∧Sh P c r:=by
  obtain ⟨xss,h1,h2,h3⟩:=sh_fields (by simp) ht h
  match xss,h2 with
  |[p,q,r],_=>exact ⟨p,q,r,by simpa using h1,h3 0 a p rfl rfl,h3 1 b q rfl rfl,h3 2 c r rfl rfl⟩
theorem sh_two {P:Program} {t a b:TypeId} {xs:List AV} (ht:fieldTs P t=[a,b]) (h:Sh P t xs):∃ p q,xs=p++q∧Sh P a p∧Sh P b q:=by
  obtain ⟨xss,h1,h2,h3⟩:=sh_fields (by simp) ht h
  match xss,h2 with
  |[p,q],_=>exact ⟨p,q,by simpa using h1,h3 0 a p rfl rfl,h3 1 b q rfl rfl⟩
theorem ft96:fieldTs Try.prog 96=[9,34,34]:=by kernel_rfl
def okW (a:Arr):Prop:=(∀ n∈a.d,inI64 n)∧(∀ n∈a.x,inI64 n)∧a.d.length≤maxLen∧a.x.length≤maxLen
theorem shv_arr {x:AV} (h:ShV Try.prog 96 x):∃ a:Arr,x=arrV a∧okW a:=by
  obtain ⟨c,rfl,hc⟩:=shv_agg ag96 h
  obtain ⟨p,q,r,rfl,hp,hq,hr⟩:=sh_three ft96 hc
  obtain ⟨s,rfl,hs⟩:=sh_str u9 hp
  obtain ⟨d,rfl,hd,hd'⟩:=sh_ints u34 u3 sz3 hq
  obtain ⟨w,rfl,hw,hw'⟩:=sh_ints u34 u3 sz3 hr
  exact ⟨⟨s,d,w⟩,rfl,fun n hn=>wf_i64 (hd' n hn),fun n hn=>wf_i64 (hw' n hn),hd,hw⟩
theorem list_arrs {q:Arr→Prop}:∀ {ys:List AV},(∀ y∈ys,∃ a,y=arrV a∧q a)→∃ l:List Arr,ys=arrs l∧∀ a∈l,q a
  |[],_=>⟨[],rfl,by simp⟩
  |y::ys,h=>by
   obtain ⟨n,rfl,hn⟩:=h y (by simp)
   obtain ⟨l,rfl,hl⟩:=list_arrs (ys:=ys) fun z hz=>h z (by simp [hz])
   exact ⟨n::l,rfl,fun m hm=>by rcases List.mem_cons.1 hm with rfl|hm;exact hn;exact hl m hm⟩
theorem shv_arrs {x:AV} (h:ShV Try.prog 43 x):∃ l:List Arr,x= .sl false 3 (arrs l)∧l.length≤maxLen∧∀ a∈l,okW a:=by
  obtain ⟨ys,rfl,hl,hy⟩:=shv_slice u43 h
  obtain ⟨l,rfl,hq⟩:=list_arrs fun y hm=>shv_arr (hy y hm)
  exact ⟨l,by rw [sz96],by simpa [arrs] using hl,hq⟩
end Go.Proofs.Ytnlimcijgpaegaa

namespace Go.Fw
end Go.Fw
namespace Go.Proofs.Ytnlimcijgpaegaa
open Go Go.Fw
set_option maxRecDepth 20000
end Go.Proofs.Ytnlimcijgpaegaa

namespace Go.Proofs.Ytnlimcijgpaegaa
open Go Go.Fw
set_option maxRecDepth 20000
def ilA (l:List Int):AV:= .sl false 1 (ints .i64 l)
def ils (L:List (List Int)):List AV:=L.map ilA
def axOk (n:Int) (axes:List Int) (i:Nat):Bool:= !decide (axes.getD i 0<0)&&(!decide (axes.getD i 0≥n)&& !(decide ((i:Int)>0)&&decide (axes.getD (i - 1) 0≥axes.getD i 0)))
def axP (n:Int) (axes:List Int):Prop:=∀ i,i<axes.length→axOk n axes i=true
instance (n:Int) (axes:List Int):Decidable (axP n axes):=inferInstanceAs (Decidable (∀ i,i<axes.length→axOk n axes i=true))
end Go.Proofs.Ytnlimcijgpaegaa

namespace Go.Proofs.Ytnlimcijgpaegaa
open Go Go.Fw
set_option maxRecDepth 20000
def jA:AV:=arrV nilA
def jI:AV:= .sl false 1 []
def jk:TypeId→AV:=lookZ [(3,.lit (.int .i64 0)),(9,.lit (.string ByteArray.empty)),(34,jI),(96,jA)]
theorem jk3:jk 3= .lit (.int .i64 0):=rfl
theorem jk9:jk 9= .lit (.string ByteArray.empty):=rfl
theorem jk34:jk 34=jI:=rfl
theorem jk96:jk 96=jA:=rfl
theorem arrs_getJ (l:List Arr) (i:Nat):(arrs l).getD i jA=arrV (l.getD i nilA):=by
  simp only [arrs,jA,List.getD_eq_getElem?_getD,List.getElem?_map];cases l[i]? <;>rfl
theorem ils_getJ (l:List (List Int)) (i:Nat):(ils l).getD i jI= .sl false 1 (ints .i64 (l.getD i [])):=by
  simp only [ils,jI,List.getD_eq_getElem?_getD,List.getElem?_map];cases l[i]? <;>rfl
attribute [go_sem] jk3 jk9 jk34 jk96 arrs_getJ ils_getJ
end Go.Proofs.Ytnlimcijgpaegaa

namespace Go.Proofs.Ytnlimcijgpaegaa.El
open Go.Proofs.Ytnlimcijgpaegaa
open Go Go.Fw
set_option maxRecDepth 20000
noncomputable def E0:Env:=envOf (P:=Try.prog) zer (fun _=>false) (fun _=>false) [] []
theorem E0_ok:EnvOk Try.prog E0:=envOk zer_ok
def el (n:Int):Prop:= -2147483648≤n∧n≤2147483647
def w32 (n:Int):Int:=IntKind.i32.wrap n
theorem w32_eq (n:Int):w32 n=(n+2147483648) % 4294967296 - 2147483648:=by
  unfold w32 IntKind.wrap
  have e1:IntKind.i32.bits=32:=rfl
  have e2:IntKind.i32.signed=true:=rfl
  simp only [e1,e2]
  simp
  try omega
theorem w32_el (n:Int):el (w32 n):=by rw [w32_eq];unfold el;omega
theorem w32_id {n:Int} (h:el n):w32 n=n:=by rw [w32_eq];unfold el at h;omega
theorem el_i64 {n:Int} (h:el n):inI64 n:=by unfold el at h;unfold inI64;omega
theorem wrap_w32 (n:Int):IntKind.i64.wrap (IntKind.i32.wrap n)=w32 n:=wrap_i64 (el_i64 (w32_el n))
theorem wrap_pc {f:FuncId} {n:Int} (hf:f=157∨f=44):PC Try.prog f [.lit (.int .i64 n)] (.lit (.int .i64 (w32 n))):=by
  rcases hf with rfl|rfl
  ·skip
   refine pcO E0_ok (fun _=>[0,2]) Try.func157 (h:=fun KF=>?_)
   unfold E0
   repeat' (first
    |(with_reducible first|refine nx ?_|refine t_seq fun K=>?_|refine t_br (fun hc=>?_) fun hc=>?_|refine t_bx ?_|apply And.intro|intro vr)
    |((with_reducible first|refine ny ?_|refine t_dwh (h:=fun K KL=>?_));intros;simp only [go_sem,geff]))
   refine end_ret rfl ?_
   simp only [fin,go_sem,wrap_w32]
   exact LeA.refl _
  ·skip
   refine pcO E0_ok (fun _=>[0,2]) Try.func44 (h:=fun KF=>?_)
   unfold E0
   repeat' (first
    |(with_reducible first|refine nx ?_|refine t_seq fun K=>?_|refine t_br (fun hc=>?_) fun hc=>?_|refine t_bx ?_|apply And.intro|intro vr)
    |((with_reducible first|refine ny ?_|refine t_dwh (h:=fun K KL=>?_));intros;simp only [go_sem,geff]))
   refine end_ret rfl ?_
   simp only [fin,go_sem,wrap_w32]
   exact LeA.refl _
noncomputable def wrapCon (f:FuncId) (h:f=157∨f=44):PCon Try.prog where
  f:=f
  c:=fun
   |[.lit (.int .i64 n)]=>some (True,.lit (.int .i64 (w32 n)))
   |_=>none
  ok:=by
   intro args p r hc hp
   split at hc
   ·cases hc;exact wrap_pc h
   ·cases hc
  fk:=by
   rcases h with rfl|rfl
   ·exact fk157
   ·exact fk44
noncomputable def con157:=wrapCon 157 (.inl rfl)
theorem con157_f:con157.f=157:=rfl
theorem con157_c {n:Int}:con157.c [.lit (.int .i64 n)]=some (True,.lit (.int .i64 (w32 n))):=rfl
def tru (b:Bool):Int:=if b=true then 1 else 0
theorem tru_pc {f:FuncId} {b:Bool} (hf:f=74∨f=178):PC Try.prog f [.lit (.bool b)] (.lit (.int .i64 (tru b))):=by
  rcases hf with rfl|rfl<;>cases b
  ·skip
   refine pcO E0_ok (fun _=>[0,2,3]) Try.func74 (h:=fun KF=>?_)
   unfold E0
   repeat' (first
    |(with_reducible first|refine nx ?_|refine t_seq fun K=>?_|refine t_br (fun hc=>?_) fun hc=>?_|refine t_bx ?_|apply And.intro|intro vr)
    |((with_reducible first|refine ny ?_|refine t_dwh (h:=fun K KL=>?_));intros;simp only [go_sem,geff]))
   refine end_ret rfl ?_
   simp only [fin,go_sem]
   exact LeA.refl _
  ·skip
   refine pcO E0_ok (fun _=>[0,2,3]) Try.func74 (h:=fun KF=>?_)
   unfold E0
   repeat' (first
    |(with_reducible first|refine nx ?_|refine t_seq fun K=>?_|refine t_br (fun hc=>?_) fun hc=>?_|refine t_bx ?_|apply And.intro|intro vr)
    |((with_reducible first|refine ny ?_|refine t_dwh (h:=fun K KL=>?_));intros;simp only [go_sem,geff]))
   refine end_ret rfl ?_
   simp only [fin,go_sem]
   exact LeA.refl _
  ·skip
   refine pcO E0_ok (fun _=>[0,2,3]) Try.func178 (h:=fun KF=>?_)
   unfold E0
   repeat' (first
    |(with_reducible first|refine nx ?_|refine t_seq fun K=>?_|refine t_br (fun hc=>?_) fun hc=>?_|refine t_bx ?_|apply And.intro|intro vr)
    |((with_reducible first|refine ny ?_|refine t_dwh (h:=fun K KL=>?_));intros;simp only [go_sem,geff]))
   refine end_ret rfl ?_
   simp only [fin,go_sem]
   exact LeA.refl _
  ·skip
   refine pcO E0_ok (fun _=>[0,2,3]) Try.func178 (h:=fun KF=>?_)
   unfold E0
   repeat' (first
    |(with_reducible first|refine nx ?_|refine t_seq fun K=>?_|refine t_br (fun hc=>?_) fun hc=>?_|refine t_bx ?_|apply And.intro|intro vr)
    |((with_reducible first|refine ny ?_|refine t_dwh (h:=fun K KL=>?_));intros;simp only [go_sem,geff]))
   refine end_ret rfl ?_
   simp only [fin,go_sem]
   exact LeA.refl _
noncomputable def truCon (f:FuncId) (h:f=74∨f=178):PCon Try.prog where
  f:=f
  c:=fun
   |[.lit (.bool b)]=>some (True,.lit (.int .i64 (tru b)))
   |_=>none
  ok:=by
   intro args p r hc hp
   split at hc
   ·cases hc;exact tru_pc h
   ·cases hc
  fk:=by
   rcases h with rfl|rfl
   ·exact fk74
   ·exact fk178
noncomputable def con178:=truCon 178 (.inr rfl)
theorem con178_f:con178.f=178:=rfl
theorem con178_c {b:Bool}:con178.c [.lit (.bool b)]=some (True,.lit (.int .i64 (tru b))):=rfl
theorem tdiv_bd {a b:Int} (ha:el a) (hb:b≠0): -2147483648≤a.tdiv b∧a.tdiv b≤2147483648:=by
  unfold el at ha
  have:=Int.natAbs_tdiv_le_natAbs a b
  omega
def flo (a b:Int):Int:=if b=0 then 0 else if a.tmod b≠0∧decide (a<0)≠decide (b<0) then a.tdiv b - 1 else a.tdiv b
theorem flo_pc {f:FuncId} {a b:Int} (hf:f=175∨f=75) (ha:el a):PC Try.prog f [.lit (.int .i64 a),.lit (.int .i64 b)] (.lit (.int .i64 (flo a b))):=by
  unfold flo
  by_cases hb:b=0
  ·subst hb
   rcases hf with rfl|rfl
   ·skip
    refine pcO E0_ok (fun _=>[0,1,4,5,7,21]) Try.func175 (h:=fun KF=>?_)
    unfold E0
    repeat' (first
     |(with_reducible first|refine nx ?_|refine t_seq fun K=>?_|refine t_br (fun hc=>?_) fun hc=>?_|refine t_bx ?_|apply And.intro|intro vr)
     |((with_reducible first|refine ny ?_|refine t_dwh (h:=fun K KL=>?_));intros;simp only [go_sem,geff]))
    refine end_ret rfl ?_
    simp only [fin,go_sem]
    exact LeA.refl _
   ·skip
    refine pcO E0_ok (fun _=>[0,1,4,5,7,21]) Try.func75 (h:=fun KF=>?_)
    unfold E0
    repeat' (first
     |(with_reducible first|refine nx ?_|refine t_seq fun K=>?_|refine t_br (fun hc=>?_) fun hc=>?_|refine t_bx ?_|apply And.intro|intro vr)
     |((with_reducible first|refine ny ?_|refine t_dwh (h:=fun K KL=>?_));intros;simp only [go_sem,geff]))
    refine end_ret rfl ?_
    simp only [fin,go_sem]
    exact LeA.refl _
  have hd:=tdiv_bd ha hb
  have z:(b==0)=false:=by rw [beq_eq_false_iff_ne];exact hb
  rw [if_neg hb]
  by_cases h0:a.tmod b=0
  ·have z0:(a.tmod b !=0)=false:=by rw [bne_eq_false_iff_eq];exact h0
   rw [if_neg (fun h=>h.1 h0)]
   rcases hf with rfl|rfl
   ·skip
    refine pcO E0_ok (fun _=>[0,1,4,5,7,21]) Try.func175 (h:=fun KF=>?_)
    unfold E0
    repeat' (first
     |(with_reducible first|refine nx ?_|refine t_seq fun K=>?_|refine t_br (fun hc=>?_) fun hc=>?_|refine t_bx ?_|apply And.intro|intro vr)
     |((with_reducible first|refine ny ?_|refine t_dwh (h:=fun K KL=>?_));intros;simp only [go_sem,geff,z,z0]))
    all_goals try exact om
    refine end_ret rfl ?_
    simp only [fin,go_sem]
    exact LeA.refl _
   ·skip
    refine pcO E0_ok (fun _=>[0,1,4,5,7,21]) Try.func75 (h:=fun KF=>?_)
    unfold E0
    repeat' (first
     |(with_reducible first|refine nx ?_|refine t_seq fun K=>?_|refine t_br (fun hc=>?_) fun hc=>?_|refine t_bx ?_|apply And.intro|intro vr)
     |((with_reducible first|refine ny ?_|refine t_dwh (h:=fun K KL=>?_));intros;simp only [go_sem,geff,z,z0]))
    all_goals try exact om
    refine end_ret rfl ?_
    simp only [fin,go_sem]
    exact LeA.refl _
  have z0:(a.tmod b !=0)=true:=by rw [bne_iff_ne];exact h0
  by_cases h1:decide (a<0)=decide (b<0)
  ·have z1:(decide (a<0)==decide (b<0))=true:=by rw [beq_iff_eq];exact h1
   rw [if_neg (fun h=>h.2 h1)]
   rcases hf with rfl|rfl
   ·skip
    refine pcO E0_ok (fun _=>[0,1,4,5,7,21]) Try.func175 (h:=fun KF=>?_)
    unfold E0
    repeat' (first
     |(with_reducible first|refine nx ?_|refine t_seq fun K=>?_|refine t_br (fun hc=>?_) fun hc=>?_|refine t_bx ?_|apply And.intro|intro vr)
     |((with_reducible first|refine ny ?_|refine t_dwh (h:=fun K KL=>?_));intros;simp only [go_sem,geff,z,z0,z1]))
    all_goals try exact om
    refine end_ret rfl ?_
    simp only [fin,go_sem]
    exact LeA.refl _
   ·skip
    refine pcO E0_ok (fun _=>[0,1,4,5,7,21]) Try.func75 (h:=fun KF=>?_)
    unfold E0
    repeat' (first
     |(with_reducible first|refine nx ?_|refine t_seq fun K=>?_|refine t_br (fun hc=>?_) fun hc=>?_|refine t_bx ?_|apply And.intro|intro vr)
     |((with_reducible first|refine ny ?_|refine t_dwh (h:=fun K KL=>?_));intros;simp only [go_sem,geff,z,z0,z1]))
    all_goals try exact om
    refine end_ret rfl ?_
    simp only [fin,go_sem]
    exact LeA.refl _
  ·have z1:(decide (a<0)==decide (b<0))=false:=by rw [beq_eq_false_iff_ne];exact h1
   rw [if_pos ⟨h0,h1⟩]
   rcases hf with rfl|rfl
   ·skip
    refine pcO E0_ok (fun _=>[0,1,4,5,7,21]) Try.func175 (h:=fun KF=>?_)
    unfold E0
    repeat' (first
     |(with_reducible first|refine nx ?_|refine t_seq fun K=>?_|refine t_br (fun hc=>?_) fun hc=>?_|refine t_bx ?_|apply And.intro|intro vr)
     |((with_reducible first|refine ny ?_|refine t_dwh (h:=fun K KL=>?_));intros;simp only [go_sem,geff,z,z0,z1]))
    all_goals try exact om
    refine end_ret rfl ?_
    simp only [fin,go_sem]
    exact LeA.refl _
   ·skip
    refine pcO E0_ok (fun _=>[0,1,4,5,7,21]) Try.func75 (h:=fun KF=>?_)
    unfold E0
    repeat' (first
     |(with_reducible first|refine nx ?_|refine t_seq fun K=>?_|refine t_br (fun hc=>?_) fun hc=>?_|refine t_bx ?_|apply And.intro|intro vr)
     |((with_reducible first|refine ny ?_|refine t_dwh (h:=fun K KL=>?_));intros;simp only [go_sem,geff,z,z0,z1]))
    all_goals try exact om
    refine end_ret rfl ?_
    simp only [fin,go_sem]
    exact LeA.refl _
noncomputable def floCon (f:FuncId) (h:f=175∨f=75):PCon Try.prog where
  f:=f
  c:=fun
   |[.lit (.int .i64 a),.lit (.int .i64 b)]=>some (el a,.lit (.int .i64 (flo a b)))
   |_=>none
  ok:=by
   intro args p r hc hp
   split at hc
   ·cases hc;exact flo_pc h hp
   ·cases hc
  fk:=by
   rcases h with rfl|rfl
   ·exact fk175
   ·exact fk75
noncomputable def con175:=floCon 175 (.inl rfl)
theorem con175_f:con175.f=175:=rfl
theorem con175_c {a b:Int}:con175.c [.lit (.int .i64 a),.lit (.int .i64 b)]=some (el a,.lit (.int .i64 (flo a b))):=rfl
def sgn (a:Int):Int:=if a<0 then -1 else if a>0 then 1 else 0
theorem nan_pc {a:Int}:PC Try.prog 164 [.lit (.int .i64 a)] (.lit (.bool false)):=by
  refine pcO E0_ok (fun _=>[0,2]) Try.func164 (h:=fun KF=>?_)
  unfold E0
  repeat' (first
   |(with_reducible first|refine nx ?_|refine t_seq fun K=>?_|refine t_br (fun hc=>?_) fun hc=>?_|refine t_bx ?_|apply And.intro|intro vr)
   |((with_reducible first|refine ny ?_|refine t_dwh (h:=fun K KL=>?_));intros;simp only [go_sem,geff,bne_self_eq_false]))
  refine end_ret rfl ?_
  simp only [fin,go_sem,bne_self_eq_false]
  exact LeA.refl _
noncomputable def con164:PCon Try.prog where
  f:=164
  c:=fun
   |[.lit (.int .i64 _)]=>some (True,.lit (.bool false))
   |_=>none
  ok:=by
   intro args p r hc hp
   split at hc
   ·cases hc;exact nan_pc
   ·cases hc
  fk:=fk164
theorem con164_f:con164.f=164:=rfl
theorem con164_c {a:Int}:con164.c [.lit (.int .i64 a)]=some (True,.lit (.bool false)):=rfl
noncomputable def E1:Env:=envOf (P:=Try.prog) zer (fun _=>false) (fun _=>false) [con164] []
theorem E1_ok:EnvOk Try.prog E1:=envOk zer_ok
theorem cmp_pc {a:Int}:PC Try.prog 176 [.lit (.int .i64 a),.lit (.int .i64 0)] (.lit (.int .i64 (sgn a))):=by
  unfold sgn
  by_cases h1:a<0
  ·have z:decide (a<0)=true:=decide_eq_true h1
   rw [if_pos h1]
   refine pcO E1_ok (fun _=>[0,1,4,5,6,11,12,13,16,19]) Try.func176 (h:=fun KF=>?_)
   unfold E1
   repeat' (first
    |(with_reducible first|refine nx ?_|refine t_seq fun K=>?_|refine t_br (fun hc=>?_) fun hc=>?_|refine t_bx ?_|apply And.intro|intro vr)
    |((with_reducible first|refine ny ?_|refine t_dwh (h:=fun K KL=>?_));intros;simp only [go_sem,geff,con164_f,con164_c,z]))
   refine end_ret rfl ?_
   simp only [fin,go_sem]
   exact LeA.refl _
  have z:decide (a<0)=false:=decide_eq_false h1
  rw [if_neg h1]
  by_cases h2:a>0
  ·have z2:decide (a>0)=true:=decide_eq_true h2
   rw [if_pos h2]
   refine pcO E1_ok (fun _=>[0,1,4,5,6,11,12,13,16,19]) Try.func176 (h:=fun KF=>?_)
   unfold E1
   repeat' (first
    |(with_reducible first|refine nx ?_|refine t_seq fun K=>?_|refine t_br (fun hc=>?_) fun hc=>?_|refine t_bx ?_|apply And.intro|intro vr)
    |((with_reducible first|refine ny ?_|refine t_dwh (h:=fun K KL=>?_));intros;simp only [go_sem,geff,con164_f,con164_c,z,z2]))
   refine end_ret rfl ?_
   simp only [fin,go_sem]
   exact LeA.refl _
  ·have z2:decide (a>0)=false:=decide_eq_false h2
   rw [if_neg h2]
   refine pcO E1_ok (fun _=>[0,1,4,5,6,11,12,13,16,19]) Try.func176 (h:=fun KF=>?_)
   unfold E1
   repeat' (first
    |(with_reducible first|refine nx ?_|refine t_seq fun K=>?_|refine t_br (fun hc=>?_) fun hc=>?_|refine t_bx ?_|apply And.intro|intro vr)
    |((with_reducible first|refine ny ?_|refine t_dwh (h:=fun K KL=>?_));intros;simp only [go_sem,geff,con164_f,con164_c,z,z2]))
   refine end_ret rfl ?_
   simp only [fin,go_sem]
   exact LeA.refl _
noncomputable def con176:PCon Try.prog where
  f:=176
  c:=fun
   |[.lit (.int .i64 a),.lit (.int .i64 0)]=>some (True,.lit (.int .i64 (sgn a)))
   |_=>none
  ok:=by
   intro args p r hc hp
   split at hc
   ·cases hc;exact cmp_pc
   ·cases hc
  fk:=fk176
theorem con176_f:con176.f=176:=rfl
theorem con176_c {a:Int}:con176.c [.lit (.int .i64 a),.lit (.int .i64 0)]=some (True,.lit (.int .i64 (sgn a))):=rfl
def sInt:ByteArray:=⟨#[105,110,116]⟩
def sBool:ByteArray:=⟨#[98,111,111,108]⟩
def sA:ByteArray:=⟨#[65]⟩
def vld (s:ByteArray) (n:Int):Bool:=if eqS s sInt=true then decide (-2147483648≤n∧n≤2147483647) else if eqS s sBool=true then decide (n=0∨n=1) else false
theorem eqS_iff {a b:ByteArray}:eqS a b=true ↔ a=b:=by
  unfold eqS
  rw [beq_iff_eq]
  constructor
  ·intro h
   apply ByteArray.ext
   apply Array.ext'
   simpa using h
  ·intro h;rw [h]
theorem eqS_refl (b:ByteArray):eqS b b=true:=eqS_iff.2 rfl
theorem vld_pc {f:FuncId} {s:ByteArray} {n:Int} (hf:f=168∨f=35):PC Try.prog f [.lit (.string s),.lit (.int .i64 n)] (.lit (.bool (vld s n))):=by
  unfold vld sInt sBool
  by_cases h1:eqS s ⟨#[105,110,116]⟩=true
  ·have hs:s=⟨#[105,110,116]⟩:=eqS_iff.1 h1
   have h2:eqS s ⟨#[98,111,111,108]⟩=false:=by rw [hs];rfl
   rw [if_pos h1]
   by_cases h3:n≥ -2147483648
   ·have z3:decide (n≥ -2147483648)=true:=decide_eq_true h3
    have e:decide (-2147483648≤n∧n≤2147483647)=decide (n≤2147483647):=by simp;omega
    rw [e]
    rcases hf with rfl|rfl
    ·skip
     refine pcO E0_ok (fun _=>[0,1,4,5,6,14]) Try.func168 (h:=fun KF=>?_)
     unfold E0
     repeat' (first
      |(with_reducible first|refine nx ?_|refine t_seq fun K=>?_|refine t_br (fun hc=>?_) fun hc=>?_|refine t_bx ?_|apply And.intro|intro vr)
      |((with_reducible first|refine ny ?_|refine t_dwh (h:=fun K KL=>?_));intros;simp only [go_sem,geff,h1,h2,z3]))
     refine end_ret rfl ?_
     simp only [fin,go_sem]
     exact LeA.refl _
    ·skip
     refine pcO E0_ok (fun _=>[0,1,4,6]) Try.func35 (h:=fun KF=>?_)
     unfold E0
     repeat' (first
      |(with_reducible first|refine nx ?_|refine t_seq fun K=>?_|refine t_br (fun hc=>?_) fun hc=>?_|refine t_bx ?_|apply And.intro|intro vr)
      |((with_reducible first|refine ny ?_|refine t_dwh (h:=fun K KL=>?_));intros;simp only [go_sem,geff,h1,h2,z3]))
     refine end_ret rfl ?_
     simp only [fin,go_sem]
     exact LeA.refl _
   ·have z3:decide (n≥ -2147483648)=false:=decide_eq_false h3
    have e:decide (-2147483648≤n∧n≤2147483647)=false:=by simp;omega
    rw [e]
    rcases hf with rfl|rfl
    ·skip
     refine pcO E0_ok (fun _=>[0,1,4,5,6,14]) Try.func168 (h:=fun KF=>?_)
     unfold E0
     repeat' (first
      |(with_reducible first|refine nx ?_|refine t_seq fun K=>?_|refine t_br (fun hc=>?_) fun hc=>?_|refine t_bx ?_|apply And.intro|intro vr)
      |((with_reducible first|refine ny ?_|refine t_dwh (h:=fun K KL=>?_));intros;simp only [go_sem,geff,h1,h2,z3]))
     refine end_ret rfl ?_
     simp only [fin,go_sem]
     exact LeA.refl _
    ·skip
     refine pcO E0_ok (fun _=>[0,1,4,6]) Try.func35 (h:=fun KF=>?_)
     unfold E0
     repeat' (first
      |(with_reducible first|refine nx ?_|refine t_seq fun K=>?_|refine t_br (fun hc=>?_) fun hc=>?_|refine t_bx ?_|apply And.intro|intro vr)
      |((with_reducible first|refine ny ?_|refine t_dwh (h:=fun K KL=>?_));intros;simp only [go_sem,geff,h1,h2,z3]))
     refine end_ret rfl ?_
     simp only [fin,go_sem]
     exact LeA.refl _
  ·have h1':eqS s ⟨#[105,110,116]⟩=false:=by simpa using h1
   rw [if_neg h1]
   by_cases h2:eqS s ⟨#[98,111,111,108]⟩=true
   ·rw [if_pos h2]
    by_cases h3:n=0
    ·have z3:(n==0)=true:=by rw [beq_iff_eq];exact h3
     have e:decide (n=0∨n=1)=true:=decide_eq_true (.inl h3)
     rw [e]
     rcases hf with rfl|rfl
     ·skip
      refine pcO E0_ok (fun _=>[0,1,4,5,6,14]) Try.func168 (h:=fun KF=>?_)
      unfold E0
      repeat' (first
       |(with_reducible first|refine nx ?_|refine t_seq fun K=>?_|refine t_br (fun hc=>?_) fun hc=>?_|refine t_bx ?_|apply And.intro|intro vr)
       |((with_reducible first|refine ny ?_|refine t_dwh (h:=fun K KL=>?_));intros;simp only [go_sem,geff,h1',h2,z3]))
      refine end_ret rfl ?_
      simp only [fin,go_sem]
      exact LeA.refl _
     ·skip
      refine pcO E0_ok (fun _=>[0,1,4,6]) Try.func35 (h:=fun KF=>?_)
      unfold E0
      repeat' (first
       |(with_reducible first|refine nx ?_|refine t_seq fun K=>?_|refine t_br (fun hc=>?_) fun hc=>?_|refine t_bx ?_|apply And.intro|intro vr)
       |((with_reducible first|refine ny ?_|refine t_dwh (h:=fun K KL=>?_));intros;simp only [go_sem,geff,h1',h2,z3]))
      refine end_ret rfl ?_
      simp only [fin,go_sem]
      exact LeA.refl _
    ·have z3:(n==0)=false:=by rw [beq_eq_false_iff_ne];exact h3
     have e:decide (n=0∨n=1)=(n==1):=by
       by_cases h4:n=1
       ·subst h4;rfl
       ·rw [decide_eq_false (by omega)];symm;rw [beq_eq_false_iff_ne];exact h4
     rw [e]
     rcases hf with rfl|rfl
     ·skip
      refine pcO E0_ok (fun _=>[0,1,4,5,6,14]) Try.func168 (h:=fun KF=>?_)
      unfold E0
      repeat' (first
       |(with_reducible first|refine nx ?_|refine t_seq fun K=>?_|refine t_br (fun hc=>?_) fun hc=>?_|refine t_bx ?_|apply And.intro|intro vr)
       |((with_reducible first|refine ny ?_|refine t_dwh (h:=fun K KL=>?_));intros;simp only [go_sem,geff,h1',h2,z3]))
      refine end_ret rfl ?_
      simp only [fin,go_sem]
      exact LeA.refl _
     ·skip
      refine pcO E0_ok (fun _=>[0,1,4,6]) Try.func35 (h:=fun KF=>?_)
      unfold E0
      repeat' (first
       |(with_reducible first|refine nx ?_|refine t_seq fun K=>?_|refine t_br (fun hc=>?_) fun hc=>?_|refine t_bx ?_|apply And.intro|intro vr)
       |((with_reducible first|refine ny ?_|refine t_dwh (h:=fun K KL=>?_));intros;simp only [go_sem,geff,h1',h2,z3]))
      refine end_ret rfl ?_
      simp only [fin,go_sem]
      exact LeA.refl _
   ·have h2':eqS s ⟨#[98,111,111,108]⟩=false:=by simpa using h2
    rw [if_neg h2]
    rcases hf with rfl|rfl
    ·skip
     refine pcO E0_ok (fun _=>[0,1,4,5,6,14]) Try.func168 (h:=fun KF=>?_)
     unfold E0
     repeat' (first
      |(with_reducible first|refine nx ?_|refine t_seq fun K=>?_|refine t_br (fun hc=>?_) fun hc=>?_|refine t_bx ?_|apply And.intro|intro vr)
      |((with_reducible first|refine ny ?_|refine t_dwh (h:=fun K KL=>?_));intros;simp only [go_sem,geff,h1',h2']))
     refine end_ret rfl ?_
     simp only [fin,go_sem]
     exact LeA.refl _
    ·skip
     refine pcO E0_ok (fun _=>[0,1,4,6]) Try.func35 (h:=fun KF=>?_)
     unfold E0
     repeat' (first
      |(with_reducible first|refine nx ?_|refine t_seq fun K=>?_|refine t_br (fun hc=>?_) fun hc=>?_|refine t_bx ?_|apply And.intro|intro vr)
      |((with_reducible first|refine ny ?_|refine t_dwh (h:=fun K KL=>?_));intros;simp only [go_sem,geff,h1',h2']))
     refine end_ret rfl ?_
     simp only [fin,go_sem]
     exact LeA.refl _
noncomputable def vldCon (f:FuncId) (h:f=168∨f=35):PCon Try.prog where
  f:=f
  c:=fun
   |[.lit (.string s),.lit (.int .i64 n)]=>some (True,.lit (.bool (vld s n)))
   |_=>none
  ok:=by
   intro args p r hc hp
   split at hc
   ·cases hc;exact vld_pc h
   ·cases hc
  fk:=by
   rcases h with rfl|rfl
   ·exact fk168
   ·exact fk35
noncomputable def con168:=vldCon 168 (.inl rfl)
theorem con168_f:con168.f=168:=rfl
theorem con168_c {s:ByteArray} {n:Int}:con168.c [.lit (.string s),.lit (.int .i64 n)]=some (True,.lit (.bool (vld s n))):=rfl
end Go.Proofs.Ytnlimcijgpaegaa.El

namespace Go.Proofs.Ytnlimcijgpaegaa.El
open Go.Proofs.Ytnlimcijgpaegaa
open Go Go.Fw
set_option maxRecDepth 20000
abbrev w0:ByteArray:=⟨#[97,100,100]⟩
abbrev w1:ByteArray:=⟨#[115,117,98]⟩
abbrev w2:ByteArray:=⟨#[109,117,108]⟩
abbrev w3:ByteArray:=⟨#[100,105,118]⟩
abbrev w4:ByteArray:=⟨#[109,111,100]⟩
abbrev w5:ByteArray:=⟨#[109,105,110]⟩
abbrev w6:ByteArray:=⟨#[109,97,120]⟩
abbrev w7:ByteArray:=⟨#[110,101,103]⟩
abbrev w8:ByteArray:=⟨#[97,98,115]⟩
abbrev w9:ByteArray:=⟨#[115,105,103,110]⟩
abbrev w10:ByteArray:=⟨#[108,116]⟩
abbrev w11:ByteArray:=⟨#[108,101]⟩
abbrev w12:ByteArray:=⟨#[103,116]⟩
abbrev w13:ByteArray:=⟨#[103,101]⟩
abbrev w14:ByteArray:=⟨#[101,113]⟩
abbrev w15:ByteArray:=⟨#[110,101]⟩
abbrev w16:ByteArray:=⟨#[97,110,100]⟩
abbrev w17:ByteArray:=⟨#[111,114]⟩
abbrev w18:ByteArray:=⟨#[120,111,114]⟩
abbrev w19:ByteArray:=⟨#[110,111,116]⟩
abbrev w20:ByteArray:=⟨#[115,101,108,101,99,116]⟩
abbrev w21:ByteArray:=⟨#[116,111,105,110,116]⟩
abbrev w22:ByteArray:=⟨#[105,110,116]⟩
abbrev w23:ByteArray:=⟨#[98,111,111,108]⟩
abbrev w24:ByteArray:=⟨#[65]⟩
abbrev w25:ByteArray:=⟨#[]⟩
theorem qr0:eqS w0 w0=true∧eqS w0 w1=false∧eqS w0 w2=false∧eqS w0 w3=false∧eqS w0 w4=false∧eqS w0 w5=false∧eqS w0 w6=false∧eqS w0 w7=false∧eqS w0 w8=false∧eqS w0 w9=false∧eqS w0 w10=false∧eqS w0 w11=false∧eqS w0 w12=false∧eqS w0 w13=false∧eqS w0 w14=false∧eqS w0 w15=false∧eqS w0 w16=false∧eqS w0 w17=false∧eqS w0 w18=false∧eqS w0 w19=false∧eqS w0 w20=false∧eqS w0 w21=false∧eqS w0 w22=false∧eqS w0 w23=false∧eqS w0 w24=false∧eqS w0 w25=false:=by and_intros<;>rfl
theorem qr1:eqS w1 w0=false∧eqS w1 w1=true∧eqS w1 w2=false∧eqS w1 w3=false∧eqS w1 w4=false∧eqS w1 w5=false∧eqS w1 w6=false∧eqS w1 w7=false∧eqS w1 w8=false∧eqS w1 w9=false∧eqS w1 w10=false∧eqS w1 w11=false∧eqS w1 w12=false∧eqS w1 w13=false∧eqS w1 w14=false∧eqS w1 w15=false∧eqS w1 w16=false∧eqS w1 w17=false∧eqS w1 w18=false∧eqS w1 w19=false∧eqS w1 w20=false∧eqS w1 w21=false∧eqS w1 w22=false∧eqS w1 w23=false∧eqS w1 w24=false∧eqS w1 w25=false:=by and_intros<;>rfl
theorem qr2:eqS w2 w0=false∧eqS w2 w1=false∧eqS w2 w2=true∧eqS w2 w3=false∧eqS w2 w4=false∧eqS w2 w5=false∧eqS w2 w6=false∧eqS w2 w7=false∧eqS w2 w8=false∧eqS w2 w9=false∧eqS w2 w10=false∧eqS w2 w11=false∧eqS w2 w12=false∧eqS w2 w13=false∧eqS w2 w14=false∧eqS w2 w15=false∧eqS w2 w16=false∧eqS w2 w17=false∧eqS w2 w18=false∧eqS w2 w19=false∧eqS w2 w20=false∧eqS w2 w21=false∧eqS w2 w22=false∧eqS w2 w23=false∧eqS w2 w24=false∧eqS w2 w25=false:=by and_intros<;>rfl
theorem qr3:eqS w3 w0=false∧eqS w3 w1=false∧eqS w3 w2=false∧eqS w3 w3=true∧eqS w3 w4=false∧eqS w3 w5=false∧eqS w3 w6=false∧eqS w3 w7=false∧eqS w3 w8=false∧eqS w3 w9=false∧eqS w3 w10=false∧eqS w3 w11=false∧eqS w3 w12=false∧eqS w3 w13=false∧eqS w3 w14=false∧eqS w3 w15=false∧eqS w3 w16=false∧eqS w3 w17=false∧eqS w3 w18=false∧eqS w3 w19=false∧eqS w3 w20=false∧eqS w3 w21=false∧eqS w3 w22=false∧eqS w3 w23=false∧eqS w3 w24=false∧eqS w3 w25=false:=by and_intros<;>rfl
theorem qr4:eqS w4 w0=false∧eqS w4 w1=false∧eqS w4 w2=false∧eqS w4 w3=false∧eqS w4 w4=true∧eqS w4 w5=false∧eqS w4 w6=false∧eqS w4 w7=false∧eqS w4 w8=false∧eqS w4 w9=false∧eqS w4 w10=false∧eqS w4 w11=false∧eqS w4 w12=false∧eqS w4 w13=false∧eqS w4 w14=false∧eqS w4 w15=false∧eqS w4 w16=false∧eqS w4 w17=false∧eqS w4 w18=false∧eqS w4 w19=false∧eqS w4 w20=false∧eqS w4 w21=false∧eqS w4 w22=false∧eqS w4 w23=false∧eqS w4 w24=false∧eqS w4 w25=false:=by and_intros<;>rfl
theorem qr5:eqS w5 w0=false∧eqS w5 w1=false∧eqS w5 w2=false∧eqS w5 w3=false∧eqS w5 w4=false∧eqS w5 w5=true∧eqS w5 w6=false∧eqS w5 w7=false∧eqS w5 w8=false∧eqS w5 w9=false∧eqS w5 w10=false∧eqS w5 w11=false∧eqS w5 w12=false∧eqS w5 w13=false∧eqS w5 w14=false∧eqS w5 w15=false∧eqS w5 w16=false∧eqS w5 w17=false∧eqS w5 w18=false∧eqS w5 w19=false∧eqS w5 w20=false∧eqS w5 w21=false∧eqS w5 w22=false∧eqS w5 w23=false∧eqS w5 w24=false∧eqS w5 w25=false:=by and_intros<;>rfl
theorem qr6:eqS w6 w0=false∧eqS w6 w1=false∧eqS w6 w2=false∧eqS w6 w3=false∧eqS w6 w4=false∧eqS w6 w5=false∧eqS w6 w6=true∧eqS w6 w7=false∧eqS w6 w8=false∧eqS w6 w9=false∧eqS w6 w10=false∧eqS w6 w11=false∧eqS w6 w12=false∧eqS w6 w13=false∧eqS w6 w14=false∧eqS w6 w15=false∧eqS w6 w16=false∧eqS w6 w17=false∧eqS w6 w18=false∧eqS w6 w19=false∧eqS w6 w20=false∧eqS w6 w21=false∧eqS w6 w22=false∧eqS w6 w23=false∧eqS w6 w24=false∧eqS w6 w25=false:=by and_intros<;>rfl
theorem qr7:eqS w7 w0=false∧eqS w7 w1=false∧eqS w7 w2=false∧eqS w7 w3=false∧eqS w7 w4=false∧eqS w7 w5=false∧eqS w7 w6=false∧eqS w7 w7=true∧eqS w7 w8=false∧eqS w7 w9=false∧eqS w7 w10=false∧eqS w7 w11=false∧eqS w7 w12=false∧eqS w7 w13=false∧eqS w7 w14=false∧eqS w7 w15=false∧eqS w7 w16=false∧eqS w7 w17=false∧eqS w7 w18=false∧eqS w7 w19=false∧eqS w7 w20=false∧eqS w7 w21=false∧eqS w7 w22=false∧eqS w7 w23=false∧eqS w7 w24=false∧eqS w7 w25=false:=by and_intros<;>rfl
theorem qr8:eqS w8 w0=false∧eqS w8 w1=false∧eqS w8 w2=false∧eqS w8 w3=false∧eqS w8 w4=false∧eqS w8 w5=false∧eqS w8 w6=false∧eqS w8 w7=false∧eqS w8 w8=true∧eqS w8 w9=false∧eqS w8 w10=false∧eqS w8 w11=false∧eqS w8 w12=false∧eqS w8 w13=false∧eqS w8 w14=false∧eqS w8 w15=false∧eqS w8 w16=false∧eqS w8 w17=false∧eqS w8 w18=false∧eqS w8 w19=false∧eqS w8 w20=false∧eqS w8 w21=false∧eqS w8 w22=false∧eqS w8 w23=false∧eqS w8 w24=false∧eqS w8 w25=false:=by and_intros<;>rfl
theorem qr9:eqS w9 w0=false∧eqS w9 w1=false∧eqS w9 w2=false∧eqS w9 w3=false∧eqS w9 w4=false∧eqS w9 w5=false∧eqS w9 w6=false∧eqS w9 w7=false∧eqS w9 w8=false∧eqS w9 w9=true∧eqS w9 w10=false∧eqS w9 w11=false∧eqS w9 w12=false∧eqS w9 w13=false∧eqS w9 w14=false∧eqS w9 w15=false∧eqS w9 w16=false∧eqS w9 w17=false∧eqS w9 w18=false∧eqS w9 w19=false∧eqS w9 w20=false∧eqS w9 w21=false∧eqS w9 w22=false∧eqS w9 w23=false∧eqS w9 w24=false∧eqS w9 w25=false:=by and_intros<;>rfl
theorem qr10:eqS w10 w0=false∧eqS w10 w1=false∧eqS w10 w2=false∧eqS w10 w3=false∧eqS w10 w4=false∧eqS w10 w5=false∧eqS w10 w6=false∧eqS w10 w7=false∧eqS w10 w8=false∧eqS w10 w9=false∧eqS w10 w10=true∧eqS w10 w11=false∧eqS w10 w12=false∧eqS w10 w13=false∧eqS w10 w14=false∧eqS w10 w15=false∧eqS w10 w16=false∧eqS w10 w17=false∧eqS w10 w18=false∧eqS w10 w19=false∧eqS w10 w20=false∧eqS w10 w21=false∧eqS w10 w22=false∧eqS w10 w23=false∧eqS w10 w24=false∧eqS w10 w25=false:=by and_intros<;>rfl
theorem qr11:eqS w11 w0=false∧eqS w11 w1=false∧eqS w11 w2=false∧eqS w11 w3=false∧eqS w11 w4=false∧eqS w11 w5=false∧eqS w11 w6=false∧eqS w11 w7=false∧eqS w11 w8=false∧eqS w11 w9=false∧eqS w11 w10=false∧eqS w11 w11=true∧eqS w11 w12=false∧eqS w11 w13=false∧eqS w11 w14=false∧eqS w11 w15=false∧eqS w11 w16=false∧eqS w11 w17=false∧eqS w11 w18=false∧eqS w11 w19=false∧eqS w11 w20=false∧eqS w11 w21=false∧eqS w11 w22=false∧eqS w11 w23=false∧eqS w11 w24=false∧eqS w11 w25=false:=by and_intros<;>rfl
theorem qr12:eqS w12 w0=false∧eqS w12 w1=false∧eqS w12 w2=false∧eqS w12 w3=false∧eqS w12 w4=false∧eqS w12 w5=false∧eqS w12 w6=false∧eqS w12 w7=false∧eqS w12 w8=false∧eqS w12 w9=false∧eqS w12 w10=false∧eqS w12 w11=false∧eqS w12 w12=true∧eqS w12 w13=false∧eqS w12 w14=false∧eqS w12 w15=false∧eqS w12 w16=false∧eqS w12 w17=false∧eqS w12 w18=false∧eqS w12 w19=false∧eqS w12 w20=false∧eqS w12 w21=false∧eqS w12 w22=false∧eqS w12 w23=false∧eqS w12 w24=false∧eqS w12 w25=false:=by and_intros<;>rfl
theorem qr13:eqS w13 w0=false∧eqS w13 w1=false∧eqS w13 w2=false∧eqS w13 w3=false∧eqS w13 w4=false∧eqS w13 w5=false∧eqS w13 w6=false∧eqS w13 w7=false∧eqS w13 w8=false∧eqS w13 w9=false∧eqS w13 w10=false∧eqS w13 w11=false∧eqS w13 w12=false∧eqS w13 w13=true∧eqS w13 w14=false∧eqS w13 w15=false∧eqS w13 w16=false∧eqS w13 w17=false∧eqS w13 w18=false∧eqS w13 w19=false∧eqS w13 w20=false∧eqS w13 w21=false∧eqS w13 w22=false∧eqS w13 w23=false∧eqS w13 w24=false∧eqS w13 w25=false:=by and_intros<;>rfl
theorem qr14:eqS w14 w0=false∧eqS w14 w1=false∧eqS w14 w2=false∧eqS w14 w3=false∧eqS w14 w4=false∧eqS w14 w5=false∧eqS w14 w6=false∧eqS w14 w7=false∧eqS w14 w8=false∧eqS w14 w9=false∧eqS w14 w10=false∧eqS w14 w11=false∧eqS w14 w12=false∧eqS w14 w13=false∧eqS w14 w14=true∧eqS w14 w15=false∧eqS w14 w16=false∧eqS w14 w17=false∧eqS w14 w18=false∧eqS w14 w19=false∧eqS w14 w20=false∧eqS w14 w21=false∧eqS w14 w22=false∧eqS w14 w23=false∧eqS w14 w24=false∧eqS w14 w25=false:=by and_intros<;>rfl
theorem qr15:eqS w15 w0=false∧eqS w15 w1=false∧eqS w15 w2=false∧eqS w15 w3=false∧eqS w15 w4=false∧eqS w15 w5=false∧eqS w15 w6=false∧eqS w15 w7=false∧eqS w15 w8=false∧eqS w15 w9=false∧eqS w15 w10=false∧eqS w15 w11=false∧eqS w15 w12=false∧eqS w15 w13=false∧eqS w15 w14=false∧eqS w15 w15=true∧eqS w15 w16=false∧eqS w15 w17=false∧eqS w15 w18=false∧eqS w15 w19=false∧eqS w15 w20=false∧eqS w15 w21=false∧eqS w15 w22=false∧eqS w15 w23=false∧eqS w15 w24=false∧eqS w15 w25=false:=by and_intros<;>rfl
theorem qr16:eqS w16 w0=false∧eqS w16 w1=false∧eqS w16 w2=false∧eqS w16 w3=false∧eqS w16 w4=false∧eqS w16 w5=false∧eqS w16 w6=false∧eqS w16 w7=false∧eqS w16 w8=false∧eqS w16 w9=false∧eqS w16 w10=false∧eqS w16 w11=false∧eqS w16 w12=false∧eqS w16 w13=false∧eqS w16 w14=false∧eqS w16 w15=false∧eqS w16 w16=true∧eqS w16 w17=false∧eqS w16 w18=false∧eqS w16 w19=false∧eqS w16 w20=false∧eqS w16 w21=false∧eqS w16 w22=false∧eqS w16 w23=false∧eqS w16 w24=false∧eqS w16 w25=false:=by and_intros<;>rfl
theorem qr17:eqS w17 w0=false∧eqS w17 w1=false∧eqS w17 w2=false∧eqS w17 w3=false∧eqS w17 w4=false∧eqS w17 w5=false∧eqS w17 w6=false∧eqS w17 w7=false∧eqS w17 w8=false∧eqS w17 w9=false∧eqS w17 w10=false∧eqS w17 w11=false∧eqS w17 w12=false∧eqS w17 w13=false∧eqS w17 w14=false∧eqS w17 w15=false∧eqS w17 w16=false∧eqS w17 w17=true∧eqS w17 w18=false∧eqS w17 w19=false∧eqS w17 w20=false∧eqS w17 w21=false∧eqS w17 w22=false∧eqS w17 w23=false∧eqS w17 w24=false∧eqS w17 w25=false:=by and_intros<;>rfl
theorem qr18:eqS w18 w0=false∧eqS w18 w1=false∧eqS w18 w2=false∧eqS w18 w3=false∧eqS w18 w4=false∧eqS w18 w5=false∧eqS w18 w6=false∧eqS w18 w7=false∧eqS w18 w8=false∧eqS w18 w9=false∧eqS w18 w10=false∧eqS w18 w11=false∧eqS w18 w12=false∧eqS w18 w13=false∧eqS w18 w14=false∧eqS w18 w15=false∧eqS w18 w16=false∧eqS w18 w17=false∧eqS w18 w18=true∧eqS w18 w19=false∧eqS w18 w20=false∧eqS w18 w21=false∧eqS w18 w22=false∧eqS w18 w23=false∧eqS w18 w24=false∧eqS w18 w25=false:=by and_intros<;>rfl
theorem qr19:eqS w19 w0=false∧eqS w19 w1=false∧eqS w19 w2=false∧eqS w19 w3=false∧eqS w19 w4=false∧eqS w19 w5=false∧eqS w19 w6=false∧eqS w19 w7=false∧eqS w19 w8=false∧eqS w19 w9=false∧eqS w19 w10=false∧eqS w19 w11=false∧eqS w19 w12=false∧eqS w19 w13=false∧eqS w19 w14=false∧eqS w19 w15=false∧eqS w19 w16=false∧eqS w19 w17=false∧eqS w19 w18=false∧eqS w19 w19=true∧eqS w19 w20=false∧eqS w19 w21=false∧eqS w19 w22=false∧eqS w19 w23=false∧eqS w19 w24=false∧eqS w19 w25=false:=by and_intros<;>rfl
theorem qr20:eqS w20 w0=false∧eqS w20 w1=false∧eqS w20 w2=false∧eqS w20 w3=false∧eqS w20 w4=false∧eqS w20 w5=false∧eqS w20 w6=false∧eqS w20 w7=false∧eqS w20 w8=false∧eqS w20 w9=false∧eqS w20 w10=false∧eqS w20 w11=false∧eqS w20 w12=false∧eqS w20 w13=false∧eqS w20 w14=false∧eqS w20 w15=false∧eqS w20 w16=false∧eqS w20 w17=false∧eqS w20 w18=false∧eqS w20 w19=false∧eqS w20 w20=true∧eqS w20 w21=false∧eqS w20 w22=false∧eqS w20 w23=false∧eqS w20 w24=false∧eqS w20 w25=false:=by and_intros<;>rfl
theorem qr21:eqS w21 w0=false∧eqS w21 w1=false∧eqS w21 w2=false∧eqS w21 w3=false∧eqS w21 w4=false∧eqS w21 w5=false∧eqS w21 w6=false∧eqS w21 w7=false∧eqS w21 w8=false∧eqS w21 w9=false∧eqS w21 w10=false∧eqS w21 w11=false∧eqS w21 w12=false∧eqS w21 w13=false∧eqS w21 w14=false∧eqS w21 w15=false∧eqS w21 w16=false∧eqS w21 w17=false∧eqS w21 w18=false∧eqS w21 w19=false∧eqS w21 w20=false∧eqS w21 w21=true∧eqS w21 w22=false∧eqS w21 w23=false∧eqS w21 w24=false∧eqS w21 w25=false:=by and_intros<;>rfl
theorem qr22:eqS w22 w0=false∧eqS w22 w1=false∧eqS w22 w2=false∧eqS w22 w3=false∧eqS w22 w4=false∧eqS w22 w5=false∧eqS w22 w6=false∧eqS w22 w7=false∧eqS w22 w8=false∧eqS w22 w9=false∧eqS w22 w10=false∧eqS w22 w11=false∧eqS w22 w12=false∧eqS w22 w13=false∧eqS w22 w14=false∧eqS w22 w15=false∧eqS w22 w16=false∧eqS w22 w17=false∧eqS w22 w18=false∧eqS w22 w19=false∧eqS w22 w20=false∧eqS w22 w21=false∧eqS w22 w22=true∧eqS w22 w23=false∧eqS w22 w24=false∧eqS w22 w25=false:=by and_intros<;>rfl
theorem qr23:eqS w23 w0=false∧eqS w23 w1=false∧eqS w23 w2=false∧eqS w23 w3=false∧eqS w23 w4=false∧eqS w23 w5=false∧eqS w23 w6=false∧eqS w23 w7=false∧eqS w23 w8=false∧eqS w23 w9=false∧eqS w23 w10=false∧eqS w23 w11=false∧eqS w23 w12=false∧eqS w23 w13=false∧eqS w23 w14=false∧eqS w23 w15=false∧eqS w23 w16=false∧eqS w23 w17=false∧eqS w23 w18=false∧eqS w23 w19=false∧eqS w23 w20=false∧eqS w23 w21=false∧eqS w23 w22=false∧eqS w23 w23=true∧eqS w23 w24=false∧eqS w23 w25=false:=by and_intros<;>rfl
theorem qr24:eqS w24 w0=false∧eqS w24 w1=false∧eqS w24 w2=false∧eqS w24 w3=false∧eqS w24 w4=false∧eqS w24 w5=false∧eqS w24 w6=false∧eqS w24 w7=false∧eqS w24 w8=false∧eqS w24 w9=false∧eqS w24 w10=false∧eqS w24 w11=false∧eqS w24 w12=false∧eqS w24 w13=false∧eqS w24 w14=false∧eqS w24 w15=false∧eqS w24 w16=false∧eqS w24 w17=false∧eqS w24 w18=false∧eqS w24 w19=false∧eqS w24 w20=false∧eqS w24 w21=false∧eqS w24 w22=false∧eqS w24 w23=false∧eqS w24 w24=true∧eqS w24 w25=false:=by and_intros<;>rfl
theorem qr25:eqS w25 w0=false∧eqS w25 w1=false∧eqS w25 w2=false∧eqS w25 w3=false∧eqS w25 w4=false∧eqS w25 w5=false∧eqS w25 w6=false∧eqS w25 w7=false∧eqS w25 w8=false∧eqS w25 w9=false∧eqS w25 w10=false∧eqS w25 w11=false∧eqS w25 w12=false∧eqS w25 w13=false∧eqS w25 w14=false∧eqS w25 w15=false∧eqS w25 w16=false∧eqS w25 w17=false∧eqS w25 w18=false∧eqS w25 w19=false∧eqS w25 w20=false∧eqS w25 w21=false∧eqS w25 w22=false∧eqS w25 w23=false∧eqS w25 w24=false∧eqS w25 w25=true:=by and_intros<;>rfl
attribute [go_sem] qr0 qr1 qr2 qr3 qr4 qr5 qr6 qr7 qr8 qr9 qr10 qr11 qr12 qr13 qr14 qr15 qr16 qr17 qr18 qr19 qr20 qr21 qr22 qr23 qr24 qr25
structure Rw where
  op:ByteArray
  ps:List ByteArray
  rs:ByteArray
instance:Inhabited Rw:=⟨⟨⟨#[]⟩,[],⟨#[]⟩⟩⟩
def rowsL:List Rw:=[⟨(⟨#[97,100,100]⟩:ByteArray),[(⟨#[105,110,116]⟩:ByteArray),(⟨#[105,110,116]⟩:ByteArray)],(⟨#[105,110,116]⟩:ByteArray)⟩,⟨(⟨#[115,117,98]⟩:ByteArray),[(⟨#[105,110,116]⟩:ByteArray),(⟨#[105,110,116]⟩:ByteArray)],(⟨#[105,110,116]⟩:ByteArray)⟩,⟨(⟨#[109,117,108]⟩:ByteArray),[(⟨#[105,110,116]⟩:ByteArray),(⟨#[105,110,116]⟩:ByteArray)],(⟨#[105,110,116]⟩:ByteArray)⟩,⟨(⟨#[100,105,118]⟩:ByteArray),[(⟨#[105,110,116]⟩:ByteArray),(⟨#[105,110,116]⟩:ByteArray)],(⟨#[105,110,116]⟩:ByteArray)⟩,⟨(⟨#[109,111,100]⟩:ByteArray),[(⟨#[105,110,116]⟩:ByteArray),(⟨#[105,110,116]⟩:ByteArray)],(⟨#[105,110,116]⟩:ByteArray)⟩,⟨(⟨#[109,105,110]⟩:ByteArray),[(⟨#[105,110,116]⟩:ByteArray),(⟨#[105,110,116]⟩:ByteArray)],(⟨#[105,110,116]⟩:ByteArray)⟩,⟨(⟨#[109,97,120]⟩:ByteArray),[(⟨#[105,110,116]⟩:ByteArray),(⟨#[105,110,116]⟩:ByteArray)],(⟨#[105,110,116]⟩:ByteArray)⟩,⟨(⟨#[110,101,103]⟩:ByteArray),[(⟨#[105,110,116]⟩:ByteArray)],(⟨#[105,110,116]⟩:ByteArray)⟩,⟨(⟨#[97,98,115]⟩:ByteArray),[(⟨#[105,110,116]⟩:ByteArray)],(⟨#[105,110,116]⟩:ByteArray)⟩,⟨(⟨#[115,105,103,110]⟩:ByteArray),[(⟨#[105,110,116]⟩:ByteArray)],(⟨#[105,110,116]⟩:ByteArray)⟩,⟨(⟨#[108,116]⟩:ByteArray),[(⟨#[105,110,116]⟩:ByteArray),(⟨#[105,110,116]⟩:ByteArray)],(⟨#[98,111,111,108]⟩:ByteArray)⟩,⟨(⟨#[108,101]⟩:ByteArray),[(⟨#[105,110,116]⟩:ByteArray),(⟨#[105,110,116]⟩:ByteArray)],(⟨#[98,111,111,108]⟩:ByteArray)⟩,⟨(⟨#[103,116]⟩:ByteArray),[(⟨#[105,110,116]⟩:ByteArray),(⟨#[105,110,116]⟩:ByteArray)],(⟨#[98,111,111,108]⟩:ByteArray)⟩,⟨(⟨#[103,101]⟩:ByteArray),[(⟨#[105,110,116]⟩:ByteArray),(⟨#[105,110,116]⟩:ByteArray)],(⟨#[98,111,111,108]⟩:ByteArray)⟩,⟨(⟨#[101,113]⟩:ByteArray),[(⟨#[65]⟩:ByteArray),(⟨#[65]⟩:ByteArray)],(⟨#[98,111,111,108]⟩:ByteArray)⟩,⟨(⟨#[110,101]⟩:ByteArray),[(⟨#[65]⟩:ByteArray),(⟨#[65]⟩:ByteArray)],(⟨#[98,111,111,108]⟩:ByteArray)⟩,⟨(⟨#[97,110,100]⟩:ByteArray),[(⟨#[98,111,111,108]⟩:ByteArray),(⟨#[98,111,111,108]⟩:ByteArray)],(⟨#[98,111,111,108]⟩:ByteArray)⟩,⟨(⟨#[111,114]⟩:ByteArray),[(⟨#[98,111,111,108]⟩:ByteArray),(⟨#[98,111,111,108]⟩:ByteArray)],(⟨#[98,111,111,108]⟩:ByteArray)⟩,⟨(⟨#[120,111,114]⟩:ByteArray),[(⟨#[98,111,111,108]⟩:ByteArray),(⟨#[98,111,111,108]⟩:ByteArray)],(⟨#[98,111,111,108]⟩:ByteArray)⟩,⟨(⟨#[110,111,116]⟩:ByteArray),[(⟨#[98,111,111,108]⟩:ByteArray)],(⟨#[98,111,111,108]⟩:ByteArray)⟩,⟨(⟨#[115,101,108,101,99,116]⟩:ByteArray),[(⟨#[98,111,111,108]⟩:ByteArray),(⟨#[65]⟩:ByteArray),(⟨#[65]⟩:ByteArray)],(⟨#[65]⟩:ByteArray)⟩,⟨(⟨#[116,111,105,110,116]⟩:ByteArray),[(⟨#[98,111,111,108]⟩:ByteArray)],(⟨#[105,110,116]⟩:ByteArray)⟩]
def rowC (r:Rw):List AV:=[.lit (.string r.op),.sl true 1 (strs r.ps),.lit (.string r.rs)]
def rowCells:List AV:=rowsL.flatMap rowC
theorem rowCells_len:rowCells.length=66:=rfl
set_option maxHeartbeats 4000000 in
theorem rows_pc:PC Try.prog 103 [] (.agg rowCells):=by
  refine pcO E0_ok (fun _=>[0,1,2,3,4]) Try.func103 (h:=fun KF=>?_)
  unfold E0
  repeat' (first
   |(with_reducible first|refine nx ?_|refine t_seq fun K=>?_|refine t_br (fun hc=>?_) fun hc=>?_|refine t_bx ?_|apply And.intro|intro vr)
   |((with_reducible first|refine ny ?_|refine t_dwh (h:=fun K KL=>?_));intros;simp only [go_sem,geff]))
  all_goals try exact om
  refine end_ret rfl ?_
  simp only [fin,go_sem]
  exact LeA.refl _
end Go.Proofs.Ytnlimcijgpaegaa.El

namespace Go.Proofs.Ytnlimcijgpaegaa.El
open Go.Proofs.Ytnlimcijgpaegaa
open Go Go.Fw
set_option maxRecDepth 20000
noncomputable def con103:PCon Try.prog where
  f:=103
  c:=fun
   |[]=>some (True,.agg rowCells)
   |_=>none
  ok:=by
   intro args p r hc hp
   split at hc
   ·cases hc;exact rows_pc
   ·cases hc
  fk:=fk103
theorem con103_f:con103.f=103:=rfl
theorem con103_c:con103.c []=some (True,.agg rowCells):=rfl
theorem clone_pc {l:List ByteArray} (hl:l.length≤1000000):PC Try.prog 104 [.sl false 1 (strs l)] (.sl false 1 (strs l)):=by
  refine pcO E0_ok (fun _=>[0,2,4]) Try.func104 (h:=fun KF=>?_)
  unfold E0
  repeat' (first
   |(with_reducible first|refine nx ?_|refine t_seq fun K=>?_|refine t_br (fun hc=>?_) fun hc=>?_|refine t_bx ?_|apply And.intro|intro vr)
   |((with_reducible first|refine ny ?_|refine t_dwh (h:=fun K KL=>?_));intros;simp only [go_sem,geff]))
  all_goals try exact om
  ·skip
   refine end_ret rfl ?_
   simp only [fin,go_sem]
   rw [show strs l=[] from by assumption]
   exact LeA.nil false 1
  ·skip
   refine end_ret rfl ?_
   simp only [fin,go_sem]
   exact LeA.refl _
noncomputable def con104:PCon Try.prog where
  f:=104
  c:=fun
   |[x]=>(slS x).map fun l=>(l.length≤1000000,.sl false 1 (strs l))
   |_=>none
  ok:=by
   intro args p r hc hp
   split at hc
   ·rename_i x
    cases hx:slS x with
    |none=>rw [hx] at hc;cases hc
    |some l=>
     rw [hx] at hc
     cases hc
     exact PC.weak (clone_pc hp) ⟨slS_le hx,trivial⟩
   ·cases hc
  fk:=fk104
theorem con104_f:con104.f=104:=rfl
theorem con104_c {x:AV}:con104.c [x]=(slS x).map fun l=>(l.length≤1000000,.sl false 1 (strs l)):=rfl
theorem yes_def {x:AV}:yes x=some (True,x):=rfl
theorem need_def {p:Prop} {x:AV}:need p x=some (p,x):=rfl
def typesS (op:ByteArray):Option Rw:=rowsL.find? fun r=>eqS r.op op
def typesV (o:Option Rw):AV:=match o with
  |some r=> .tup [.sl false 1 (strs r.ps),.lit (.string r.rs),.lit (.bool true)]
  |none=> .tup [.lit (.slice none 0 0),.lit (.string ⟨#[]⟩),.lit (.bool false)]
theorem rows_len:rowsL.length=22:=rfl
theorem rows_ps:∀ r∈rowsL,r.ps.length≤3:=by decide
theorem row_cells:∀ i,i<22→(rowCells.drop (i*3)).take 3=rowC (rowsL.getD i default):=by
  intro i hi
  have:i=0∨i=1∨i=2∨i=3∨i=4∨i=5∨i=6∨i=7∨i=8∨i=9∨i=10∨i=11∨i=12∨i=13∨i=14∨i=15∨i=16∨i=17∨i=18∨i=19∨i=20∨i=21:=by omega
  rcases this with rfl|rfl|rfl|rfl|rfl|rfl|rfl|rfl|rfl|rfl|rfl|rfl|rfl|rfl|rfl|rfl|rfl|rfl|rfl|rfl|rfl|rfl<;>rfl
theorem rowCells_all:rowCells.all scal0=false:=rfl
noncomputable def E2:Env:=envOf (P:=Try.prog) zer (fun _=>false) (fun _=>false) [con103,con104] []
theorem E2_ok:EnvOk Try.prog E2:=envOk zer_ok
set_option maxHeartbeats 1000000 in
theorem types_pc {op:ByteArray}:PC Try.prog 59 [.lit (.string op)] (typesV (typesS op)):=by
  unfold typesS
  generalize hR:rowsL.find? (fun r=>eqS r.op op)=R
  refine pcO E2_ok (fun _=>[0,2,3,4,6,7,8,9,14]) Try.func59 (h:=fun KF=>?_)
  unfold E2
  repeat' (first
   |(with_reducible first|refine nx ?_|refine t_seq fun K=>?_|refine t_br (fun hc=>?_) fun hc=>?_|refine t_bx ?_|apply And.intro|intro vr)
   |((with_reducible first|refine ny ?_|refine t_dwh (h:=fun K KL=>?_));intros;simp only [go_sem,geff,con103_f,con103_c,rowCells_all,Bool.false_eq_true]))
  refine t_loop (ι:={i:Nat // i≤22∧(rowsL.drop i).find? (fun r=>eqS r.op op)=R}×List AObj) (fun i=>⟨upd (upd (upd topF 8 (.lit (.int .i64 i.1.1))) 7 (.agg rowCells)) 0 (.lit (.string op)),i.2⟩) (fun i=>22 - i.1.1) (⟨0,by omega,hR⟩,[]) ?_ ?_
  ·skip
   (refine Le.frame ?_;repeat' (first|exact leF_top _|(with_reducible refine leF_sl ?_ ?_)|(refine leF_upd (LeR.of_eq ?_) ?_)))<;>(try (simp only [go_sem];try rfl))
  ·rintro ⟨⟨i,hi,hF⟩,g⟩ K0
   rcases Nat.lt_or_ge i 22 with hc|hc
   ·have g1:decide ((i:Int)<22)=true:=decide_eq_true (by omega)
    have g2:=row_cells i hc
    have g3:(i*3+3≤66)=True:=eq_true (by omega)
    have hd:rowsL.drop i=rowsL.getD i default::rowsL.drop (i+1):=by
      rw [List.drop_eq_getElem_cons (by rw [rows_len];exact hc),getD_elem _ _ (by rw [rows_len];exact hc)]
    have hps:=rows_ps (rowsL.getD i default) (by rw [getD_elem _ _ (by rw [rows_len];exact hc)];exact List.getElem_mem _)
    generalize rowsL.getD i default=r at g2 hd hps
    obtain ⟨nm,ps,rs⟩:=r
    simp only at hps
    rw [hd,List.find?_cons] at hF
    have k1:∀ (A:AObj),(g++[A])[g.length]? =some A:=fun A=>getA0 rfl
    have k2:∀ (A B:AObj),(g++[A]).set g.length B=g++[B]:=fun A B=>setA0 rfl
    by_cases he:eqS nm op=true
    ·have:R=some ⟨nm,ps,rs⟩:=by rw [←hF];simp only [he]
     subst this
     repeat' (first
      |(with_reducible first|refine nx ?_|refine t_seq fun K=>?_|refine t_br (fun hc=>?_) fun hc=>?_|refine t_bx ?_|apply And.intro|intro vr)
      |((with_reducible first|refine ny ?_|refine t_dwh (h:=fun K KL=>?_));intros;simp only [go_sem,geff,g1,Int.toNat_natCast,g3,rowCells_len,g2,rowC,yes_def,need_def,k1,k2,he,con103_f,con104_f,con104_c,slS_sl,typesV]))
     all_goals try exact om
     refine end_ret rfl ?_
     simp only [fin,go_sem]
     exact LeA.refl _
    ·have he':eqS nm op=false:=by simpa using he
     have hF':(rowsL.drop (i+1)).find? (fun r=>eqS r.op op)=R:=by rw [←hF];simp only [he']
     repeat' (first
      |(with_reducible first|refine nx ?_|refine t_seq fun K=>?_|refine t_br (fun hc=>?_) fun hc=>?_|refine t_bx ?_|apply And.intro|intro vr)
      |((with_reducible first|refine ny ?_|refine t_dwh (h:=fun K KL=>?_));intros;simp only [go_sem,geff,g1,Int.toNat_natCast,g3,rowCells_len,g2,rowC,yes_def,need_def,k1,k2,he',con103_f,con104_f,con104_c,slS_sl]))
     all_goals try exact om
     refine ⟨(⟨i+1,by omega,hF'⟩,g++[.box 153 [.lit (.string nm),.sl true 1 (strs ps),.lit (.string rs)]]),by simp only;omega,?_⟩
     (refine Le.frame ?_;repeat' (first|exact leF_top _|(with_reducible refine leF_sl ?_ ?_)|(refine leF_upd (LeR.of_eq ?_) ?_)))<;>(try (simp only [go_sem];try rfl))
   ·have g1:decide ((i:Int)<22)=false:=decide_eq_false (by omega)
    have:i=22:=by omega
    subst this
    have:R=none:=by rw [←hF];rfl
    subst this
    repeat' (first
     |(with_reducible first|refine nx ?_|refine t_seq fun K=>?_|refine t_br (fun hc=>?_) fun hc=>?_|refine t_bx ?_|apply And.intro|intro vr)
     |((with_reducible first|refine ny ?_|refine t_dwh (h:=fun K KL=>?_));intros;simp only [go_sem,geff,g1,typesV]))
    refine end_ret rfl ?_
    simp only [fin,go_sem]
    exact LeA.refl _
theorem eqS_comm (a b:ByteArray):eqS a b=eqS b a:=by
  by_cases h:eqS a b=true
  ·rw [h,eqS_iff.1 h];exact (eqS_refl b).symm
  ·have: ¬ eqS b a=true:=fun e=>h (by rw [eqS_iff.1 e];exact eqS_refl a)
   simp only [Bool.not_eq_true] at h this
   rw [h,this]
set_option maxHeartbeats 4000000 in
theorem rtypes_pc {op:ByteArray}:PC Try.prog 29 [.lit (.string op)] (typesV (typesS op)):=by
  by_cases h0:op=(⟨#[97,100,100]⟩:ByteArray)
  ·subst h0
   refine pcO E0_ok (fun _=>[0,2,3,4,5,6,15,20,26,30,35,38,41]) Try.func29 (h:=fun KF=>?_)
   unfold E0
   repeat' (first
    |(with_reducible first|refine nx ?_|refine t_seq fun K=>?_|refine t_br (fun hc=>?_) fun hc=>?_|refine t_bx ?_|apply And.intro|intro vr)
    |((with_reducible first|refine ny ?_|refine t_dwh (h:=fun K KL=>?_));intros;simp only [go_sem,geff]))
   all_goals try exact om
   refine end_ret rfl ?_
   simp only [fin,go_sem]
   exact LeA.tup ⟨LeA.full true 1 _,LeA.refl _,LeA.refl _,trivial⟩
  have z0:eqS op (⟨#[97,100,100]⟩:ByteArray)=false:=Bool.eq_false_iff.2 fun e=>h0 (eqS_iff.1 e)
  by_cases h1:op=(⟨#[115,117,98]⟩:ByteArray)
  ·subst h1
   refine pcO E0_ok (fun _=>[0,2,3,4,5,6,15,20,26,30,35,38,41]) Try.func29 (h:=fun KF=>?_)
   unfold E0
   repeat' (first
    |(with_reducible first|refine nx ?_|refine t_seq fun K=>?_|refine t_br (fun hc=>?_) fun hc=>?_|refine t_bx ?_|apply And.intro|intro vr)
    |((with_reducible first|refine ny ?_|refine t_dwh (h:=fun K KL=>?_));intros;simp only [go_sem,geff]))
   all_goals try exact om
   refine end_ret rfl ?_
   simp only [fin,go_sem]
   exact LeA.tup ⟨LeA.full true 1 _,LeA.refl _,LeA.refl _,trivial⟩
  have z1:eqS op (⟨#[115,117,98]⟩:ByteArray)=false:=Bool.eq_false_iff.2 fun e=>h1 (eqS_iff.1 e)
  by_cases h2:op=(⟨#[109,117,108]⟩:ByteArray)
  ·subst h2
   refine pcO E0_ok (fun _=>[0,2,3,4,5,6,15,20,26,30,35,38,41]) Try.func29 (h:=fun KF=>?_)
   unfold E0
   repeat' (first
    |(with_reducible first|refine nx ?_|refine t_seq fun K=>?_|refine t_br (fun hc=>?_) fun hc=>?_|refine t_bx ?_|apply And.intro|intro vr)
    |((with_reducible first|refine ny ?_|refine t_dwh (h:=fun K KL=>?_));intros;simp only [go_sem,geff]))
   all_goals try exact om
   refine end_ret rfl ?_
   simp only [fin,go_sem]
   exact LeA.tup ⟨LeA.full true 1 _,LeA.refl _,LeA.refl _,trivial⟩
  have z2:eqS op (⟨#[109,117,108]⟩:ByteArray)=false:=Bool.eq_false_iff.2 fun e=>h2 (eqS_iff.1 e)
  by_cases h3:op=(⟨#[100,105,118]⟩:ByteArray)
  ·subst h3
   refine pcO E0_ok (fun _=>[0,2,3,4,5,6,15,20,26,30,35,38,41]) Try.func29 (h:=fun KF=>?_)
   unfold E0
   repeat' (first
    |(with_reducible first|refine nx ?_|refine t_seq fun K=>?_|refine t_br (fun hc=>?_) fun hc=>?_|refine t_bx ?_|apply And.intro|intro vr)
    |((with_reducible first|refine ny ?_|refine t_dwh (h:=fun K KL=>?_));intros;simp only [go_sem,geff]))
   all_goals try exact om
   refine end_ret rfl ?_
   simp only [fin,go_sem]
   exact LeA.tup ⟨LeA.full true 1 _,LeA.refl _,LeA.refl _,trivial⟩
  have z3:eqS op (⟨#[100,105,118]⟩:ByteArray)=false:=Bool.eq_false_iff.2 fun e=>h3 (eqS_iff.1 e)
  by_cases h4:op=(⟨#[109,111,100]⟩:ByteArray)
  ·subst h4
   refine pcO E0_ok (fun _=>[0,2,3,4,5,6,15,20,26,30,35,38,41]) Try.func29 (h:=fun KF=>?_)
   unfold E0
   repeat' (first
    |(with_reducible first|refine nx ?_|refine t_seq fun K=>?_|refine t_br (fun hc=>?_) fun hc=>?_|refine t_bx ?_|apply And.intro|intro vr)
    |((with_reducible first|refine ny ?_|refine t_dwh (h:=fun K KL=>?_));intros;simp only [go_sem,geff]))
   all_goals try exact om
   refine end_ret rfl ?_
   simp only [fin,go_sem]
   exact LeA.tup ⟨LeA.full true 1 _,LeA.refl _,LeA.refl _,trivial⟩
  have z4:eqS op (⟨#[109,111,100]⟩:ByteArray)=false:=Bool.eq_false_iff.2 fun e=>h4 (eqS_iff.1 e)
  by_cases h5:op=(⟨#[109,105,110]⟩:ByteArray)
  ·subst h5
   refine pcO E0_ok (fun _=>[0,2,3,4,5,6,15,20,26,30,35,38,41]) Try.func29 (h:=fun KF=>?_)
   unfold E0
   repeat' (first
    |(with_reducible first|refine nx ?_|refine t_seq fun K=>?_|refine t_br (fun hc=>?_) fun hc=>?_|refine t_bx ?_|apply And.intro|intro vr)
    |((with_reducible first|refine ny ?_|refine t_dwh (h:=fun K KL=>?_));intros;simp only [go_sem,geff]))
   all_goals try exact om
   refine end_ret rfl ?_
   simp only [fin,go_sem]
   exact LeA.tup ⟨LeA.full true 1 _,LeA.refl _,LeA.refl _,trivial⟩
  have z5:eqS op (⟨#[109,105,110]⟩:ByteArray)=false:=Bool.eq_false_iff.2 fun e=>h5 (eqS_iff.1 e)
  by_cases h6:op=(⟨#[109,97,120]⟩:ByteArray)
  ·subst h6
   refine pcO E0_ok (fun _=>[0,2,3,4,5,6,15,20,26,30,35,38,41]) Try.func29 (h:=fun KF=>?_)
   unfold E0
   repeat' (first
    |(with_reducible first|refine nx ?_|refine t_seq fun K=>?_|refine t_br (fun hc=>?_) fun hc=>?_|refine t_bx ?_|apply And.intro|intro vr)
    |((with_reducible first|refine ny ?_|refine t_dwh (h:=fun K KL=>?_));intros;simp only [go_sem,geff]))
   all_goals try exact om
   refine end_ret rfl ?_
   simp only [fin,go_sem]
   exact LeA.tup ⟨LeA.full true 1 _,LeA.refl _,LeA.refl _,trivial⟩
  have z6:eqS op (⟨#[109,97,120]⟩:ByteArray)=false:=Bool.eq_false_iff.2 fun e=>h6 (eqS_iff.1 e)
  by_cases h7:op=(⟨#[110,101,103]⟩:ByteArray)
  ·subst h7
   refine pcO E0_ok (fun _=>[0,2,3,4,5,6,15,20,26,30,35,38,41]) Try.func29 (h:=fun KF=>?_)
   unfold E0
   repeat' (first
    |(with_reducible first|refine nx ?_|refine t_seq fun K=>?_|refine t_br (fun hc=>?_) fun hc=>?_|refine t_bx ?_|apply And.intro|intro vr)
    |((with_reducible first|refine ny ?_|refine t_dwh (h:=fun K KL=>?_));intros;simp only [go_sem,geff]))
   all_goals try exact om
   refine end_ret rfl ?_
   simp only [fin,go_sem]
   exact LeA.tup ⟨LeA.full true 1 _,LeA.refl _,LeA.refl _,trivial⟩
  have z7:eqS op (⟨#[110,101,103]⟩:ByteArray)=false:=Bool.eq_false_iff.2 fun e=>h7 (eqS_iff.1 e)
  by_cases h8:op=(⟨#[97,98,115]⟩:ByteArray)
  ·subst h8
   refine pcO E0_ok (fun _=>[0,2,3,4,5,6,15,20,26,30,35,38,41]) Try.func29 (h:=fun KF=>?_)
   unfold E0
   repeat' (first
    |(with_reducible first|refine nx ?_|refine t_seq fun K=>?_|refine t_br (fun hc=>?_) fun hc=>?_|refine t_bx ?_|apply And.intro|intro vr)
    |((with_reducible first|refine ny ?_|refine t_dwh (h:=fun K KL=>?_));intros;simp only [go_sem,geff]))
   all_goals try exact om
   refine end_ret rfl ?_
   simp only [fin,go_sem]
   exact LeA.tup ⟨LeA.full true 1 _,LeA.refl _,LeA.refl _,trivial⟩
  have z8:eqS op (⟨#[97,98,115]⟩:ByteArray)=false:=Bool.eq_false_iff.2 fun e=>h8 (eqS_iff.1 e)
  by_cases h9:op=(⟨#[115,105,103,110]⟩:ByteArray)
  ·subst h9
   refine pcO E0_ok (fun _=>[0,2,3,4,5,6,15,20,26,30,35,38,41]) Try.func29 (h:=fun KF=>?_)
   unfold E0
   repeat' (first
    |(with_reducible first|refine nx ?_|refine t_seq fun K=>?_|refine t_br (fun hc=>?_) fun hc=>?_|refine t_bx ?_|apply And.intro|intro vr)
    |((with_reducible first|refine ny ?_|refine t_dwh (h:=fun K KL=>?_));intros;simp only [go_sem,geff]))
   all_goals try exact om
   refine end_ret rfl ?_
   simp only [fin,go_sem]
   exact LeA.tup ⟨LeA.full true 1 _,LeA.refl _,LeA.refl _,trivial⟩
  have z9:eqS op (⟨#[115,105,103,110]⟩:ByteArray)=false:=Bool.eq_false_iff.2 fun e=>h9 (eqS_iff.1 e)
  by_cases h10:op=(⟨#[108,116]⟩:ByteArray)
  ·subst h10
   refine pcO E0_ok (fun _=>[0,2,3,4,5,6,15,20,26,30,35,38,41]) Try.func29 (h:=fun KF=>?_)
   unfold E0
   repeat' (first
    |(with_reducible first|refine nx ?_|refine t_seq fun K=>?_|refine t_br (fun hc=>?_) fun hc=>?_|refine t_bx ?_|apply And.intro|intro vr)
    |((with_reducible first|refine ny ?_|refine t_dwh (h:=fun K KL=>?_));intros;simp only [go_sem,geff]))
   all_goals try exact om
   refine end_ret rfl ?_
   simp only [fin,go_sem]
   exact LeA.tup ⟨LeA.full true 1 _,LeA.refl _,LeA.refl _,trivial⟩
  have z10:eqS op (⟨#[108,116]⟩:ByteArray)=false:=Bool.eq_false_iff.2 fun e=>h10 (eqS_iff.1 e)
  by_cases h11:op=(⟨#[108,101]⟩:ByteArray)
  ·subst h11
   refine pcO E0_ok (fun _=>[0,2,3,4,5,6,15,20,26,30,35,38,41]) Try.func29 (h:=fun KF=>?_)
   unfold E0
   repeat' (first
    |(with_reducible first|refine nx ?_|refine t_seq fun K=>?_|refine t_br (fun hc=>?_) fun hc=>?_|refine t_bx ?_|apply And.intro|intro vr)
    |((with_reducible first|refine ny ?_|refine t_dwh (h:=fun K KL=>?_));intros;simp only [go_sem,geff]))
   all_goals try exact om
   refine end_ret rfl ?_
   simp only [fin,go_sem]
   exact LeA.tup ⟨LeA.full true 1 _,LeA.refl _,LeA.refl _,trivial⟩
  have z11:eqS op (⟨#[108,101]⟩:ByteArray)=false:=Bool.eq_false_iff.2 fun e=>h11 (eqS_iff.1 e)
  by_cases h12:op=(⟨#[103,116]⟩:ByteArray)
  ·subst h12
   refine pcO E0_ok (fun _=>[0,2,3,4,5,6,15,20,26,30,35,38,41]) Try.func29 (h:=fun KF=>?_)
   unfold E0
   repeat' (first
    |(with_reducible first|refine nx ?_|refine t_seq fun K=>?_|refine t_br (fun hc=>?_) fun hc=>?_|refine t_bx ?_|apply And.intro|intro vr)
    |((with_reducible first|refine ny ?_|refine t_dwh (h:=fun K KL=>?_));intros;simp only [go_sem,geff]))
   all_goals try exact om
   refine end_ret rfl ?_
   simp only [fin,go_sem]
   exact LeA.tup ⟨LeA.full true 1 _,LeA.refl _,LeA.refl _,trivial⟩
  have z12:eqS op (⟨#[103,116]⟩:ByteArray)=false:=Bool.eq_false_iff.2 fun e=>h12 (eqS_iff.1 e)
  by_cases h13:op=(⟨#[103,101]⟩:ByteArray)
  ·subst h13
   refine pcO E0_ok (fun _=>[0,2,3,4,5,6,15,20,26,30,35,38,41]) Try.func29 (h:=fun KF=>?_)
   unfold E0
   repeat' (first
    |(with_reducible first|refine nx ?_|refine t_seq fun K=>?_|refine t_br (fun hc=>?_) fun hc=>?_|refine t_bx ?_|apply And.intro|intro vr)
    |((with_reducible first|refine ny ?_|refine t_dwh (h:=fun K KL=>?_));intros;simp only [go_sem,geff]))
   all_goals try exact om
   refine end_ret rfl ?_
   simp only [fin,go_sem]
   exact LeA.tup ⟨LeA.full true 1 _,LeA.refl _,LeA.refl _,trivial⟩
  have z13:eqS op (⟨#[103,101]⟩:ByteArray)=false:=Bool.eq_false_iff.2 fun e=>h13 (eqS_iff.1 e)
  by_cases h14:op=(⟨#[101,113]⟩:ByteArray)
  ·subst h14
   refine pcO E0_ok (fun _=>[0,2,3,4,5,6,15,20,26,30,35,38,41]) Try.func29 (h:=fun KF=>?_)
   unfold E0
   repeat' (first
    |(with_reducible first|refine nx ?_|refine t_seq fun K=>?_|refine t_br (fun hc=>?_) fun hc=>?_|refine t_bx ?_|apply And.intro|intro vr)
    |((with_reducible first|refine ny ?_|refine t_dwh (h:=fun K KL=>?_));intros;simp only [go_sem,geff]))
   all_goals try exact om
   refine end_ret rfl ?_
   simp only [fin,go_sem]
   exact LeA.tup ⟨LeA.full true 1 _,LeA.refl _,LeA.refl _,trivial⟩
  have z14:eqS op (⟨#[101,113]⟩:ByteArray)=false:=Bool.eq_false_iff.2 fun e=>h14 (eqS_iff.1 e)
  by_cases h15:op=(⟨#[110,101]⟩:ByteArray)
  ·subst h15
   refine pcO E0_ok (fun _=>[0,2,3,4,5,6,15,20,26,30,35,38,41]) Try.func29 (h:=fun KF=>?_)
   unfold E0
   repeat' (first
    |(with_reducible first|refine nx ?_|refine t_seq fun K=>?_|refine t_br (fun hc=>?_) fun hc=>?_|refine t_bx ?_|apply And.intro|intro vr)
    |((with_reducible first|refine ny ?_|refine t_dwh (h:=fun K KL=>?_));intros;simp only [go_sem,geff]))
   all_goals try exact om
   refine end_ret rfl ?_
   simp only [fin,go_sem]
   exact LeA.tup ⟨LeA.full true 1 _,LeA.refl _,LeA.refl _,trivial⟩
  have z15:eqS op (⟨#[110,101]⟩:ByteArray)=false:=Bool.eq_false_iff.2 fun e=>h15 (eqS_iff.1 e)
  by_cases h16:op=(⟨#[97,110,100]⟩:ByteArray)
  ·subst h16
   refine pcO E0_ok (fun _=>[0,2,3,4,5,6,15,20,26,30,35,38,41]) Try.func29 (h:=fun KF=>?_)
   unfold E0
   repeat' (first
    |(with_reducible first|refine nx ?_|refine t_seq fun K=>?_|refine t_br (fun hc=>?_) fun hc=>?_|refine t_bx ?_|apply And.intro|intro vr)
    |((with_reducible first|refine ny ?_|refine t_dwh (h:=fun K KL=>?_));intros;simp only [go_sem,geff]))
   all_goals try exact om
   refine end_ret rfl ?_
   simp only [fin,go_sem]
   exact LeA.tup ⟨LeA.full true 1 _,LeA.refl _,LeA.refl _,trivial⟩
  have z16:eqS op (⟨#[97,110,100]⟩:ByteArray)=false:=Bool.eq_false_iff.2 fun e=>h16 (eqS_iff.1 e)
  by_cases h17:op=(⟨#[111,114]⟩:ByteArray)
  ·subst h17
   refine pcO E0_ok (fun _=>[0,2,3,4,5,6,15,20,26,30,35,38,41]) Try.func29 (h:=fun KF=>?_)
   unfold E0
   repeat' (first
    |(with_reducible first|refine nx ?_|refine t_seq fun K=>?_|refine t_br (fun hc=>?_) fun hc=>?_|refine t_bx ?_|apply And.intro|intro vr)
    |((with_reducible first|refine ny ?_|refine t_dwh (h:=fun K KL=>?_));intros;simp only [go_sem,geff]))
   all_goals try exact om
   refine end_ret rfl ?_
   simp only [fin,go_sem]
   exact LeA.tup ⟨LeA.full true 1 _,LeA.refl _,LeA.refl _,trivial⟩
  have z17:eqS op (⟨#[111,114]⟩:ByteArray)=false:=Bool.eq_false_iff.2 fun e=>h17 (eqS_iff.1 e)
  by_cases h18:op=(⟨#[120,111,114]⟩:ByteArray)
  ·subst h18
   refine pcO E0_ok (fun _=>[0,2,3,4,5,6,15,20,26,30,35,38,41]) Try.func29 (h:=fun KF=>?_)
   unfold E0
   repeat' (first
    |(with_reducible first|refine nx ?_|refine t_seq fun K=>?_|refine t_br (fun hc=>?_) fun hc=>?_|refine t_bx ?_|apply And.intro|intro vr)
    |((with_reducible first|refine ny ?_|refine t_dwh (h:=fun K KL=>?_));intros;simp only [go_sem,geff]))
   all_goals try exact om
   refine end_ret rfl ?_
   simp only [fin,go_sem]
   exact LeA.tup ⟨LeA.full true 1 _,LeA.refl _,LeA.refl _,trivial⟩
  have z18:eqS op (⟨#[120,111,114]⟩:ByteArray)=false:=Bool.eq_false_iff.2 fun e=>h18 (eqS_iff.1 e)
  by_cases h19:op=(⟨#[110,111,116]⟩:ByteArray)
  ·subst h19
   refine pcO E0_ok (fun _=>[0,2,3,4,5,6,15,20,26,30,35,38,41]) Try.func29 (h:=fun KF=>?_)
   unfold E0
   repeat' (first
    |(with_reducible first|refine nx ?_|refine t_seq fun K=>?_|refine t_br (fun hc=>?_) fun hc=>?_|refine t_bx ?_|apply And.intro|intro vr)
    |((with_reducible first|refine ny ?_|refine t_dwh (h:=fun K KL=>?_));intros;simp only [go_sem,geff]))
   all_goals try exact om
   refine end_ret rfl ?_
   simp only [fin,go_sem]
   exact LeA.tup ⟨LeA.full true 1 _,LeA.refl _,LeA.refl _,trivial⟩
  have z19:eqS op (⟨#[110,111,116]⟩:ByteArray)=false:=Bool.eq_false_iff.2 fun e=>h19 (eqS_iff.1 e)
  by_cases h20:op=(⟨#[115,101,108,101,99,116]⟩:ByteArray)
  ·subst h20
   refine pcO E0_ok (fun _=>[0,2,3,4,5,6,15,20,26,30,35,38,41]) Try.func29 (h:=fun KF=>?_)
   unfold E0
   repeat' (first
    |(with_reducible first|refine nx ?_|refine t_seq fun K=>?_|refine t_br (fun hc=>?_) fun hc=>?_|refine t_bx ?_|apply And.intro|intro vr)
    |((with_reducible first|refine ny ?_|refine t_dwh (h:=fun K KL=>?_));intros;simp only [go_sem,geff]))
   all_goals try exact om
   refine end_ret rfl ?_
   simp only [fin,go_sem]
   exact LeA.tup ⟨LeA.full true 1 _,LeA.refl _,LeA.refl _,trivial⟩
  have z20:eqS op (⟨#[115,101,108,101,99,116]⟩:ByteArray)=false:=Bool.eq_false_iff.2 fun e=>h20 (eqS_iff.1 e)
  by_cases h21:op=(⟨#[116,111,105,110,116]⟩:ByteArray)
  ·subst h21
   refine pcO E0_ok (fun _=>[0,2,3,4,5,6,15,20,26,30,35,38,41]) Try.func29 (h:=fun KF=>?_)
   unfold E0
   repeat' (first
    |(with_reducible first|refine nx ?_|refine t_seq fun K=>?_|refine t_br (fun hc=>?_) fun hc=>?_|refine t_bx ?_|apply And.intro|intro vr)
    |((with_reducible first|refine ny ?_|refine t_dwh (h:=fun K KL=>?_));intros;simp only [go_sem,geff]))
   all_goals try exact om
   refine end_ret rfl ?_
   simp only [fin,go_sem]
   exact LeA.tup ⟨LeA.full true 1 _,LeA.refl _,LeA.refl _,trivial⟩
  have z21:eqS op (⟨#[116,111,105,110,116]⟩:ByteArray)=false:=Bool.eq_false_iff.2 fun e=>h21 (eqS_iff.1 e)
  have hN:typesS op=none:=by
    unfold typesS
    rw [List.find?_eq_none]
    intro r hr
    rw [eqS_comm]
    have:r=rowsL.getD 0 default∨r=rowsL.getD 1 default∨r=rowsL.getD 2 default∨r=rowsL.getD 3 default∨r=rowsL.getD 4 default∨r=rowsL.getD 5 default∨r=rowsL.getD 6 default∨r=rowsL.getD 7 default∨r=rowsL.getD 8 default∨r=rowsL.getD 9 default∨r=rowsL.getD 10 default∨r=rowsL.getD 11 default∨r=rowsL.getD 12 default∨r=rowsL.getD 13 default∨r=rowsL.getD 14 default∨r=rowsL.getD 15 default∨r=rowsL.getD 16 default∨r=rowsL.getD 17 default∨r=rowsL.getD 18 default∨r=rowsL.getD 19 default∨r=rowsL.getD 20 default∨r=rowsL.getD 21 default:=by
      simp only [rowsL,List.mem_cons,List.mem_nil_iff,or_false] at hr
      exact hr
    rcases this with rfl|rfl|rfl|rfl|rfl|rfl|rfl|rfl|rfl|rfl|rfl|rfl|rfl|rfl|rfl|rfl|rfl|rfl|rfl|rfl|rfl|rfl<;>simp only [Bool.not_eq_true]
    all_goals first|exact z0|exact z1|exact z2|exact z3|exact z4|exact z5|exact z6|exact z7|exact z8|exact z9|exact z10|exact z11|exact z12|exact z13|exact z14|exact z15|exact z16|exact z17|exact z18|exact z19|exact z20|exact z21
  rw [hN]
  refine pcO E0_ok (fun _=>[0,2,3,4,5,6,15,20,26,30,35,38,41]) Try.func29 (h:=fun KF=>?_)
  unfold E0
  repeat' (first
   |(with_reducible first|refine nx ?_|refine t_seq fun K=>?_|refine t_br (fun hc=>?_) fun hc=>?_|refine t_bx ?_|apply And.intro|intro vr)
   |((with_reducible first|refine ny ?_|refine t_dwh (h:=fun K KL=>?_));intros;simp only [go_sem,geff,z0,z1,z2,z3,z4,z5,z6,z7,z8,z9,z10,z11,z12,z13,z14,z15,z16,z17,z18,z19,z20,z21]))
  refine end_ret rfl ?_
  simp only [fin,go_sem]
  exact LeA.refl _
end Go.Proofs.Ytnlimcijgpaegaa.El

namespace Go.Proofs.Ytnlimcijgpaegaa.El
open Go.Proofs.Ytnlimcijgpaegaa
open Go Go.Fw
set_option maxRecDepth 20000
theorem vld_int {n:Int}:vld sInt n=true ↔ el n:=by
  unfold vld el
  rw [if_pos (eqS_refl _)]
  simp
theorem vld_bool {n:Int}:vld sBool n=true ↔ n=0∨n=1:=by
  unfold vld
  rw [if_neg (show ¬ eqS sBool sInt=true by decide),if_pos (eqS_refl _)]
  simp
theorem flo_spec {a b:Int} (hb:b≠0):(0<b→0≤a - b*flo a b∧a - b*flo a b<b)∧(b<0→a - b*flo a b≤0∧b<a - b*flo a b):=by
  have e:=Int.mul_tdiv_add_tmod a b
  have p1:0≤a→0≤a.tmod b:=Int.tmod_nonneg b
  have p2:a≤0→a.tmod b≤0:=fun h=>by
    have:=Int.tmod_nonneg b (show 0≤ -a by omega)
    rw [Int.neg_tmod] at this
    omega
  have p3:(a.tmod b).natAbs<b.natAbs:=by
    rw [Int.natAbs_tmod]
    exact Nat.mod_lt _ (by omega)
  unfold flo
  rw [if_neg hb]
  have e2:b*(a.tdiv b - 1)=b*a.tdiv b - b:=by rw [Int.mul_sub,Int.mul_one]
  by_cases h0:a.tmod b=0
  ·rw [if_neg (fun h=>h.1 h0)]
   constructor<;>intro h<;>omega
  ·by_cases h1:decide (a<0)=decide (b<0)
   ·rw [if_neg (fun h=>h.2 h1)]
    have h2:a<0 ↔ b<0:=decide_eq_decide.1 h1
    constructor<;>intro h<;>omega
   ·rw [if_pos ⟨h0,h1⟩,e2]
    have h2: ¬ (a<0 ↔ b<0):=fun h=>h1 (by rw [decide_eq_decide];exact h)
    constructor<;>intro h<;>omega
def vS:Nat→List Int→Int
  |0,[a,b]=>w32 (a+b)
  |1,[a,b]=>w32 (a - b)
  |2,[a,b]=>w32 (a*b)
  |3,[a,b]=>w32 (flo a b)
  |4,[a,b]=>if b=0 then 0 else a - b*flo a b
  |5,[a,b]=>minI a b
  |6,[a,b]=>maxI a b
  |7,[a]=>w32 (0 - a)
  |8,[a]=>w32 (maxI a (0 - a))
  |9,[a]=>sgn a
  |10,[a,b]=>tru (decide (a<b))
  |11,[a,b]=>tru (decide (a≤b))
  |12,[a,b]=>tru (decide (a>b))
  |13,[a,b]=>tru (decide (a≥b))
  |14,[a,b]=>tru (a==b)
  |15,[a,b]=>tru (a !=b)
  |16,[a,b]=>minI a b
  |17,[a,b]=>maxI a b
  |18,[a,b]=>if a=b then 0 else 1
  |19,[a]=>1 - a
  |20,[a,b,c]=>if a=1 then b else c
  |21,[a]=>a
  |_,_=>0
def elT (s:ByteArray):ByteArray:=if eqS s sA=true then sInt else s
def okA (ps:List ByteArray) (xs:List Int):Bool:=(ps.zip xs).all fun p=>vld (elT p.1) p.2
def psN (i:Nat):List ByteArray:=(rowsL.getD i default).ps
def okL (i:Nat) (xs:List Int):Prop:=xs.length=(psN i).length∧okA (psN i) xs=true
def rowIx (op:ByteArray):Option Nat:=(List.range 22).find? fun i=>eqS (rowsL.getD i default).op op
theorem ix_cases (op:ByteArray):(∃ i,i<22∧op=(rowsL.getD i default).op∧rowIx op=some i∧typesS op=some (rowsL.getD i default))∨(rowIx op=none∧typesS op=none):=by
  by_cases h:∃ i,i<22∧op=(rowsL.getD i default).op
  ·left
   obtain ⟨i,hi,rfl⟩:=h
   refine ⟨i,hi,rfl,?_⟩
   have:i=0∨i=1∨i=2∨i=3∨i=4∨i=5∨i=6∨i=7∨i=8∨i=9∨i=10∨i=11∨i=12∨i=13∨i=14∨i=15∨i=16∨i=17∨i=18∨i=19∨i=20∨i=21:=by omega
   rcases this with rfl|rfl|rfl|rfl|rfl|rfl|rfl|rfl|rfl|rfl|rfl|rfl|rfl|rfl|rfl|rfl|rfl|rfl|rfl|rfl|rfl|rfl
   all_goals exact ⟨rfl,rfl⟩
  ·right
   constructor
   ·unfold rowIx
    rw [List.find?_eq_none]
    intro i hi he
    exact h ⟨i,by simpa using hi,(eqS_iff.1 he).symm⟩
   ·unfold typesS
    rw [List.find?_eq_none]
    intro r hr he
    obtain ⟨i,hi,rfl⟩:=List.mem_iff_getElem.1 hr
    rw [rows_len] at hi
    exact h ⟨i,hi,by rw [getD_elem _ _ (by rw [rows_len];exact hi)];exact (eqS_iff.1 he).symm⟩
theorem okL_0 {xs:List Int}:okL 0 xs ↔ ∃ a b,xs=[a,b]∧el a∧el b:=by
  constructor
  ·rintro ⟨h1,h2⟩
   match xs,h1,h2 with
   |[a,b],_,h2=>
    refine ⟨a,b,rfl,?_⟩
    simp only [okA,psN,rowsL,List.getD_cons_zero,List.getD_cons_succ,List.zip_cons_cons,List.zip_nil_right,List.zip_nil_left,List.all_cons,List.all_nil,Bool.and_true,Bool.and_eq_true] at h2
    exact ⟨vld_int.1 h2.1,vld_int.1 h2.2⟩
  ·rintro ⟨a,b,rfl,h0,h1⟩
   refine ⟨rfl,?_⟩
   simp only [okA,psN,rowsL,List.getD_cons_zero,List.getD_cons_succ,List.zip_cons_cons,List.zip_nil_right,List.zip_nil_left,List.all_cons,List.all_nil,Bool.and_true,Bool.and_eq_true]
   exact ⟨vld_int.2 h0,vld_int.2 h1⟩
theorem okL_1 {xs:List Int}:okL 1 xs ↔ ∃ a b,xs=[a,b]∧el a∧el b:=by
  constructor
  ·rintro ⟨h1,h2⟩
   match xs,h1,h2 with
   |[a,b],_,h2=>
    refine ⟨a,b,rfl,?_⟩
    simp only [okA,psN,rowsL,List.getD_cons_zero,List.getD_cons_succ,List.zip_cons_cons,List.zip_nil_right,List.zip_nil_left,List.all_cons,List.all_nil,Bool.and_true,Bool.and_eq_true] at h2
    exact ⟨vld_int.1 h2.1,vld_int.1 h2.2⟩
  ·rintro ⟨a,b,rfl,h0,h1⟩
   refine ⟨rfl,?_⟩
   simp only [okA,psN,rowsL,List.getD_cons_zero,List.getD_cons_succ,List.zip_cons_cons,List.zip_nil_right,List.zip_nil_left,List.all_cons,List.all_nil,Bool.and_true,Bool.and_eq_true]
   exact ⟨vld_int.2 h0,vld_int.2 h1⟩
theorem okL_2 {xs:List Int}:okL 2 xs ↔ ∃ a b,xs=[a,b]∧el a∧el b:=by
  constructor
  ·rintro ⟨h1,h2⟩
   match xs,h1,h2 with
   |[a,b],_,h2=>
    refine ⟨a,b,rfl,?_⟩
    simp only [okA,psN,rowsL,List.getD_cons_zero,List.getD_cons_succ,List.zip_cons_cons,List.zip_nil_right,List.zip_nil_left,List.all_cons,List.all_nil,Bool.and_true,Bool.and_eq_true] at h2
    exact ⟨vld_int.1 h2.1,vld_int.1 h2.2⟩
  ·rintro ⟨a,b,rfl,h0,h1⟩
   refine ⟨rfl,?_⟩
   simp only [okA,psN,rowsL,List.getD_cons_zero,List.getD_cons_succ,List.zip_cons_cons,List.zip_nil_right,List.zip_nil_left,List.all_cons,List.all_nil,Bool.and_true,Bool.and_eq_true]
   exact ⟨vld_int.2 h0,vld_int.2 h1⟩
theorem okL_3 {xs:List Int}:okL 3 xs ↔ ∃ a b,xs=[a,b]∧el a∧el b:=by
  constructor
  ·rintro ⟨h1,h2⟩
   match xs,h1,h2 with
   |[a,b],_,h2=>
    refine ⟨a,b,rfl,?_⟩
    simp only [okA,psN,rowsL,List.getD_cons_zero,List.getD_cons_succ,List.zip_cons_cons,List.zip_nil_right,List.zip_nil_left,List.all_cons,List.all_nil,Bool.and_true,Bool.and_eq_true] at h2
    exact ⟨vld_int.1 h2.1,vld_int.1 h2.2⟩
  ·rintro ⟨a,b,rfl,h0,h1⟩
   refine ⟨rfl,?_⟩
   simp only [okA,psN,rowsL,List.getD_cons_zero,List.getD_cons_succ,List.zip_cons_cons,List.zip_nil_right,List.zip_nil_left,List.all_cons,List.all_nil,Bool.and_true,Bool.and_eq_true]
   exact ⟨vld_int.2 h0,vld_int.2 h1⟩
theorem okL_4 {xs:List Int}:okL 4 xs ↔ ∃ a b,xs=[a,b]∧el a∧el b:=by
  constructor
  ·rintro ⟨h1,h2⟩
   match xs,h1,h2 with
   |[a,b],_,h2=>
    refine ⟨a,b,rfl,?_⟩
    simp only [okA,psN,rowsL,List.getD_cons_zero,List.getD_cons_succ,List.zip_cons_cons,List.zip_nil_right,List.zip_nil_left,List.all_cons,List.all_nil,Bool.and_true,Bool.and_eq_true] at h2
    exact ⟨vld_int.1 h2.1,vld_int.1 h2.2⟩
  ·rintro ⟨a,b,rfl,h0,h1⟩
   refine ⟨rfl,?_⟩
   simp only [okA,psN,rowsL,List.getD_cons_zero,List.getD_cons_succ,List.zip_cons_cons,List.zip_nil_right,List.zip_nil_left,List.all_cons,List.all_nil,Bool.and_true,Bool.and_eq_true]
   exact ⟨vld_int.2 h0,vld_int.2 h1⟩
theorem okL_5 {xs:List Int}:okL 5 xs ↔ ∃ a b,xs=[a,b]∧el a∧el b:=by
  constructor
  ·rintro ⟨h1,h2⟩
   match xs,h1,h2 with
   |[a,b],_,h2=>
    refine ⟨a,b,rfl,?_⟩
    simp only [okA,psN,rowsL,List.getD_cons_zero,List.getD_cons_succ,List.zip_cons_cons,List.zip_nil_right,List.zip_nil_left,List.all_cons,List.all_nil,Bool.and_true,Bool.and_eq_true] at h2
    exact ⟨vld_int.1 h2.1,vld_int.1 h2.2⟩
  ·rintro ⟨a,b,rfl,h0,h1⟩
   refine ⟨rfl,?_⟩
   simp only [okA,psN,rowsL,List.getD_cons_zero,List.getD_cons_succ,List.zip_cons_cons,List.zip_nil_right,List.zip_nil_left,List.all_cons,List.all_nil,Bool.and_true,Bool.and_eq_true]
   exact ⟨vld_int.2 h0,vld_int.2 h1⟩
theorem okL_6 {xs:List Int}:okL 6 xs ↔ ∃ a b,xs=[a,b]∧el a∧el b:=by
  constructor
  ·rintro ⟨h1,h2⟩
   match xs,h1,h2 with
   |[a,b],_,h2=>
    refine ⟨a,b,rfl,?_⟩
    simp only [okA,psN,rowsL,List.getD_cons_zero,List.getD_cons_succ,List.zip_cons_cons,List.zip_nil_right,List.zip_nil_left,List.all_cons,List.all_nil,Bool.and_true,Bool.and_eq_true] at h2
    exact ⟨vld_int.1 h2.1,vld_int.1 h2.2⟩
  ·rintro ⟨a,b,rfl,h0,h1⟩
   refine ⟨rfl,?_⟩
   simp only [okA,psN,rowsL,List.getD_cons_zero,List.getD_cons_succ,List.zip_cons_cons,List.zip_nil_right,List.zip_nil_left,List.all_cons,List.all_nil,Bool.and_true,Bool.and_eq_true]
   exact ⟨vld_int.2 h0,vld_int.2 h1⟩
theorem okL_7 {xs:List Int}:okL 7 xs ↔ ∃ a,xs=[a]∧el a:=by
  constructor
  ·rintro ⟨h1,h2⟩
   match xs,h1,h2 with
   |[a],_,h2=>
    refine ⟨a,rfl,?_⟩
    simp only [okA,psN,rowsL,List.getD_cons_zero,List.getD_cons_succ,List.zip_cons_cons,List.zip_nil_right,List.zip_nil_left,List.all_cons,List.all_nil,Bool.and_true,Bool.and_eq_true] at h2
    exact vld_int.1 h2
  ·rintro ⟨a,rfl,h0⟩
   refine ⟨rfl,?_⟩
   simp only [okA,psN,rowsL,List.getD_cons_zero,List.getD_cons_succ,List.zip_cons_cons,List.zip_nil_right,List.zip_nil_left,List.all_cons,List.all_nil,Bool.and_true,Bool.and_eq_true]
   exact vld_int.2 h0
theorem okL_8 {xs:List Int}:okL 8 xs ↔ ∃ a,xs=[a]∧el a:=by
  constructor
  ·rintro ⟨h1,h2⟩
   match xs,h1,h2 with
   |[a],_,h2=>
    refine ⟨a,rfl,?_⟩
    simp only [okA,psN,rowsL,List.getD_cons_zero,List.getD_cons_succ,List.zip_cons_cons,List.zip_nil_right,List.zip_nil_left,List.all_cons,List.all_nil,Bool.and_true,Bool.and_eq_true] at h2
    exact vld_int.1 h2
  ·rintro ⟨a,rfl,h0⟩
   refine ⟨rfl,?_⟩
   simp only [okA,psN,rowsL,List.getD_cons_zero,List.getD_cons_succ,List.zip_cons_cons,List.zip_nil_right,List.zip_nil_left,List.all_cons,List.all_nil,Bool.and_true,Bool.and_eq_true]
   exact vld_int.2 h0
theorem okL_9 {xs:List Int}:okL 9 xs ↔ ∃ a,xs=[a]∧el a:=by
  constructor
  ·rintro ⟨h1,h2⟩
   match xs,h1,h2 with
   |[a],_,h2=>
    refine ⟨a,rfl,?_⟩
    simp only [okA,psN,rowsL,List.getD_cons_zero,List.getD_cons_succ,List.zip_cons_cons,List.zip_nil_right,List.zip_nil_left,List.all_cons,List.all_nil,Bool.and_true,Bool.and_eq_true] at h2
    exact vld_int.1 h2
  ·rintro ⟨a,rfl,h0⟩
   refine ⟨rfl,?_⟩
   simp only [okA,psN,rowsL,List.getD_cons_zero,List.getD_cons_succ,List.zip_cons_cons,List.zip_nil_right,List.zip_nil_left,List.all_cons,List.all_nil,Bool.and_true,Bool.and_eq_true]
   exact vld_int.2 h0
theorem okL_10 {xs:List Int}:okL 10 xs ↔ ∃ a b,xs=[a,b]∧el a∧el b:=by
  constructor
  ·rintro ⟨h1,h2⟩
   match xs,h1,h2 with
   |[a,b],_,h2=>
    refine ⟨a,b,rfl,?_⟩
    simp only [okA,psN,rowsL,List.getD_cons_zero,List.getD_cons_succ,List.zip_cons_cons,List.zip_nil_right,List.zip_nil_left,List.all_cons,List.all_nil,Bool.and_true,Bool.and_eq_true] at h2
    exact ⟨vld_int.1 h2.1,vld_int.1 h2.2⟩
  ·rintro ⟨a,b,rfl,h0,h1⟩
   refine ⟨rfl,?_⟩
   simp only [okA,psN,rowsL,List.getD_cons_zero,List.getD_cons_succ,List.zip_cons_cons,List.zip_nil_right,List.zip_nil_left,List.all_cons,List.all_nil,Bool.and_true,Bool.and_eq_true]
   exact ⟨vld_int.2 h0,vld_int.2 h1⟩
theorem okL_11 {xs:List Int}:okL 11 xs ↔ ∃ a b,xs=[a,b]∧el a∧el b:=by
  constructor
  ·rintro ⟨h1,h2⟩
   match xs,h1,h2 with
   |[a,b],_,h2=>
    refine ⟨a,b,rfl,?_⟩
    simp only [okA,psN,rowsL,List.getD_cons_zero,List.getD_cons_succ,List.zip_cons_cons,List.zip_nil_right,List.zip_nil_left,List.all_cons,List.all_nil,Bool.and_true,Bool.and_eq_true] at h2
    exact ⟨vld_int.1 h2.1,vld_int.1 h2.2⟩
  ·rintro ⟨a,b,rfl,h0,h1⟩
   refine ⟨rfl,?_⟩
   simp only [okA,psN,rowsL,List.getD_cons_zero,List.getD_cons_succ,List.zip_cons_cons,List.zip_nil_right,List.zip_nil_left,List.all_cons,List.all_nil,Bool.and_true,Bool.and_eq_true]
   exact ⟨vld_int.2 h0,vld_int.2 h1⟩
theorem okL_12 {xs:List Int}:okL 12 xs ↔ ∃ a b,xs=[a,b]∧el a∧el b:=by
  constructor
  ·rintro ⟨h1,h2⟩
   match xs,h1,h2 with
   |[a,b],_,h2=>
    refine ⟨a,b,rfl,?_⟩
    simp only [okA,psN,rowsL,List.getD_cons_zero,List.getD_cons_succ,List.zip_cons_cons,List.zip_nil_right,List.zip_nil_left,List.all_cons,List.all_nil,Bool.and_true,Bool.and_eq_true] at h2
    exact ⟨vld_int.1 h2.1,vld_int.1 h2.2⟩
  ·rintro ⟨a,b,rfl,h0,h1⟩
   refine ⟨rfl,?_⟩
   simp only [okA,psN,rowsL,List.getD_cons_zero,List.getD_cons_succ,List.zip_cons_cons,List.zip_nil_right,List.zip_nil_left,List.all_cons,List.all_nil,Bool.and_true,Bool.and_eq_true]
   exact ⟨vld_int.2 h0,vld_int.2 h1⟩
theorem okL_13 {xs:List Int}:okL 13 xs ↔ ∃ a b,xs=[a,b]∧el a∧el b:=by
  constructor
  ·rintro ⟨h1,h2⟩
   match xs,h1,h2 with
   |[a,b],_,h2=>
    refine ⟨a,b,rfl,?_⟩
    simp only [okA,psN,rowsL,List.getD_cons_zero,List.getD_cons_succ,List.zip_cons_cons,List.zip_nil_right,List.zip_nil_left,List.all_cons,List.all_nil,Bool.and_true,Bool.and_eq_true] at h2
    exact ⟨vld_int.1 h2.1,vld_int.1 h2.2⟩
  ·rintro ⟨a,b,rfl,h0,h1⟩
   refine ⟨rfl,?_⟩
   simp only [okA,psN,rowsL,List.getD_cons_zero,List.getD_cons_succ,List.zip_cons_cons,List.zip_nil_right,List.zip_nil_left,List.all_cons,List.all_nil,Bool.and_true,Bool.and_eq_true]
   exact ⟨vld_int.2 h0,vld_int.2 h1⟩
theorem okL_14 {xs:List Int}:okL 14 xs ↔ ∃ a b,xs=[a,b]∧el a∧el b:=by
  constructor
  ·rintro ⟨h1,h2⟩
   match xs,h1,h2 with
   |[a,b],_,h2=>
    refine ⟨a,b,rfl,?_⟩
    simp only [okA,psN,rowsL,List.getD_cons_zero,List.getD_cons_succ,List.zip_cons_cons,List.zip_nil_right,List.zip_nil_left,List.all_cons,List.all_nil,Bool.and_true,Bool.and_eq_true] at h2
    exact ⟨vld_int.1 h2.1,vld_int.1 h2.2⟩
  ·rintro ⟨a,b,rfl,h0,h1⟩
   refine ⟨rfl,?_⟩
   simp only [okA,psN,rowsL,List.getD_cons_zero,List.getD_cons_succ,List.zip_cons_cons,List.zip_nil_right,List.zip_nil_left,List.all_cons,List.all_nil,Bool.and_true,Bool.and_eq_true]
   exact ⟨vld_int.2 h0,vld_int.2 h1⟩
theorem okL_15 {xs:List Int}:okL 15 xs ↔ ∃ a b,xs=[a,b]∧el a∧el b:=by
  constructor
  ·rintro ⟨h1,h2⟩
   match xs,h1,h2 with
   |[a,b],_,h2=>
    refine ⟨a,b,rfl,?_⟩
    simp only [okA,psN,rowsL,List.getD_cons_zero,List.getD_cons_succ,List.zip_cons_cons,List.zip_nil_right,List.zip_nil_left,List.all_cons,List.all_nil,Bool.and_true,Bool.and_eq_true] at h2
    exact ⟨vld_int.1 h2.1,vld_int.1 h2.2⟩
  ·rintro ⟨a,b,rfl,h0,h1⟩
   refine ⟨rfl,?_⟩
   simp only [okA,psN,rowsL,List.getD_cons_zero,List.getD_cons_succ,List.zip_cons_cons,List.zip_nil_right,List.zip_nil_left,List.all_cons,List.all_nil,Bool.and_true,Bool.and_eq_true]
   exact ⟨vld_int.2 h0,vld_int.2 h1⟩
theorem okL_16 {xs:List Int}:okL 16 xs ↔ ∃ a b,xs=[a,b]∧(a=0∨a=1)∧(b=0∨b=1):=by
  constructor
  ·rintro ⟨h1,h2⟩
   match xs,h1,h2 with
   |[a,b],_,h2=>
    refine ⟨a,b,rfl,?_⟩
    simp only [okA,psN,rowsL,List.getD_cons_zero,List.getD_cons_succ,List.zip_cons_cons,List.zip_nil_right,List.zip_nil_left,List.all_cons,List.all_nil,Bool.and_true,Bool.and_eq_true] at h2
    exact ⟨vld_bool.1 h2.1,vld_bool.1 h2.2⟩
  ·rintro ⟨a,b,rfl,h0,h1⟩
   refine ⟨rfl,?_⟩
   simp only [okA,psN,rowsL,List.getD_cons_zero,List.getD_cons_succ,List.zip_cons_cons,List.zip_nil_right,List.zip_nil_left,List.all_cons,List.all_nil,Bool.and_true,Bool.and_eq_true]
   exact ⟨vld_bool.2 h0,vld_bool.2 h1⟩
theorem okL_17 {xs:List Int}:okL 17 xs ↔ ∃ a b,xs=[a,b]∧(a=0∨a=1)∧(b=0∨b=1):=by
  constructor
  ·rintro ⟨h1,h2⟩
   match xs,h1,h2 with
   |[a,b],_,h2=>
    refine ⟨a,b,rfl,?_⟩
    simp only [okA,psN,rowsL,List.getD_cons_zero,List.getD_cons_succ,List.zip_cons_cons,List.zip_nil_right,List.zip_nil_left,List.all_cons,List.all_nil,Bool.and_true,Bool.and_eq_true] at h2
    exact ⟨vld_bool.1 h2.1,vld_bool.1 h2.2⟩
  ·rintro ⟨a,b,rfl,h0,h1⟩
   refine ⟨rfl,?_⟩
   simp only [okA,psN,rowsL,List.getD_cons_zero,List.getD_cons_succ,List.zip_cons_cons,List.zip_nil_right,List.zip_nil_left,List.all_cons,List.all_nil,Bool.and_true,Bool.and_eq_true]
   exact ⟨vld_bool.2 h0,vld_bool.2 h1⟩
theorem okL_18 {xs:List Int}:okL 18 xs ↔ ∃ a b,xs=[a,b]∧(a=0∨a=1)∧(b=0∨b=1):=by
  constructor
  ·rintro ⟨h1,h2⟩
   match xs,h1,h2 with
   |[a,b],_,h2=>
    refine ⟨a,b,rfl,?_⟩
    simp only [okA,psN,rowsL,List.getD_cons_zero,List.getD_cons_succ,List.zip_cons_cons,List.zip_nil_right,List.zip_nil_left,List.all_cons,List.all_nil,Bool.and_true,Bool.and_eq_true] at h2
    exact ⟨vld_bool.1 h2.1,vld_bool.1 h2.2⟩
  ·rintro ⟨a,b,rfl,h0,h1⟩
   refine ⟨rfl,?_⟩
   simp only [okA,psN,rowsL,List.getD_cons_zero,List.getD_cons_succ,List.zip_cons_cons,List.zip_nil_right,List.zip_nil_left,List.all_cons,List.all_nil,Bool.and_true,Bool.and_eq_true]
   exact ⟨vld_bool.2 h0,vld_bool.2 h1⟩
theorem okL_19 {xs:List Int}:okL 19 xs ↔ ∃ a,xs=[a]∧(a=0∨a=1):=by
  constructor
  ·rintro ⟨h1,h2⟩
   match xs,h1,h2 with
   |[a],_,h2=>
    refine ⟨a,rfl,?_⟩
    simp only [okA,psN,rowsL,List.getD_cons_zero,List.getD_cons_succ,List.zip_cons_cons,List.zip_nil_right,List.zip_nil_left,List.all_cons,List.all_nil,Bool.and_true,Bool.and_eq_true] at h2
    exact vld_bool.1 h2
  ·rintro ⟨a,rfl,h0⟩
   refine ⟨rfl,?_⟩
   simp only [okA,psN,rowsL,List.getD_cons_zero,List.getD_cons_succ,List.zip_cons_cons,List.zip_nil_right,List.zip_nil_left,List.all_cons,List.all_nil,Bool.and_true,Bool.and_eq_true]
   exact vld_bool.2 h0
theorem okL_20 {xs:List Int}:okL 20 xs ↔ ∃ a b c,xs=[a,b,c]∧(a=0∨a=1)∧el b∧el c:=by
  constructor
  ·rintro ⟨h1,h2⟩
   match xs,h1,h2 with
   |[a,b,c],_,h2=>
    refine ⟨a,b,c,rfl,?_⟩
    simp only [okA,psN,rowsL,List.getD_cons_zero,List.getD_cons_succ,List.zip_cons_cons,List.zip_nil_right,List.zip_nil_left,List.all_cons,List.all_nil,Bool.and_true,Bool.and_eq_true] at h2
    exact ⟨vld_bool.1 h2.1,vld_int.1 h2.2.1,vld_int.1 h2.2.2⟩
  ·rintro ⟨a,b,c,rfl,h0,h1,h2⟩
   refine ⟨rfl,?_⟩
   simp only [okA,psN,rowsL,List.getD_cons_zero,List.getD_cons_succ,List.zip_cons_cons,List.zip_nil_right,List.zip_nil_left,List.all_cons,List.all_nil,Bool.and_true,Bool.and_eq_true]
   exact ⟨vld_bool.2 h0,vld_int.2 h1,vld_int.2 h2⟩
theorem okL_21 {xs:List Int}:okL 21 xs ↔ ∃ a,xs=[a]∧(a=0∨a=1):=by
  constructor
  ·rintro ⟨h1,h2⟩
   match xs,h1,h2 with
   |[a],_,h2=>
    refine ⟨a,rfl,?_⟩
    simp only [okA,psN,rowsL,List.getD_cons_zero,List.getD_cons_succ,List.zip_cons_cons,List.zip_nil_right,List.zip_nil_left,List.all_cons,List.all_nil,Bool.and_true,Bool.and_eq_true] at h2
    exact vld_bool.1 h2
  ·rintro ⟨a,rfl,h0⟩
   refine ⟨rfl,?_⟩
   simp only [okA,psN,rowsL,List.getD_cons_zero,List.getD_cons_succ,List.zip_cons_cons,List.zip_nil_right,List.zip_nil_left,List.all_cons,List.all_nil,Bool.and_true,Bool.and_eq_true]
   exact vld_bool.2 h0
noncomputable def E4:Env:=envOf (P:=Try.prog) zer (fun _=>false) (fun _=>false) [con178] []
theorem E4_ok:EnvOk Try.prog E4:=envOk zer_ok
theorem compare_10 {a b:Int}:PC Try.prog 177 [.lit (.string (⟨#[108,116]⟩:ByteArray)),.lit (.int .i64 a),.lit (.int .i64 b)] (.lit (.int .i64 (tru (decide (a<b))))):=by
  refine pcO E4_ok (fun _=>[0,1,2,6,7,8,14,20,26,32]) Try.func177 (h:=fun KF=>?_)
  unfold E4
  repeat' (first
   |(with_reducible first|refine nx ?_|refine t_seq fun K=>?_|refine t_br (fun hc=>?_) fun hc=>?_|refine t_bx ?_|apply And.intro|intro vr)
   |((with_reducible first|refine ny ?_|refine t_dwh (h:=fun K KL=>?_));intros;simp only [go_sem,geff,con178_f,con178_c]))
  refine end_ret rfl ?_
  simp only [fin,go_sem]
  exact LeA.refl _
theorem compare_11 {a b:Int}:PC Try.prog 177 [.lit (.string (⟨#[108,101]⟩:ByteArray)),.lit (.int .i64 a),.lit (.int .i64 b)] (.lit (.int .i64 (tru (decide (a≤b))))):=by
  refine pcO E4_ok (fun _=>[0,1,2,6,7,8,14,20,26,32]) Try.func177 (h:=fun KF=>?_)
  unfold E4
  repeat' (first
   |(with_reducible first|refine nx ?_|refine t_seq fun K=>?_|refine t_br (fun hc=>?_) fun hc=>?_|refine t_bx ?_|apply And.intro|intro vr)
   |((with_reducible first|refine ny ?_|refine t_dwh (h:=fun K KL=>?_));intros;simp only [go_sem,geff,con178_f,con178_c]))
  refine end_ret rfl ?_
  simp only [fin,go_sem]
  exact LeA.refl _
theorem compare_12 {a b:Int}:PC Try.prog 177 [.lit (.string (⟨#[103,116]⟩:ByteArray)),.lit (.int .i64 a),.lit (.int .i64 b)] (.lit (.int .i64 (tru (decide (a>b))))):=by
  refine pcO E4_ok (fun _=>[0,1,2,6,7,8,14,20,26,32]) Try.func177 (h:=fun KF=>?_)
  unfold E4
  repeat' (first
   |(with_reducible first|refine nx ?_|refine t_seq fun K=>?_|refine t_br (fun hc=>?_) fun hc=>?_|refine t_bx ?_|apply And.intro|intro vr)
   |((with_reducible first|refine ny ?_|refine t_dwh (h:=fun K KL=>?_));intros;simp only [go_sem,geff,con178_f,con178_c]))
  refine end_ret rfl ?_
  simp only [fin,go_sem]
  exact LeA.refl _
theorem compare_13 {a b:Int}:PC Try.prog 177 [.lit (.string (⟨#[103,101]⟩:ByteArray)),.lit (.int .i64 a),.lit (.int .i64 b)] (.lit (.int .i64 (tru (decide (a≥b))))):=by
  refine pcO E4_ok (fun _=>[0,1,2,6,7,8,14,20,26,32]) Try.func177 (h:=fun KF=>?_)
  unfold E4
  repeat' (first
   |(with_reducible first|refine nx ?_|refine t_seq fun K=>?_|refine t_br (fun hc=>?_) fun hc=>?_|refine t_bx ?_|apply And.intro|intro vr)
   |((with_reducible first|refine ny ?_|refine t_dwh (h:=fun K KL=>?_));intros;simp only [go_sem,geff,con178_f,con178_c]))
  refine end_ret rfl ?_
  simp only [fin,go_sem]
  exact LeA.refl _
theorem compare_14 {a b:Int}:PC Try.prog 177 [.lit (.string (⟨#[101,113]⟩:ByteArray)),.lit (.int .i64 a),.lit (.int .i64 b)] (.lit (.int .i64 (tru (a==b)))):=by
  refine pcO E4_ok (fun _=>[0,1,2,6,7,8,14,20,26,32]) Try.func177 (h:=fun KF=>?_)
  unfold E4
  repeat' (first
   |(with_reducible first|refine nx ?_|refine t_seq fun K=>?_|refine t_br (fun hc=>?_) fun hc=>?_|refine t_bx ?_|apply And.intro|intro vr)
   |((with_reducible first|refine ny ?_|refine t_dwh (h:=fun K KL=>?_));intros;simp only [go_sem,geff,con178_f,con178_c]))
  refine end_ret rfl ?_
  simp only [fin,go_sem]
  exact LeA.refl _
theorem compare_15 {a b:Int}:PC Try.prog 177 [.lit (.string (⟨#[110,101]⟩:ByteArray)),.lit (.int .i64 a),.lit (.int .i64 b)] (.lit (.int .i64 (tru (a !=b)))):=by
  refine pcO E4_ok (fun _=>[0,1,2,6,7,8,14,20,26,32]) Try.func177 (h:=fun KF=>?_)
  unfold E4
  repeat' (first
   |(with_reducible first|refine nx ?_|refine t_seq fun K=>?_|refine t_br (fun hc=>?_) fun hc=>?_|refine t_bx ?_|apply And.intro|intro vr)
   |((with_reducible first|refine ny ?_|refine t_dwh (h:=fun K KL=>?_));intros;simp only [go_sem,geff,con178_f,con178_c]))
  refine end_ret rfl ?_
  simp only [fin,go_sem]
  exact LeA.refl _
noncomputable def con177:PCon Try.prog where
  f:=177
  c:=fun
   |[.lit (.string op),.lit (.int .i64 a),.lit (.int .i64 b)]=>match rowIx op with
    |some 10=>some (True,.lit (.int .i64 (tru (decide (a<b)))))
    |some 11=>some (True,.lit (.int .i64 (tru (decide (a≤b)))))
    |some 12=>some (True,.lit (.int .i64 (tru (decide (a>b)))))
    |some 13=>some (True,.lit (.int .i64 (tru (decide (a≥b)))))
    |some 14=>some (True,.lit (.int .i64 (tru (a==b))))
    |some 15=>some (True,.lit (.int .i64 (tru (a !=b))))
    |_=>none
   |_=>none
  ok:=by
   intro args p r hc hp
   split at hc
   ·rename_i op a b
    rcases ix_cases op with ⟨i,hi,he,hx,_⟩|⟨hx,_⟩
    ·rw [hx] at hc
     split at hc
     ·rename_i e;cases e;cases hc;subst he;exact compare_10
     ·rename_i e;cases e;cases hc;subst he;exact compare_11
     ·rename_i e;cases e;cases hc;subst he;exact compare_12
     ·rename_i e;cases e;cases hc;subst he;exact compare_13
     ·rename_i e;cases e;cases hc;subst he;exact compare_14
     ·rename_i e;cases e;cases hc;subst he;exact compare_15
     ·cases hc
    ·rw [hx] at hc;cases hc
   ·cases hc
  fk:=fk177
theorem con177_f:con177.f=177:=rfl
theorem con177_10 {a b:Int}:con177.c [.lit (.string (⟨#[108,116]⟩:ByteArray)),.lit (.int .i64 a),.lit (.int .i64 b)]=some (True,.lit (.int .i64 (tru (decide (a<b))))):=rfl
theorem con177_11 {a b:Int}:con177.c [.lit (.string (⟨#[108,101]⟩:ByteArray)),.lit (.int .i64 a),.lit (.int .i64 b)]=some (True,.lit (.int .i64 (tru (decide (a≤b))))):=rfl
theorem con177_12 {a b:Int}:con177.c [.lit (.string (⟨#[103,116]⟩:ByteArray)),.lit (.int .i64 a),.lit (.int .i64 b)]=some (True,.lit (.int .i64 (tru (decide (a>b))))):=rfl
theorem con177_13 {a b:Int}:con177.c [.lit (.string (⟨#[103,101]⟩:ByteArray)),.lit (.int .i64 a),.lit (.int .i64 b)]=some (True,.lit (.int .i64 (tru (decide (a≥b))))):=rfl
theorem con177_14 {a b:Int}:con177.c [.lit (.string (⟨#[101,113]⟩:ByteArray)),.lit (.int .i64 a),.lit (.int .i64 b)]=some (True,.lit (.int .i64 (tru (a==b)))):=rfl
theorem con177_15 {a b:Int}:con177.c [.lit (.string (⟨#[110,101]⟩:ByteArray)),.lit (.int .i64 a),.lit (.int .i64 b)]=some (True,.lit (.int .i64 (tru (a !=b)))):=rfl
theorem flo_bd {a b:Int} (ha:el a): -2147483649≤flo a b∧flo a b≤2147483648:=by
  unfold flo
  split
  ·omega
  ·rename_i hb
   have:=tdiv_bd ha hb
   split<;>omega
theorem mul_bd {a b:Int} (ha:el a) (hb:el b): -4611686018427387904≤a*b∧a*b≤4611686018427387904:=by
  unfold el at*
  have h:(a*b).natAbs≤2147483648*2147483648:=by
    rw [Int.natAbs_mul]
    exact Nat.mul_le_mul (by omega) (by omega)
  omega
theorem bflo_bd {a b:Int} (ha:el a) (hb:el b) (h:b≠0): -4294967296≤b*flo a b∧b*flo a b≤4294967296:=by
  have:=flo_spec (a:=a) h
  unfold el at*
  omega
theorem max_el {a b:Int} (ha:el a):a≤maxI a b∧maxI a b≤max a b:=by
  unfold maxI
  split<;>omega
end Go.Proofs.Ytnlimcijgpaegaa.El
