import Derived.Test.YtnlimcijgpaegaaRows
import Derived.Test.YtnlimcijgpaegaaFwB

set_option linter.all false

namespace Go.Proofs.Ytnlimcijgpaegaa
open Go Go.Fw
noncomputable abbrev PG:=Try.prog
theorem g2:PG.underlying 2=some (.int .i64)∧byT PG 2=8∧aggT PG 2=some false∧structOk PG 2=false∧(zeroT PG 2).isSome=true∧zOk PG 2=true∧(PG.underlying 2).isSome=true:=by and_intros<;>kernel_rfl
theorem sz2:szT Try.prog 2=1:=by kernel_rfl
theorem u3:Try.prog.underlying 3=some (.int .i64):=by kernel_rfl
theorem sz3:szT Try.prog 3=1:=by kernel_rfl
theorem g3:byT PG 3=8∧aggT PG 3=some false∧structOk PG 3=false∧(zeroT PG 3).isSome=true∧zOk PG 3=true∧(PG.underlying 3).isSome=true:=by and_intros<;>kernel_rfl
theorem g4:PG.underlying 4=some .bool∧szT PG 4=1∧byT PG 4=1∧aggT PG 4=some false∧structOk PG 4=false∧(zeroT PG 4).isSome=true∧zOk PG 4=true∧(PG.underlying 4).isSome=true:=by and_intros<;>kernel_rfl
theorem u5:Try.prog.underlying 5=some (.int .u8):=by kernel_rfl
theorem g5:szT PG 5=1∧byT PG 5=1∧aggT PG 5=some false∧structOk PG 5=false∧(zeroT PG 5).isSome=true∧zOk PG 5=true∧(PG.underlying 5).isSome=true:=by and_intros<;>kernel_rfl
theorem g6:PG.underlying 6=some (.int .u8)∧szT PG 6=1∧byT PG 6=1∧aggT PG 6=some false∧structOk PG 6=false∧(zeroT PG 6).isSome=true∧zOk PG 6=true∧(PG.underlying 6).isSome=true:=by and_intros<;>kernel_rfl
theorem g7:szT PG 7=4∧byT PG 7=24∧aggT PG 7=some true∧structOk PG 7=true∧fieldT PG 7 0=some (2,0)∧fieldT PG 7 1=some (3,1)∧fieldT PG 7 2=some (4,2)∧fieldT PG 7 3=some (6,3)∧seqK PG 7=some [0,0,2,0]∧(zeroT PG 7).isSome=true∧zOk PG 7=true∧(PG.underlying 7).isSome=true:=by and_intros<;>kernel_rfl
theorem g8:szT PG 8=4∧byT PG 8=24∧aggT PG 8=some true∧structOk PG 8=true∧fieldT PG 8 0=some (2,0)∧fieldT PG 8 1=some (3,1)∧fieldT PG 8 2=some (4,2)∧fieldT PG 8 3=some (6,3)∧seqK PG 8=some [0,0,2,0]∧(zeroT PG 8).isSome=true∧zOk PG 8=true∧(PG.underlying 8).isSome=true:=by and_intros<;>kernel_rfl
theorem u9:Try.prog.underlying 9=some .string:=by kernel_rfl
theorem g9:szT PG 9=1∧byT PG 9=16∧aggT PG 9=some false∧structOk PG 9=false∧(zeroT PG 9).isSome=true∧zOk PG 9=true∧(PG.underlying 9).isSome=true:=by and_intros<;>kernel_rfl
theorem g10:PG.underlying 10=some .string∧szT PG 10=1∧byT PG 10=16∧aggT PG 10=some false∧structOk PG 10=false∧(zeroT PG 10).isSome=true∧zOk PG 10=true∧(PG.underlying 10).isSome=true:=by and_intros<;>kernel_rfl
theorem g11:PG.underlying 11=some .string∧szT PG 11=1∧byT PG 11=16∧aggT PG 11=some false∧structOk PG 11=false∧(zeroT PG 11).isSome=true∧zOk PG 11=true∧(PG.underlying 11).isSome=true:=by and_intros<;>kernel_rfl
theorem g12:PG.underlying 12=some (.int .u64)∧szT PG 12=1∧byT PG 12=8∧aggT PG 12=some false∧structOk PG 12=false∧(zeroT PG 12).isSome=true∧zOk PG 12=true∧(PG.underlying 12).isSome=true:=by and_intros<;>kernel_rfl
theorem g13:szT PG 13=2∧byT PG 13=24∧aggT PG 13=some true∧structOk PG 13=true∧fieldT PG 13 0=some (9,0)∧fieldT PG 13 1=some (12,1)∧(zeroT PG 13).isSome=true∧zOk PG 13=true∧(PG.underlying 13).isSome=true:=by and_intros<;>kernel_rfl
theorem g14:szT PG 14=2∧byT PG 14=24∧aggT PG 14=some true∧structOk PG 14=true∧fieldT PG 14 0=some (9,0)∧fieldT PG 14 1=some (12,1)∧(zeroT PG 14).isSome=true∧zOk PG 14=true∧(PG.underlying 14).isSome=true:=by and_intros<;>kernel_rfl
theorem g15:PG.underlying 15=some (.pointer 217)∧szT PG 15=1∧byT PG 15=8∧aggT PG 15=some false∧structOk PG 15=false∧(zeroT PG 15).isSome=true∧zOk PG 15=true∧(PG.underlying 15).isSome=true:=by and_intros<;>kernel_rfl
theorem g16:PG.underlying 16=some (.pointer 220)∧szT PG 16=1∧byT PG 16=8∧aggT PG 16=some false∧structOk PG 16=false∧(zeroT PG 16).isSome=true∧zOk PG 16=true∧(PG.underlying 16).isSome=true:=by and_intros<;>kernel_rfl
theorem g17:PG.underlying 17=some (.pointer 229)∧szT PG 17=1∧byT PG 17=8∧aggT PG 17=some false∧structOk PG 17=false∧(zeroT PG 17).isSome=true∧zOk PG 17=true∧(PG.underlying 17).isSome=true:=by and_intros<;>kernel_rfl
theorem g18:szT PG 18=1∧byT PG 18=8∧aggT PG 18=some true∧structOk PG 18=true∧fieldT PG 18 0=some (17,0)∧(zeroT PG 18).isSome=true∧zOk PG 18=true∧(PG.underlying 18).isSome=true:=by and_intros<;>kernel_rfl
theorem g19:szT PG 19=1∧byT PG 19=8∧aggT PG 19=some true∧structOk PG 19=true∧fieldT PG 19 0=some (17,0)∧(zeroT PG 19).isSome=true∧zOk PG 19=true∧(PG.underlying 19).isSome=true:=by and_intros<;>kernel_rfl
theorem g21:PG.underlying 21=some (.int .i32)∧szT PG 21=1∧byT PG 21=4∧aggT PG 21=some false∧structOk PG 21=false∧(zeroT PG 21).isSome=true∧zOk PG 21=true∧(PG.underlying 21).isSome=true:=by and_intros<;>kernel_rfl
theorem g22:PG.underlying 22=some (.slice 28)∧szT PG 22=1∧byT PG 22=24∧aggT PG 22=some false∧structOk PG 22=false∧(zeroT PG 22).isSome=true∧zOk PG 22=true∧(PG.underlying 22).isSome=true∧appT PG #[22,22]=some 28:=by and_intros<;>kernel_rfl
theorem g23:PG.underlying 23=some (.int .u16)∧szT PG 23=1∧byT PG 23=2∧aggT PG 23=some false∧structOk PG 23=false∧(zeroT PG 23).isSome=true∧zOk PG 23=true∧(PG.underlying 23).isSome=true:=by and_intros<;>kernel_rfl
theorem g24:PG.underlying 24=some (.array 3 23)∧szT PG 24=3∧byT PG 24=6∧aggT PG 24=some true∧structOk PG 24=false∧(zeroT PG 24).isSome=true∧zOk PG 24=true∧(PG.underlying 24).isSome=true:=by and_intros<;>kernel_rfl
theorem g26:PG.underlying 26=some (.slice 29)∧szT PG 26=1∧byT PG 26=24∧aggT PG 26=some false∧structOk PG 26=false∧(zeroT PG 26).isSome=true∧zOk PG 26=true∧(PG.underlying 26).isSome=true∧appT PG #[26,26]=some 29:=by and_intros<;>kernel_rfl
theorem g27:szT PG 27=2∧byT PG 27=16∧aggT PG 27=some true∧structOk PG 27=true∧fieldT PG 27 0=some (3,0)∧fieldT PG 27 1=some (3,1)∧seqK PG 27=some [0,0]∧(zeroT PG 27).isSome=true∧zOk PG 27=true∧(PG.underlying 27).isSome=true:=by and_intros<;>kernel_rfl
theorem g28:szT PG 28=2∧byT PG 28=16∧aggT PG 28=some true∧structOk PG 28=true∧fieldT PG 28 0=some (3,0)∧fieldT PG 28 1=some (3,1)∧seqK PG 28=some [0,0]∧(zeroT PG 28).isSome=true∧zOk PG 28=true∧(PG.underlying 28).isSome=true:=by and_intros<;>kernel_rfl
theorem g29:szT PG 29=2∧byT PG 29=16∧aggT PG 29=some true∧structOk PG 29=true∧fieldT PG 29 0=some (3,0)∧fieldT PG 29 1=some (3,1)∧seqK PG 29=some [0,0]∧(zeroT PG 29).isSome=true∧zOk PG 29=true∧(PG.underlying 29).isSome=true:=by and_intros<;>kernel_rfl
theorem u34:Try.prog.underlying 34=some (.slice 3):=by kernel_rfl
theorem g34:szT PG 34=1∧byT PG 34=24∧aggT PG 34=some false∧structOk PG 34=false∧(zeroT PG 34).isSome=true∧zOk PG 34=true∧(PG.underlying 34).isSome=true∧appT PG #[34,34]=some 3:=by and_intros<;>kernel_rfl
theorem g38:PG.underlying 38=some (.array 2 5)∧szT PG 38=2∧byT PG 38=2∧aggT PG 38=some true∧structOk PG 38=false∧(zeroT PG 38).isSome=true∧zOk PG 38=true∧(PG.underlying 38).isSome=true:=by and_intros<;>kernel_rfl
theorem g39:PG.underlying 39=some (.array 3 38)∧szT PG 39=6∧byT PG 39=6∧aggT PG 39=some true∧structOk PG 39=false∧(zeroT PG 39).isSome=true∧zOk PG 39=true∧(PG.underlying 39).isSome=true:=by and_intros<;>kernel_rfl
theorem u41:Try.prog.underlying 41=some (.slice 73):=by kernel_rfl
theorem g41:szT PG 41=1∧byT PG 41=24∧aggT PG 41=some false∧structOk PG 41=false∧(zeroT PG 41).isSome=true∧zOk PG 41=true∧(PG.underlying 41).isSome=true∧appT PG #[41,41]=some 73:=by and_intros<;>kernel_rfl
theorem u42:Try.prog.underlying 42=some (.slice 99):=by kernel_rfl
theorem g42:szT PG 42=1∧byT PG 42=24∧aggT PG 42=some false∧structOk PG 42=false∧(zeroT PG 42).isSome=true∧zOk PG 42=true∧(PG.underlying 42).isSome=true∧appT PG #[42,42]=some 99:=by and_intros<;>kernel_rfl
theorem u43:Try.prog.underlying 43=some (.slice 96):=by kernel_rfl
theorem g43:szT PG 43=1∧byT PG 43=24∧aggT PG 43=some false∧structOk PG 43=false∧(zeroT PG 43).isSome=true∧zOk PG 43=true∧(PG.underlying 43).isSome=true∧appT PG #[43,43]=some 96:=by and_intros<;>kernel_rfl
theorem g44:szT PG 44=6∧byT PG 44=112∧aggT PG 44=some true∧structOk PG 44=true∧fieldT PG 44 0=some (3,0)∧fieldT PG 44 1=some (3,1)∧fieldT PG 44 2=some (41,2)∧fieldT PG 44 3=some (42,3)∧fieldT PG 44 4=some (42,4)∧fieldT PG 44 5=some (43,5)∧(zeroT PG 44).isSome=true∧zOk PG 44=true∧(PG.underlying 44).isSome=true:=by and_intros<;>kernel_rfl
theorem g45:szT PG 45=6∧byT PG 45=112∧structOk PG 45=true∧fieldT PG 45 0=some (3,0)∧fieldT PG 45 1=some (3,1)∧fieldT PG 45 2=some (41,2)∧fieldT PG 45 3=some (42,3)∧fieldT PG 45 4=some (42,4)∧fieldT PG 45 5=some (43,5)∧(zeroT PG 45).isSome=true∧zOk PG 45=true∧(PG.underlying 45).isSome=true:=by and_intros<;>kernel_rfl
theorem ag45:aggT Try.prog 45=some true:=by kernel_rfl
theorem g47:PG.underlying 47=some (.int .i64)∧szT PG 47=1∧byT PG 47=8∧aggT PG 47=some false∧structOk PG 47=false∧(zeroT PG 47).isSome=true∧zOk PG 47=true∧(PG.underlying 47).isSome=true:=by and_intros<;>kernel_rfl
theorem g52:szT PG 52=4∧byT PG 52=32∧aggT PG 52=some true∧structOk PG 52=true∧fieldT PG 52 0=some (3,0)∧fieldT PG 52 1=some (3,1)∧fieldT PG 52 2=some (3,2)∧fieldT PG 52 3=some (3,3)∧seqK PG 52=some [0,0,0,0]∧(zeroT PG 52).isSome=true∧zOk PG 52=true∧(PG.underlying 52).isSome=true:=by and_intros<;>kernel_rfl
theorem g53:szT PG 53=4∧byT PG 53=32∧aggT PG 53=some true∧structOk PG 53=true∧fieldT PG 53 0=some (3,0)∧fieldT PG 53 1=some (3,1)∧fieldT PG 53 2=some (3,2)∧fieldT PG 53 3=some (3,3)∧seqK PG 53=some [0,0,0,0]∧(zeroT PG 53).isSome=true∧zOk PG 53=true∧(PG.underlying 53).isSome=true:=by and_intros<;>kernel_rfl
theorem g54:PG.underlying 54=some (.slice 22)∧szT PG 54=1∧byT PG 54=24∧aggT PG 54=some false∧structOk PG 54=false∧(zeroT PG 54).isSome=true∧zOk PG 54=true∧(PG.underlying 54).isSome=true∧appT PG #[54,54]=some 22:=by and_intros<;>kernel_rfl
theorem g55:szT PG 55=12∧byT PG 55=160∧aggT PG 55=some true∧structOk PG 55=true∧fieldT PG 55 0=some (34,0)∧fieldT PG 55 1=some (34,1)∧fieldT PG 55 2=some (53,2)∧fieldT PG 55 3=some (34,6)∧fieldT PG 55 4=some (3,7)∧fieldT PG 55 5=some (4,8)∧fieldT PG 55 6=some (54,9)∧fieldT PG 55 7=some (4,10)∧fieldT PG 55 8=some (3,11)∧(zeroT PG 55).isSome=true∧zOk PG 55=true∧(PG.underlying 55).isSome=true:=by and_intros<;>kernel_rfl
theorem g56:szT PG 56=12∧byT PG 56=160∧aggT PG 56=some true∧structOk PG 56=true∧fieldT PG 56 0=some (34,0)∧fieldT PG 56 1=some (34,1)∧fieldT PG 56 2=some (53,2)∧fieldT PG 56 3=some (34,6)∧fieldT PG 56 4=some (3,7)∧fieldT PG 56 5=some (4,8)∧fieldT PG 56 6=some (54,9)∧fieldT PG 56 7=some (4,10)∧fieldT PG 56 8=some (3,11)∧(zeroT PG 56).isSome=true∧zOk PG 56=true∧(PG.underlying 56).isSome=true:=by and_intros<;>kernel_rfl
theorem g59:PG.underlying 59=some (.slice 26)∧szT PG 59=1∧byT PG 59=24∧aggT PG 59=some false∧structOk PG 59=false∧(zeroT PG 59).isSome=true∧zOk PG 59=true∧(PG.underlying 59).isSome=true∧appT PG #[59,59]=some 26:=by and_intros<;>kernel_rfl
theorem g64:PG.underlying 64=some (.slice 71)∧szT PG 64=1∧byT PG 64=24∧aggT PG 64=some false∧structOk PG 64=false∧(zeroT PG 64).isSome=true∧zOk PG 64=true∧(PG.underlying 64).isSome=true∧appT PG #[64,64]=some 71:=by and_intros<;>kernel_rfl
theorem g66:szT PG 66=6∧byT PG 66=80∧aggT PG 66=some true∧structOk PG 66=true∧fieldT PG 66 0=some (43,0)∧fieldT PG 66 1=some (53,1)∧fieldT PG 66 2=some (34,5)∧(zeroT PG 66).isSome=true∧zOk PG 66=true∧(PG.underlying 66).isSome=true:=by and_intros<;>kernel_rfl
theorem g67:szT PG 67=6∧byT PG 67=80∧aggT PG 67=some true∧structOk PG 67=true∧fieldT PG 67 0=some (43,0)∧fieldT PG 67 1=some (53,1)∧fieldT PG 67 2=some (34,5)∧(zeroT PG 67).isSome=true∧zOk PG 67=true∧(PG.underlying 67).isSome=true:=by and_intros<;>kernel_rfl
theorem g71:PG.underlying 71=some (.int .i16)∧szT PG 71=1∧byT PG 71=2∧aggT PG 71=some false∧structOk PG 71=false∧(zeroT PG 71).isSome=true∧zOk PG 71=true∧(PG.underlying 71).isSome=true:=by and_intros<;>kernel_rfl
theorem g72:szT PG 72=6∧byT PG 72=56∧aggT PG 72=some true∧structOk PG 72=true∧fieldT PG 72 0=some (3,0)∧fieldT PG 72 1=some (9,1)∧fieldT PG 72 2=some (3,2)∧fieldT PG 72 3=some (3,3)∧fieldT PG 72 4=some (3,4)∧fieldT PG 72 5=some (3,5)∧seqK PG 72=some [0,1,0,0,0,0]∧(zeroT PG 72).isSome=true∧zOk PG 72=true∧(PG.underlying 72).isSome=true:=by and_intros<;>kernel_rfl
theorem sz73:szT Try.prog 73=6:=by kernel_rfl
theorem g73:byT PG 73=56∧structOk PG 73=true∧fieldT PG 73 0=some (3,0)∧fieldT PG 73 1=some (9,1)∧fieldT PG 73 2=some (3,2)∧fieldT PG 73 3=some (3,3)∧fieldT PG 73 4=some (3,4)∧fieldT PG 73 5=some (3,5)∧seqK PG 73=some [0,1,0,0,0,0]∧(zeroT PG 73).isSome=true∧zOk PG 73=true∧(PG.underlying 73).isSome=true:=by and_intros<;>kernel_rfl
theorem ag73:aggT Try.prog 73=some true:=by kernel_rfl
theorem g75:szT PG 75=6∧byT PG 75=80∧aggT PG 75=some true∧structOk PG 75=true∧fieldT PG 75 0=some (43,0)∧fieldT PG 75 1=some (53,1)∧fieldT PG 75 2=some (34,5)∧(zeroT PG 75).isSome=true∧zOk PG 75=true∧(PG.underlying 75).isSome=true:=by and_intros<;>kernel_rfl
theorem g81:szT PG 81=1∧byT PG 81=8∧aggT PG 81=some false∧structOk PG 81=false∧(zeroT PG 81).isSome=true∧zOk PG 81=true∧(PG.underlying 81).isSome=true:=by and_intros<;>kernel_rfl
theorem g84:PG.underlying 84=some (.slice 9)∧szT PG 84=1∧byT PG 84=24∧aggT PG 84=some false∧structOk PG 84=false∧(zeroT PG 84).isSome=true∧zOk PG 84=true∧(PG.underlying 84).isSome=true∧appT PG #[84,84]=some 9:=by and_intros<;>kernel_rfl
theorem g95:szT PG 95=3∧byT PG 95=64∧aggT PG 95=some true∧structOk PG 95=true∧fieldT PG 95 0=some (9,0)∧fieldT PG 95 1=some (34,1)∧fieldT PG 95 2=some (34,2)∧(zeroT PG 95).isSome=true∧zOk PG 95=true∧(PG.underlying 95).isSome=true:=by and_intros<;>kernel_rfl
theorem sz96:szT Try.prog 96=3:=by kernel_rfl
theorem g96:byT PG 96=64∧structOk PG 96=true∧fieldT PG 96 0=some (9,0)∧fieldT PG 96 1=some (34,1)∧fieldT PG 96 2=some (34,2)∧(zeroT PG 96).isSome=true∧zOk PG 96=true∧(PG.underlying 96).isSome=true:=by and_intros<;>kernel_rfl
theorem ag96:aggT Try.prog 96=some true:=by kernel_rfl
theorem g98:szT PG 98=2∧byT PG 98=16∧aggT PG 98=some true∧structOk PG 98=true∧fieldT PG 98 0=some (3,0)∧fieldT PG 98 1=some (3,1)∧seqK PG 98=some [0,0]∧(zeroT PG 98).isSome=true∧zOk PG 98=true∧(PG.underlying 98).isSome=true:=by and_intros<;>kernel_rfl
theorem sz99:szT Try.prog 99=2:=by kernel_rfl
theorem g99:byT PG 99=16∧structOk PG 99=true∧fieldT PG 99 0=some (3,0)∧fieldT PG 99 1=some (3,1)∧seqK PG 99=some [0,0]∧(zeroT PG 99).isSome=true∧zOk PG 99=true∧(PG.underlying 99).isSome=true:=by and_intros<;>kernel_rfl
theorem ag99:aggT Try.prog 99=some true:=by kernel_rfl
theorem g103:PG.underlying 103=some (.pointer 106)∧szT PG 103=1∧byT PG 103=8∧aggT PG 103=some false∧structOk PG 103=false∧(zeroT PG 103).isSome=true∧zOk PG 103=true∧(PG.underlying 103).isSome=true:=by and_intros<;>kernel_rfl
theorem g104:szT PG 104=1∧byT PG 104=8∧aggT PG 104=some false∧structOk PG 104=false∧(zeroT PG 104).isSome=true∧zOk PG 104=true∧(PG.underlying 104).isSome=true:=by and_intros<;>kernel_rfl
theorem g105:szT PG 105=9∧byT PG 105=168∧aggT PG 105=some true∧structOk PG 105=true∧fieldT PG 105 0=some (45,0)∧fieldT PG 105 1=some (34,6)∧fieldT PG 105 2=some (59,7)∧fieldT PG 105 3=some (104,8)∧(zeroT PG 105).isSome=true∧zOk PG 105=true∧(PG.underlying 105).isSome=true:=by and_intros<;>kernel_rfl
theorem g106:szT PG 106=9∧byT PG 106=168∧aggT PG 106=some true∧structOk PG 106=true∧fieldT PG 106 0=some (45,0)∧fieldT PG 106 1=some (34,6)∧fieldT PG 106 2=some (59,7)∧fieldT PG 106 3=some (104,8)∧(zeroT PG 106).isSome=true∧zOk PG 106=true∧(PG.underlying 106).isSome=true:=by and_intros<;>kernel_rfl
theorem g115:PG.underlying 115=some (.pointer 120)∧szT PG 115=1∧byT PG 115=8∧aggT PG 115=some false∧structOk PG 115=false∧(zeroT PG 115).isSome=true∧zOk PG 115=true∧(PG.underlying 115).isSome=true:=by and_intros<;>kernel_rfl
theorem g119:szT PG 119=17∧byT PG 119=264∧aggT PG 119=some true∧structOk PG 119=true∧fieldT PG 119 0=some (45,0)∧fieldT PG 119 1=some (34,6)∧fieldT PG 119 2=some (34,7)∧fieldT PG 119 3=some (34,8)∧fieldT PG 119 4=some (53,9)∧fieldT PG 119 5=some (34,13)∧fieldT PG 119 6=some (3,14)∧fieldT PG 119 7=some (3,15)∧fieldT PG 119 8=some (47,16)∧(zeroT PG 119).isSome=true∧zOk PG 119=true∧(PG.underlying 119).isSome=true:=by and_intros<;>kernel_rfl
theorem g120:szT PG 120=17∧byT PG 120=264∧aggT PG 120=some true∧structOk PG 120=true∧fieldT PG 120 0=some (45,0)∧fieldT PG 120 1=some (34,6)∧fieldT PG 120 2=some (34,7)∧fieldT PG 120 3=some (34,8)∧fieldT PG 120 4=some (53,9)∧fieldT PG 120 5=some (34,13)∧fieldT PG 120 6=some (3,14)∧fieldT PG 120 7=some (3,15)∧fieldT PG 120 8=some (47,16)∧(zeroT PG 120).isSome=true∧zOk PG 120=true∧(PG.underlying 120).isSome=true:=by and_intros<;>kernel_rfl
theorem g150:PG.underlying 150=some (.int .u64)∧szT PG 150=1∧byT PG 150=8∧aggT PG 150=some false∧structOk PG 150=false∧(zeroT PG 150).isSome=true∧zOk PG 150=true∧(PG.underlying 150).isSome=true:=by and_intros<;>kernel_rfl
theorem g152:szT PG 152=3∧byT PG 152=56∧aggT PG 152=some true∧structOk PG 152=true∧fieldT PG 152 0=some (9,0)∧fieldT PG 152 1=some (84,1)∧fieldT PG 152 2=some (9,2)∧(zeroT PG 152).isSome=true∧zOk PG 152=true∧(PG.underlying 152).isSome=true:=by and_intros<;>kernel_rfl
theorem g153:szT PG 153=3∧byT PG 153=56∧aggT PG 153=some true∧structOk PG 153=true∧fieldT PG 153 0=some (9,0)∧fieldT PG 153 1=some (84,1)∧fieldT PG 153 2=some (9,2)∧(zeroT PG 153).isSome=true∧zOk PG 153=true∧(PG.underlying 153).isSome=true:=by and_intros<;>kernel_rfl
theorem g154:PG.underlying 154=some (.array 22 153)∧szT PG 154=66∧byT PG 154=1232∧aggT PG 154=some true∧structOk PG 154=false∧(zeroT PG 154).isSome=true∧zOk PG 154=true∧(PG.underlying 154).isSome=true:=by and_intros<;>kernel_rfl
theorem g160:PG.underlying 160=some (.array 4 3)∧szT PG 160=4∧byT PG 160=32∧aggT PG 160=some true∧structOk PG 160=false∧(zeroT PG 160).isSome=true∧zOk PG 160=true∧(PG.underlying 160).isSome=true:=by and_intros<;>kernel_rfl
theorem g163:szT PG 163=4∧byT PG 163=72∧aggT PG 163=some true∧structOk PG 163=true∧fieldT PG 163 0=some (9,0)∧fieldT PG 163 1=some (34,1)∧fieldT PG 163 2=some (4,2)∧fieldT PG 163 3=some (34,3)∧(zeroT PG 163).isSome=true∧zOk PG 163=true∧(PG.underlying 163).isSome=true:=by and_intros<;>kernel_rfl
theorem g164:szT PG 164=4∧byT PG 164=72∧aggT PG 164=some true∧structOk PG 164=true∧fieldT PG 164 0=some (9,0)∧fieldT PG 164 1=some (34,1)∧fieldT PG 164 2=some (4,2)∧fieldT PG 164 3=some (34,3)∧(zeroT PG 164).isSome=true∧zOk PG 164=true∧(PG.underlying 164).isSome=true:=by and_intros<;>kernel_rfl
theorem g168:PG.underlying 168=some (.slice 42)∧szT PG 168=1∧byT PG 168=24∧aggT PG 168=some false∧structOk PG 168=false∧(zeroT PG 168).isSome=true∧zOk PG 168=true∧(PG.underlying 168).isSome=true∧appT PG #[168,168]=some 42:=by and_intros<;>kernel_rfl
theorem g175:PG.underlying 175=some (.array 16 164)∧szT PG 175=64∧byT PG 175=1152∧aggT PG 175=some true∧structOk PG 175=false∧(zeroT PG 175).isSome=true∧zOk PG 175=true∧(PG.underlying 175).isSome=true:=by and_intros<;>kernel_rfl
theorem g180:PG.underlying 180=some (.array 16 133)∧szT PG 180=16∧byT PG 180=128∧aggT PG 180=some true∧structOk PG 180=false∧(zeroT PG 180).isSome=true∧zOk PG 180=true∧(PG.underlying 180).isSome=true:=by and_intros<;>kernel_rfl
theorem g185:PG.underlying 185=some (.int .i64)∧szT PG 185=1∧byT PG 185=8∧aggT PG 185=some false∧structOk PG 185=false∧(zeroT PG 185).isSome=true∧zOk PG 185=true∧(PG.underlying 185).isSome=true:=by and_intros<;>kernel_rfl
theorem g193:PG.underlying 193=some (.int .u32)∧szT PG 193=1∧byT PG 193=4∧aggT PG 193=some false∧structOk PG 193=false∧(zeroT PG 193).isSome=true∧zOk PG 193=true∧(PG.underlying 193).isSome=true:=by and_intros<;>kernel_rfl
theorem g195:PG.underlying 195=some (.int .u64)∧szT PG 195=1∧byT PG 195=8∧aggT PG 195=some false∧structOk PG 195=false∧(zeroT PG 195).isSome=true∧zOk PG 195=true∧(PG.underlying 195).isSome=true:=by and_intros<;>kernel_rfl
theorem g201:PG.underlying 201=some (.int .u64)∧szT PG 201=1∧byT PG 201=8∧aggT PG 201=some false∧structOk PG 201=false∧(zeroT PG 201).isSome=true∧zOk PG 201=true∧(PG.underlying 201).isSome=true:=by and_intros<;>kernel_rfl
theorem g205:PG.underlying 205=some (.pointer 3)∧szT PG 205=1∧byT PG 205=8∧aggT PG 205=some false∧structOk PG 205=false∧(zeroT PG 205).isSome=true∧zOk PG 205=true∧(PG.underlying 205).isSome=true:=by and_intros<;>kernel_rfl
theorem g210:PG.underlying 210=some (.pointer 201)∧szT PG 210=1∧byT PG 210=8∧aggT PG 210=some false∧structOk PG 210=false∧(zeroT PG 210).isSome=true∧zOk PG 210=true∧(PG.underlying 210).isSome=true:=by and_intros<;>kernel_rfl
theorem g216:szT PG 216=4∧byT PG 216=40∧aggT PG 216=some true∧structOk PG 216=true∧fieldT PG 216 0=some (17,0)∧fieldT PG 216 1=some (17,1)∧fieldT PG 216 2=some (17,2)∧fieldT PG 216 3=some (9,3)∧(zeroT PG 216).isSome=true∧zOk PG 216=true∧(PG.underlying 216).isSome=true:=by and_intros<;>kernel_rfl
theorem g217:szT PG 217=4∧byT PG 217=40∧aggT PG 217=some true∧structOk PG 217=true∧fieldT PG 217 0=some (17,0)∧fieldT PG 217 1=some (17,1)∧fieldT PG 217 2=some (17,2)∧fieldT PG 217 3=some (9,3)∧(zeroT PG 217).isSome=true∧zOk PG 217=true∧(PG.underlying 217).isSome=true:=by and_intros<;>kernel_rfl
theorem g218:PG.underlying 218=some (.array 0 16)∧szT PG 218=0∧byT PG 218=0∧aggT PG 218=some true∧structOk PG 218=false∧(zeroT PG 218).isSome=true∧zOk PG 218=true∧(PG.underlying 218).isSome=true:=by and_intros<;>kernel_rfl
theorem g219:szT PG 219=0∧byT PG 219=0∧aggT PG 219=some true∧structOk PG 219=true∧fieldT PG 219 0=some (218,0)∧(zeroT PG 219).isSome=true∧zOk PG 219=true∧(PG.underlying 219).isSome=true:=by and_intros<;>kernel_rfl
theorem g220:szT PG 220=0∧byT PG 220=0∧aggT PG 220=some true∧structOk PG 220=true∧fieldT PG 220 0=some (218,0)∧(zeroT PG 220).isSome=true∧zOk PG 220=true∧(PG.underlying 220).isSome=true:=by and_intros<;>kernel_rfl
theorem g222:PG.underlying 222=some (.int .u8)∧szT PG 222=1∧byT PG 222=1∧aggT PG 222=some false∧structOk PG 222=false∧(zeroT PG 222).isSome=true∧zOk PG 222=true∧(PG.underlying 222).isSome=true:=by and_intros<;>kernel_rfl
theorem g223:PG.underlying 223=some (.int .u8)∧szT PG 223=1∧byT PG 223=1∧aggT PG 223=some false∧structOk PG 223=false∧(zeroT PG 223).isSome=true∧zOk PG 223=true∧(PG.underlying 223).isSome=true:=by and_intros<;>kernel_rfl
theorem g225:PG.underlying 225=some (.pointer 5)∧szT PG 225=1∧byT PG 225=8∧aggT PG 225=some false∧structOk PG 225=false∧(zeroT PG 225).isSome=true∧zOk PG 225=true∧(PG.underlying 225).isSome=true:=by and_intros<;>kernel_rfl
theorem g226:PG.underlying 226=some (.int .i32)∧szT PG 226=1∧byT PG 226=4∧aggT PG 226=some false∧structOk PG 226=false∧(zeroT PG 226).isSome=true∧zOk PG 226=true∧(PG.underlying 226).isSome=true:=by and_intros<;>kernel_rfl
theorem g227:PG.underlying 227=some (.int .i32)∧szT PG 227=1∧byT PG 227=4∧aggT PG 227=some false∧structOk PG 227=false∧(zeroT PG 227).isSome=true∧zOk PG 227=true∧(PG.underlying 227).isSome=true:=by and_intros<;>kernel_rfl
theorem g228:szT PG 228=11∧byT PG 228=48∧aggT PG 228=some true∧structOk PG 228=true∧fieldT PG 228 0=some (12,0)∧fieldT PG 228 1=some (12,1)∧fieldT PG 228 2=some (193,2)∧fieldT PG 228 3=some (222,3)∧fieldT PG 228 4=some (5,4)∧fieldT PG 228 5=some (5,5)∧fieldT PG 228 6=some (223,6)∧fieldT PG 228 7=some (224,7)∧fieldT PG 228 8=some (225,8)∧fieldT PG 228 9=some (226,9)∧fieldT PG 228 10=some (227,10)∧(zeroT PG 228).isSome=true∧zOk PG 228=true∧(PG.underlying 228).isSome=true:=by and_intros<;>kernel_rfl
theorem g229:szT PG 229=11∧byT PG 229=48∧aggT PG 229=some true∧structOk PG 229=true∧fieldT PG 229 0=some (12,0)∧fieldT PG 229 1=some (12,1)∧fieldT PG 229 2=some (193,2)∧fieldT PG 229 3=some (222,3)∧fieldT PG 229 4=some (5,4)∧fieldT PG 229 5=some (5,5)∧fieldT PG 229 6=some (223,6)∧fieldT PG 229 7=some (224,7)∧fieldT PG 229 8=some (225,8)∧fieldT PG 229 9=some (226,9)∧fieldT PG 229 10=some (227,10)∧(zeroT PG 229).isSome=true∧zOk PG 229=true∧(PG.underlying 229).isSome=true:=by and_intros<;>kernel_rfl
theorem g20:isIfT PG 20=true:=by kernel_rfl
def zerL:List (Nat×AV):=[(2,.lit (.int .i64 0)),
  (3,.lit (.int .i64 0)),
  (4,.lit (.bool false)),
  (5,.lit (.int .u8 0)),
  (6,.lit (.int .u8 0)),
  (7,.agg [.lit (.int .i64 0),.lit (.int .i64 0),.lit (.bool false),.lit (.int .u8 0)]),
  (8,.agg [.lit (.int .i64 0),.lit (.int .i64 0),.lit (.bool false),.lit (.int .u8 0)]),
  (9,.lit (.string ByteArray.empty)),
  (10,.lit (.string ByteArray.empty)),
  (11,.lit (.string ByteArray.empty)),
  (12,.lit (.int .u64 0)),
  (13,.agg [.lit (.string ByteArray.empty),.lit (.int .u64 0)]),
  (14,.agg [.lit (.string ByteArray.empty),.lit (.int .u64 0)]),
  (15,.lit (.pointer none)),
  (16,.lit (.pointer none)),
  (17,.lit (.pointer none)),
  (18,.agg [.lit (.pointer none)]),
  (19,.agg [.lit (.pointer none)]),
  (21,.lit (.int .i32 0)),
  (22,.sl true 2 []),
  (23,.lit (.int .u16 0)),
  (24,.agg [.lit (.int .u16 0),.lit (.int .u16 0),.lit (.int .u16 0)]),
  (26,.sl true 2 []),
  (27,.agg [.lit (.int .i64 0),.lit (.int .i64 0)]),
  (28,.agg [.lit (.int .i64 0),.lit (.int .i64 0)]),
  (29,.agg [.lit (.int .i64 0),.lit (.int .i64 0)]),
  (34,.sl true 1 []),
  (38,.agg [.lit (.int .u8 0),.lit (.int .u8 0)]),
  (39,.agg [.lit (.int .u8 0),.lit (.int .u8 0),.lit (.int .u8 0),.lit (.int .u8 0),.lit (.int .u8 0),.lit (.int .u8 0)]),
  (41,.sl true 6 []),
  (42,.sl true 2 []),
  (43,.sl true 3 []),
  (44,.agg [.lit (.int .i64 0),.lit (.int .i64 0),.sl true 6 [],.sl true 2 [],.sl true 2 [],.sl true 3 []]),
  (45,.agg [.lit (.int .i64 0),.lit (.int .i64 0),.sl true 6 [],.sl true 2 [],.sl true 2 [],.sl true 3 []]),
  (47,.lit (.int .i64 0)),
  (52,.agg [.lit (.int .i64 0),.lit (.int .i64 0),.lit (.int .i64 0),.lit (.int .i64 0)]),
  (53,.agg [.lit (.int .i64 0),.lit (.int .i64 0),.lit (.int .i64 0),.lit (.int .i64 0)]),
  (54,.sl true 1 []),
  (55,.agg [.sl true 1 [],.sl true 1 [],.lit (.int .i64 0),.lit (.int .i64 0),.lit (.int .i64 0),.lit (.int .i64 0),.sl true 1 [],.lit (.int .i64 0),.lit (.bool false),.sl true 1 [],.lit (.bool false),.lit (.int .i64 0)]),
  (56,.agg [.sl true 1 [],.sl true 1 [],.lit (.int .i64 0),.lit (.int .i64 0),.lit (.int .i64 0),.lit (.int .i64 0),.sl true 1 [],.lit (.int .i64 0),.lit (.bool false),.sl true 1 [],.lit (.bool false),.lit (.int .i64 0)]),
  (59,.sl true 1 []),
  (64,.sl true 1 []),
  (66,.agg [.sl true 3 [],.lit (.int .i64 0),.lit (.int .i64 0),.lit (.int .i64 0),.lit (.int .i64 0),.sl true 1 []]),
  (67,.agg [.sl true 3 [],.lit (.int .i64 0),.lit (.int .i64 0),.lit (.int .i64 0),.lit (.int .i64 0),.sl true 1 []]),
  (71,.lit (.int .i16 0)),
  (72,.agg [.lit (.int .i64 0),.lit (.string ByteArray.empty),.lit (.int .i64 0),.lit (.int .i64 0),.lit (.int .i64 0),.lit (.int .i64 0)]),
  (73,.agg [.lit (.int .i64 0),.lit (.string ByteArray.empty),.lit (.int .i64 0),.lit (.int .i64 0),.lit (.int .i64 0),.lit (.int .i64 0)]),
  (75,.agg [.sl true 3 [],.lit (.int .i64 0),.lit (.int .i64 0),.lit (.int .i64 0),.lit (.int .i64 0),.sl true 1 []]),
  (81,.lit (.map none)),
  (84,.sl true 1 []),
  (95,.agg [.lit (.string ByteArray.empty),.sl true 1 [],.sl true 1 []]),
  (96,.agg [.lit (.string ByteArray.empty),.sl true 1 [],.sl true 1 []]),
  (98,.agg [.lit (.int .i64 0),.lit (.int .i64 0)]),
  (99,.agg [.lit (.int .i64 0),.lit (.int .i64 0)]),
  (103,.lit (.pointer none)),
  (104,.lit (.map none)),
  (105,.agg [.lit (.int .i64 0),.lit (.int .i64 0),.sl true 6 [],.sl true 2 [],.sl true 2 [],.sl true 3 [],.sl true 1 [],.sl true 1 [],.lit (.map none)]),
  (106,.agg [.lit (.int .i64 0),.lit (.int .i64 0),.sl true 6 [],.sl true 2 [],.sl true 2 [],.sl true 3 [],.sl true 1 [],.sl true 1 [],.lit (.map none)]),
  (115,.lit (.pointer none)),
  (119,.agg [.lit (.int .i64 0),.lit (.int .i64 0),.sl true 6 [],.sl true 2 [],.sl true 2 [],.sl true 3 [],.sl true 1 [],.sl true 1 [],.sl true 1 [],.lit (.int .i64 0),.lit (.int .i64 0),.lit (.int .i64 0),.lit (.int .i64 0),.sl true 1 [],.lit (.int .i64 0),.lit (.int .i64 0),.lit (.int .i64 0)]),
  (120,.agg [.lit (.int .i64 0),.lit (.int .i64 0),.sl true 6 [],.sl true 2 [],.sl true 2 [],.sl true 3 [],.sl true 1 [],.sl true 1 [],.sl true 1 [],.lit (.int .i64 0),.lit (.int .i64 0),.lit (.int .i64 0),.lit (.int .i64 0),.sl true 1 [],.lit (.int .i64 0),.lit (.int .i64 0),.lit (.int .i64 0)]),
  (150,.lit (.int .u64 0)),
  (152,.agg [.lit (.string ByteArray.empty),.sl true 1 [],.lit (.string ByteArray.empty)]),
  (153,.agg [.lit (.string ByteArray.empty),.sl true 1 [],.lit (.string ByteArray.empty)]),
  (154,.agg [.lit (.string ByteArray.empty),.sl true 1 [],.lit (.string ByteArray.empty),.lit (.string ByteArray.empty),.sl true 1 [],.lit (.string ByteArray.empty),.lit (.string ByteArray.empty),.sl true 1 [],.lit (.string ByteArray.empty),.lit (.string ByteArray.empty),.sl true 1 [],.lit (.string ByteArray.empty),.lit (.string ByteArray.empty),.sl true 1 [],.lit (.string ByteArray.empty),.lit (.string ByteArray.empty),.sl true 1 [],.lit (.string ByteArray.empty),.lit (.string ByteArray.empty),.sl true 1 [],.lit (.string ByteArray.empty),.lit (.string ByteArray.empty),.sl true 1 [],.lit (.string ByteArray.empty),.lit (.string ByteArray.empty),.sl true 1 [],.lit (.string ByteArray.empty),.lit (.string ByteArray.empty),.sl true 1 [],.lit (.string ByteArray.empty),.lit (.string ByteArray.empty),.sl true 1 [],.lit (.string ByteArray.empty),.lit (.string ByteArray.empty),.sl true 1 [],.lit (.string ByteArray.empty),.lit (.string ByteArray.empty),.sl true 1 [],.lit (.string ByteArray.empty),.lit (.string ByteArray.empty),.sl true 1 [],.lit (.string ByteArray.empty),.lit (.string ByteArray.empty),.sl true 1 [],.lit (.string ByteArray.empty),.lit (.string ByteArray.empty),.sl true 1 [],.lit (.string ByteArray.empty),.lit (.string ByteArray.empty),.sl true 1 [],.lit (.string ByteArray.empty),.lit (.string ByteArray.empty),.sl true 1 [],.lit (.string ByteArray.empty),.lit (.string ByteArray.empty),.sl true 1 [],.lit (.string ByteArray.empty),.lit (.string ByteArray.empty),.sl true 1 [],.lit (.string ByteArray.empty),.lit (.string ByteArray.empty),.sl true 1 [],.lit (.string ByteArray.empty),.lit (.string ByteArray.empty),.sl true 1 [],.lit (.string ByteArray.empty)]),
  (160,.agg [.lit (.int .i64 0),.lit (.int .i64 0),.lit (.int .i64 0),.lit (.int .i64 0)]),
  (163,.agg [.lit (.string ByteArray.empty),.sl true 1 [],.lit (.bool false),.sl true 1 []]),
  (164,.agg [.lit (.string ByteArray.empty),.sl true 1 [],.lit (.bool false),.sl true 1 []]),
  (168,.sl true 1 []),
  (175,.agg [.lit (.string ByteArray.empty),.sl true 1 [],.lit (.bool false),.sl true 1 [],.lit (.string ByteArray.empty),.sl true 1 [],.lit (.bool false),.sl true 1 [],.lit (.string ByteArray.empty),.sl true 1 [],.lit (.bool false),.sl true 1 [],.lit (.string ByteArray.empty),.sl true 1 [],.lit (.bool false),.sl true 1 [],.lit (.string ByteArray.empty),.sl true 1 [],.lit (.bool false),.sl true 1 [],.lit (.string ByteArray.empty),.sl true 1 [],.lit (.bool false),.sl true 1 [],.lit (.string ByteArray.empty),.sl true 1 [],.lit (.bool false),.sl true 1 [],.lit (.string ByteArray.empty),.sl true 1 [],.lit (.bool false),.sl true 1 [],.lit (.string ByteArray.empty),.sl true 1 [],.lit (.bool false),.sl true 1 [],.lit (.string ByteArray.empty),.sl true 1 [],.lit (.bool false),.sl true 1 [],.lit (.string ByteArray.empty),.sl true 1 [],.lit (.bool false),.sl true 1 [],.lit (.string ByteArray.empty),.sl true 1 [],.lit (.bool false),.sl true 1 [],.lit (.string ByteArray.empty),.sl true 1 [],.lit (.bool false),.sl true 1 [],.lit (.string ByteArray.empty),.sl true 1 [],.lit (.bool false),.sl true 1 [],.lit (.string ByteArray.empty),.sl true 1 [],.lit (.bool false),.sl true 1 [],.lit (.string ByteArray.empty),.sl true 1 [],.lit (.bool false),.sl true 1 []]),
  (180,.agg [.lit .nilFunc,.lit .nilFunc,.lit .nilFunc,.lit .nilFunc,.lit .nilFunc,.lit .nilFunc,.lit .nilFunc,.lit .nilFunc,.lit .nilFunc,.lit .nilFunc,.lit .nilFunc,.lit .nilFunc,.lit .nilFunc,.lit .nilFunc,.lit .nilFunc,.lit .nilFunc]),
  (185,.lit (.int .i64 0)),
  (193,.lit (.int .u32 0)),
  (195,.lit (.int .u64 0)),
  (201,.lit (.int .u64 0)),
  (205,.lit (.pointer none)),
  (210,.lit (.pointer none)),
  (216,.agg [.lit (.pointer none),.lit (.pointer none),.lit (.pointer none),.lit (.string ByteArray.empty)]),
  (217,.agg [.lit (.pointer none),.lit (.pointer none),.lit (.pointer none),.lit (.string ByteArray.empty)]),
  (222,.lit (.int .u8 0)),
  (223,.lit (.int .u8 0)),
  (225,.lit (.pointer none)),
  (226,.lit (.int .i32 0)),
  (227,.lit (.int .i32 0)),
  (228,.agg [.lit (.int .u64 0),.lit (.int .u64 0),.lit (.int .u32 0),.lit (.int .u8 0),.lit (.int .u8 0),.lit (.int .u8 0),.lit (.int .u8 0),.lit .nilFunc,.lit (.pointer none),.lit (.int .i32 0),.lit (.int .i32 0)]),
  (229,.agg [.lit (.int .u64 0),.lit (.int .u64 0),.lit (.int .u32 0),.lit (.int .u8 0),.lit (.int .u8 0),.lit (.int .u8 0),.lit (.int .u8 0),.lit .nilFunc,.lit (.pointer none),.lit (.int .i32 0),.lit (.int .i32 0)])]
def zer (t:TypeId):AV:=lookZ zerL t
theorem zr2:ZerOk Try.prog (2,.lit (.int .i64 0)):=fun v h=>by
  rw [show zeroT Try.prog 2=some (.int .i64 0) from by kernel_rfl] at h;cases h;exact .lit _
theorem zv2:zer 2= .lit (.int .i64 0):=rfl
theorem zr3:ZerOk Try.prog (3,.lit (.int .i64 0)):=fun v h=>by
  rw [show zeroT Try.prog 3=some (.int .i64 0) from by kernel_rfl] at h;cases h;exact .lit _
theorem zv3:zer 3= .lit (.int .i64 0):=rfl
theorem zr4:ZerOk Try.prog (4,.lit (.bool false)):=fun v h=>by
  rw [show zeroT Try.prog 4=some (.bool false) from by kernel_rfl] at h;cases h;exact .lit _
theorem zv4:zer 4= .lit (.bool false):=rfl
theorem zr5:ZerOk Try.prog (5,.lit (.int .u8 0)):=fun v h=>by
  rw [show zeroT Try.prog 5=some (.int .u8 0) from by kernel_rfl] at h;cases h;exact .lit _
theorem zv5:zer 5= .lit (.int .u8 0):=rfl
theorem zr6:ZerOk Try.prog (6,.lit (.int .u8 0)):=fun v h=>by
  rw [show zeroT Try.prog 6=some (.int .u8 0) from by kernel_rfl] at h;cases h;exact .lit _
theorem zv6:zer 6= .lit (.int .u8 0):=rfl
theorem zr7:ZerOk Try.prog (7,.agg [.lit (.int .i64 0),.lit (.int .i64 0),.lit (.bool false),.lit (.int .u8 0)]):=fun v h=>by
  rw [show zeroT Try.prog 7=some (.agg #[(.int .i64 0),(.int .i64 0),(.bool false),(.int .u8 0)]) from by kernel_rfl] at h;cases h
  exact zr_agg _ _ (zl_cons (.lit _) rfl (zl_cons (.lit _) rfl (zl_cons (.lit _) rfl (zl_cons (.lit _) rfl (zl_nil)))))
theorem zv7:zer 7= .agg [.lit (.int .i64 0),.lit (.int .i64 0),.lit (.bool false),.lit (.int .u8 0)]:=rfl
theorem zr8:ZerOk Try.prog (8,.agg [.lit (.int .i64 0),.lit (.int .i64 0),.lit (.bool false),.lit (.int .u8 0)]):=fun v h=>by
  rw [show zeroT Try.prog 8=some (.agg #[(.int .i64 0),(.int .i64 0),(.bool false),(.int .u8 0)]) from by kernel_rfl] at h;cases h
  exact zr_agg _ _ (zl_cons (.lit _) rfl (zl_cons (.lit _) rfl (zl_cons (.lit _) rfl (zl_cons (.lit _) rfl (zl_nil)))))
theorem zv8:zer 8= .agg [.lit (.int .i64 0),.lit (.int .i64 0),.lit (.bool false),.lit (.int .u8 0)]:=rfl
theorem zr9:ZerOk Try.prog (9,.lit (.string ByteArray.empty)):=fun v h=>by
  rw [show zeroT Try.prog 9=some (.string ByteArray.empty) from by kernel_rfl] at h;cases h;exact .lit _
theorem zv9:zer 9= .lit (.string ByteArray.empty):=rfl
theorem zr10:ZerOk Try.prog (10,.lit (.string ByteArray.empty)):=fun v h=>by
  rw [show zeroT Try.prog 10=some (.string ByteArray.empty) from by kernel_rfl] at h;cases h;exact .lit _
theorem zv10:zer 10= .lit (.string ByteArray.empty):=rfl
theorem zr11:ZerOk Try.prog (11,.lit (.string ByteArray.empty)):=fun v h=>by
  rw [show zeroT Try.prog 11=some (.string ByteArray.empty) from by kernel_rfl] at h;cases h;exact .lit _
theorem zv11:zer 11= .lit (.string ByteArray.empty):=rfl
theorem zr12:ZerOk Try.prog (12,.lit (.int .u64 0)):=fun v h=>by
  rw [show zeroT Try.prog 12=some (.int .u64 0) from by kernel_rfl] at h;cases h;exact .lit _
theorem zv12:zer 12= .lit (.int .u64 0):=rfl
theorem zr13:ZerOk Try.prog (13,.agg [.lit (.string ByteArray.empty),.lit (.int .u64 0)]):=fun v h=>by
  rw [show zeroT Try.prog 13=some (.agg #[(.string ByteArray.empty),(.int .u64 0)]) from by kernel_rfl] at h;cases h
  exact zr_agg _ _ (zl_cons (.lit _) rfl (zl_cons (.lit _) rfl (zl_nil)))
theorem zv13:zer 13= .agg [.lit (.string ByteArray.empty),.lit (.int .u64 0)]:=rfl
theorem zr14:ZerOk Try.prog (14,.agg [.lit (.string ByteArray.empty),.lit (.int .u64 0)]):=fun v h=>by
  rw [show zeroT Try.prog 14=some (.agg #[(.string ByteArray.empty),(.int .u64 0)]) from by kernel_rfl] at h;cases h
  exact zr_agg _ _ (zl_cons (.lit _) rfl (zl_cons (.lit _) rfl (zl_nil)))
theorem zv14:zer 14= .agg [.lit (.string ByteArray.empty),.lit (.int .u64 0)]:=rfl
theorem zr15:ZerOk Try.prog (15,.lit (.pointer none)):=fun v h=>by
  rw [show zeroT Try.prog 15=some (.pointer none) from by kernel_rfl] at h;cases h;exact .lit _
theorem zv15:zer 15= .lit (.pointer none):=rfl
theorem zr16:ZerOk Try.prog (16,.lit (.pointer none)):=fun v h=>by
  rw [show zeroT Try.prog 16=some (.pointer none) from by kernel_rfl] at h;cases h;exact .lit _
theorem zv16:zer 16= .lit (.pointer none):=rfl
theorem zr17:ZerOk Try.prog (17,.lit (.pointer none)):=fun v h=>by
  rw [show zeroT Try.prog 17=some (.pointer none) from by kernel_rfl] at h;cases h;exact .lit _
theorem zv17:zer 17= .lit (.pointer none):=rfl
theorem zr18:ZerOk Try.prog (18,.agg [.lit (.pointer none)]):=fun v h=>by
  rw [show zeroT Try.prog 18=some (.agg #[(.pointer none)]) from by kernel_rfl] at h;cases h
  exact zr_agg _ _ (zl_cons (.lit _) rfl (zl_nil))
theorem zv18:zer 18= .agg [.lit (.pointer none)]:=rfl
theorem zr19:ZerOk Try.prog (19,.agg [.lit (.pointer none)]):=fun v h=>by
  rw [show zeroT Try.prog 19=some (.agg #[(.pointer none)]) from by kernel_rfl] at h;cases h
  exact zr_agg _ _ (zl_cons (.lit _) rfl (zl_nil))
theorem zv19:zer 19= .agg [.lit (.pointer none)]:=rfl
theorem zr21:ZerOk Try.prog (21,.lit (.int .i32 0)):=fun v h=>by
  rw [show zeroT Try.prog 21=some (.int .i32 0) from by kernel_rfl] at h;cases h;exact .lit _
theorem zv21:zer 21= .lit (.int .i32 0):=rfl
theorem zr22:ZerOk Try.prog (22,.sl true 2 []):=fun v h=>by
  rw [show zeroT Try.prog 22=some (.slice none 0 0) from by kernel_rfl] at h;cases h;exact .nil _ _ _
theorem zv22:zer 22= .sl true 2 []:=rfl
theorem zr23:ZerOk Try.prog (23,.lit (.int .u16 0)):=fun v h=>by
  rw [show zeroT Try.prog 23=some (.int .u16 0) from by kernel_rfl] at h;cases h;exact .lit _
theorem zv23:zer 23= .lit (.int .u16 0):=rfl
theorem zr24:ZerOk Try.prog (24,.agg [.lit (.int .u16 0),.lit (.int .u16 0),.lit (.int .u16 0)]):=fun v h=>by
  rw [show zeroT Try.prog 24=some (.agg #[(.int .u16 0),(.int .u16 0),(.int .u16 0)]) from by kernel_rfl] at h;cases h
  exact zr_agg _ _ (zl_cons (.lit _) rfl (zl_cons (.lit _) rfl (zl_cons (.lit _) rfl (zl_nil))))
theorem zv24:zer 24= .agg [.lit (.int .u16 0),.lit (.int .u16 0),.lit (.int .u16 0)]:=rfl
theorem zr26:ZerOk Try.prog (26,.sl true 2 []):=fun v h=>by
  rw [show zeroT Try.prog 26=some (.slice none 0 0) from by kernel_rfl] at h;cases h;exact .nil _ _ _
theorem zv26:zer 26= .sl true 2 []:=rfl
theorem zr27:ZerOk Try.prog (27,.agg [.lit (.int .i64 0),.lit (.int .i64 0)]):=fun v h=>by
  rw [show zeroT Try.prog 27=some (.agg #[(.int .i64 0),(.int .i64 0)]) from by kernel_rfl] at h;cases h
  exact zr_agg _ _ (zl_cons (.lit _) rfl (zl_cons (.lit _) rfl (zl_nil)))
theorem zv27:zer 27= .agg [.lit (.int .i64 0),.lit (.int .i64 0)]:=rfl
theorem zr28:ZerOk Try.prog (28,.agg [.lit (.int .i64 0),.lit (.int .i64 0)]):=fun v h=>by
  rw [show zeroT Try.prog 28=some (.agg #[(.int .i64 0),(.int .i64 0)]) from by kernel_rfl] at h;cases h
  exact zr_agg _ _ (zl_cons (.lit _) rfl (zl_cons (.lit _) rfl (zl_nil)))
theorem zv28:zer 28= .agg [.lit (.int .i64 0),.lit (.int .i64 0)]:=rfl
theorem zr29:ZerOk Try.prog (29,.agg [.lit (.int .i64 0),.lit (.int .i64 0)]):=fun v h=>by
  rw [show zeroT Try.prog 29=some (.agg #[(.int .i64 0),(.int .i64 0)]) from by kernel_rfl] at h;cases h
  exact zr_agg _ _ (zl_cons (.lit _) rfl (zl_cons (.lit _) rfl (zl_nil)))
theorem zv29:zer 29= .agg [.lit (.int .i64 0),.lit (.int .i64 0)]:=rfl
theorem zr34:ZerOk Try.prog (34,.sl true 1 []):=fun v h=>by
  rw [show zeroT Try.prog 34=some (.slice none 0 0) from by kernel_rfl] at h;cases h;exact .nil _ _ _
theorem zv34:zer 34= .sl true 1 []:=rfl
theorem zr38:ZerOk Try.prog (38,.agg [.lit (.int .u8 0),.lit (.int .u8 0)]):=fun v h=>by
  rw [show zeroT Try.prog 38=some (.agg #[(.int .u8 0),(.int .u8 0)]) from by kernel_rfl] at h;cases h
  exact zr_agg _ _ (zl_cons (.lit _) rfl (zl_cons (.lit _) rfl (zl_nil)))
theorem zv38:zer 38= .agg [.lit (.int .u8 0),.lit (.int .u8 0)]:=rfl
theorem zr39:ZerOk Try.prog (39,.agg [.lit (.int .u8 0),.lit (.int .u8 0),.lit (.int .u8 0),.lit (.int .u8 0),.lit (.int .u8 0),.lit (.int .u8 0)]):=fun v h=>by
  rw [show zeroT Try.prog 39=some (.agg #[(.int .u8 0),(.int .u8 0),(.int .u8 0),(.int .u8 0),(.int .u8 0),(.int .u8 0)]) from by kernel_rfl] at h;cases h
  exact zr_agg _ _ (zl_cons (.lit _) rfl (zl_cons (.lit _) rfl (zl_cons (.lit _) rfl (zl_cons (.lit _) rfl (zl_cons (.lit _) rfl (zl_cons (.lit _) rfl (zl_nil)))))))
theorem zv39:zer 39= .agg [.lit (.int .u8 0),.lit (.int .u8 0),.lit (.int .u8 0),.lit (.int .u8 0),.lit (.int .u8 0),.lit (.int .u8 0)]:=rfl
theorem zr41:ZerOk Try.prog (41,.sl true 6 []):=fun v h=>by
  rw [show zeroT Try.prog 41=some (.slice none 0 0) from by kernel_rfl] at h;cases h;exact .nil _ _ _
theorem zv41:zer 41= .sl true 6 []:=rfl
theorem zr42:ZerOk Try.prog (42,.sl true 2 []):=fun v h=>by
  rw [show zeroT Try.prog 42=some (.slice none 0 0) from by kernel_rfl] at h;cases h;exact .nil _ _ _
theorem zv42:zer 42= .sl true 2 []:=rfl
theorem zr43:ZerOk Try.prog (43,.sl true 3 []):=fun v h=>by
  rw [show zeroT Try.prog 43=some (.slice none 0 0) from by kernel_rfl] at h;cases h;exact .nil _ _ _
theorem zv43:zer 43= .sl true 3 []:=rfl
theorem zr44:ZerOk Try.prog (44,.agg [.lit (.int .i64 0),.lit (.int .i64 0),.sl true 6 [],.sl true 2 [],.sl true 2 [],.sl true 3 []]):=fun v h=>by
  rw [show zeroT Try.prog 44=some (.agg #[(.int .i64 0),(.int .i64 0),(.slice none 0 0),(.slice none 0 0),(.slice none 0 0),(.slice none 0 0)]) from by kernel_rfl] at h;cases h
  exact zr_agg _ _ (zl_cons (.lit _) rfl (zl_cons (.lit _) rfl (zl_cons (.nil _ _ _) rfl (zl_cons (.nil _ _ _) rfl (zl_cons (.nil _ _ _) rfl (zl_cons (.nil _ _ _) rfl (zl_nil)))))))
theorem zv44:zer 44= .agg [.lit (.int .i64 0),.lit (.int .i64 0),.sl true 6 [],.sl true 2 [],.sl true 2 [],.sl true 3 []]:=rfl
theorem zr45:ZerOk Try.prog (45,.agg [.lit (.int .i64 0),.lit (.int .i64 0),.sl true 6 [],.sl true 2 [],.sl true 2 [],.sl true 3 []]):=fun v h=>by
  rw [show zeroT Try.prog 45=some (.agg #[(.int .i64 0),(.int .i64 0),(.slice none 0 0),(.slice none 0 0),(.slice none 0 0),(.slice none 0 0)]) from by kernel_rfl] at h;cases h
  exact zr_agg _ _ (zl_cons (.lit _) rfl (zl_cons (.lit _) rfl (zl_cons (.nil _ _ _) rfl (zl_cons (.nil _ _ _) rfl (zl_cons (.nil _ _ _) rfl (zl_cons (.nil _ _ _) rfl (zl_nil)))))))
theorem zv45:zer 45= .agg [.lit (.int .i64 0),.lit (.int .i64 0),.sl true 6 [],.sl true 2 [],.sl true 2 [],.sl true 3 []]:=rfl
theorem zr47:ZerOk Try.prog (47,.lit (.int .i64 0)):=fun v h=>by
  rw [show zeroT Try.prog 47=some (.int .i64 0) from by kernel_rfl] at h;cases h;exact .lit _
theorem zv47:zer 47= .lit (.int .i64 0):=rfl
theorem zr52:ZerOk Try.prog (52,.agg [.lit (.int .i64 0),.lit (.int .i64 0),.lit (.int .i64 0),.lit (.int .i64 0)]):=fun v h=>by
  rw [show zeroT Try.prog 52=some (.agg #[(.int .i64 0),(.int .i64 0),(.int .i64 0),(.int .i64 0)]) from by kernel_rfl] at h;cases h
  exact zr_agg _ _ (zl_cons (.lit _) rfl (zl_cons (.lit _) rfl (zl_cons (.lit _) rfl (zl_cons (.lit _) rfl (zl_nil)))))
theorem zv52:zer 52= .agg [.lit (.int .i64 0),.lit (.int .i64 0),.lit (.int .i64 0),.lit (.int .i64 0)]:=rfl
theorem zr53:ZerOk Try.prog (53,.agg [.lit (.int .i64 0),.lit (.int .i64 0),.lit (.int .i64 0),.lit (.int .i64 0)]):=fun v h=>by
  rw [show zeroT Try.prog 53=some (.agg #[(.int .i64 0),(.int .i64 0),(.int .i64 0),(.int .i64 0)]) from by kernel_rfl] at h;cases h
  exact zr_agg _ _ (zl_cons (.lit _) rfl (zl_cons (.lit _) rfl (zl_cons (.lit _) rfl (zl_cons (.lit _) rfl (zl_nil)))))
theorem zv53:zer 53= .agg [.lit (.int .i64 0),.lit (.int .i64 0),.lit (.int .i64 0),.lit (.int .i64 0)]:=rfl
theorem zr54:ZerOk Try.prog (54,.sl true 1 []):=fun v h=>by
  rw [show zeroT Try.prog 54=some (.slice none 0 0) from by kernel_rfl] at h;cases h;exact .nil _ _ _
theorem zv54:zer 54= .sl true 1 []:=rfl
theorem zr55:ZerOk Try.prog (55,.agg [.sl true 1 [],.sl true 1 [],.lit (.int .i64 0),.lit (.int .i64 0),.lit (.int .i64 0),.lit (.int .i64 0),.sl true 1 [],.lit (.int .i64 0),.lit (.bool false),.sl true 1 [],.lit (.bool false),.lit (.int .i64 0)]):=fun v h=>by
  rw [show zeroT Try.prog 55=some (.agg #[(.slice none 0 0),(.slice none 0 0),(.int .i64 0),(.int .i64 0),(.int .i64 0),(.int .i64 0),(.slice none 0 0),(.int .i64 0),(.bool false),(.slice none 0 0),(.bool false),(.int .i64 0)]) from by kernel_rfl] at h;cases h
  exact zr_agg _ _ (zl_cons (.nil _ _ _) rfl (zl_cons (.nil _ _ _) rfl (zl_cons (.lit _) rfl (zl_cons (.lit _) rfl (zl_cons (.lit _) rfl (zl_cons (.lit _) rfl (zl_cons (.nil _ _ _) rfl (zl_cons (.lit _) rfl (zl_cons (.lit _) rfl (zl_cons (.nil _ _ _) rfl (zl_cons (.lit _) rfl (zl_cons (.lit _) rfl (zl_nil)))))))))))))
theorem zv55:zer 55= .agg [.sl true 1 [],.sl true 1 [],.lit (.int .i64 0),.lit (.int .i64 0),.lit (.int .i64 0),.lit (.int .i64 0),.sl true 1 [],.lit (.int .i64 0),.lit (.bool false),.sl true 1 [],.lit (.bool false),.lit (.int .i64 0)]:=rfl
theorem zr56:ZerOk Try.prog (56,.agg [.sl true 1 [],.sl true 1 [],.lit (.int .i64 0),.lit (.int .i64 0),.lit (.int .i64 0),.lit (.int .i64 0),.sl true 1 [],.lit (.int .i64 0),.lit (.bool false),.sl true 1 [],.lit (.bool false),.lit (.int .i64 0)]):=fun v h=>by
  rw [show zeroT Try.prog 56=some (.agg #[(.slice none 0 0),(.slice none 0 0),(.int .i64 0),(.int .i64 0),(.int .i64 0),(.int .i64 0),(.slice none 0 0),(.int .i64 0),(.bool false),(.slice none 0 0),(.bool false),(.int .i64 0)]) from by kernel_rfl] at h;cases h
  exact zr_agg _ _ (zl_cons (.nil _ _ _) rfl (zl_cons (.nil _ _ _) rfl (zl_cons (.lit _) rfl (zl_cons (.lit _) rfl (zl_cons (.lit _) rfl (zl_cons (.lit _) rfl (zl_cons (.nil _ _ _) rfl (zl_cons (.lit _) rfl (zl_cons (.lit _) rfl (zl_cons (.nil _ _ _) rfl (zl_cons (.lit _) rfl (zl_cons (.lit _) rfl (zl_nil)))))))))))))
theorem zv56:zer 56= .agg [.sl true 1 [],.sl true 1 [],.lit (.int .i64 0),.lit (.int .i64 0),.lit (.int .i64 0),.lit (.int .i64 0),.sl true 1 [],.lit (.int .i64 0),.lit (.bool false),.sl true 1 [],.lit (.bool false),.lit (.int .i64 0)]:=rfl
theorem zr59:ZerOk Try.prog (59,.sl true 1 []):=fun v h=>by
  rw [show zeroT Try.prog 59=some (.slice none 0 0) from by kernel_rfl] at h;cases h;exact .nil _ _ _
theorem zv59:zer 59= .sl true 1 []:=rfl
theorem zr64:ZerOk Try.prog (64,.sl true 1 []):=fun v h=>by
  rw [show zeroT Try.prog 64=some (.slice none 0 0) from by kernel_rfl] at h;cases h;exact .nil _ _ _
theorem zv64:zer 64= .sl true 1 []:=rfl
theorem zr66:ZerOk Try.prog (66,.agg [.sl true 3 [],.lit (.int .i64 0),.lit (.int .i64 0),.lit (.int .i64 0),.lit (.int .i64 0),.sl true 1 []]):=fun v h=>by
  rw [show zeroT Try.prog 66=some (.agg #[(.slice none 0 0),(.int .i64 0),(.int .i64 0),(.int .i64 0),(.int .i64 0),(.slice none 0 0)]) from by kernel_rfl] at h;cases h
  exact zr_agg _ _ (zl_cons (.nil _ _ _) rfl (zl_cons (.lit _) rfl (zl_cons (.lit _) rfl (zl_cons (.lit _) rfl (zl_cons (.lit _) rfl (zl_cons (.nil _ _ _) rfl (zl_nil)))))))
theorem zv66:zer 66= .agg [.sl true 3 [],.lit (.int .i64 0),.lit (.int .i64 0),.lit (.int .i64 0),.lit (.int .i64 0),.sl true 1 []]:=rfl
theorem zr67:ZerOk Try.prog (67,.agg [.sl true 3 [],.lit (.int .i64 0),.lit (.int .i64 0),.lit (.int .i64 0),.lit (.int .i64 0),.sl true 1 []]):=fun v h=>by
  rw [show zeroT Try.prog 67=some (.agg #[(.slice none 0 0),(.int .i64 0),(.int .i64 0),(.int .i64 0),(.int .i64 0),(.slice none 0 0)]) from by kernel_rfl] at h;cases h
  exact zr_agg _ _ (zl_cons (.nil _ _ _) rfl (zl_cons (.lit _) rfl (zl_cons (.lit _) rfl (zl_cons (.lit _) rfl (zl_cons (.lit _) rfl (zl_cons (.nil _ _ _) rfl (zl_nil)))))))
theorem zv67:zer 67= .agg [.sl true 3 [],.lit (.int .i64 0),.lit (.int .i64 0),.lit (.int .i64 0),.lit (.int .i64 0),.sl true 1 []]:=rfl
theorem zr71:ZerOk Try.prog (71,.lit (.int .i16 0)):=fun v h=>by
  rw [show zeroT Try.prog 71=some (.int .i16 0) from by kernel_rfl] at h;cases h;exact .lit _
theorem zv71:zer 71= .lit (.int .i16 0):=rfl
theorem zr72:ZerOk Try.prog (72,.agg [.lit (.int .i64 0),.lit (.string ByteArray.empty),.lit (.int .i64 0),.lit (.int .i64 0),.lit (.int .i64 0),.lit (.int .i64 0)]):=fun v h=>by
  rw [show zeroT Try.prog 72=some (.agg #[(.int .i64 0),(.string ByteArray.empty),(.int .i64 0),(.int .i64 0),(.int .i64 0),(.int .i64 0)]) from by kernel_rfl] at h;cases h
  exact zr_agg _ _ (zl_cons (.lit _) rfl (zl_cons (.lit _) rfl (zl_cons (.lit _) rfl (zl_cons (.lit _) rfl (zl_cons (.lit _) rfl (zl_cons (.lit _) rfl (zl_nil)))))))
theorem zv72:zer 72= .agg [.lit (.int .i64 0),.lit (.string ByteArray.empty),.lit (.int .i64 0),.lit (.int .i64 0),.lit (.int .i64 0),.lit (.int .i64 0)]:=rfl
theorem zr73:ZerOk Try.prog (73,.agg [.lit (.int .i64 0),.lit (.string ByteArray.empty),.lit (.int .i64 0),.lit (.int .i64 0),.lit (.int .i64 0),.lit (.int .i64 0)]):=fun v h=>by
  rw [show zeroT Try.prog 73=some (.agg #[(.int .i64 0),(.string ByteArray.empty),(.int .i64 0),(.int .i64 0),(.int .i64 0),(.int .i64 0)]) from by kernel_rfl] at h;cases h
  exact zr_agg _ _ (zl_cons (.lit _) rfl (zl_cons (.lit _) rfl (zl_cons (.lit _) rfl (zl_cons (.lit _) rfl (zl_cons (.lit _) rfl (zl_cons (.lit _) rfl (zl_nil)))))))
theorem zv73:zer 73= .agg [.lit (.int .i64 0),.lit (.string ByteArray.empty),.lit (.int .i64 0),.lit (.int .i64 0),.lit (.int .i64 0),.lit (.int .i64 0)]:=rfl
theorem zr75:ZerOk Try.prog (75,.agg [.sl true 3 [],.lit (.int .i64 0),.lit (.int .i64 0),.lit (.int .i64 0),.lit (.int .i64 0),.sl true 1 []]):=fun v h=>by
  rw [show zeroT Try.prog 75=some (.agg #[(.slice none 0 0),(.int .i64 0),(.int .i64 0),(.int .i64 0),(.int .i64 0),(.slice none 0 0)]) from by kernel_rfl] at h;cases h
  exact zr_agg _ _ (zl_cons (.nil _ _ _) rfl (zl_cons (.lit _) rfl (zl_cons (.lit _) rfl (zl_cons (.lit _) rfl (zl_cons (.lit _) rfl (zl_cons (.nil _ _ _) rfl (zl_nil)))))))
theorem zv75:zer 75= .agg [.sl true 3 [],.lit (.int .i64 0),.lit (.int .i64 0),.lit (.int .i64 0),.lit (.int .i64 0),.sl true 1 []]:=rfl
theorem zr81:ZerOk Try.prog (81,.lit (.map none)):=fun v h=>by
  rw [show zeroT Try.prog 81=some (.map none) from by kernel_rfl] at h;cases h;exact .lit _
theorem zv81:zer 81= .lit (.map none):=rfl
theorem zr84:ZerOk Try.prog (84,.sl true 1 []):=fun v h=>by
  rw [show zeroT Try.prog 84=some (.slice none 0 0) from by kernel_rfl] at h;cases h;exact .nil _ _ _
theorem zv84:zer 84= .sl true 1 []:=rfl
theorem zr95:ZerOk Try.prog (95,.agg [.lit (.string ByteArray.empty),.sl true 1 [],.sl true 1 []]):=fun v h=>by
  rw [show zeroT Try.prog 95=some (.agg #[(.string ByteArray.empty),(.slice none 0 0),(.slice none 0 0)]) from by kernel_rfl] at h;cases h
  exact zr_agg _ _ (zl_cons (.lit _) rfl (zl_cons (.nil _ _ _) rfl (zl_cons (.nil _ _ _) rfl (zl_nil))))
theorem zv95:zer 95= .agg [.lit (.string ByteArray.empty),.sl true 1 [],.sl true 1 []]:=rfl
theorem zr96:ZerOk Try.prog (96,.agg [.lit (.string ByteArray.empty),.sl true 1 [],.sl true 1 []]):=fun v h=>by
  rw [show zeroT Try.prog 96=some (.agg #[(.string ByteArray.empty),(.slice none 0 0),(.slice none 0 0)]) from by kernel_rfl] at h;cases h
  exact zr_agg _ _ (zl_cons (.lit _) rfl (zl_cons (.nil _ _ _) rfl (zl_cons (.nil _ _ _) rfl (zl_nil))))
theorem zv96:zer 96= .agg [.lit (.string ByteArray.empty),.sl true 1 [],.sl true 1 []]:=rfl
theorem zr98:ZerOk Try.prog (98,.agg [.lit (.int .i64 0),.lit (.int .i64 0)]):=fun v h=>by
  rw [show zeroT Try.prog 98=some (.agg #[(.int .i64 0),(.int .i64 0)]) from by kernel_rfl] at h;cases h
  exact zr_agg _ _ (zl_cons (.lit _) rfl (zl_cons (.lit _) rfl (zl_nil)))
theorem zv98:zer 98= .agg [.lit (.int .i64 0),.lit (.int .i64 0)]:=rfl
theorem zr99:ZerOk Try.prog (99,.agg [.lit (.int .i64 0),.lit (.int .i64 0)]):=fun v h=>by
  rw [show zeroT Try.prog 99=some (.agg #[(.int .i64 0),(.int .i64 0)]) from by kernel_rfl] at h;cases h
  exact zr_agg _ _ (zl_cons (.lit _) rfl (zl_cons (.lit _) rfl (zl_nil)))
theorem zv99:zer 99= .agg [.lit (.int .i64 0),.lit (.int .i64 0)]:=rfl
theorem zr103:ZerOk Try.prog (103,.lit (.pointer none)):=fun v h=>by
  rw [show zeroT Try.prog 103=some (.pointer none) from by kernel_rfl] at h;cases h;exact .lit _
theorem zv103:zer 103= .lit (.pointer none):=rfl
theorem zr104:ZerOk Try.prog (104,.lit (.map none)):=fun v h=>by
  rw [show zeroT Try.prog 104=some (.map none) from by kernel_rfl] at h;cases h;exact .lit _
theorem zv104:zer 104= .lit (.map none):=rfl
theorem zr105:ZerOk Try.prog (105,.agg [.lit (.int .i64 0),.lit (.int .i64 0),.sl true 6 [],.sl true 2 [],.sl true 2 [],.sl true 3 [],.sl true 1 [],.sl true 1 [],.lit (.map none)]):=fun v h=>by
  rw [show zeroT Try.prog 105=some (.agg #[(.int .i64 0),(.int .i64 0),(.slice none 0 0),(.slice none 0 0),(.slice none 0 0),(.slice none 0 0),(.slice none 0 0),(.slice none 0 0),(.map none)]) from by kernel_rfl] at h;cases h
  exact zr_agg _ _ (zl_cons (.lit _) rfl (zl_cons (.lit _) rfl (zl_cons (.nil _ _ _) rfl (zl_cons (.nil _ _ _) rfl (zl_cons (.nil _ _ _) rfl (zl_cons (.nil _ _ _) rfl (zl_cons (.nil _ _ _) rfl (zl_cons (.nil _ _ _) rfl (zl_cons (.lit _) rfl (zl_nil))))))))))
theorem zv105:zer 105= .agg [.lit (.int .i64 0),.lit (.int .i64 0),.sl true 6 [],.sl true 2 [],.sl true 2 [],.sl true 3 [],.sl true 1 [],.sl true 1 [],.lit (.map none)]:=rfl
theorem zr106:ZerOk Try.prog (106,.agg [.lit (.int .i64 0),.lit (.int .i64 0),.sl true 6 [],.sl true 2 [],.sl true 2 [],.sl true 3 [],.sl true 1 [],.sl true 1 [],.lit (.map none)]):=fun v h=>by
  rw [show zeroT Try.prog 106=some (.agg #[(.int .i64 0),(.int .i64 0),(.slice none 0 0),(.slice none 0 0),(.slice none 0 0),(.slice none 0 0),(.slice none 0 0),(.slice none 0 0),(.map none)]) from by kernel_rfl] at h;cases h
  exact zr_agg _ _ (zl_cons (.lit _) rfl (zl_cons (.lit _) rfl (zl_cons (.nil _ _ _) rfl (zl_cons (.nil _ _ _) rfl (zl_cons (.nil _ _ _) rfl (zl_cons (.nil _ _ _) rfl (zl_cons (.nil _ _ _) rfl (zl_cons (.nil _ _ _) rfl (zl_cons (.lit _) rfl (zl_nil))))))))))
theorem zv106:zer 106= .agg [.lit (.int .i64 0),.lit (.int .i64 0),.sl true 6 [],.sl true 2 [],.sl true 2 [],.sl true 3 [],.sl true 1 [],.sl true 1 [],.lit (.map none)]:=rfl
theorem zr115:ZerOk Try.prog (115,.lit (.pointer none)):=fun v h=>by
  rw [show zeroT Try.prog 115=some (.pointer none) from by kernel_rfl] at h;cases h;exact .lit _
theorem zv115:zer 115= .lit (.pointer none):=rfl
theorem zr119:ZerOk Try.prog (119,.agg [.lit (.int .i64 0),.lit (.int .i64 0),.sl true 6 [],.sl true 2 [],.sl true 2 [],.sl true 3 [],.sl true 1 [],.sl true 1 [],.sl true 1 [],.lit (.int .i64 0),.lit (.int .i64 0),.lit (.int .i64 0),.lit (.int .i64 0),.sl true 1 [],.lit (.int .i64 0),.lit (.int .i64 0),.lit (.int .i64 0)]):=fun v h=>by
  rw [show zeroT Try.prog 119=some (.agg #[(.int .i64 0),(.int .i64 0),(.slice none 0 0),(.slice none 0 0),(.slice none 0 0),(.slice none 0 0),(.slice none 0 0),(.slice none 0 0),(.slice none 0 0),(.int .i64 0),(.int .i64 0),(.int .i64 0),(.int .i64 0),(.slice none 0 0),(.int .i64 0),(.int .i64 0),(.int .i64 0)]) from by kernel_rfl] at h;cases h
  exact zr_agg _ _ (zl_cons (.lit _) rfl (zl_cons (.lit _) rfl (zl_cons (.nil _ _ _) rfl (zl_cons (.nil _ _ _) rfl (zl_cons (.nil _ _ _) rfl (zl_cons (.nil _ _ _) rfl (zl_cons (.nil _ _ _) rfl (zl_cons (.nil _ _ _) rfl (zl_cons (.nil _ _ _) rfl (zl_cons (.lit _) rfl (zl_cons (.lit _) rfl (zl_cons (.lit _) rfl (zl_cons (.lit _) rfl (zl_cons (.nil _ _ _) rfl (zl_cons (.lit _) rfl (zl_cons (.lit _) rfl (zl_cons (.lit _) rfl (zl_nil))))))))))))))))))
theorem zv119:zer 119= .agg [.lit (.int .i64 0),.lit (.int .i64 0),.sl true 6 [],.sl true 2 [],.sl true 2 [],.sl true 3 [],.sl true 1 [],.sl true 1 [],.sl true 1 [],.lit (.int .i64 0),.lit (.int .i64 0),.lit (.int .i64 0),.lit (.int .i64 0),.sl true 1 [],.lit (.int .i64 0),.lit (.int .i64 0),.lit (.int .i64 0)]:=rfl
theorem zr120:ZerOk Try.prog (120,.agg [.lit (.int .i64 0),.lit (.int .i64 0),.sl true 6 [],.sl true 2 [],.sl true 2 [],.sl true 3 [],.sl true 1 [],.sl true 1 [],.sl true 1 [],.lit (.int .i64 0),.lit (.int .i64 0),.lit (.int .i64 0),.lit (.int .i64 0),.sl true 1 [],.lit (.int .i64 0),.lit (.int .i64 0),.lit (.int .i64 0)]):=fun v h=>by
  rw [show zeroT Try.prog 120=some (.agg #[(.int .i64 0),(.int .i64 0),(.slice none 0 0),(.slice none 0 0),(.slice none 0 0),(.slice none 0 0),(.slice none 0 0),(.slice none 0 0),(.slice none 0 0),(.int .i64 0),(.int .i64 0),(.int .i64 0),(.int .i64 0),(.slice none 0 0),(.int .i64 0),(.int .i64 0),(.int .i64 0)]) from by kernel_rfl] at h;cases h
  exact zr_agg _ _ (zl_cons (.lit _) rfl (zl_cons (.lit _) rfl (zl_cons (.nil _ _ _) rfl (zl_cons (.nil _ _ _) rfl (zl_cons (.nil _ _ _) rfl (zl_cons (.nil _ _ _) rfl (zl_cons (.nil _ _ _) rfl (zl_cons (.nil _ _ _) rfl (zl_cons (.nil _ _ _) rfl (zl_cons (.lit _) rfl (zl_cons (.lit _) rfl (zl_cons (.lit _) rfl (zl_cons (.lit _) rfl (zl_cons (.nil _ _ _) rfl (zl_cons (.lit _) rfl (zl_cons (.lit _) rfl (zl_cons (.lit _) rfl (zl_nil))))))))))))))))))
theorem zv120:zer 120= .agg [.lit (.int .i64 0),.lit (.int .i64 0),.sl true 6 [],.sl true 2 [],.sl true 2 [],.sl true 3 [],.sl true 1 [],.sl true 1 [],.sl true 1 [],.lit (.int .i64 0),.lit (.int .i64 0),.lit (.int .i64 0),.lit (.int .i64 0),.sl true 1 [],.lit (.int .i64 0),.lit (.int .i64 0),.lit (.int .i64 0)]:=rfl
theorem zr150:ZerOk Try.prog (150,.lit (.int .u64 0)):=fun v h=>by
  rw [show zeroT Try.prog 150=some (.int .u64 0) from by kernel_rfl] at h;cases h;exact .lit _
theorem zv150:zer 150= .lit (.int .u64 0):=rfl
theorem zr152:ZerOk Try.prog (152,.agg [.lit (.string ByteArray.empty),.sl true 1 [],.lit (.string ByteArray.empty)]):=fun v h=>by
  rw [show zeroT Try.prog 152=some (.agg #[(.string ByteArray.empty),(.slice none 0 0),(.string ByteArray.empty)]) from by kernel_rfl] at h;cases h
  exact zr_agg _ _ (zl_cons (.lit _) rfl (zl_cons (.nil _ _ _) rfl (zl_cons (.lit _) rfl (zl_nil))))
theorem zv152:zer 152= .agg [.lit (.string ByteArray.empty),.sl true 1 [],.lit (.string ByteArray.empty)]:=rfl
theorem zr153:ZerOk Try.prog (153,.agg [.lit (.string ByteArray.empty),.sl true 1 [],.lit (.string ByteArray.empty)]):=fun v h=>by
  rw [show zeroT Try.prog 153=some (.agg #[(.string ByteArray.empty),(.slice none 0 0),(.string ByteArray.empty)]) from by kernel_rfl] at h;cases h
  exact zr_agg _ _ (zl_cons (.lit _) rfl (zl_cons (.nil _ _ _) rfl (zl_cons (.lit _) rfl (zl_nil))))
theorem zv153:zer 153= .agg [.lit (.string ByteArray.empty),.sl true 1 [],.lit (.string ByteArray.empty)]:=rfl
theorem zr154:ZerOk Try.prog (154,.agg [.lit (.string ByteArray.empty),.sl true 1 [],.lit (.string ByteArray.empty),.lit (.string ByteArray.empty),.sl true 1 [],.lit (.string ByteArray.empty),.lit (.string ByteArray.empty),.sl true 1 [],.lit (.string ByteArray.empty),.lit (.string ByteArray.empty),.sl true 1 [],.lit (.string ByteArray.empty),.lit (.string ByteArray.empty),.sl true 1 [],.lit (.string ByteArray.empty),.lit (.string ByteArray.empty),.sl true 1 [],.lit (.string ByteArray.empty),.lit (.string ByteArray.empty),.sl true 1 [],.lit (.string ByteArray.empty),.lit (.string ByteArray.empty),.sl true 1 [],.lit (.string ByteArray.empty),.lit (.string ByteArray.empty),.sl true 1 [],.lit (.string ByteArray.empty),.lit (.string ByteArray.empty),.sl true 1 [],.lit (.string ByteArray.empty),.lit (.string ByteArray.empty),.sl true 1 [],.lit (.string ByteArray.empty),.lit (.string ByteArray.empty),.sl true 1 [],.lit (.string ByteArray.empty),.lit (.string ByteArray.empty),.sl true 1 [],.lit (.string ByteArray.empty),.lit (.string ByteArray.empty),.sl true 1 [],.lit (.string ByteArray.empty),.lit (.string ByteArray.empty),.sl true 1 [],.lit (.string ByteArray.empty),.lit (.string ByteArray.empty),.sl true 1 [],.lit (.string ByteArray.empty),.lit (.string ByteArray.empty),.sl true 1 [],.lit (.string ByteArray.empty),.lit (.string ByteArray.empty),.sl true 1 [],.lit (.string ByteArray.empty),.lit (.string ByteArray.empty),.sl true 1 [],.lit (.string ByteArray.empty),.lit (.string ByteArray.empty),.sl true 1 [],.lit (.string ByteArray.empty),.lit (.string ByteArray.empty),.sl true 1 [],.lit (.string ByteArray.empty),.lit (.string ByteArray.empty),.sl true 1 [],.lit (.string ByteArray.empty)]):=fun v h=>by
  rw [show zeroT Try.prog 154=some (.agg #[(.string ByteArray.empty),(.slice none 0 0),(.string ByteArray.empty),(.string ByteArray.empty),(.slice none 0 0),(.string ByteArray.empty),(.string ByteArray.empty),(.slice none 0 0),(.string ByteArray.empty),(.string ByteArray.empty),(.slice none 0 0),(.string ByteArray.empty),(.string ByteArray.empty),(.slice none 0 0),(.string ByteArray.empty),(.string ByteArray.empty),(.slice none 0 0),(.string ByteArray.empty),(.string ByteArray.empty),(.slice none 0 0),(.string ByteArray.empty),(.string ByteArray.empty),(.slice none 0 0),(.string ByteArray.empty),(.string ByteArray.empty),(.slice none 0 0),(.string ByteArray.empty),(.string ByteArray.empty),(.slice none 0 0),(.string ByteArray.empty),(.string ByteArray.empty),(.slice none 0 0),(.string ByteArray.empty),(.string ByteArray.empty),(.slice none 0 0),(.string ByteArray.empty),(.string ByteArray.empty),(.slice none 0 0),(.string ByteArray.empty),(.string ByteArray.empty),(.slice none 0 0),(.string ByteArray.empty),(.string ByteArray.empty),(.slice none 0 0),(.string ByteArray.empty),(.string ByteArray.empty),(.slice none 0 0),(.string ByteArray.empty),(.string ByteArray.empty),(.slice none 0 0),(.string ByteArray.empty),(.string ByteArray.empty),(.slice none 0 0),(.string ByteArray.empty),(.string ByteArray.empty),(.slice none 0 0),(.string ByteArray.empty),(.string ByteArray.empty),(.slice none 0 0),(.string ByteArray.empty),(.string ByteArray.empty),(.slice none 0 0),(.string ByteArray.empty),(.string ByteArray.empty),(.slice none 0 0),(.string ByteArray.empty)]) from by kernel_rfl] at h;cases h
  exact zr_agg _ _ (zl_cons (.lit _) rfl (zl_cons (.nil _ _ _) rfl (zl_cons (.lit _) rfl (zl_cons (.lit _) rfl (zl_cons (.nil _ _ _) rfl (zl_cons (.lit _) rfl (zl_cons (.lit _) rfl (zl_cons (.nil _ _ _) rfl (zl_cons (.lit _) rfl (zl_cons (.lit _) rfl (zl_cons (.nil _ _ _) rfl (zl_cons (.lit _) rfl (zl_cons (.lit _) rfl (zl_cons (.nil _ _ _) rfl (zl_cons (.lit _) rfl (zl_cons (.lit _) rfl (zl_cons (.nil _ _ _) rfl (zl_cons (.lit _) rfl (zl_cons (.lit _) rfl (zl_cons (.nil _ _ _) rfl (zl_cons (.lit _) rfl (zl_cons (.lit _) rfl (zl_cons (.nil _ _ _) rfl (zl_cons (.lit _) rfl (zl_cons (.lit _) rfl (zl_cons (.nil _ _ _) rfl (zl_cons (.lit _) rfl (zl_cons (.lit _) rfl (zl_cons (.nil _ _ _) rfl (zl_cons (.lit _) rfl (zl_cons (.lit _) rfl (zl_cons (.nil _ _ _) rfl (zl_cons (.lit _) rfl (zl_cons (.lit _) rfl (zl_cons (.nil _ _ _) rfl (zl_cons (.lit _) rfl (zl_cons (.lit _) rfl (zl_cons (.nil _ _ _) rfl (zl_cons (.lit _) rfl (zl_cons (.lit _) rfl (zl_cons (.nil _ _ _) rfl (zl_cons (.lit _) rfl (zl_cons (.lit _) rfl (zl_cons (.nil _ _ _) rfl (zl_cons (.lit _) rfl (zl_cons (.lit _) rfl (zl_cons (.nil _ _ _) rfl (zl_cons (.lit _) rfl (zl_cons (.lit _) rfl (zl_cons (.nil _ _ _) rfl (zl_cons (.lit _) rfl (zl_cons (.lit _) rfl (zl_cons (.nil _ _ _) rfl (zl_cons (.lit _) rfl (zl_cons (.lit _) rfl (zl_cons (.nil _ _ _) rfl (zl_cons (.lit _) rfl (zl_cons (.lit _) rfl (zl_cons (.nil _ _ _) rfl (zl_cons (.lit _) rfl (zl_cons (.lit _) rfl (zl_cons (.nil _ _ _) rfl (zl_cons (.lit _) rfl (zl_cons (.lit _) rfl (zl_cons (.nil _ _ _) rfl (zl_cons (.lit _) rfl (zl_nil)))))))))))))))))))))))))))))))))))))))))))))))))))))))))))))))))))
theorem zv154:zer 154= .agg [.lit (.string ByteArray.empty),.sl true 1 [],.lit (.string ByteArray.empty),.lit (.string ByteArray.empty),.sl true 1 [],.lit (.string ByteArray.empty),.lit (.string ByteArray.empty),.sl true 1 [],.lit (.string ByteArray.empty),.lit (.string ByteArray.empty),.sl true 1 [],.lit (.string ByteArray.empty),.lit (.string ByteArray.empty),.sl true 1 [],.lit (.string ByteArray.empty),.lit (.string ByteArray.empty),.sl true 1 [],.lit (.string ByteArray.empty),.lit (.string ByteArray.empty),.sl true 1 [],.lit (.string ByteArray.empty),.lit (.string ByteArray.empty),.sl true 1 [],.lit (.string ByteArray.empty),.lit (.string ByteArray.empty),.sl true 1 [],.lit (.string ByteArray.empty),.lit (.string ByteArray.empty),.sl true 1 [],.lit (.string ByteArray.empty),.lit (.string ByteArray.empty),.sl true 1 [],.lit (.string ByteArray.empty),.lit (.string ByteArray.empty),.sl true 1 [],.lit (.string ByteArray.empty),.lit (.string ByteArray.empty),.sl true 1 [],.lit (.string ByteArray.empty),.lit (.string ByteArray.empty),.sl true 1 [],.lit (.string ByteArray.empty),.lit (.string ByteArray.empty),.sl true 1 [],.lit (.string ByteArray.empty),.lit (.string ByteArray.empty),.sl true 1 [],.lit (.string ByteArray.empty),.lit (.string ByteArray.empty),.sl true 1 [],.lit (.string ByteArray.empty),.lit (.string ByteArray.empty),.sl true 1 [],.lit (.string ByteArray.empty),.lit (.string ByteArray.empty),.sl true 1 [],.lit (.string ByteArray.empty),.lit (.string ByteArray.empty),.sl true 1 [],.lit (.string ByteArray.empty),.lit (.string ByteArray.empty),.sl true 1 [],.lit (.string ByteArray.empty),.lit (.string ByteArray.empty),.sl true 1 [],.lit (.string ByteArray.empty)]:=rfl
theorem zr160:ZerOk Try.prog (160,.agg [.lit (.int .i64 0),.lit (.int .i64 0),.lit (.int .i64 0),.lit (.int .i64 0)]):=fun v h=>by
  rw [show zeroT Try.prog 160=some (.agg #[(.int .i64 0),(.int .i64 0),(.int .i64 0),(.int .i64 0)]) from by kernel_rfl] at h;cases h
  exact zr_agg _ _ (zl_cons (.lit _) rfl (zl_cons (.lit _) rfl (zl_cons (.lit _) rfl (zl_cons (.lit _) rfl (zl_nil)))))
theorem zv160:zer 160= .agg [.lit (.int .i64 0),.lit (.int .i64 0),.lit (.int .i64 0),.lit (.int .i64 0)]:=rfl
theorem zr163:ZerOk Try.prog (163,.agg [.lit (.string ByteArray.empty),.sl true 1 [],.lit (.bool false),.sl true 1 []]):=fun v h=>by
  rw [show zeroT Try.prog 163=some (.agg #[(.string ByteArray.empty),(.slice none 0 0),(.bool false),(.slice none 0 0)]) from by kernel_rfl] at h;cases h
  exact zr_agg _ _ (zl_cons (.lit _) rfl (zl_cons (.nil _ _ _) rfl (zl_cons (.lit _) rfl (zl_cons (.nil _ _ _) rfl (zl_nil)))))
theorem zv163:zer 163= .agg [.lit (.string ByteArray.empty),.sl true 1 [],.lit (.bool false),.sl true 1 []]:=rfl
theorem zr164:ZerOk Try.prog (164,.agg [.lit (.string ByteArray.empty),.sl true 1 [],.lit (.bool false),.sl true 1 []]):=fun v h=>by
  rw [show zeroT Try.prog 164=some (.agg #[(.string ByteArray.empty),(.slice none 0 0),(.bool false),(.slice none 0 0)]) from by kernel_rfl] at h;cases h
  exact zr_agg _ _ (zl_cons (.lit _) rfl (zl_cons (.nil _ _ _) rfl (zl_cons (.lit _) rfl (zl_cons (.nil _ _ _) rfl (zl_nil)))))
theorem zv164:zer 164= .agg [.lit (.string ByteArray.empty),.sl true 1 [],.lit (.bool false),.sl true 1 []]:=rfl
theorem zr168:ZerOk Try.prog (168,.sl true 1 []):=fun v h=>by
  rw [show zeroT Try.prog 168=some (.slice none 0 0) from by kernel_rfl] at h;cases h;exact .nil _ _ _
theorem zv168:zer 168= .sl true 1 []:=rfl
theorem zr175:ZerOk Try.prog (175,.agg [.lit (.string ByteArray.empty),.sl true 1 [],.lit (.bool false),.sl true 1 [],.lit (.string ByteArray.empty),.sl true 1 [],.lit (.bool false),.sl true 1 [],.lit (.string ByteArray.empty),.sl true 1 [],.lit (.bool false),.sl true 1 [],.lit (.string ByteArray.empty),.sl true 1 [],.lit (.bool false),.sl true 1 [],.lit (.string ByteArray.empty),.sl true 1 [],.lit (.bool false),.sl true 1 [],.lit (.string ByteArray.empty),.sl true 1 [],.lit (.bool false),.sl true 1 [],.lit (.string ByteArray.empty),.sl true 1 [],.lit (.bool false),.sl true 1 [],.lit (.string ByteArray.empty),.sl true 1 [],.lit (.bool false),.sl true 1 [],.lit (.string ByteArray.empty),.sl true 1 [],.lit (.bool false),.sl true 1 [],.lit (.string ByteArray.empty),.sl true 1 [],.lit (.bool false),.sl true 1 [],.lit (.string ByteArray.empty),.sl true 1 [],.lit (.bool false),.sl true 1 [],.lit (.string ByteArray.empty),.sl true 1 [],.lit (.bool false),.sl true 1 [],.lit (.string ByteArray.empty),.sl true 1 [],.lit (.bool false),.sl true 1 [],.lit (.string ByteArray.empty),.sl true 1 [],.lit (.bool false),.sl true 1 [],.lit (.string ByteArray.empty),.sl true 1 [],.lit (.bool false),.sl true 1 [],.lit (.string ByteArray.empty),.sl true 1 [],.lit (.bool false),.sl true 1 []]):=fun v h=>by
  rw [show zeroT Try.prog 175=some (.agg #[(.string ByteArray.empty),(.slice none 0 0),(.bool false),(.slice none 0 0),(.string ByteArray.empty),(.slice none 0 0),(.bool false),(.slice none 0 0),(.string ByteArray.empty),(.slice none 0 0),(.bool false),(.slice none 0 0),(.string ByteArray.empty),(.slice none 0 0),(.bool false),(.slice none 0 0),(.string ByteArray.empty),(.slice none 0 0),(.bool false),(.slice none 0 0),(.string ByteArray.empty),(.slice none 0 0),(.bool false),(.slice none 0 0),(.string ByteArray.empty),(.slice none 0 0),(.bool false),(.slice none 0 0),(.string ByteArray.empty),(.slice none 0 0),(.bool false),(.slice none 0 0),(.string ByteArray.empty),(.slice none 0 0),(.bool false),(.slice none 0 0),(.string ByteArray.empty),(.slice none 0 0),(.bool false),(.slice none 0 0),(.string ByteArray.empty),(.slice none 0 0),(.bool false),(.slice none 0 0),(.string ByteArray.empty),(.slice none 0 0),(.bool false),(.slice none 0 0),(.string ByteArray.empty),(.slice none 0 0),(.bool false),(.slice none 0 0),(.string ByteArray.empty),(.slice none 0 0),(.bool false),(.slice none 0 0),(.string ByteArray.empty),(.slice none 0 0),(.bool false),(.slice none 0 0),(.string ByteArray.empty),(.slice none 0 0),(.bool false),(.slice none 0 0)]) from by kernel_rfl] at h;cases h
  exact zr_agg _ _ (zl_cons (.lit _) rfl (zl_cons (.nil _ _ _) rfl (zl_cons (.lit _) rfl (zl_cons (.nil _ _ _) rfl (zl_cons (.lit _) rfl (zl_cons (.nil _ _ _) rfl (zl_cons (.lit _) rfl (zl_cons (.nil _ _ _) rfl (zl_cons (.lit _) rfl (zl_cons (.nil _ _ _) rfl (zl_cons (.lit _) rfl (zl_cons (.nil _ _ _) rfl (zl_cons (.lit _) rfl (zl_cons (.nil _ _ _) rfl (zl_cons (.lit _) rfl (zl_cons (.nil _ _ _) rfl (zl_cons (.lit _) rfl (zl_cons (.nil _ _ _) rfl (zl_cons (.lit _) rfl (zl_cons (.nil _ _ _) rfl (zl_cons (.lit _) rfl (zl_cons (.nil _ _ _) rfl (zl_cons (.lit _) rfl (zl_cons (.nil _ _ _) rfl (zl_cons (.lit _) rfl (zl_cons (.nil _ _ _) rfl (zl_cons (.lit _) rfl (zl_cons (.nil _ _ _) rfl (zl_cons (.lit _) rfl (zl_cons (.nil _ _ _) rfl (zl_cons (.lit _) rfl (zl_cons (.nil _ _ _) rfl (zl_cons (.lit _) rfl (zl_cons (.nil _ _ _) rfl (zl_cons (.lit _) rfl (zl_cons (.nil _ _ _) rfl (zl_cons (.lit _) rfl (zl_cons (.nil _ _ _) rfl (zl_cons (.lit _) rfl (zl_cons (.nil _ _ _) rfl (zl_cons (.lit _) rfl (zl_cons (.nil _ _ _) rfl (zl_cons (.lit _) rfl (zl_cons (.nil _ _ _) rfl (zl_cons (.lit _) rfl (zl_cons (.nil _ _ _) rfl (zl_cons (.lit _) rfl (zl_cons (.nil _ _ _) rfl (zl_cons (.lit _) rfl (zl_cons (.nil _ _ _) rfl (zl_cons (.lit _) rfl (zl_cons (.nil _ _ _) rfl (zl_cons (.lit _) rfl (zl_cons (.nil _ _ _) rfl (zl_cons (.lit _) rfl (zl_cons (.nil _ _ _) rfl (zl_cons (.lit _) rfl (zl_cons (.nil _ _ _) rfl (zl_cons (.lit _) rfl (zl_cons (.nil _ _ _) rfl (zl_cons (.lit _) rfl (zl_cons (.nil _ _ _) rfl (zl_cons (.lit _) rfl (zl_cons (.nil _ _ _) rfl (zl_nil)))))))))))))))))))))))))))))))))))))))))))))))))))))))))))))))))
theorem zv175:zer 175= .agg [.lit (.string ByteArray.empty),.sl true 1 [],.lit (.bool false),.sl true 1 [],.lit (.string ByteArray.empty),.sl true 1 [],.lit (.bool false),.sl true 1 [],.lit (.string ByteArray.empty),.sl true 1 [],.lit (.bool false),.sl true 1 [],.lit (.string ByteArray.empty),.sl true 1 [],.lit (.bool false),.sl true 1 [],.lit (.string ByteArray.empty),.sl true 1 [],.lit (.bool false),.sl true 1 [],.lit (.string ByteArray.empty),.sl true 1 [],.lit (.bool false),.sl true 1 [],.lit (.string ByteArray.empty),.sl true 1 [],.lit (.bool false),.sl true 1 [],.lit (.string ByteArray.empty),.sl true 1 [],.lit (.bool false),.sl true 1 [],.lit (.string ByteArray.empty),.sl true 1 [],.lit (.bool false),.sl true 1 [],.lit (.string ByteArray.empty),.sl true 1 [],.lit (.bool false),.sl true 1 [],.lit (.string ByteArray.empty),.sl true 1 [],.lit (.bool false),.sl true 1 [],.lit (.string ByteArray.empty),.sl true 1 [],.lit (.bool false),.sl true 1 [],.lit (.string ByteArray.empty),.sl true 1 [],.lit (.bool false),.sl true 1 [],.lit (.string ByteArray.empty),.sl true 1 [],.lit (.bool false),.sl true 1 [],.lit (.string ByteArray.empty),.sl true 1 [],.lit (.bool false),.sl true 1 [],.lit (.string ByteArray.empty),.sl true 1 [],.lit (.bool false),.sl true 1 []]:=rfl
theorem zr180:ZerOk Try.prog (180,.agg [.lit .nilFunc,.lit .nilFunc,.lit .nilFunc,.lit .nilFunc,.lit .nilFunc,.lit .nilFunc,.lit .nilFunc,.lit .nilFunc,.lit .nilFunc,.lit .nilFunc,.lit .nilFunc,.lit .nilFunc,.lit .nilFunc,.lit .nilFunc,.lit .nilFunc,.lit .nilFunc]):=fun v h=>by
  rw [show zeroT Try.prog 180=some (.agg #[.nilFunc,.nilFunc,.nilFunc,.nilFunc,.nilFunc,.nilFunc,.nilFunc,.nilFunc,.nilFunc,.nilFunc,.nilFunc,.nilFunc,.nilFunc,.nilFunc,.nilFunc,.nilFunc]) from by kernel_rfl] at h;cases h
  exact zr_agg _ _ (zl_cons (.lit _) rfl (zl_cons (.lit _) rfl (zl_cons (.lit _) rfl (zl_cons (.lit _) rfl (zl_cons (.lit _) rfl (zl_cons (.lit _) rfl (zl_cons (.lit _) rfl (zl_cons (.lit _) rfl (zl_cons (.lit _) rfl (zl_cons (.lit _) rfl (zl_cons (.lit _) rfl (zl_cons (.lit _) rfl (zl_cons (.lit _) rfl (zl_cons (.lit _) rfl (zl_cons (.lit _) rfl (zl_cons (.lit _) rfl (zl_nil)))))))))))))))))
theorem zv180:zer 180= .agg [.lit .nilFunc,.lit .nilFunc,.lit .nilFunc,.lit .nilFunc,.lit .nilFunc,.lit .nilFunc,.lit .nilFunc,.lit .nilFunc,.lit .nilFunc,.lit .nilFunc,.lit .nilFunc,.lit .nilFunc,.lit .nilFunc,.lit .nilFunc,.lit .nilFunc,.lit .nilFunc]:=rfl
theorem zr185:ZerOk Try.prog (185,.lit (.int .i64 0)):=fun v h=>by
  rw [show zeroT Try.prog 185=some (.int .i64 0) from by kernel_rfl] at h;cases h;exact .lit _
theorem zv185:zer 185= .lit (.int .i64 0):=rfl
theorem zr193:ZerOk Try.prog (193,.lit (.int .u32 0)):=fun v h=>by
  rw [show zeroT Try.prog 193=some (.int .u32 0) from by kernel_rfl] at h;cases h;exact .lit _
theorem zv193:zer 193= .lit (.int .u32 0):=rfl
theorem zr195:ZerOk Try.prog (195,.lit (.int .u64 0)):=fun v h=>by
  rw [show zeroT Try.prog 195=some (.int .u64 0) from by kernel_rfl] at h;cases h;exact .lit _
theorem zv195:zer 195= .lit (.int .u64 0):=rfl
theorem zr201:ZerOk Try.prog (201,.lit (.int .u64 0)):=fun v h=>by
  rw [show zeroT Try.prog 201=some (.int .u64 0) from by kernel_rfl] at h;cases h;exact .lit _
theorem zv201:zer 201= .lit (.int .u64 0):=rfl
theorem zr205:ZerOk Try.prog (205,.lit (.pointer none)):=fun v h=>by
  rw [show zeroT Try.prog 205=some (.pointer none) from by kernel_rfl] at h;cases h;exact .lit _
theorem zv205:zer 205= .lit (.pointer none):=rfl
theorem zr210:ZerOk Try.prog (210,.lit (.pointer none)):=fun v h=>by
  rw [show zeroT Try.prog 210=some (.pointer none) from by kernel_rfl] at h;cases h;exact .lit _
theorem zv210:zer 210= .lit (.pointer none):=rfl
theorem zr216:ZerOk Try.prog (216,.agg [.lit (.pointer none),.lit (.pointer none),.lit (.pointer none),.lit (.string ByteArray.empty)]):=fun v h=>by
  rw [show zeroT Try.prog 216=some (.agg #[(.pointer none),(.pointer none),(.pointer none),(.string ByteArray.empty)]) from by kernel_rfl] at h;cases h
  exact zr_agg _ _ (zl_cons (.lit _) rfl (zl_cons (.lit _) rfl (zl_cons (.lit _) rfl (zl_cons (.lit _) rfl (zl_nil)))))
theorem zv216:zer 216= .agg [.lit (.pointer none),.lit (.pointer none),.lit (.pointer none),.lit (.string ByteArray.empty)]:=rfl
theorem zr217:ZerOk Try.prog (217,.agg [.lit (.pointer none),.lit (.pointer none),.lit (.pointer none),.lit (.string ByteArray.empty)]):=fun v h=>by
  rw [show zeroT Try.prog 217=some (.agg #[(.pointer none),(.pointer none),(.pointer none),(.string ByteArray.empty)]) from by kernel_rfl] at h;cases h
  exact zr_agg _ _ (zl_cons (.lit _) rfl (zl_cons (.lit _) rfl (zl_cons (.lit _) rfl (zl_cons (.lit _) rfl (zl_nil)))))
theorem zv217:zer 217= .agg [.lit (.pointer none),.lit (.pointer none),.lit (.pointer none),.lit (.string ByteArray.empty)]:=rfl
theorem zr222:ZerOk Try.prog (222,.lit (.int .u8 0)):=fun v h=>by
  rw [show zeroT Try.prog 222=some (.int .u8 0) from by kernel_rfl] at h;cases h;exact .lit _
theorem zv222:zer 222= .lit (.int .u8 0):=rfl
theorem zr223:ZerOk Try.prog (223,.lit (.int .u8 0)):=fun v h=>by
  rw [show zeroT Try.prog 223=some (.int .u8 0) from by kernel_rfl] at h;cases h;exact .lit _
theorem zv223:zer 223= .lit (.int .u8 0):=rfl
theorem zr225:ZerOk Try.prog (225,.lit (.pointer none)):=fun v h=>by
  rw [show zeroT Try.prog 225=some (.pointer none) from by kernel_rfl] at h;cases h;exact .lit _
theorem zv225:zer 225= .lit (.pointer none):=rfl
theorem zr226:ZerOk Try.prog (226,.lit (.int .i32 0)):=fun v h=>by
  rw [show zeroT Try.prog 226=some (.int .i32 0) from by kernel_rfl] at h;cases h;exact .lit _
theorem zv226:zer 226= .lit (.int .i32 0):=rfl
theorem zr227:ZerOk Try.prog (227,.lit (.int .i32 0)):=fun v h=>by
  rw [show zeroT Try.prog 227=some (.int .i32 0) from by kernel_rfl] at h;cases h;exact .lit _
theorem zv227:zer 227= .lit (.int .i32 0):=rfl
theorem zr228:ZerOk Try.prog (228,.agg [.lit (.int .u64 0),.lit (.int .u64 0),.lit (.int .u32 0),.lit (.int .u8 0),.lit (.int .u8 0),.lit (.int .u8 0),.lit (.int .u8 0),.lit .nilFunc,.lit (.pointer none),.lit (.int .i32 0),.lit (.int .i32 0)]):=fun v h=>by
  rw [show zeroT Try.prog 228=some (.agg #[(.int .u64 0),(.int .u64 0),(.int .u32 0),(.int .u8 0),(.int .u8 0),(.int .u8 0),(.int .u8 0),.nilFunc,(.pointer none),(.int .i32 0),(.int .i32 0)]) from by kernel_rfl] at h;cases h
  exact zr_agg _ _ (zl_cons (.lit _) rfl (zl_cons (.lit _) rfl (zl_cons (.lit _) rfl (zl_cons (.lit _) rfl (zl_cons (.lit _) rfl (zl_cons (.lit _) rfl (zl_cons (.lit _) rfl (zl_cons (.lit _) rfl (zl_cons (.lit _) rfl (zl_cons (.lit _) rfl (zl_cons (.lit _) rfl (zl_nil))))))))))))
theorem zv228:zer 228= .agg [.lit (.int .u64 0),.lit (.int .u64 0),.lit (.int .u32 0),.lit (.int .u8 0),.lit (.int .u8 0),.lit (.int .u8 0),.lit (.int .u8 0),.lit .nilFunc,.lit (.pointer none),.lit (.int .i32 0),.lit (.int .i32 0)]:=rfl
theorem zr229:ZerOk Try.prog (229,.agg [.lit (.int .u64 0),.lit (.int .u64 0),.lit (.int .u32 0),.lit (.int .u8 0),.lit (.int .u8 0),.lit (.int .u8 0),.lit (.int .u8 0),.lit .nilFunc,.lit (.pointer none),.lit (.int .i32 0),.lit (.int .i32 0)]):=fun v h=>by
  rw [show zeroT Try.prog 229=some (.agg #[(.int .u64 0),(.int .u64 0),(.int .u32 0),(.int .u8 0),(.int .u8 0),(.int .u8 0),(.int .u8 0),.nilFunc,(.pointer none),(.int .i32 0),(.int .i32 0)]) from by kernel_rfl] at h;cases h
  exact zr_agg _ _ (zl_cons (.lit _) rfl (zl_cons (.lit _) rfl (zl_cons (.lit _) rfl (zl_cons (.lit _) rfl (zl_cons (.lit _) rfl (zl_cons (.lit _) rfl (zl_cons (.lit _) rfl (zl_cons (.lit _) rfl (zl_cons (.lit _) rfl (zl_cons (.lit _) rfl (zl_cons (.lit _) rfl (zl_nil))))))))))))
theorem zv229:zer 229= .agg [.lit (.int .u64 0),.lit (.int .u64 0),.lit (.int .u32 0),.lit (.int .u8 0),.lit (.int .u8 0),.lit (.int .u8 0),.lit (.int .u8 0),.lit .nilFunc,.lit (.pointer none),.lit (.int .i32 0),.lit (.int .i32 0)]:=rfl
theorem zer_ok:∀ t v,zeroT Try.prog t=some v→RC (fun _ _=>none) (zer t) v:=zer_sound zerL (zs_cons zr2 (zs_cons zr3 (zs_cons zr4 (zs_cons zr5 (zs_cons zr6 (zs_cons zr7 (zs_cons zr8 (zs_cons zr9 (zs_cons zr10 (zs_cons zr11 (zs_cons zr12 (zs_cons zr13 (zs_cons zr14 (zs_cons zr15 (zs_cons zr16 (zs_cons zr17 (zs_cons zr18 (zs_cons zr19 (zs_cons zr21 (zs_cons zr22 (zs_cons zr23 (zs_cons zr24 (zs_cons zr26 (zs_cons zr27 (zs_cons zr28 (zs_cons zr29 (zs_cons zr34 (zs_cons zr38 (zs_cons zr39 (zs_cons zr41 (zs_cons zr42 (zs_cons zr43 (zs_cons zr44 (zs_cons zr45 (zs_cons zr47 (zs_cons zr52 (zs_cons zr53 (zs_cons zr54 (zs_cons zr55 (zs_cons zr56 (zs_cons zr59 (zs_cons zr64 (zs_cons zr66 (zs_cons zr67 (zs_cons zr71 (zs_cons zr72 (zs_cons zr73 (zs_cons zr75 (zs_cons zr81 (zs_cons zr84 (zs_cons zr95 (zs_cons zr96 (zs_cons zr98 (zs_cons zr99 (zs_cons zr103 (zs_cons zr104 (zs_cons zr105 (zs_cons zr106 (zs_cons zr115 (zs_cons zr119 (zs_cons zr120 (zs_cons zr150 (zs_cons zr152 (zs_cons zr153 (zs_cons zr154 (zs_cons zr160 (zs_cons zr163 (zs_cons zr164 (zs_cons zr168 (zs_cons zr175 (zs_cons zr180 (zs_cons zr185 (zs_cons zr193 (zs_cons zr195 (zs_cons zr201 (zs_cons zr205 (zs_cons zr210 (zs_cons zr216 (zs_cons zr217 (zs_cons zr222 (zs_cons zr223 (zs_cons zr225 (zs_cons zr226 (zs_cons zr227 (zs_cons zr228 (zs_cons zr229 (zs_nil)))))))))))))))))))))))))))))))))))))))))))))))))))))))))))))))))))))))))))))))))))))))
theorem mixed:Try.prog.follows .mixedOrders=true:=by kernel_rfl
theorem fk9:fok Try.prog 9=true:=by kernel_rfl
theorem fk10:fok Try.prog 10=true:=by kernel_rfl
theorem fk13:fok Try.prog 13=true:=by kernel_rfl
theorem fk15:fok Try.prog 15=true:=by kernel_rfl
theorem fk16:fok Try.prog 16=true:=by kernel_rfl
theorem fk19:fok Try.prog 19=true:=by kernel_rfl
theorem fk26:fok Try.prog 26=true:=by kernel_rfl
theorem fk27:fok Try.prog 27=true:=by kernel_rfl
theorem fk28:fok Try.prog 28=true:=by kernel_rfl
theorem fk29:fok Try.prog 29=true:=by kernel_rfl
theorem fk31:fok Try.prog 31=true:=by kernel_rfl
theorem fk38:fok Try.prog 38=true:=by kernel_rfl
theorem fk40:fok Try.prog 40=true:=by kernel_rfl
theorem fk42:fok Try.prog 42=true:=by kernel_rfl
theorem fk43:fok Try.prog 43=true:=by kernel_rfl
theorem fk45:fok Try.prog 45=true:=by kernel_rfl
theorem fk46:fok Try.prog 46=true:=by kernel_rfl
theorem fk59:fok Try.prog 59=true:=by kernel_rfl
theorem fk60:fok Try.prog 60=true:=by kernel_rfl
theorem fk61:fok Try.prog 61=true:=by kernel_rfl
theorem fk62:fok Try.prog 62=true:=by kernel_rfl
theorem fk63:fok Try.prog 63=true:=by kernel_rfl
theorem fk64:fok Try.prog 64=true:=by kernel_rfl
theorem fk65:fok Try.prog 65=true:=by kernel_rfl
theorem fk66:fok Try.prog 66=true:=by kernel_rfl
theorem fk67:fok Try.prog 67=true:=by kernel_rfl
theorem fk68:fok Try.prog 68=true:=by kernel_rfl
theorem fk69:fok Try.prog 69=true:=by kernel_rfl
theorem fk70:fok Try.prog 70=true:=by kernel_rfl
theorem fk71:fok Try.prog 71=true:=by kernel_rfl
theorem fk72:fok Try.prog 72=true:=by kernel_rfl
theorem fk73:fok Try.prog 73=true:=by kernel_rfl
theorem fk76:fok Try.prog 76=true:=by kernel_rfl
theorem fk77:fok Try.prog 77=true:=by kernel_rfl
theorem fk78:fok Try.prog 78=true:=by kernel_rfl
theorem fk79:fok Try.prog 79=true:=by kernel_rfl
theorem fk80:fok Try.prog 80=true:=by kernel_rfl
theorem fk81:fok Try.prog 81=true:=by kernel_rfl
theorem fk82:fok Try.prog 82=true:=by kernel_rfl
theorem fk83:fok Try.prog 83=true:=by kernel_rfl
theorem fk84:fok Try.prog 84=true:=by kernel_rfl
theorem fk85:fok Try.prog 85=true:=by kernel_rfl
theorem fk86:fok Try.prog 86=true:=by kernel_rfl
theorem fk87:fok Try.prog 87=true:=by kernel_rfl
theorem fk88:fok Try.prog 88=true:=by kernel_rfl
theorem fk89:fok Try.prog 89=true:=by kernel_rfl
theorem fk90:fok Try.prog 90=true:=by kernel_rfl
theorem fk91:fok Try.prog 91=true:=by kernel_rfl
theorem fk103:fok Try.prog 103=true:=by kernel_rfl
theorem fk104:fok Try.prog 104=true:=by kernel_rfl
theorem fk105:fok Try.prog 105=true:=by kernel_rfl
theorem fk106:fok Try.prog 106=true:=by kernel_rfl
theorem fk107:fok Try.prog 107=true:=by kernel_rfl
theorem fk108:fok Try.prog 108=true:=by kernel_rfl
theorem fk109:fok Try.prog 109=true:=by kernel_rfl
theorem fk110:fok Try.prog 110=true:=by kernel_rfl
theorem fk111:fok Try.prog 111=true:=by kernel_rfl
theorem fk112:fok Try.prog 112=true:=by kernel_rfl
theorem fk113:fok Try.prog 113=true:=by kernel_rfl
theorem fk114:fok Try.prog 114=true:=by kernel_rfl
theorem fk115:fok Try.prog 115=true:=by kernel_rfl
theorem fk116:fok Try.prog 116=true:=by kernel_rfl
theorem fk117:fok Try.prog 117=true:=by kernel_rfl
theorem fk118:fok Try.prog 118=true:=by kernel_rfl
theorem fk119:fok Try.prog 119=true:=by kernel_rfl
theorem fk120:fok Try.prog 120=true:=by kernel_rfl
theorem fk121:fok Try.prog 121=true:=by kernel_rfl
theorem fk141:fok Try.prog 141=true:=by kernel_rfl
theorem fk142:fok Try.prog 142=true:=by kernel_rfl
theorem fk143:fok Try.prog 143=true:=by kernel_rfl
theorem fk165:fok Try.prog 165=true:=by kernel_rfl
attribute [go_sem] sz2 u3 sz3 u5 u9 u34 u41 u42 u43 ag45 sz73 ag73 sz96 ag96 sz99 ag99 zv2 zv3 zv4 zv5 zv6 zv7 zv8 zv9 zv10 zv11 zv12 zv13 zv14 zv15 zv16 zv17 zv18 zv19 zv21 zv22 zv23 zv24 zv26 zv27 zv28 zv29 zv34 zv38 zv39 zv41 zv42 zv43 zv44 zv45 zv47 zv52 zv53 zv54 zv55 zv56 zv59 zv64 zv66 zv67 zv71 zv72 zv73 zv75 zv81 zv84 zv95 zv96 zv98 zv99 zv103 zv104 zv105 zv106 zv115 zv119 zv120 zv150 zv152 zv153 zv154 zv160 zv163 zv164 zv168 zv175 zv180 zv185 zv193 zv195 zv201 zv205 zv210 zv216 zv217 zv222 zv223 zv225 zv226 zv227 zv228 zv229 g2 g3 g4 g5 g6 g7 g8 g9 g10 g11 g12 g13 g14 g15 g16 g17 g18 g19 g21 g22 g23 g24 g26 g27 g28 g29 g34 g38 g39 g41 g42 g43 g44 g45 g47 g52 g53 g54 g55 g56 g59 g64 g66 g67 g71 g72 g73 g75 g81 g84 g95 g96 g98 g99 g103 g104 g105 g106 g115 g119 g120 g150 g152 g153 g154 g160 g163 g164 g168 g175 g180 g185 g193 g195 g201 g205 g210 g216 g217 g218 g219 g220 g222 g223 g225 g226 g227 g228 g229 g20
end Go.Proofs.Ytnlimcijgpaegaa

namespace Go.Proofs.Ytnlimcijgpaegaa
def kp6 (i:Nat):List Nat:=if i<6 then if i<3 then if i<1 then [1,2] else if i<2 then [1,2,10] else [4] else if i<4 then [1,2,13] else if i<5 then [4] else [1,2,5,6] else if i<9 then if i<7 then [1,2,5,20] else if i<8 then [4] else [1,2,5] else if i<10 then [2,5] else if i<11 then [5,7,8] else [4]
def kp9 (i:Nat):List Nat:=if i<4 then if i<2 then if i<1 then [] else [1] else if i<3 then [1,2,3] else [1,2,3,4] else if i<6 then if i<5 then [1,2,3,4] else [2,3,4,5,6] else if i<7 then [2,3,4,5,6,7,8] else [0]
def kp10 (i:Nat):List Nat:=if i<3 then if i<1 then [0,1,4] else if i<2 then [0,1,4,11] else [4,5] else if i<5 then if i<4 then [0,1,4,6,7] else [0,1,4,6,19] else if i<6 then [4,5] else [4,5]
def kp13 (i:Nat):List Nat:=if i<1 then [1] else [2]
def kp15 (i:Nat):List Nat:=if i<5 then if i<2 then if i<1 then [1] else [1,8] else if i<3 then [2,3] else if i<4 then [1,10,11,12] else [1,10,11,12,13] else if i<7 then if i<6 then [1,4,5,10,11,12] else [1,4,10,11,12,30] else if i<8 then [2,3] else if i<9 then [1,10,11,12] else [2,3]
def kp16 (i:Nat):List Nat:=if i<14 then if i<7 then if i<3 then if i<1 then [0] else if i<2 then [0,9] else [2,3] else if i<5 then if i<4 then [0,4] else [0,4,5] else if i<6 then [0,4,5,6] else [0,4,5,6,16] else if i<10 then if i<8 then [0,4,5,6] else if i<9 then [0,4,5,6] else [0,4,5,6,27] else if i<12 then if i<11 then [0,4,5,6,27,28] else [0,4,5,6,27,28] else if i<13 then [0,4,5,6,33] else [2,3] else if i<21 then if i<17 then if i<15 then [0,4,5,6] else if i<16 then [0,4,5,6,27,38] else [0,4,5,6,55] else if i<19 then if i<18 then [2,3] else [0,4,5,6] else if i<20 then [0,4,5,6] else [0,4,5,6,71] else if i<24 then if i<22 then [0,4,5,6,75] else if i<23 then [2,3] else [0,4,5,6] else if i<26 then if i<25 then [0,4,5,6] else [4,92] else if i<27 then [2,3] else [2,3]
def kp19 (i:Nat):List Nat:=if i<6 then if i<3 then if i<1 then [1] else if i<2 then [1,10] else [2] else if i<4 then [1,3] else if i<5 then [1,5] else [1,5] else if i<9 then if i<7 then [5,35,36,37] else if i<8 then [5,35,36,37,38] else [5,6,7,35,36,37] else if i<11 then if i<10 then [5,6,35,36,37,49] else [5,35,36,37] else if i<12 then [5,35,36,37] else [2]
def kp26 (i:Nat):List Nat:=if i<5 then if i<2 then if i<1 then [0,1] else [1,5,7] else if i<3 then [1,5,24] else if i<4 then [4] else [5,25,26,27] else if i<8 then if i<6 then [5,25,26,27,28] else if i<7 then [5,8,9,25,26,27] else [5,25,26,27,55] else if i<9 then [4] else if i<10 then [5,25,26,27] else [4]
def kp27 (i:Nat):List Nat:=if i<1 then [] else [0]
def kp28 (i:Nat):List Nat:=if i<2 then if i<1 then [0,2] else [2,4] else if i<3 then [2,13] else if i<4 then [2] else [2]
def kp31 (i:Nat):List Nat:=if i<1 then [2,3] else [4]
def kp38 (i:Nat):List Nat:=if i<3 then if i<1 then [1,2] else if i<2 then [1,2,5] else [1,2,5,10] else if i<5 then if i<4 then [1,2,5] else [1,2,5,40] else if i<6 then [4] else [4]
def kp42 (i:Nat):List Nat:=if i<7 then if i<3 then if i<1 then [1] else if i<2 then [1,39] else [2] else if i<5 then if i<4 then [1,4] else [1,53] else if i<6 then [2] else [1,59,60,61] else if i<10 then if i<8 then [1,59,60,61,62] else if i<9 then [1,5,6,59,60,61] else [1,6,7,8,59,60,61] else if i<12 then if i<11 then [1,59,60,61,96] else [2] else if i<13 then [1,59,60,61] else [2]
def kp43 (i:Nat):List Nat:=if i<6 then if i<3 then if i<1 then [1,2,3] else if i<2 then [1,3,7] else [1,3,7,12] else if i<4 then [1,3,7,12,13] else if i<5 then [6] else [1,3,7,12,21] else if i<9 then if i<7 then [6] else if i<8 then [1,3,7,12,30] else [6] else if i<10 then [1,3,7,40] else if i<11 then [6] else [6]
def kp45 (i:Nat):List Nat:=if i<13 then if i<6 then if i<3 then if i<1 then [0] else if i<2 then [0,11] else [2,3] else if i<4 then [0,4,5] else if i<5 then [0,4,5,12,13,14] else [0,4,5,12,13,14,15] else if i<9 then if i<7 then [0,4,5,6,7,12,13,14] else if i<8 then [0,4,5,6,7,12,13,14] else [0,4,5,6,7,8,12,13,14] else if i<11 then if i<10 then [0,4,5,6,7,8,12,13,14,27] else [0,4,5,6,7,8,12,13,14,27,28] else if i<12 then [0,4,5,6,7,8,12,13,14,27,28] else [0,4,5,12,13,14] else if i<20 then if i<16 then if i<14 then [0,4,5,12,13,14,37] else if i<15 then [2,3] else [0,4,5,6,7,8,12,13,14,27,38] else if i<18 then if i<17 then [0,4,5,6,7,8,12,13,14,38] else [0,4,5,6,7,8,12,13,14,58] else if i<19 then [2,3] else [0,4,5,6,7,8,12,13,14] else if i<23 then if i<21 then [0,4,5,6,7,12,13,14] else if i<22 then [0,4,5,6,12,13,14,71] else [0,4,5,12,13,14] else if i<25 then if i<24 then [0,4,5,12,13,14] else [4,79] else if i<26 then [2,3] else [2,3]
def kp46 (i:Nat):List Nat:=if i<8 then if i<4 then if i<2 then if i<1 then [0,1,2,3] else [0,2,3,9] else if i<3 then [0,2,3,9,16] else [0,2,3,9] else if i<6 then if i<5 then [0,2,3,9,10] else [0,2,3,9,10] else if i<7 then [0,2,3,9,10,36] else [0,2,3,9,10,11,12] else if i<12 then if i<10 then if i<9 then [0,2,3,9,10,11,42] else [0,2,3,9] else if i<11 then [0,2,3,9,10,36,49] else [0,2,3,9] else if i<14 then if i<13 then [0,2,3,9,10,58] else [0,2,3,9] else if i<15 then [0,2,3,9] else [8]
def kp60 (i:Nat):List Nat:=if i<1 then [2,3] else [4]
def kp61 (i:Nat):List Nat:=if i<1 then [0] else [0]
def kp62 (i:Nat):List Nat:=if i<1 then [0,2] else [2]
def kp63 (i:Nat):List Nat:=if i<2 then if i<1 then [2,3,4] else [2,3,4,7] else if i<3 then [4] else [4]
def kp64 (i:Nat):List Nat:=if i<1 then [0,2] else [2]
def kp65 (i:Nat):List Nat:=if i<1 then [0,2] else if i<2 then [2,3,4] else [2]
def kp66 (i:Nat):List Nat:=if i<1 then [0,2] else [2]
def kp67 (i:Nat):List Nat:=if i<1 then [0,2] else [2]
def kp68 (i:Nat):List Nat:=if i<1 then [0,2] else [2]
def kp69 (i:Nat):List Nat:=if i<2 then if i<1 then [0,2] else [0,2,7] else if i<3 then [2] else [2]
def kp70 (i:Nat):List Nat:=if i<1 then [2] else [2]
def kp71 (i:Nat):List Nat:=if i<1 then [2] else [2]
def kp72 (i:Nat):List Nat:=if i<1 then [0,2] else [2]
def kp73 (i:Nat):List Nat:=if i<1 then [2,3,4] else [4]
def kp76 (i:Nat):List Nat:=if i<3 then if i<1 then [0,1] else if i<2 then [0,1,5] else [0,1,5,9] else if i<5 then if i<4 then [0,1,5] else [0,1,5,18] else if i<6 then [4] else [4]
def kp77 (i:Nat):List Nat:=if i<12 then if i<6 then if i<3 then if i<1 then [1,2] else if i<2 then [1,2,5,6] else [1,2,5,25] else if i<4 then [4] else if i<5 then [1,2,5,7] else [1,2,5,7,8] else if i<9 then if i<7 then [1,2,5,7,8,29] else if i<8 then [1,2,5,7,8] else [1,2,5,7,8,32] else if i<10 then [1,2,5,7,8,40] else if i<11 then [4] else [1,2,5,7,8,41] else if i<18 then if i<15 then if i<13 then [1,2,5,7,8,56] else if i<14 then [4] else [2,58] else if i<16 then [2,58,59] else if i<17 then [4] else [2,58,69] else if i<21 then if i<19 then [4] else if i<20 then [2,58,79] else [4] else if i<22 then [2,89] else if i<23 then [4] else [4]
def kp78 (i:Nat):List Nat:=if i<1 then [0,1] else [4]
def kp79 (i:Nat):List Nat:=if i<1 then [1,2] else [3]
def kp80 (i:Nat):List Nat:=if i<5 then if i<2 then if i<1 then [1,2] else [1,2,5,6] else if i<3 then [1,2,5,25] else if i<4 then [4] else [1,5,27,28] else if i<8 then if i<6 then [1,5,27,28,29] else if i<7 then [1,5,7,8,27,28] else [1,5,27,28,58] else if i<9 then [4] else if i<10 then [1,5,27,28] else [4]
def kp81 (i:Nat):List Nat:=if i<8 then if i<4 then if i<2 then if i<1 then [0] else [0,3] else if i<3 then [0,3,9,10,11] else [0,3,9,10,11,12] else if i<6 then if i<5 then [0,3,5,9,10,11] else [0,3,9,10,11] else if i<7 then [0,3,9,10,11,20] else [0,3,9,10,11] else if i<12 then if i<10 then if i<9 then [0,3,9,10,11] else [0,6] else if i<11 then [6,25,26,27] else [6,25,26,27,28] else if i<14 then if i<13 then [6,8,25,26,27] else [6,25,26,27] else if i<15 then [6,25,26,27] else [2]
def kp82 (i:Nat):List Nat:=if i<1 then [1] else if i<2 then [1,4,5] else [2,3]
def kp83 (i:Nat):List Nat:=if i<2 then if i<1 then [1,2,4] else [2,4,5,6] else if i<3 then [4,5,7] else [4]
def kp84 (i:Nat):List Nat:=if i<1 then [0] else [0]
def kp85 (i:Nat):List Nat:=if i<4 then if i<2 then if i<1 then [1,2] else [1,2,5] else if i<3 then [1,5,9,10,11] else [1,5,9,10,11,12] else if i<6 then if i<5 then [1,5,7,9,10,11] else [1,5,9,10,11] else if i<7 then [1,5,9,10,11] else [4]
def kp86 (i:Nat):List Nat:=if i<2 then if i<1 then [0] else [0,4] else if i<3 then [2] else [2]
def kp87 (i:Nat):List Nat:=if i<3 then if i<1 then [0,1,2] else if i<2 then [0,1,2,8] else [0,1,2,8,9] else if i<5 then if i<4 then [0,2,8,9,10] else [0,2,8,9,10,11] else if i<6 then [10,11,12] else [6,7]
def kp88 (i:Nat):List Nat:=if i<7 then if i<3 then if i<1 then [0,1,2] else if i<2 then [0,1,2,7] else [0,1,2,7,8] else if i<5 then if i<4 then [0,1,2,7,8,38] else [2] else if i<6 then [6] else [0,1,2,7,8,9,10] else if i<11 then if i<9 then if i<8 then [0,1,2,7,8,9,61] else [0,1,2,7,8,9] else if i<10 then [0,1,7,8,9] else [0,1,7,8,9] else if i<13 then if i<12 then [0,1,7,8,9,11] else [0,1,7,8,9,11,92] else if i<14 then [6] else [0,1,7,8,9]
def kp89 (i:Nat):List Nat:=if i<2 then if i<1 then [1] else [1,19] else if i<3 then [2,3] else [2,3]
def kp90 (i:Nat):List Nat:=if i<2 then if i<1 then [0,1,5] else [1,5,7] else if i<3 then [7] else [6]
def kp91 (i:Nat):List Nat:=if i<10 then if i<5 then if i<2 then if i<1 then [1,2,4] else [1,2,4,8] else if i<3 then [1,2,4,8,9] else if i<4 then [4] else [1,2,4,8,16] else if i<7 then if i<6 then [4] else [1,2,4,8,23] else if i<8 then [4] else if i<9 then [1,2,4,8,52] else [4] else if i<15 then if i<12 then if i<11 then [1,2,4,8,81] else [2,4,5,6] else if i<13 then [2,4,5,93] else if i<14 then [4,5] else [4] else if i<17 then if i<16 then [1,2,4,8,98] else [4] else if i<18 then [4,107] else if i<19 then [4] else [4]
def kp105 (i:Nat):List Nat:=if i<4 then if i<2 then if i<1 then [0] else [0,7] else if i<3 then [0] else [0,3] else if i<6 then if i<5 then [0,3,4] else [0,3,4,15] else if i<7 then [0,3,4] else if i<8 then [0,3,4] else [2]
def kp106 (i:Nat):List Nat:=if i<4 then if i<2 then if i<1 then [0] else [0,7] else if i<3 then [0] else [0,3] else if i<6 then if i<5 then [0,3,4] else [0,3,4,15] else if i<7 then [0,3,4] else if i<8 then [0,3,4] else [2]
def kp107 (i:Nat):List Nat:=if i<14 then if i<7 then if i<3 then if i<1 then [1] else if i<2 then [1,8] else [1,8,9] else if i<5 then if i<4 then [2,3] else [1,8,11] else if i<6 then [2,3] else [1,8,13] else if i<10 then if i<8 then [1,8,13] else if i<9 then [2,3] else [1,8,16] else if i<12 then if i<11 then [4,6] else [2,3] else if i<13 then [8,31] else [8,31] else if i<21 then if i<17 then if i<15 then [8,31] else if i<16 then [2,3] else [8,35] else if i<19 then if i<18 then [8,35] else [2,3] else if i<20 then [8,38] else [2,3] else if i<24 then if i<22 then [8,40] else if i<23 then [2,3] else [8,42] else if i<26 then if i<25 then [8,42] else [42] else if i<27 then [2,3] else [2,3]
def kp108 (i:Nat):List Nat:=if i<1 then [1,2] else [2]
def kp109 (i:Nat):List Nat:=if i<4 then if i<2 then if i<1 then [0,1] else [0,1,7,8] else if i<3 then [0,1,7,8,9] else [0,1,5,7,8] else if i<6 then if i<5 then [0,1,5,7,8,16] else [4] else if i<7 then [0,1,7,8] else [4]
def kp110 (i:Nat):List Nat:=if i<6 then if i<3 then if i<1 then [1,2] else if i<2 then [1,2,16] else [2,3] else if i<4 then [1,2,4] else if i<5 then [1,2,4,24] else [2,3] else if i<9 then if i<7 then [2,4,5,7] else if i<8 then [2,4,7,34,35] else [2,4,7,34,35,36] else if i<11 then if i<10 then [2,4,7,8,34,35] else [2,4,7,34,35] else if i<12 then [2,4,7,34,35] else [2,3]
def kp111 (i:Nat):List Nat:=if i<1 then [1,2] else [2]
def kp112 (i:Nat):List Nat:=if i<5 then if i<2 then if i<1 then [0,1,2] else [1,2,7] else if i<3 then [1,2,7,8] else if i<4 then [6] else [1,7,17] else if i<8 then if i<6 then [6] else if i<7 then [1,7,25] else [6] else if i<9 then [1,33] else if i<10 then [6] else [6]
def kp115 (i:Nat):List Nat:=if i<4 then if i<2 then if i<1 then [1] else [1,3] else if i<3 then [1,3,5] else [1,5,14,15,16] else if i<6 then if i<5 then [1,5,14,15,16,17] else [1,5,7,14,15,16] else if i<7 then [1,5,14,15,16] else if i<8 then [1,5,14,15,16] else [2]
def kp116 (i:Nat):List Nat:=if i<2 then if i<1 then [0,1,2,3,4,11] else [0,1,2,3,4,11,17] else if i<3 then [] else if i<4 then [12] else [12]
def kp117 (i:Nat):List Nat:=if i<6 then if i<3 then if i<1 then [2,3] else if i<2 then [2,3,8] else [4] else if i<4 then [2,3,12] else if i<5 then [4] else [2,3,5] else if i<9 then if i<7 then [5,6] else if i<8 then [5,6,21,22] else [5,6,21,22,23] else if i<11 then if i<10 then [5,6,7,21,22] else [5,6,21,22] else if i<12 then [5,6,21,22] else [4]
def kp118 (i:Nat):List Nat:=if i<2 then if i<1 then [0,2,6] else [0,2,6,10] else if i<3 then [0,2,6] else [0,2,6]
def kp119 (i:Nat):List Nat:=if i<4 then if i<2 then if i<1 then [0,1] else [0,1,5] else if i<3 then [0,5,12,13,14] else [0,5,12,13,14,15] else if i<6 then if i<5 then [0,5,6,7,12,13,14] else [0,5,6,7,12,13,14,24] else if i<7 then [0,5,12,13,14] else if i<8 then [0,5,12,13,14] else [4]
def kp120 (i:Nat):List Nat:=if i<5 then if i<2 then if i<1 then [0,1] else [0,1,10] else if i<3 then [4] else if i<4 then [0,1,12,13] else [0,1,12,13,14] else if i<7 then if i<6 then [0,1,5,12,13] else [0,1,12,13,24] else if i<8 then [4] else if i<9 then [0,1,12,13] else [4]
def kp121 (i:Nat):List Nat:=if i<1 then [0] else [0]
def kp142 (i:Nat):List Nat:=if i<1 then [0,1,2,4] else [4]
def kp143 (i:Nat):List Nat:=if i<4 then if i<2 then if i<1 then [1,2] else [1,2,8,9,10] else if i<3 then [1,2,8,9,10,11] else [1,2,4,8,9,10] else if i<6 then if i<5 then [1,2,4,8,9,10,16] else [2] else if i<7 then [1,2,8,9,10] else [2]
end Go.Proofs.Ytnlimcijgpaegaa

namespace Go.Proofs.Ytnlimcijgpaegaa
open Go Go.Fw
set_option maxRecDepth 20000
def sInt:ByteArray:=⟨#[105,110,116]⟩
def sBool:ByteArray:=⟨#[98,111,111,108]⟩
def vld (s:ByteArray) (n:Int):Bool:=if eqS s sInt=true then decide (-2147483648≤n∧n≤2147483647) else if eqS s sBool=true then decide (n=0∨n=1) else false
def badD (d:Int):Bool:=decide (d<0)||decide (d>4096)
def prodS:List Int→Int→Int×Int
  |[],n=>(n,0)
  |d::t,n=>if n*d>4096 then (0,3) else prodS t (n*d)
def sizeS (l:List Int):Int×Int:=if l.length>6 then (0,13) else if l.any badD=true then (0,2) else if l.any (fun d=>0==d)=true then (0,0) else prodS l 1
structure Arr where
  e:ByteArray
  d:List Int
  x:List Int
def arrV (a:Arr):AV:= .agg [.lit (.string a.e),.sl false 1 (ints .i64 a.d),.sl false 1 (ints .i64 a.x)]
def nilA:Arr:=⟨⟨#[]⟩,[],[]⟩
instance:Inhabited Arr:=⟨nilA⟩
def arrs (l:List Arr):List AV:=l.map arrV
def ofE (a:Arr):Int:=if (eqS a.e sInt||eqS a.e sBool)=false then 12 else if (sizeS a.d).2≠0 then (sizeS a.d).2 else if (a.x.length:Int)≠(sizeS a.d).1 then 1 else if a.x.any (fun n=> !vld a.e n)=true then 2 else 0
def splitS (a:Arr) (r:Int):List Int×List Int×Int:=if ofE a≠0 then ([],[],1) else if r<0∨r>a.d.length then ([],[],13) else (a.d.take (a.d.length - r.toNat),a.d.drop (a.d.length - r.toNat),0)
theorem prodS_bd {l:List Int} {n:Int} (hl:∀ d∈l,0≤d∧d≤4096) (hn:0≤n∧n≤4096):0≤(prodS l n).1∧(prodS l n).1≤4096:=by
  induction l generalizing n with
  |nil=>exact hn
  |cons d t ih=>
   unfold prodS
   split
   ·exact ⟨by decide,by decide⟩
   ·rename_i h
    have h1:=hl d (by simp)
    exact ih (fun x hx=>hl x (by simp [hx])) ⟨Int.mul_nonneg hn.1 h1.1,by omega⟩
theorem bad_no {l:List Int} (h: ¬ l.any badD=true):∀ d∈l,0≤d∧d≤4096:=by
  intro d hd
  have: ¬ badD d=true:=fun hb=>h (List.any_eq_true.2 ⟨d,hd,hb⟩)
  unfold badD at this
  simp only [Bool.or_eq_true,decide_eq_true_eq,not_or] at this
  omega
theorem sizeS_bd (l:List Int):0≤(sizeS l).1∧(sizeS l).1≤4096:=by
  unfold sizeS
  split
  ·exact ⟨by decide,by decide⟩
  split
  ·exact ⟨by decide,by decide⟩
  split
  ·exact ⟨by decide,by decide⟩
  rename_i h _
  exact prodS_bd (bad_no h) ⟨by decide,by decide⟩
theorem arrs_length (l:List Arr):(arrs l).length=l.length:=by simp [arrs]
theorem drop_getD {α:Type} {l:List α} {i:Nat} (z:α) (h:i<l.length):l.drop i=l.getD i z::l.drop (i+1):=by
  rw [List.drop_eq_getElem_cons h];simp [List.getD,h]
end Go.Proofs.Ytnlimcijgpaegaa

namespace Go.Proofs.Ytnlimcijgpaegaa
open Go Go.Fw
set_option maxRecDepth 20000
noncomputable def E0:Env:=envOf (P:=Try.prog) zer (fun _=>false) (fun _=>false) [] []
theorem E0_ok:EnvOk Try.prog E0:=envOk zer_ok
theorem eqS_iff {a b:ByteArray}:eqS a b=true ↔ a=b:=by
  unfold eqS
  rw [beq_iff_eq]
  constructor
  ·intro h
   apply ByteArray.ext
   apply Array.ext'
   simpa using h
  ·intro h;rw [h]
theorem eqS_refl (b:ByteArray):eqS b b=true:=eqS_iff.2 rfl
def idxG (p:Int→Bool):List Int→Int→Int
  |[],_=> -1
  |d::t,i=>if p d=true then i else idxG p t (i+1)
theorem idxG_any (p:Int→Bool):∀ (l:List Int) (i:Int),0≤i→decide (idxG p l i≥0)=l.any p
  |[],_,_=>rfl
  |d::t,i,hi=>by
   unfold idxG
   by_cases h:p d=true
   ·rw [if_pos h,List.any_cons,h,decide_eq_true hi];rfl
   ·rw [if_neg h,idxG_any p t (i+1) (by omega),List.any_cons]
    simp only [Bool.not_eq_true] at h
    rw [h];rfl
theorem index_pc {l:List Int} {v:Int} (hl:l.length≤1000000):PC Try.prog 165 [.sl false 1 (ints .i64 l),.lit (.int .i64 v)] (.lit (.int .i64 (idxG (fun d=>v==d) l 0))):=by
  generalize hR:idxG (fun d=>v==d) l 0=R
  refine pcO E0_ok (fun _=>[0,1,4,5,7,8,9,16]) Try.func165 (h:=fun KF=>?_)
  unfold E0
  repeat' (first
   |(with_reducible first|refine nx ?_|refine t_seq fun K=>?_|refine t_br (fun hc=>?_) fun hc=>?_|refine t_bx ?_|apply And.intro|intro vr)
   |((with_reducible first|refine ny ?_|refine t_dwh (h:=fun K KL=>?_));intros;simp only [go_sem,geff]))
  refine t_loop (ι:={i:Nat // i≤l.length∧idxG (fun d=>v==d) (l.drop i) i=R}) (fun i=>⟨upd (upd (upd (upd topF 8 (.lit (.int .i64 i.1))) 7 (.lit (.int .i64 l.length))) 1 (.lit (.int .i64 v))) 0 (.sl false 1 (ints .i64 l)),[]⟩) (fun i=>l.length - i.1) ⟨0,by omega,hR⟩ ?_ ?_
  ·skip
   (refine Le.frame ?_;repeat' (first|exact leF_top _|(with_reducible refine leF_sl ?_ ?_)|(refine leF_upd (LeR.of_eq ?_) ?_)))<;>(try (simp only [go_sem];try rfl))
  ·rintro ⟨i,hi,hF⟩ K0
   rcases Nat.lt_or_ge i l.length with hc|hc
   ·have g1:decide ((i:Int)<(l.length:Int))=true:=decide_eq_true (by omega)
    have g2:=ints_getD .i64 l i hc
    rw [drop_getD 0 hc,idxG] at hF
    generalize l.getD i 0=d at g2 hF
    by_cases he:(v==d)=true
    ·rw [if_pos he] at hF
     subst hF
     repeat' (first
      |(with_reducible first|refine nx ?_|refine t_seq fun K=>?_|refine t_br (fun hc=>?_) fun hc=>?_|refine t_bx ?_|apply And.intro|intro vr)
      |((with_reducible first|refine ny ?_|refine t_dwh (h:=fun K KL=>?_));intros;simp only [go_sem,geff,g1,g2,he,Int.toNat_natCast]))
     all_goals try exact om
     refine end_ret rfl ?_
     simp only [fin,go_sem]
     exact LeA.refl _
    ·rw [if_neg he] at hF
     have he':(v==d)=false:=by simpa using he
     repeat' (first
      |(with_reducible first|refine nx ?_|refine t_seq fun K=>?_|refine t_br (fun hc=>?_) fun hc=>?_|refine t_bx ?_|apply And.intro|intro vr)
      |((with_reducible first|refine ny ?_|refine t_dwh (h:=fun K KL=>?_));intros;simp only [go_sem,geff,g1,g2,he',Int.toNat_natCast]))
     all_goals try exact om
     refine ⟨⟨i+1,by omega,by rw [←hF];congr 1⟩,by simp only;omega,?_⟩
     (refine Le.frame ?_;repeat' (first|exact leF_top _|(with_reducible refine leF_sl ?_ ?_)|(refine leF_upd (LeR.of_eq ?_) ?_)))<;>(try (simp only [go_sem];try rfl))
   ·have g1:decide ((i:Int)<(l.length:Int))=false:=decide_eq_false (by omega)
    rw [List.drop_eq_nil_of_le hc,idxG] at hF
    subst hF
    repeat' (first
     |(with_reducible first|refine nx ?_|refine t_seq fun K=>?_|refine t_br (fun hc=>?_) fun hc=>?_|refine t_bx ?_|apply And.intro|intro vr)
     |((with_reducible first|refine ny ?_|refine t_dwh (h:=fun K KL=>?_));intros;simp only [go_sem,geff,g1]))
    refine end_ret rfl ?_
    simp only [fin,go_sem]
    exact LeA.refl _
noncomputable def con165:PCon Try.prog where
  f:=165
  c:=fun
   |[xl,.lit (.int .i64 v)]=>match slK .i64 xl with|some l=>some (l.length≤1000000,.lit (.int .i64 (idxG (fun d=>v==d) l 0)))|_=>none
   |_=>none
  ok:=by
   intro args p r hc hp
   split at hc
   ·split at hc
    ·rename_i hl
     cases hc
     exact PC.weak (index_pc hp) ⟨slK_le hl,LeA.refl _,trivial⟩
    ·cases hc
   ·cases hc
  fk:=fk165
theorem con165_f:con165.f=165:=rfl
theorem con165_c {xl:AV} {v:Int}:con165.c [xl,.lit (.int .i64 v)]=match slK .i64 xl with|some l=>some (l.length≤1000000,.lit (.int .i64 (idxG (fun d=>v==d) l 0)))|_=>none:=rfl
noncomputable def E1:Env:=envOf (P:=Try.prog) zer (fun _=>false) (fun _=>false) [con165] []
theorem E1_ok:EnvOk Try.prog E1:=envOk zer_ok
theorem contains_pc {l:List Int} {v:Int} (hl:l.length≤1000000):PC Try.prog 141 [.sl false 1 (ints .i64 l),.lit (.int .i64 v)] (.lit (.bool (l.any fun d=>v==d))):=by
  have h:=idxG_any (fun d=>v==d) l 0 (by omega)
  refine pcO E1_ok (fun _=>[0,1,4]) Try.func141 (h:=fun KF=>?_)
  unfold E1
  repeat' (first
   |(with_reducible first|refine nx ?_|refine t_seq fun K=>?_|refine t_br (fun hc=>?_) fun hc=>?_|refine t_bx ?_|apply And.intro|intro vr)
   |((with_reducible first|refine ny ?_|refine t_dwh (h:=fun K KL=>?_));intros;simp only [go_sem,geff,con165_f,con165_c,slK_sl,h]))
  all_goals try exact om
  refine end_ret rfl ?_
  simp only [fin,go_sem]
  exact LeA.refl _
noncomputable def con141:PCon Try.prog where
  f:=141
  c:=fun
   |[xl,.lit (.int .i64 v)]=>match slK .i64 xl with|some l=>some (l.length≤1000000,.lit (.bool (l.any fun d=>v==d)))|_=>none
   |_=>none
  ok:=by
   intro args p r hc hp
   split at hc
   ·split at hc
    ·rename_i hl
     cases hc
     exact PC.weak (contains_pc hp) ⟨slK_le hl,LeA.refl _,trivial⟩
    ·cases hc
   ·cases hc
  fk:=fk141
theorem con141_f:con141.f=141:=rfl
theorem con141_c {xl:AV} {v:Int}:con141.c [xl,.lit (.int .i64 v)]=match slK .i64 xl with|some l=>some (l.length≤1000000,.lit (.bool (l.any fun d=>v==d)))|_=>none:=rfl
theorem clone_pc {l:List Int} (hl:l.length≤1000000):PC Try.prog 101 [.sl false 1 (ints .i64 l)] (.sl false 1 (ints .i64 l)):=by
  refine pcO E0_ok (fun _=>[0,2,4]) Try.func101 (h:=fun KF=>?_)
  unfold E0
  repeat' (first
   |(with_reducible first|refine nx ?_|refine t_seq fun K=>?_|refine t_br (fun hc=>?_) fun hc=>?_|refine t_bx ?_|apply And.intro|intro vr)
   |((with_reducible first|refine ny ?_|refine t_dwh (h:=fun K KL=>?_));intros;simp only [go_sem,geff]))
  all_goals try exact om
  ·skip
   refine end_ret rfl ?_
   simp only [fin,go_sem]
   rw [show ints .i64 l=[] from by assumption]
   exact LeA.nil false 1
  ·skip
   refine end_ret rfl ?_
   simp only [fin,go_sem]
   exact LeA.refl _
end Go.Proofs.Ytnlimcijgpaegaa

namespace Go.Proofs.Ytnlimcijgpaegaa
open Go Go.Fw
set_option maxRecDepth 20000
def szV (p:Int×Int):AV:= .tup [.lit (.int .i64 p.1),.lit (.int .i64 p.2)]
theorem mul_bd {n d:Int} (hn:0≤n∧n≤4096) (hd:0≤d∧d≤4096):0≤n*d∧n*d≤16777216:=by
  constructor
  ·exact Int.mul_nonneg hn.1 hd.1
  ·have:=Int.mul_le_mul hn.2 hd.2 hd.1 (by omega)
   omega
structure Ls (l:List Int) (G:Int×Int) where
  i:Nat
  n:Int
  hi:i≤l.length
  hn:0≤n∧n≤4096
  hF:prodS (l.drop i) n=G
noncomputable def E2:Env:=envOf (P:=Try.prog) zer (fun _=>false) (fun _=>false) [con141] []
theorem E2_ok:EnvOk Try.prog E2:=envOk zer_ok
set_option maxHeartbeats 1000000 in
theorem size_pc {l:List Int} (hl:l.length≤1000000):PC Try.prog 114 [.sl false 1 (ints .i64 l)] (szV (sizeS l)):=by
  unfold sizeS
  by_cases h6:l.length>6
  ·have g0:decide ((l.length:Int)>6)=true:=decide_eq_true (by omega)
   rw [if_pos h6]
   refine pcO E2_ok (fun _=>[0,2,3,5,6,8,11,12,13,14,15,23,26,27,28,29,30,37]) Try.func114 (h:=fun KF=>?_)
   unfold E2
   repeat' (first
    |(with_reducible first|refine nx ?_|refine t_seq fun K=>?_|refine t_br (fun hc=>?_) fun hc=>?_|refine t_bx ?_|apply And.intro|intro vr)
    |((with_reducible first|refine ny ?_|refine t_dwh (h:=fun K KL=>?_));intros;simp only [go_sem,geff,con141_f,g0]))
   refine end_ret rfl ?_
   simp only [fin,go_sem,szV]
   exact LeA.refl _
  ·have g0:decide ((l.length:Int)>6)=false:=decide_eq_false (by omega)
   rw [if_neg h6]
   generalize hB:l.any badD=Bb
   generalize hG:prodS l 1=G
   refine pcO E2_ok (fun _=>[0,2,3,5,6,8,11,12,13,14,15,23,26,27,28,29,30,37]) Try.func114 (h:=fun KF=>?_)
   unfold E2
   repeat' (first
    |(with_reducible first|refine nx ?_|refine t_seq fun K=>?_|refine t_br (fun hc=>?_) fun hc=>?_|refine t_bx ?_|apply And.intro|intro vr)
    |((with_reducible first|refine ny ?_|refine t_dwh (h:=fun K KL=>?_));intros;simp only [go_sem,geff,con141_f,g0]))
   refine t_loop (ι:={i:Nat // i≤l.length∧(l.drop i).any badD=Bb}) (fun i=>⟨upd (upd (upd (upd topF 14 (.lit (.int .i64 i.1))) 13 (.lit (.int .i64 l.length))) 12 (.sl false 1 (ints .i64 l))) 0 (.sl false 1 (ints .i64 l)),[]⟩) (fun i=>l.length - i.1) ⟨0,by omega,hB⟩ ?_ ?_
   ·skip
    (refine Le.frame ?_;repeat' (first|exact leF_top _|(with_reducible refine leF_sl ?_ ?_)|(refine leF_upd (LeR.of_eq ?_) ?_)))<;>(try (simp only [go_sem];try rfl))
   ·rintro ⟨i,hi,hF⟩ K0
    rcases Nat.lt_or_ge i l.length with hc|hc
    ·have g1:decide ((i:Int)<(l.length:Int))=true:=decide_eq_true (by omega)
     have g2:=ints_getD .i64 l i hc
     rw [drop_getD 0 hc,List.any_cons] at hF
     generalize l.getD i 0=d at g2 hF
     rw [show badD d=(decide (d<0)||decide (d>4096)) from rfl] at hF
     by_cases d1:d<0
     ·have d1':decide (d<0)=true:=decide_eq_true d1
      have:Bb=true:=by rw [←hF,d1'];rfl
      subst this
      repeat' (first
       |(with_reducible first|refine nx ?_|refine t_seq fun K=>?_|refine t_br (fun hc=>?_) fun hc=>?_|refine t_bx ?_|apply And.intro|intro vr)
       |((with_reducible first|refine ny ?_|refine t_dwh (h:=fun K KL=>?_));intros;simp only [go_sem,geff,con141_f,g1,g2,d1',Int.toNat_natCast]))
      all_goals try exact om
      refine end_ret rfl ?_
      simp only [fin,go_sem,szV]
      exact LeA.refl _
     ·have d1':decide (d<0)=false:=decide_eq_false d1
      by_cases d2:d>4096
      ·have d2':decide (d>4096)=true:=decide_eq_true d2
       have:Bb=true:=by rw [←hF,d1',d2'];rfl
       subst this
       repeat' (first
        |(with_reducible first|refine nx ?_|refine t_seq fun K=>?_|refine t_br (fun hc=>?_) fun hc=>?_|refine t_bx ?_|apply And.intro|intro vr)
        |((with_reducible first|refine ny ?_|refine t_dwh (h:=fun K KL=>?_));intros;simp only [go_sem,geff,con141_f,g1,g2,d1',d2',Int.toNat_natCast]))
       all_goals try exact om
       refine end_ret rfl ?_
       simp only [fin,go_sem,szV]
       exact LeA.refl _
      ·have d2':decide (d>4096)=false:=decide_eq_false d2
       rw [d1',d2',Bool.false_or,Bool.false_or] at hF
       repeat' (first
        |(with_reducible first|refine nx ?_|refine t_seq fun K=>?_|refine t_br (fun hc=>?_) fun hc=>?_|refine t_bx ?_|apply And.intro|intro vr)
        |((with_reducible first|refine ny ?_|refine t_dwh (h:=fun K KL=>?_));intros;simp only [go_sem,geff,con141_f,g1,g2,d1',d2',Int.toNat_natCast]))
       all_goals try exact om
       refine ⟨⟨i+1,by omega,hF⟩,by simp only;omega,?_⟩
       (refine Le.frame ?_;repeat' (first|exact leF_top _|(with_reducible refine leF_sl ?_ ?_)|(refine leF_upd (LeR.of_eq ?_) ?_)))<;>(try (simp only [go_sem];try rfl))
    ·have g1:decide ((i:Int)<(l.length:Int))=false:=decide_eq_false (by omega)
     rw [List.drop_eq_nil_of_le hc,List.any_nil] at hF
     subst hF
     have hd:=bad_no (by rw [hB];simp)
     by_cases h0:(l.any fun d=>0==d)=true
     ·skip
      repeat' (first
       |(with_reducible first|refine nx ?_|refine t_seq fun K=>?_|refine t_br (fun hc=>?_) fun hc=>?_|refine t_bx ?_|apply And.intro|intro vr)
       |((with_reducible first|refine ny ?_|refine t_dwh (h:=fun K KL=>?_));intros;simp only [go_sem,geff,con141_f,con141_c,slK_sl,g1,h0]))
      all_goals try exact om
      refine end_ret rfl ?_
      simp only [fin,go_sem,szV,h0,Bool.false_eq_true]
      exact LeA.refl _
     ·have h0':(l.any fun d=>0==d)=false:=Bool.eq_false_iff.2 h0
      repeat' (first
       |(with_reducible first|refine nx ?_|refine t_seq fun K=>?_|refine t_br (fun hc=>?_) fun hc=>?_|refine t_bx ?_|apply And.intro|intro vr)
       |((with_reducible first|refine ny ?_|refine t_dwh (h:=fun K KL=>?_));intros;simp only [go_sem,geff,con141_f,con141_c,slK_sl,g1,h0']))
      all_goals try exact om
      refine t_loop (ι:=Ls l G) (fun i=>⟨upd (upd (upd (upd topF 29 (.lit (.int .i64 i.i))) 28 (.lit (.int .i64 l.length))) 27 (.sl false 1 (ints .i64 l))) 6 (.lit (.int .i64 i.n)),[]⟩) (fun i=>l.length - i.i) ⟨0,1,by omega,by omega,hG⟩ ?_ ?_
      ·skip
       (refine Le.frame ?_;repeat' (first|exact leF_top _|(with_reducible refine leF_sl ?_ ?_)|(refine leF_upd (LeR.of_eq ?_) ?_)))<;>(try (simp only [go_sem];try rfl))
      ·rintro ⟨i,n,hi,hn,hF⟩ K1
       rcases Nat.lt_or_ge i l.length with hc|hc
       ·have g1:decide ((i:Int)<(l.length:Int))=true:=decide_eq_true (by omega)
        have g2:=ints_getD .i64 l i hc
        have hd':=hd (l.getD i 0) (by rw [List.getD_eq_getElem?_getD,List.getElem?_eq_getElem hc];exact List.getElem_mem _)
        rw [drop_getD 0 hc,prodS] at hF
        generalize l.getD i 0=d at g2 hF hd'
        have hb:=mul_bd hn hd'
        by_cases hp:n*d>4096
        ·have hp':decide (n*d>4096)=true:=decide_eq_true hp
         rw [if_pos hp] at hF
         subst hF
         repeat' (first
          |(with_reducible first|refine nx ?_|refine t_seq fun K=>?_|refine t_br (fun hc=>?_) fun hc=>?_|refine t_bx ?_|apply And.intro|intro vr)
          |((with_reducible first|refine ny ?_|refine t_dwh (h:=fun K KL=>?_));intros;simp only [go_sem,geff,con141_f,g1,g2,hp',Int.toNat_natCast]))
         all_goals try exact om
         refine end_ret rfl ?_
         simp only [fin,go_sem,szV,h0',Bool.false_eq_true]
         exact LeA.refl _
        ·have hp':decide (n*d>4096)=false:=decide_eq_false hp
         rw [if_neg hp] at hF
         repeat' (first
          |(with_reducible first|refine nx ?_|refine t_seq fun K=>?_|refine t_br (fun hc=>?_) fun hc=>?_|refine t_bx ?_|apply And.intro|intro vr)
          |((with_reducible first|refine ny ?_|refine t_dwh (h:=fun K KL=>?_));intros;simp only [go_sem,geff,con141_f,g1,g2,hp',Int.toNat_natCast]))
         all_goals try exact om
         refine ⟨⟨i+1,n*d,by omega,by omega,hF⟩,by simp only;omega,?_⟩
         (refine Le.frame ?_;repeat' (first|exact leF_top _|(with_reducible refine leF_sl ?_ ?_)|(refine leF_upd (LeR.of_eq ?_) ?_)))<;>(try (simp only [go_sem];try rfl))
       ·have g1:decide ((i:Int)<(l.length:Int))=false:=decide_eq_false (by omega)
        rw [List.drop_eq_nil_of_le hc,prodS] at hF
        subst hF
        repeat' (first
         |(with_reducible first|refine nx ?_|refine t_seq fun K=>?_|refine t_br (fun hc=>?_) fun hc=>?_|refine t_bx ?_|apply And.intro|intro vr)
         |((with_reducible first|refine ny ?_|refine t_dwh (h:=fun K KL=>?_));intros;simp only [go_sem,geff,con141_f,g1]))
        refine end_ret rfl ?_
        simp only [fin,go_sem,szV,h0',Bool.false_eq_true]
        exact LeA.refl _
noncomputable def con114:PCon Try.prog where
  f:=114
  c:=fun
   |[xl]=>match slK .i64 xl with|some l=>some (l.length≤1000000,szV (sizeS l))|_=>none
   |_=>none
  ok:=by
   intro args p r hc hp
   split at hc
   ·split at hc
    ·rename_i hl
     cases hc
     exact PC.weak (size_pc hp) ⟨slK_le hl,trivial⟩
    ·cases hc
   ·cases hc
  fk:=fk114
theorem con114_f:con114.f=114:=rfl
theorem con114_c {xl:AV}:con114.c [xl]=match slK .i64 xl with|some l=>some (l.length≤1000000,szV (sizeS l))|_=>none:=rfl
set_option maxHeartbeats 1000000 in
theorem rsize_pc {l:List Int} (hl:l.length≤1000000):PC Try.prog 40 [.sl false 1 (ints .i64 l)] (szV (sizeS l)):=by
  unfold sizeS
  by_cases h6:l.length>6
  ·have g0:decide ((l.length:Int)>6)=true:=decide_eq_true (by omega)
   rw [if_pos h6]
   refine pcO E0_ok (fun _=>[0,2,3,4,5,6,7,10,14,28,37,41,51]) Try.func40 (h:=fun KF=>?_)
   unfold E0
   repeat' (first
    |(with_reducible first|refine nx ?_|refine t_seq fun K=>?_|refine t_br (fun hc=>?_) fun hc=>?_|refine t_bx ?_|apply And.intro|intro vr)
    |((with_reducible first|refine ny ?_|refine t_dwh (h:=fun K KL=>?_));intros;simp only [go_sem,geff,g0]))
   refine end_ret rfl ?_
   simp only [fin,go_sem,szV]
   exact LeA.refl _
  ·have g0:decide ((l.length:Int)>6)=false:=decide_eq_false (by omega)
   rw [if_neg h6]
   generalize hB:l.any badD=Bb
   generalize hG:prodS l 1=G
   generalize hZ:(l.any fun d=>0==d)=Z
   refine pcO E0_ok (fun _=>[0,2,3,4,5,6,7,10,14,28,37,41,51]) Try.func40 (h:=fun KF=>?_)
   unfold E0
   repeat' (first
    |(with_reducible first|refine nx ?_|refine t_seq fun K=>?_|refine t_br (fun hc=>?_) fun hc=>?_|refine t_bx ?_|apply And.intro|intro vr)
    |((with_reducible first|refine ny ?_|refine t_dwh (h:=fun K KL=>?_));intros;simp only [go_sem,geff,g0]))
   refine t_loop (ι:={i:Nat×Bool // i.1≤l.length∧(l.drop i.1).any badD=Bb∧(i.2||(l.drop i.1).any fun d=>0==d)=Z}) (fun i=>⟨upd (upd (upd topF 5 (.lit (.int .i64 i.1.1))) 4 (.lit (.bool i.1.2))) 0 (.sl false 1 (ints .i64 l)),[]⟩) (fun i=>l.length - i.1.1) ⟨(0,false),by simp,hB,by simpa using hZ⟩ ?_ ?_
   ·skip
    (refine Le.frame ?_;repeat' (first|exact leF_top _|(with_reducible refine leF_sl ?_ ?_)|(refine leF_upd (LeR.of_eq ?_) ?_)))<;>(try (simp only [go_sem];try rfl))
   ·rintro ⟨⟨i,z⟩,hi,hF,hY⟩ K0
    simp only at hi hF hY
    rcases Nat.lt_or_ge i l.length with hc|hc
    ·have g1:decide ((i:Int)<(l.length:Int))=true:=decide_eq_true (by omega)
     have g2:=ints_getD .i64 l i hc
     rw [drop_getD 0 hc,List.any_cons] at hF
     rw [drop_getD 0 hc,List.any_cons,←Bool.or_assoc] at hY
     generalize l.getD i 0=d at g2 hF hY
     rw [show badD d=(decide (d<0)||decide (d>4096)) from rfl] at hF
     by_cases d1:d<0
     ·have d1':decide (d<0)=true:=decide_eq_true d1
      have:Bb=true:=by rw [←hF,d1'];rfl
      subst this
      repeat' (first
       |(with_reducible first|refine nx ?_|refine t_seq fun K=>?_|refine t_br (fun hc=>?_) fun hc=>?_|refine t_bx ?_|apply And.intro|intro vr)
       |((with_reducible first|refine ny ?_|refine t_dwh (h:=fun K KL=>?_));intros;simp only [go_sem,geff,g1,g2,d1',Int.toNat_natCast]))
      all_goals try exact om
      refine end_ret rfl ?_
      simp only [fin,go_sem,szV]
      exact LeA.refl _
     ·have d1':decide (d<0)=false:=decide_eq_false d1
      by_cases d2:d>4096
      ·have d2':decide (d>4096)=true:=decide_eq_true d2
       have:Bb=true:=by rw [←hF,d1',d2'];rfl
       subst this
       repeat' (first
        |(with_reducible first|refine nx ?_|refine t_seq fun K=>?_|refine t_br (fun hc=>?_) fun hc=>?_|refine t_bx ?_|apply And.intro|intro vr)
        |((with_reducible first|refine ny ?_|refine t_dwh (h:=fun K KL=>?_));intros;simp only [go_sem,geff,g1,g2,d1',d2',Int.toNat_natCast]))
       all_goals try exact om
       refine end_ret rfl ?_
       simp only [fin,go_sem,szV]
       exact LeA.refl _
      ·have d2':decide (d>4096)=false:=decide_eq_false d2
       rw [d1',d2',Bool.false_or,Bool.false_or] at hF
       cases z
       ·by_cases e0:(d==0)=true
        ·have e1:(0==d)=true:=by rw [beq_iff_eq] at e0 ⊢;exact e0.symm
         rw [e1] at hY
         repeat' (first
          |(with_reducible first|refine nx ?_|refine t_seq fun K=>?_|refine t_br (fun hc=>?_) fun hc=>?_|refine t_bx ?_|apply And.intro|intro vr)
          |((with_reducible first|refine ny ?_|refine t_dwh (h:=fun K KL=>?_));intros;simp only [go_sem,geff,g1,g2,d1',d2',e0,Int.toNat_natCast]))
         all_goals try exact om
         refine ⟨⟨(i+1,true),by simp only;omega,hF,hY⟩,by simp only;omega,?_⟩
         (refine Le.frame ?_;repeat' (first|exact leF_top _|(with_reducible refine leF_sl ?_ ?_)|(refine leF_upd (LeR.of_eq ?_) ?_)))<;>(try (simp only [go_sem];try rfl))
        ·have e0':(d==0)=false:=by simpa using e0
         have e1:(0==d)=false:=by rw [beq_eq_false_iff_ne] at e0' ⊢;exact fun h=>e0' h.symm
         rw [e1] at hY
         repeat' (first
          |(with_reducible first|refine nx ?_|refine t_seq fun K=>?_|refine t_br (fun hc=>?_) fun hc=>?_|refine t_bx ?_|apply And.intro|intro vr)
          |((with_reducible first|refine ny ?_|refine t_dwh (h:=fun K KL=>?_));intros;simp only [go_sem,geff,g1,g2,d1',d2',e0',Int.toNat_natCast]))
         all_goals try exact om
         refine ⟨⟨(i+1,false),by simp only;omega,hF,hY⟩,by simp only;omega,?_⟩
         (refine Le.frame ?_;repeat' (first|exact leF_top _|(with_reducible refine leF_sl ?_ ?_)|(refine leF_upd (LeR.of_eq ?_) ?_)))<;>(try (simp only [go_sem];try rfl))
       ·skip
        repeat' (first
         |(with_reducible first|refine nx ?_|refine t_seq fun K=>?_|refine t_br (fun hc=>?_) fun hc=>?_|refine t_bx ?_|apply And.intro|intro vr)
         |((with_reducible first|refine ny ?_|refine t_dwh (h:=fun K KL=>?_));intros;simp only [go_sem,geff,g1,g2,d1',d2',Int.toNat_natCast]))
        all_goals try exact om
        refine ⟨⟨(i+1,true),by simp only;omega,hF,by rw [←hY];simp⟩,by simp only;omega,?_⟩
        (refine Le.frame ?_;repeat' (first|exact leF_top _|(with_reducible refine leF_sl ?_ ?_)|(refine leF_upd (LeR.of_eq ?_) ?_)))<;>(try (simp only [go_sem];try rfl))
    ·have g1:decide ((i:Int)<(l.length:Int))=false:=decide_eq_false (by omega)
     rw [List.drop_eq_nil_of_le hc,List.any_nil] at hF
     rw [List.drop_eq_nil_of_le hc,List.any_nil,Bool.or_false] at hY
     subst hF
     have hd:=bad_no (by rw [hB];simp)
     cases z
     ·subst hY
      repeat' (first
       |(with_reducible first|refine nx ?_|refine t_seq fun K=>?_|refine t_br (fun hc=>?_) fun hc=>?_|refine t_bx ?_|apply And.intro|intro vr)
       |((with_reducible first|refine ny ?_|refine t_dwh (h:=fun K KL=>?_));intros;simp only [go_sem,geff,g1]))
      refine t_loop (ι:=Ls l G) (fun i=>⟨upd (upd (upd topF 7 (.lit (.int .i64 i.i))) 6 (.lit (.int .i64 i.n))) 0 (.sl false 1 (ints .i64 l)),[]⟩) (fun i=>l.length - i.i) ⟨0,1,by omega,by omega,hG⟩ ?_ ?_
      ·skip
       (refine Le.frame ?_;repeat' (first|exact leF_top _|(with_reducible refine leF_sl ?_ ?_)|(refine leF_upd (LeR.of_eq ?_) ?_)))<;>(try (simp only [go_sem];try rfl))
      ·rintro ⟨i,n,hi,hn,hF⟩ K1
       rcases Nat.lt_or_ge i l.length with hc|hc
       ·have g1:decide ((i:Int)<(l.length:Int))=true:=decide_eq_true (by omega)
        have g2:=ints_getD .i64 l i hc
        have hd':=hd (l.getD i 0) (by rw [List.getD_eq_getElem?_getD,List.getElem?_eq_getElem hc];exact List.getElem_mem _)
        rw [drop_getD 0 hc,prodS] at hF
        generalize l.getD i 0=d at g2 hF hd'
        have hb:=mul_bd hn hd'
        by_cases hp:n*d>4096
        ·have hp':decide (n*d>4096)=true:=decide_eq_true hp
         rw [if_pos hp] at hF
         subst hF
         repeat' (first
          |(with_reducible first|refine nx ?_|refine t_seq fun K=>?_|refine t_br (fun hc=>?_) fun hc=>?_|refine t_bx ?_|apply And.intro|intro vr)
          |((with_reducible first|refine ny ?_|refine t_dwh (h:=fun K KL=>?_));intros;simp only [go_sem,geff,g1,g2,hp',Int.toNat_natCast]))
         all_goals try exact om
         refine end_ret rfl ?_
         simp only [fin,go_sem,szV,Bool.false_eq_true]
         exact LeA.refl _
        ·have hp':decide (n*d>4096)=false:=decide_eq_false hp
         rw [if_neg hp] at hF
         repeat' (first
          |(with_reducible first|refine nx ?_|refine t_seq fun K=>?_|refine t_br (fun hc=>?_) fun hc=>?_|refine t_bx ?_|apply And.intro|intro vr)
          |((with_reducible first|refine ny ?_|refine t_dwh (h:=fun K KL=>?_));intros;simp only [go_sem,geff,g1,g2,hp',Int.toNat_natCast]))
         all_goals try exact om
         refine ⟨⟨i+1,n*d,by omega,by omega,hF⟩,by simp only;omega,?_⟩
         (refine Le.frame ?_;repeat' (first|exact leF_top _|(with_reducible refine leF_sl ?_ ?_)|(refine leF_upd (LeR.of_eq ?_) ?_)))<;>(try (simp only [go_sem];try rfl))
       ·have g1:decide ((i:Int)<(l.length:Int))=false:=decide_eq_false (by omega)
        rw [List.drop_eq_nil_of_le hc,prodS] at hF
        subst hF
        repeat' (first
         |(with_reducible first|refine nx ?_|refine t_seq fun K=>?_|refine t_br (fun hc=>?_) fun hc=>?_|refine t_bx ?_|apply And.intro|intro vr)
         |((with_reducible first|refine ny ?_|refine t_dwh (h:=fun K KL=>?_));intros;simp only [go_sem,geff,g1]))
        refine end_ret rfl ?_
        simp only [fin,go_sem,szV,Bool.false_eq_true]
        exact LeA.refl _
     ·subst hY
      repeat' (first
       |(with_reducible first|refine nx ?_|refine t_seq fun K=>?_|refine t_br (fun hc=>?_) fun hc=>?_|refine t_bx ?_|apply And.intro|intro vr)
       |((with_reducible first|refine ny ?_|refine t_dwh (h:=fun K KL=>?_));intros;simp only [go_sem,geff,g1]))
      refine end_ret rfl ?_
      simp only [fin,go_sem,szV,Bool.false_eq_true]
      exact LeA.refl _
noncomputable def con40:PCon Try.prog where
  f:=40
  c:=fun
   |[xl]=>match slK .i64 xl with|some l=>some (l.length≤1000000,szV (sizeS l))|_=>none
   |_=>none
  ok:=by
   intro args p r hc hp
   split at hc
   ·split at hc
    ·rename_i hl
     cases hc
     exact PC.weak (rsize_pc hp) ⟨slK_le hl,trivial⟩
    ·cases hc
   ·cases hc
  fk:=fk40
theorem con40_f:con40.f=40:=rfl
theorem con40_c {xl:AV}:con40.c [xl]=match slK .i64 xl with|some l=>some (l.length≤1000000,szV (sizeS l))|_=>none:=rfl
end Go.Proofs.Ytnlimcijgpaegaa

namespace Go.Proofs.Ytnlimcijgpaegaa
open Go Go.Fw
set_option maxRecDepth 20000
theorem LeL.len:∀ {xs ys:List AV},LeL xs ys→xs.length=ys.length
  |[],[],_=>rfl
  |_::_,_::_,h=>by simp [LeL.len h.2]
  |[],_::_,h=>h.elim
  |_::_,[],h=>h.elim
theorem LeA.agg {xs ys:List AV} (h:LeL xs ys):LeA (.agg xs) (.agg ys):=fun C v hv=>by
  cases hv with
  |agg _ vs hl h1 hh=>exact .agg ys vs (h.rl ⟨hl,hh⟩).1 (fun i hi=>h1 i (by rw [LeL.len h];exact hi)) (h.rl ⟨hl,hh⟩).2
theorem LeL.refl:∀ (xs:List AV),LeL xs xs
  |[]=>trivial
  |x::xs=>⟨LeA.refl x,LeL.refl xs⟩
theorem LeL.append:∀ {xs ys us vs:List AV},LeL xs ys→LeL us vs→LeL (xs++us) (ys++vs)
  |[],[],_,_,_,h=>h
  |_::_,_::_,_,_,h,h'=>⟨h.1,LeL.append h.2 h'⟩
  |[],_::_,_,_,h,_=>h.elim
  |_::_,[],_,_,h,_=>h.elim
theorem LeL.get:∀ {xs ys:List AV},LeL xs ys→∀ i,LeA (xs.getD i .top) (ys.getD i .top)
  |[],[],_,_=>LeA.refl _
  |x::xs,y::ys,h,0=>by simpa using h.1
  |x::xs,y::ys,h,i+1=>by simpa using LeL.get h.2 i
  |[],_::_,h,_=>h.elim
  |_::_,[],h,_=>h.elim
theorem LeA.sl {b:Bool} {sz:Nat} {xs ys:List AV} (hl:xs.length=ys.length) (hw:∀ y∈ys,y.cells.length=sz) (h:LeL (flat xs) (flat ys)):LeA (.sl b sz xs) (.sl false sz ys):=fun C v hv=>by
  cases hv with
  |nil full sz a=>
   have:ys=[]:=List.eq_nil_of_length_eq_zero (by simpa using hl.symm)
   subst this
   exact .nil false sz a
  |sl full sz xs bb off cap f hc hm hf hw' hC h1 hR=>
   rw [hl]
   exact .sl false sz ys bb off cap f (by rw [←hl];exact hc) hm (by simp) hw (fun j hj=>hC j (by rw [LeL.len h];exact hj)) (fun j hj=>h1 j (by rw [LeL.len h];exact hj))
     (fun j hj=>LeL.get h j _ _ (hR j (by rw [LeL.len h];exact hj)))
def arrOf:AV→Option Arr
  |.agg [.lit (.string e),x,y]=>match slK .i64 x,slK .i64 y with
   |some d,some w=>some ⟨e,d,w⟩
   |_,_=>none
  |_=>none
theorem arrOf_agg {e:ByteArray} {x y:AV}:arrOf (.agg [.lit (.string e),x,y])=match slK .i64 x,slK .i64 y with
    |some d,some w=>some ⟨e,d,w⟩
    |_,_=>none:=rfl
theorem arrOf_V (a:Arr):arrOf (arrV a)=some a:=by simp [arrV,arrOf,slK_sl]
theorem arrOf_inv {x:AV} {a:Arr} (h:arrOf x=some a):∃ p q,x= .agg [.lit (.string a.e),p,q]∧LeA p (.sl false 1 (ints .i64 a.d))∧LeA q (.sl false 1 (ints .i64 a.x)):=by
  unfold arrOf at h
  split at h
  ·split at h
   ·rename_i h1 h2
    cases h
    exact ⟨_,_,rfl,slK_le h1,slK_le h2⟩
   ·cases h
  ·cases h
theorem arrOf_le {x:AV} {a:Arr} (h:arrOf x=some a):LeA x (arrV a):=by
  obtain ⟨p,q,rfl,h1,h2⟩:=arrOf_inv h
  exact LeA.agg ⟨LeA.refl _,h1,h2,trivial⟩
def arrL:List AV→Option (List Arr)
  |[]=>some []
  |x::xs=>match arrOf x,arrL xs with
   |some a,some l=>some (a::l)
   |_,_=>none
theorem arrL_cons {x:AV} {xs:List AV}:arrL (x::xs)=match arrOf x,arrL xs with
    |some a,some l=>some (a::l)
    |_,_=>none:=rfl
theorem arrL_arrs:∀ l:List Arr,arrL (arrs l)=some l
  |[]=>rfl
  |a::l=>by
   have:=arrL_arrs l
   unfold arrs at this ⊢
   rw [List.map_cons,arrL_cons,arrOf_V,this]
theorem arrL_inv:∀ {xs:List AV} {l:List Arr},arrL xs=some l→xs.length=l.length∧LeL (flat xs) (flat (arrs l))
  |[],l,h=>by cases h;exact ⟨rfl,trivial⟩
  |x::xs,l,h=>by
   rw [arrL_cons] at h
   split at h
   ·rename_i a m h1 h2
    cases h
    obtain ⟨e1,e2⟩:=arrL_inv h2
    obtain ⟨p,q,rfl,g1,g2⟩:=arrOf_inv h1
    refine ⟨by simp [e1],?_⟩
    have:LeL (AV.cells (.agg [.lit (.string a.e),p,q])) (AV.cells (arrV a)):=⟨LeA.refl _,g1,g2,trivial⟩
    exact LeL.append this e2
   ·cases h
theorem arrs_wid (l:List Arr):∀ y∈arrs l,y.cells.length=3:=by
  intro y hy
  obtain ⟨a,_,rfl⟩:=List.mem_map.1 hy
  rfl
def arrsOf (x:AV):Option (List Arr):=(slA 3 x).bind arrL
theorem arrsOf_le {x:AV} {l:List Arr} (h:arrsOf x=some l):LeA x (.sl false 3 (arrs l)):=by
  unfold arrsOf at h
  cases hx:slA 3 x with
  |none=>rw [hx] at h;cases h
  |some xs=>
   rw [hx] at h
   obtain ⟨h1,h2⟩:=arrL_inv (l:=l) h
   intro C v hv
   exact LeA.sl (b:=false) (by rw [arrs_length];exact h1) (arrs_wid l) h2 C v (slA_le hx C v hv)
theorem arrsOf_sl {b:Bool} {l:List Arr}:arrsOf (.sl b 3 (arrs l))=some l:=by simp [arrsOf,slA,arrL_arrs]
end Go.Proofs.Ytnlimcijgpaegaa

namespace Go.Proofs.Ytnlimcijgpaegaa
open Go Go.Fw
set_option maxRecDepth 20000
theorem szV_def {p:Int×Int}:szV p= .tup [.lit (.int .i64 p.1),.lit (.int .i64 p.2)]:=rfl
end Go.Proofs.Ytnlimcijgpaegaa

namespace Go.Proofs.Ytnlimcijgpaegaa
open Go Go.Fw
set_option maxRecDepth 20000
def okA (a:Arr):Prop:=a.d.length≤1000000∧a.x.length≤1000000
end Go.Proofs.Ytnlimcijgpaegaa

namespace Go.Proofs.Ytnlimcijgpaegaa
open Go Go.Fw
set_option maxRecDepth 20000
def fieldTs (P:Program) (t:TypeId):List TypeId:=match P.underlying t with
  |some (.struct fs)=>fs.toList.map (·.type)
  |_=>[]
theorem struct_of {P:Program} {t:TypeId} {ts:List TypeId} (hne:ts≠[]) (h:fieldTs P t=ts):∃ fs:Array Field,P.underlying t=some (.struct fs)∧fs.toList.map (·.type)=ts:=by
  unfold fieldTs at h
  split at h
  ·rename_i e;exact ⟨_,e,h⟩
  ·exact absurd h.symm hne
theorem sh_fields {P:Program} {t:TypeId} {ts:List TypeId} {xs:List AV} (hne:ts≠[]) (ht:fieldTs P t=ts) (h:Sh P t xs):
    ∃ xss:List (List AV),xs=xss.flatten∧xss.length=ts.length∧∀ (i:Nat) (u:TypeId) (ys:List AV),ts[i]? =some u→xss[i]? =some ys→Sh P u ys:=by
  obtain ⟨fs,hf,hm⟩:=struct_of hne ht
  obtain ⟨xss,h1,h2,h3⟩:=sh_struct hf h
  refine ⟨xss,h1,by rw [h2,←hm];simp,fun i u ys hu hy=>?_⟩
  rw [←hm,List.getElem?_map] at hu
  cases hi:fs.toList[i]? with
  |none=>rw [hi] at hu;cases hu
  |some f=>rw [hi] at hu;cases hu;exact h3 i f ys hi hy
theorem sh_three {P:Program} {t a b c:TypeId} {xs:List AV} (ht:fieldTs P t=[a,b,c]) (h:Sh P t xs):∃ p q r,xs=p++(q++r)∧Sh P a p∧Sh P b q∧Sh P c r:=by
  obtain ⟨xss,h1,h2,h3⟩:=sh_fields (by simp) ht h
  match xss,h2 with
  |[p,q,r],_=>exact ⟨p,q,r,by simpa using h1,h3 0 a p rfl rfl,h3 1 b q rfl rfl,h3 2 c r rfl rfl⟩
theorem sh_two {P:Program} {t a b:TypeId} {xs:List AV} (ht:fieldTs P t=[a,b]) (h:Sh P t xs):∃ p q,xs=p++q∧Sh P a p∧Sh P b q:=by
  obtain ⟨xss,h1,h2,h3⟩:=sh_fields (by simp) ht h
  match xss,h2 with
  |[p,q],_=>exact ⟨p,q,by simpa using h1,h3 0 a p rfl rfl,h3 1 b q rfl rfl⟩
theorem ft96:fieldTs Try.prog 96=[9,34,34]:=by kernel_rfl
def okW (a:Arr):Prop:=(∀ n∈a.d,inI64 n)∧(∀ n∈a.x,inI64 n)∧a.d.length≤maxLen∧a.x.length≤maxLen
theorem shv_arr {x:AV} (h:ShV Try.prog 96 x):∃ a:Arr,x=arrV a∧okW a:=by
  obtain ⟨c,rfl,hc⟩:=shv_agg ag96 h
  obtain ⟨p,q,r,rfl,hp,hq,hr⟩:=sh_three ft96 hc
  obtain ⟨s,rfl,hs⟩:=sh_str u9 hp
  obtain ⟨d,rfl,hd,hd'⟩:=sh_ints u34 u3 sz3 hq
  obtain ⟨w,rfl,hw,hw'⟩:=sh_ints u34 u3 sz3 hr
  exact ⟨⟨s,d,w⟩,rfl,fun n hn=>wf_i64 (hd' n hn),fun n hn=>wf_i64 (hw' n hn),hd,hw⟩
theorem list_arrs {q:Arr→Prop}:∀ {ys:List AV},(∀ y∈ys,∃ a,y=arrV a∧q a)→∃ l:List Arr,ys=arrs l∧∀ a∈l,q a
  |[],_=>⟨[],rfl,by simp⟩
  |y::ys,h=>by
   obtain ⟨n,rfl,hn⟩:=h y (by simp)
   obtain ⟨l,rfl,hl⟩:=list_arrs (ys:=ys) fun z hz=>h z (by simp [hz])
   exact ⟨n::l,rfl,fun m hm=>by rcases List.mem_cons.1 hm with rfl|hm;exact hn;exact hl m hm⟩
end Go.Proofs.Ytnlimcijgpaegaa

namespace Go.Fw
end Go.Fw
namespace Go.Proofs.Ytnlimcijgpaegaa
open Go Go.Fw
set_option maxRecDepth 20000
end Go.Proofs.Ytnlimcijgpaegaa

namespace Go.Proofs.Ytnlimcijgpaegaa
open Go Go.Fw
set_option maxRecDepth 20000
def ilA (l:List Int):AV:= .sl false 1 (ints .i64 l)
def ils (L:List (List Int)):List AV:=L.map ilA
def axOk (n:Int) (axes:List Int) (i:Nat):Bool:= !decide (axes.getD i 0<0)&&(!decide (axes.getD i 0≥n)&& !(decide ((i:Int)>0)&&decide (axes.getD (i - 1) 0≥axes.getD i 0)))
def axP (n:Int) (axes:List Int):Prop:=∀ i,i<axes.length→axOk n axes i=true
instance (n:Int) (axes:List Int):Decidable (axP n axes):=inferInstanceAs (Decidable (∀ i,i<axes.length→axOk n axes i=true))
end Go.Proofs.Ytnlimcijgpaegaa

namespace Go.Proofs.Ytnlimcijgpaegaa
open Go Go.Fw
set_option maxRecDepth 20000
def jA:AV:=arrV nilA
def jI:AV:= .sl false 1 []
def jk:TypeId→AV:=lookZ [(3,.lit (.int .i64 0)),(9,.lit (.string ByteArray.empty)),(34,jI),(96,jA)]
theorem jk3:jk 3= .lit (.int .i64 0):=rfl
theorem jk9:jk 9= .lit (.string ByteArray.empty):=rfl
theorem jk34:jk 34=jI:=rfl
theorem jk96:jk 96=jA:=rfl
theorem arrs_getJ (l:List Arr) (i:Nat):(arrs l).getD i jA=arrV (l.getD i nilA):=by
  simp only [arrs,jA,List.getD_eq_getElem?_getD,List.getElem?_map];cases l[i]? <;>rfl
theorem ils_getJ (l:List (List Int)) (i:Nat):(ils l).getD i jI= .sl false 1 (ints .i64 (l.getD i [])):=by
  simp only [ils,jI,List.getD_eq_getElem?_getD,List.getElem?_map];cases l[i]? <;>rfl
attribute [go_sem] jk3 jk9 jk34 jk96 arrs_getJ ils_getJ
end Go.Proofs.Ytnlimcijgpaegaa

namespace Go.Proofs.Ytnlimcijgpaegaa.El
open Go.Proofs.Ytnlimcijgpaegaa
open Go Go.Fw
set_option maxRecDepth 20000
noncomputable def E0:Env:=envOf (P:=Try.prog) zer (fun _=>false) (fun _=>false) [] []
theorem E0_ok:EnvOk Try.prog E0:=envOk zer_ok
def w32 (n:Int):Int:=IntKind.i32.wrap n
def tru (b:Bool):Int:=if b=true then 1 else 0
def flo (a b:Int):Int:=if b=0 then 0 else if a.tmod b≠0∧decide (a<0)≠decide (b<0) then a.tdiv b - 1 else a.tdiv b
def sgn (a:Int):Int:=if a<0 then -1 else if a>0 then 1 else 0
def sInt:ByteArray:=⟨#[105,110,116]⟩
def sBool:ByteArray:=⟨#[98,111,111,108]⟩
def sA:ByteArray:=⟨#[65]⟩
def vld (s:ByteArray) (n:Int):Bool:=if eqS s sInt=true then decide (-2147483648≤n∧n≤2147483647) else if eqS s sBool=true then decide (n=0∨n=1) else false
theorem eqS_iff {a b:ByteArray}:eqS a b=true ↔ a=b:=by
  unfold eqS
  rw [beq_iff_eq]
  constructor
  ·intro h
   apply ByteArray.ext
   apply Array.ext'
   simpa using h
  ·intro h;rw [h]
theorem eqS_refl (b:ByteArray):eqS b b=true:=eqS_iff.2 rfl
end Go.Proofs.Ytnlimcijgpaegaa.El

namespace Go.Proofs.Ytnlimcijgpaegaa.El
open Go.Proofs.Ytnlimcijgpaegaa
open Go Go.Fw
set_option maxRecDepth 20000
abbrev w0:ByteArray:=⟨#[97,100,100]⟩
abbrev w1:ByteArray:=⟨#[115,117,98]⟩
abbrev w2:ByteArray:=⟨#[109,117,108]⟩
abbrev w3:ByteArray:=⟨#[100,105,118]⟩
abbrev w4:ByteArray:=⟨#[109,111,100]⟩
abbrev w5:ByteArray:=⟨#[109,105,110]⟩
abbrev w6:ByteArray:=⟨#[109,97,120]⟩
abbrev w7:ByteArray:=⟨#[110,101,103]⟩
abbrev w8:ByteArray:=⟨#[97,98,115]⟩
abbrev w9:ByteArray:=⟨#[115,105,103,110]⟩
abbrev w10:ByteArray:=⟨#[108,116]⟩
abbrev w11:ByteArray:=⟨#[108,101]⟩
abbrev w12:ByteArray:=⟨#[103,116]⟩
abbrev w13:ByteArray:=⟨#[103,101]⟩
abbrev w14:ByteArray:=⟨#[101,113]⟩
abbrev w15:ByteArray:=⟨#[110,101]⟩
abbrev w16:ByteArray:=⟨#[97,110,100]⟩
abbrev w17:ByteArray:=⟨#[111,114]⟩
abbrev w18:ByteArray:=⟨#[120,111,114]⟩
abbrev w19:ByteArray:=⟨#[110,111,116]⟩
abbrev w20:ByteArray:=⟨#[115,101,108,101,99,116]⟩
abbrev w21:ByteArray:=⟨#[116,111,105,110,116]⟩
abbrev w22:ByteArray:=⟨#[105,110,116]⟩
abbrev w23:ByteArray:=⟨#[98,111,111,108]⟩
abbrev w24:ByteArray:=⟨#[65]⟩
abbrev w25:ByteArray:=⟨#[]⟩
theorem qr0:eqS w0 w0=true∧eqS w0 w1=false∧eqS w0 w2=false∧eqS w0 w3=false∧eqS w0 w4=false∧eqS w0 w5=false∧eqS w0 w6=false∧eqS w0 w7=false∧eqS w0 w8=false∧eqS w0 w9=false∧eqS w0 w10=false∧eqS w0 w11=false∧eqS w0 w12=false∧eqS w0 w13=false∧eqS w0 w14=false∧eqS w0 w15=false∧eqS w0 w16=false∧eqS w0 w17=false∧eqS w0 w18=false∧eqS w0 w19=false∧eqS w0 w20=false∧eqS w0 w21=false∧eqS w0 w22=false∧eqS w0 w23=false∧eqS w0 w24=false∧eqS w0 w25=false:=by and_intros<;>rfl
theorem qr1:eqS w1 w0=false∧eqS w1 w1=true∧eqS w1 w2=false∧eqS w1 w3=false∧eqS w1 w4=false∧eqS w1 w5=false∧eqS w1 w6=false∧eqS w1 w7=false∧eqS w1 w8=false∧eqS w1 w9=false∧eqS w1 w10=false∧eqS w1 w11=false∧eqS w1 w12=false∧eqS w1 w13=false∧eqS w1 w14=false∧eqS w1 w15=false∧eqS w1 w16=false∧eqS w1 w17=false∧eqS w1 w18=false∧eqS w1 w19=false∧eqS w1 w20=false∧eqS w1 w21=false∧eqS w1 w22=false∧eqS w1 w23=false∧eqS w1 w24=false∧eqS w1 w25=false:=by and_intros<;>rfl
theorem qr2:eqS w2 w0=false∧eqS w2 w1=false∧eqS w2 w2=true∧eqS w2 w3=false∧eqS w2 w4=false∧eqS w2 w5=false∧eqS w2 w6=false∧eqS w2 w7=false∧eqS w2 w8=false∧eqS w2 w9=false∧eqS w2 w10=false∧eqS w2 w11=false∧eqS w2 w12=false∧eqS w2 w13=false∧eqS w2 w14=false∧eqS w2 w15=false∧eqS w2 w16=false∧eqS w2 w17=false∧eqS w2 w18=false∧eqS w2 w19=false∧eqS w2 w20=false∧eqS w2 w21=false∧eqS w2 w22=false∧eqS w2 w23=false∧eqS w2 w24=false∧eqS w2 w25=false:=by and_intros<;>rfl
theorem qr3:eqS w3 w0=false∧eqS w3 w1=false∧eqS w3 w2=false∧eqS w3 w3=true∧eqS w3 w4=false∧eqS w3 w5=false∧eqS w3 w6=false∧eqS w3 w7=false∧eqS w3 w8=false∧eqS w3 w9=false∧eqS w3 w10=false∧eqS w3 w11=false∧eqS w3 w12=false∧eqS w3 w13=false∧eqS w3 w14=false∧eqS w3 w15=false∧eqS w3 w16=false∧eqS w3 w17=false∧eqS w3 w18=false∧eqS w3 w19=false∧eqS w3 w20=false∧eqS w3 w21=false∧eqS w3 w22=false∧eqS w3 w23=false∧eqS w3 w24=false∧eqS w3 w25=false:=by and_intros<;>rfl
theorem qr4:eqS w4 w0=false∧eqS w4 w1=false∧eqS w4 w2=false∧eqS w4 w3=false∧eqS w4 w4=true∧eqS w4 w5=false∧eqS w4 w6=false∧eqS w4 w7=false∧eqS w4 w8=false∧eqS w4 w9=false∧eqS w4 w10=false∧eqS w4 w11=false∧eqS w4 w12=false∧eqS w4 w13=false∧eqS w4 w14=false∧eqS w4 w15=false∧eqS w4 w16=false∧eqS w4 w17=false∧eqS w4 w18=false∧eqS w4 w19=false∧eqS w4 w20=false∧eqS w4 w21=false∧eqS w4 w22=false∧eqS w4 w23=false∧eqS w4 w24=false∧eqS w4 w25=false:=by and_intros<;>rfl
theorem qr5:eqS w5 w0=false∧eqS w5 w1=false∧eqS w5 w2=false∧eqS w5 w3=false∧eqS w5 w4=false∧eqS w5 w5=true∧eqS w5 w6=false∧eqS w5 w7=false∧eqS w5 w8=false∧eqS w5 w9=false∧eqS w5 w10=false∧eqS w5 w11=false∧eqS w5 w12=false∧eqS w5 w13=false∧eqS w5 w14=false∧eqS w5 w15=false∧eqS w5 w16=false∧eqS w5 w17=false∧eqS w5 w18=false∧eqS w5 w19=false∧eqS w5 w20=false∧eqS w5 w21=false∧eqS w5 w22=false∧eqS w5 w23=false∧eqS w5 w24=false∧eqS w5 w25=false:=by and_intros<;>rfl
theorem qr6:eqS w6 w0=false∧eqS w6 w1=false∧eqS w6 w2=false∧eqS w6 w3=false∧eqS w6 w4=false∧eqS w6 w5=false∧eqS w6 w6=true∧eqS w6 w7=false∧eqS w6 w8=false∧eqS w6 w9=false∧eqS w6 w10=false∧eqS w6 w11=false∧eqS w6 w12=false∧eqS w6 w13=false∧eqS w6 w14=false∧eqS w6 w15=false∧eqS w6 w16=false∧eqS w6 w17=false∧eqS w6 w18=false∧eqS w6 w19=false∧eqS w6 w20=false∧eqS w6 w21=false∧eqS w6 w22=false∧eqS w6 w23=false∧eqS w6 w24=false∧eqS w6 w25=false:=by and_intros<;>rfl
theorem qr7:eqS w7 w0=false∧eqS w7 w1=false∧eqS w7 w2=false∧eqS w7 w3=false∧eqS w7 w4=false∧eqS w7 w5=false∧eqS w7 w6=false∧eqS w7 w7=true∧eqS w7 w8=false∧eqS w7 w9=false∧eqS w7 w10=false∧eqS w7 w11=false∧eqS w7 w12=false∧eqS w7 w13=false∧eqS w7 w14=false∧eqS w7 w15=false∧eqS w7 w16=false∧eqS w7 w17=false∧eqS w7 w18=false∧eqS w7 w19=false∧eqS w7 w20=false∧eqS w7 w21=false∧eqS w7 w22=false∧eqS w7 w23=false∧eqS w7 w24=false∧eqS w7 w25=false:=by and_intros<;>rfl
theorem qr8:eqS w8 w0=false∧eqS w8 w1=false∧eqS w8 w2=false∧eqS w8 w3=false∧eqS w8 w4=false∧eqS w8 w5=false∧eqS w8 w6=false∧eqS w8 w7=false∧eqS w8 w8=true∧eqS w8 w9=false∧eqS w8 w10=false∧eqS w8 w11=false∧eqS w8 w12=false∧eqS w8 w13=false∧eqS w8 w14=false∧eqS w8 w15=false∧eqS w8 w16=false∧eqS w8 w17=false∧eqS w8 w18=false∧eqS w8 w19=false∧eqS w8 w20=false∧eqS w8 w21=false∧eqS w8 w22=false∧eqS w8 w23=false∧eqS w8 w24=false∧eqS w8 w25=false:=by and_intros<;>rfl
theorem qr9:eqS w9 w0=false∧eqS w9 w1=false∧eqS w9 w2=false∧eqS w9 w3=false∧eqS w9 w4=false∧eqS w9 w5=false∧eqS w9 w6=false∧eqS w9 w7=false∧eqS w9 w8=false∧eqS w9 w9=true∧eqS w9 w10=false∧eqS w9 w11=false∧eqS w9 w12=false∧eqS w9 w13=false∧eqS w9 w14=false∧eqS w9 w15=false∧eqS w9 w16=false∧eqS w9 w17=false∧eqS w9 w18=false∧eqS w9 w19=false∧eqS w9 w20=false∧eqS w9 w21=false∧eqS w9 w22=false∧eqS w9 w23=false∧eqS w9 w24=false∧eqS w9 w25=false:=by and_intros<;>rfl
theorem qr10:eqS w10 w0=false∧eqS w10 w1=false∧eqS w10 w2=false∧eqS w10 w3=false∧eqS w10 w4=false∧eqS w10 w5=false∧eqS w10 w6=false∧eqS w10 w7=false∧eqS w10 w8=false∧eqS w10 w9=false∧eqS w10 w10=true∧eqS w10 w11=false∧eqS w10 w12=false∧eqS w10 w13=false∧eqS w10 w14=false∧eqS w10 w15=false∧eqS w10 w16=false∧eqS w10 w17=false∧eqS w10 w18=false∧eqS w10 w19=false∧eqS w10 w20=false∧eqS w10 w21=false∧eqS w10 w22=false∧eqS w10 w23=false∧eqS w10 w24=false∧eqS w10 w25=false:=by and_intros<;>rfl
theorem qr11:eqS w11 w0=false∧eqS w11 w1=false∧eqS w11 w2=false∧eqS w11 w3=false∧eqS w11 w4=false∧eqS w11 w5=false∧eqS w11 w6=false∧eqS w11 w7=false∧eqS w11 w8=false∧eqS w11 w9=false∧eqS w11 w10=false∧eqS w11 w11=true∧eqS w11 w12=false∧eqS w11 w13=false∧eqS w11 w14=false∧eqS w11 w15=false∧eqS w11 w16=false∧eqS w11 w17=false∧eqS w11 w18=false∧eqS w11 w19=false∧eqS w11 w20=false∧eqS w11 w21=false∧eqS w11 w22=false∧eqS w11 w23=false∧eqS w11 w24=false∧eqS w11 w25=false:=by and_intros<;>rfl
theorem qr12:eqS w12 w0=false∧eqS w12 w1=false∧eqS w12 w2=false∧eqS w12 w3=false∧eqS w12 w4=false∧eqS w12 w5=false∧eqS w12 w6=false∧eqS w12 w7=false∧eqS w12 w8=false∧eqS w12 w9=false∧eqS w12 w10=false∧eqS w12 w11=false∧eqS w12 w12=true∧eqS w12 w13=false∧eqS w12 w14=false∧eqS w12 w15=false∧eqS w12 w16=false∧eqS w12 w17=false∧eqS w12 w18=false∧eqS w12 w19=false∧eqS w12 w20=false∧eqS w12 w21=false∧eqS w12 w22=false∧eqS w12 w23=false∧eqS w12 w24=false∧eqS w12 w25=false:=by and_intros<;>rfl
theorem qr13:eqS w13 w0=false∧eqS w13 w1=false∧eqS w13 w2=false∧eqS w13 w3=false∧eqS w13 w4=false∧eqS w13 w5=false∧eqS w13 w6=false∧eqS w13 w7=false∧eqS w13 w8=false∧eqS w13 w9=false∧eqS w13 w10=false∧eqS w13 w11=false∧eqS w13 w12=false∧eqS w13 w13=true∧eqS w13 w14=false∧eqS w13 w15=false∧eqS w13 w16=false∧eqS w13 w17=false∧eqS w13 w18=false∧eqS w13 w19=false∧eqS w13 w20=false∧eqS w13 w21=false∧eqS w13 w22=false∧eqS w13 w23=false∧eqS w13 w24=false∧eqS w13 w25=false:=by and_intros<;>rfl
theorem qr14:eqS w14 w0=false∧eqS w14 w1=false∧eqS w14 w2=false∧eqS w14 w3=false∧eqS w14 w4=false∧eqS w14 w5=false∧eqS w14 w6=false∧eqS w14 w7=false∧eqS w14 w8=false∧eqS w14 w9=false∧eqS w14 w10=false∧eqS w14 w11=false∧eqS w14 w12=false∧eqS w14 w13=false∧eqS w14 w14=true∧eqS w14 w15=false∧eqS w14 w16=false∧eqS w14 w17=false∧eqS w14 w18=false∧eqS w14 w19=false∧eqS w14 w20=false∧eqS w14 w21=false∧eqS w14 w22=false∧eqS w14 w23=false∧eqS w14 w24=false∧eqS w14 w25=false:=by and_intros<;>rfl
theorem qr15:eqS w15 w0=false∧eqS w15 w1=false∧eqS w15 w2=false∧eqS w15 w3=false∧eqS w15 w4=false∧eqS w15 w5=false∧eqS w15 w6=false∧eqS w15 w7=false∧eqS w15 w8=false∧eqS w15 w9=false∧eqS w15 w10=false∧eqS w15 w11=false∧eqS w15 w12=false∧eqS w15 w13=false∧eqS w15 w14=false∧eqS w15 w15=true∧eqS w15 w16=false∧eqS w15 w17=false∧eqS w15 w18=false∧eqS w15 w19=false∧eqS w15 w20=false∧eqS w15 w21=false∧eqS w15 w22=false∧eqS w15 w23=false∧eqS w15 w24=false∧eqS w15 w25=false:=by and_intros<;>rfl
theorem qr16:eqS w16 w0=false∧eqS w16 w1=false∧eqS w16 w2=false∧eqS w16 w3=false∧eqS w16 w4=false∧eqS w16 w5=false∧eqS w16 w6=false∧eqS w16 w7=false∧eqS w16 w8=false∧eqS w16 w9=false∧eqS w16 w10=false∧eqS w16 w11=false∧eqS w16 w12=false∧eqS w16 w13=false∧eqS w16 w14=false∧eqS w16 w15=false∧eqS w16 w16=true∧eqS w16 w17=false∧eqS w16 w18=false∧eqS w16 w19=false∧eqS w16 w20=false∧eqS w16 w21=false∧eqS w16 w22=false∧eqS w16 w23=false∧eqS w16 w24=false∧eqS w16 w25=false:=by and_intros<;>rfl
theorem qr17:eqS w17 w0=false∧eqS w17 w1=false∧eqS w17 w2=false∧eqS w17 w3=false∧eqS w17 w4=false∧eqS w17 w5=false∧eqS w17 w6=false∧eqS w17 w7=false∧eqS w17 w8=false∧eqS w17 w9=false∧eqS w17 w10=false∧eqS w17 w11=false∧eqS w17 w12=false∧eqS w17 w13=false∧eqS w17 w14=false∧eqS w17 w15=false∧eqS w17 w16=false∧eqS w17 w17=true∧eqS w17 w18=false∧eqS w17 w19=false∧eqS w17 w20=false∧eqS w17 w21=false∧eqS w17 w22=false∧eqS w17 w23=false∧eqS w17 w24=false∧eqS w17 w25=false:=by and_intros<;>rfl
theorem qr18:eqS w18 w0=false∧eqS w18 w1=false∧eqS w18 w2=false∧eqS w18 w3=false∧eqS w18 w4=false∧eqS w18 w5=false∧eqS w18 w6=false∧eqS w18 w7=false∧eqS w18 w8=false∧eqS w18 w9=false∧eqS w18 w10=false∧eqS w18 w11=false∧eqS w18 w12=false∧eqS w18 w13=false∧eqS w18 w14=false∧eqS w18 w15=false∧eqS w18 w16=false∧eqS w18 w17=false∧eqS w18 w18=true∧eqS w18 w19=false∧eqS w18 w20=false∧eqS w18 w21=false∧eqS w18 w22=false∧eqS w18 w23=false∧eqS w18 w24=false∧eqS w18 w25=false:=by and_intros<;>rfl
theorem qr19:eqS w19 w0=false∧eqS w19 w1=false∧eqS w19 w2=false∧eqS w19 w3=false∧eqS w19 w4=false∧eqS w19 w5=false∧eqS w19 w6=false∧eqS w19 w7=false∧eqS w19 w8=false∧eqS w19 w9=false∧eqS w19 w10=false∧eqS w19 w11=false∧eqS w19 w12=false∧eqS w19 w13=false∧eqS w19 w14=false∧eqS w19 w15=false∧eqS w19 w16=false∧eqS w19 w17=false∧eqS w19 w18=false∧eqS w19 w19=true∧eqS w19 w20=false∧eqS w19 w21=false∧eqS w19 w22=false∧eqS w19 w23=false∧eqS w19 w24=false∧eqS w19 w25=false:=by and_intros<;>rfl
theorem qr20:eqS w20 w0=false∧eqS w20 w1=false∧eqS w20 w2=false∧eqS w20 w3=false∧eqS w20 w4=false∧eqS w20 w5=false∧eqS w20 w6=false∧eqS w20 w7=false∧eqS w20 w8=false∧eqS w20 w9=false∧eqS w20 w10=false∧eqS w20 w11=false∧eqS w20 w12=false∧eqS w20 w13=false∧eqS w20 w14=false∧eqS w20 w15=false∧eqS w20 w16=false∧eqS w20 w17=false∧eqS w20 w18=false∧eqS w20 w19=false∧eqS w20 w20=true∧eqS w20 w21=false∧eqS w20 w22=false∧eqS w20 w23=false∧eqS w20 w24=false∧eqS w20 w25=false:=by and_intros<;>rfl
theorem qr21:eqS w21 w0=false∧eqS w21 w1=false∧eqS w21 w2=false∧eqS w21 w3=false∧eqS w21 w4=false∧eqS w21 w5=false∧eqS w21 w6=false∧eqS w21 w7=false∧eqS w21 w8=false∧eqS w21 w9=false∧eqS w21 w10=false∧eqS w21 w11=false∧eqS w21 w12=false∧eqS w21 w13=false∧eqS w21 w14=false∧eqS w21 w15=false∧eqS w21 w16=false∧eqS w21 w17=false∧eqS w21 w18=false∧eqS w21 w19=false∧eqS w21 w20=false∧eqS w21 w21=true∧eqS w21 w22=false∧eqS w21 w23=false∧eqS w21 w24=false∧eqS w21 w25=false:=by and_intros<;>rfl
theorem qr22:eqS w22 w0=false∧eqS w22 w1=false∧eqS w22 w2=false∧eqS w22 w3=false∧eqS w22 w4=false∧eqS w22 w5=false∧eqS w22 w6=false∧eqS w22 w7=false∧eqS w22 w8=false∧eqS w22 w9=false∧eqS w22 w10=false∧eqS w22 w11=false∧eqS w22 w12=false∧eqS w22 w13=false∧eqS w22 w14=false∧eqS w22 w15=false∧eqS w22 w16=false∧eqS w22 w17=false∧eqS w22 w18=false∧eqS w22 w19=false∧eqS w22 w20=false∧eqS w22 w21=false∧eqS w22 w22=true∧eqS w22 w23=false∧eqS w22 w24=false∧eqS w22 w25=false:=by and_intros<;>rfl
theorem qr23:eqS w23 w0=false∧eqS w23 w1=false∧eqS w23 w2=false∧eqS w23 w3=false∧eqS w23 w4=false∧eqS w23 w5=false∧eqS w23 w6=false∧eqS w23 w7=false∧eqS w23 w8=false∧eqS w23 w9=false∧eqS w23 w10=false∧eqS w23 w11=false∧eqS w23 w12=false∧eqS w23 w13=false∧eqS w23 w14=false∧eqS w23 w15=false∧eqS w23 w16=false∧eqS w23 w17=false∧eqS w23 w18=false∧eqS w23 w19=false∧eqS w23 w20=false∧eqS w23 w21=false∧eqS w23 w22=false∧eqS w23 w23=true∧eqS w23 w24=false∧eqS w23 w25=false:=by and_intros<;>rfl
theorem qr24:eqS w24 w0=false∧eqS w24 w1=false∧eqS w24 w2=false∧eqS w24 w3=false∧eqS w24 w4=false∧eqS w24 w5=false∧eqS w24 w6=false∧eqS w24 w7=false∧eqS w24 w8=false∧eqS w24 w9=false∧eqS w24 w10=false∧eqS w24 w11=false∧eqS w24 w12=false∧eqS w24 w13=false∧eqS w24 w14=false∧eqS w24 w15=false∧eqS w24 w16=false∧eqS w24 w17=false∧eqS w24 w18=false∧eqS w24 w19=false∧eqS w24 w20=false∧eqS w24 w21=false∧eqS w24 w22=false∧eqS w24 w23=false∧eqS w24 w24=true∧eqS w24 w25=false:=by and_intros<;>rfl
theorem qr25:eqS w25 w0=false∧eqS w25 w1=false∧eqS w25 w2=false∧eqS w25 w3=false∧eqS w25 w4=false∧eqS w25 w5=false∧eqS w25 w6=false∧eqS w25 w7=false∧eqS w25 w8=false∧eqS w25 w9=false∧eqS w25 w10=false∧eqS w25 w11=false∧eqS w25 w12=false∧eqS w25 w13=false∧eqS w25 w14=false∧eqS w25 w15=false∧eqS w25 w16=false∧eqS w25 w17=false∧eqS w25 w18=false∧eqS w25 w19=false∧eqS w25 w20=false∧eqS w25 w21=false∧eqS w25 w22=false∧eqS w25 w23=false∧eqS w25 w24=false∧eqS w25 w25=true:=by and_intros<;>rfl
attribute [go_sem] qr0 qr1 qr2 qr3 qr4 qr5 qr6 qr7 qr8 qr9 qr10 qr11 qr12 qr13 qr14 qr15 qr16 qr17 qr18 qr19 qr20 qr21 qr22 qr23 qr24 qr25
structure Rw where
  op:ByteArray
  ps:List ByteArray
  rs:ByteArray
instance:Inhabited Rw:=⟨⟨⟨#[]⟩,[],⟨#[]⟩⟩⟩
def rowsL:List Rw:=[⟨(⟨#[97,100,100]⟩:ByteArray),[(⟨#[105,110,116]⟩:ByteArray),(⟨#[105,110,116]⟩:ByteArray)],(⟨#[105,110,116]⟩:ByteArray)⟩,⟨(⟨#[115,117,98]⟩:ByteArray),[(⟨#[105,110,116]⟩:ByteArray),(⟨#[105,110,116]⟩:ByteArray)],(⟨#[105,110,116]⟩:ByteArray)⟩,⟨(⟨#[109,117,108]⟩:ByteArray),[(⟨#[105,110,116]⟩:ByteArray),(⟨#[105,110,116]⟩:ByteArray)],(⟨#[105,110,116]⟩:ByteArray)⟩,⟨(⟨#[100,105,118]⟩:ByteArray),[(⟨#[105,110,116]⟩:ByteArray),(⟨#[105,110,116]⟩:ByteArray)],(⟨#[105,110,116]⟩:ByteArray)⟩,⟨(⟨#[109,111,100]⟩:ByteArray),[(⟨#[105,110,116]⟩:ByteArray),(⟨#[105,110,116]⟩:ByteArray)],(⟨#[105,110,116]⟩:ByteArray)⟩,⟨(⟨#[109,105,110]⟩:ByteArray),[(⟨#[105,110,116]⟩:ByteArray),(⟨#[105,110,116]⟩:ByteArray)],(⟨#[105,110,116]⟩:ByteArray)⟩,⟨(⟨#[109,97,120]⟩:ByteArray),[(⟨#[105,110,116]⟩:ByteArray),(⟨#[105,110,116]⟩:ByteArray)],(⟨#[105,110,116]⟩:ByteArray)⟩,⟨(⟨#[110,101,103]⟩:ByteArray),[(⟨#[105,110,116]⟩:ByteArray)],(⟨#[105,110,116]⟩:ByteArray)⟩,⟨(⟨#[97,98,115]⟩:ByteArray),[(⟨#[105,110,116]⟩:ByteArray)],(⟨#[105,110,116]⟩:ByteArray)⟩,⟨(⟨#[115,105,103,110]⟩:ByteArray),[(⟨#[105,110,116]⟩:ByteArray)],(⟨#[105,110,116]⟩:ByteArray)⟩,⟨(⟨#[108,116]⟩:ByteArray),[(⟨#[105,110,116]⟩:ByteArray),(⟨#[105,110,116]⟩:ByteArray)],(⟨#[98,111,111,108]⟩:ByteArray)⟩,⟨(⟨#[108,101]⟩:ByteArray),[(⟨#[105,110,116]⟩:ByteArray),(⟨#[105,110,116]⟩:ByteArray)],(⟨#[98,111,111,108]⟩:ByteArray)⟩,⟨(⟨#[103,116]⟩:ByteArray),[(⟨#[105,110,116]⟩:ByteArray),(⟨#[105,110,116]⟩:ByteArray)],(⟨#[98,111,111,108]⟩:ByteArray)⟩,⟨(⟨#[103,101]⟩:ByteArray),[(⟨#[105,110,116]⟩:ByteArray),(⟨#[105,110,116]⟩:ByteArray)],(⟨#[98,111,111,108]⟩:ByteArray)⟩,⟨(⟨#[101,113]⟩:ByteArray),[(⟨#[65]⟩:ByteArray),(⟨#[65]⟩:ByteArray)],(⟨#[98,111,111,108]⟩:ByteArray)⟩,⟨(⟨#[110,101]⟩:ByteArray),[(⟨#[65]⟩:ByteArray),(⟨#[65]⟩:ByteArray)],(⟨#[98,111,111,108]⟩:ByteArray)⟩,⟨(⟨#[97,110,100]⟩:ByteArray),[(⟨#[98,111,111,108]⟩:ByteArray),(⟨#[98,111,111,108]⟩:ByteArray)],(⟨#[98,111,111,108]⟩:ByteArray)⟩,⟨(⟨#[111,114]⟩:ByteArray),[(⟨#[98,111,111,108]⟩:ByteArray),(⟨#[98,111,111,108]⟩:ByteArray)],(⟨#[98,111,111,108]⟩:ByteArray)⟩,⟨(⟨#[120,111,114]⟩:ByteArray),[(⟨#[98,111,111,108]⟩:ByteArray),(⟨#[98,111,111,108]⟩:ByteArray)],(⟨#[98,111,111,108]⟩:ByteArray)⟩,⟨(⟨#[110,111,116]⟩:ByteArray),[(⟨#[98,111,111,108]⟩:ByteArray)],(⟨#[98,111,111,108]⟩:ByteArray)⟩,⟨(⟨#[115,101,108,101,99,116]⟩:ByteArray),[(⟨#[98,111,111,108]⟩:ByteArray),(⟨#[65]⟩:ByteArray),(⟨#[65]⟩:ByteArray)],(⟨#[65]⟩:ByteArray)⟩,⟨(⟨#[116,111,105,110,116]⟩:ByteArray),[(⟨#[98,111,111,108]⟩:ByteArray)],(⟨#[105,110,116]⟩:ByteArray)⟩]
def rowC (r:Rw):List AV:=[.lit (.string r.op),.sl true 1 (strs r.ps),.lit (.string r.rs)]
def rowCells:List AV:=rowsL.flatMap rowC
theorem rowCells_len:rowCells.length=66:=rfl
set_option maxHeartbeats 4000000 in
theorem rows_pc:PC Try.prog 103 [] (.agg rowCells):=by
  refine pcO E0_ok (fun _=>[0,1,2,3,4]) Try.func103 (h:=fun KF=>?_)
  unfold E0
  repeat' (first
   |(with_reducible first|refine nx ?_|refine t_seq fun K=>?_|refine t_br (fun hc=>?_) fun hc=>?_|refine t_bx ?_|apply And.intro|intro vr)
   |((with_reducible first|refine ny ?_|refine t_dwh (h:=fun K KL=>?_));intros;simp only [go_sem,geff]))
  all_goals try exact om
  refine end_ret rfl ?_
  simp only [fin,go_sem]
  exact LeA.refl _
end Go.Proofs.Ytnlimcijgpaegaa.El

namespace Go.Proofs.Ytnlimcijgpaegaa.El
open Go.Proofs.Ytnlimcijgpaegaa
open Go Go.Fw
set_option maxRecDepth 20000
noncomputable def con103:PCon Try.prog where
  f:=103
  c:=fun
   |[]=>some (True,.agg rowCells)
   |_=>none
  ok:=by
   intro args p r hc hp
   split at hc
   ·cases hc;exact rows_pc
   ·cases hc
  fk:=fk103
theorem con103_f:con103.f=103:=rfl
theorem con103_c:con103.c []=some (True,.agg rowCells):=rfl
theorem clone_pc {l:List ByteArray} (hl:l.length≤1000000):PC Try.prog 104 [.sl false 1 (strs l)] (.sl false 1 (strs l)):=by
  refine pcO E0_ok (fun _=>[0,2,4]) Try.func104 (h:=fun KF=>?_)
  unfold E0
  repeat' (first
   |(with_reducible first|refine nx ?_|refine t_seq fun K=>?_|refine t_br (fun hc=>?_) fun hc=>?_|refine t_bx ?_|apply And.intro|intro vr)
   |((with_reducible first|refine ny ?_|refine t_dwh (h:=fun K KL=>?_));intros;simp only [go_sem,geff]))
  all_goals try exact om
  ·skip
   refine end_ret rfl ?_
   simp only [fin,go_sem]
   rw [show strs l=[] from by assumption]
   exact LeA.nil false 1
  ·skip
   refine end_ret rfl ?_
   simp only [fin,go_sem]
   exact LeA.refl _
noncomputable def con104:PCon Try.prog where
  f:=104
  c:=fun
   |[x]=>(slS x).map fun l=>(l.length≤1000000,.sl false 1 (strs l))
   |_=>none
  ok:=by
   intro args p r hc hp
   split at hc
   ·rename_i x
    cases hx:slS x with
    |none=>rw [hx] at hc;cases hc
    |some l=>
     rw [hx] at hc
     cases hc
     exact PC.weak (clone_pc hp) ⟨slS_le hx,trivial⟩
   ·cases hc
  fk:=fk104
theorem con104_f:con104.f=104:=rfl
theorem con104_c {x:AV}:con104.c [x]=(slS x).map fun l=>(l.length≤1000000,.sl false 1 (strs l)):=rfl
theorem yes_def {x:AV}:yes x=some (True,x):=rfl
theorem need_def {p:Prop} {x:AV}:need p x=some (p,x):=rfl
def typesS (op:ByteArray):Option Rw:=rowsL.find? fun r=>eqS r.op op
def typesV (o:Option Rw):AV:=match o with
  |some r=> .tup [.sl false 1 (strs r.ps),.lit (.string r.rs),.lit (.bool true)]
  |none=> .tup [.lit (.slice none 0 0),.lit (.string ⟨#[]⟩),.lit (.bool false)]
theorem rows_len:rowsL.length=22:=rfl
theorem rows_ps:∀ r∈rowsL,r.ps.length≤3:=by decide
theorem row_cells:∀ i,i<22→(rowCells.drop (i*3)).take 3=rowC (rowsL.getD i default):=by
  intro i hi
  have:i=0∨i=1∨i=2∨i=3∨i=4∨i=5∨i=6∨i=7∨i=8∨i=9∨i=10∨i=11∨i=12∨i=13∨i=14∨i=15∨i=16∨i=17∨i=18∨i=19∨i=20∨i=21:=by omega
  rcases this with rfl|rfl|rfl|rfl|rfl|rfl|rfl|rfl|rfl|rfl|rfl|rfl|rfl|rfl|rfl|rfl|rfl|rfl|rfl|rfl|rfl|rfl<;>rfl
theorem rowCells_all:rowCells.all scal0=false:=rfl
noncomputable def E2:Env:=envOf (P:=Try.prog) zer (fun _=>false) (fun _=>false) [con103,con104] []
theorem E2_ok:EnvOk Try.prog E2:=envOk zer_ok
set_option maxHeartbeats 1000000 in
theorem types_pc {op:ByteArray}:PC Try.prog 59 [.lit (.string op)] (typesV (typesS op)):=by
  unfold typesS
  generalize hR:rowsL.find? (fun r=>eqS r.op op)=R
  refine pcO E2_ok (fun _=>[0,2,3,4,6,7,8,9,14]) Try.func59 (h:=fun KF=>?_)
  unfold E2
  repeat' (first
   |(with_reducible first|refine nx ?_|refine t_seq fun K=>?_|refine t_br (fun hc=>?_) fun hc=>?_|refine t_bx ?_|apply And.intro|intro vr)
   |((with_reducible first|refine ny ?_|refine t_dwh (h:=fun K KL=>?_));intros;simp only [go_sem,geff,con103_f,con103_c,rowCells_all,Bool.false_eq_true]))
  refine t_loop (ι:={i:Nat // i≤22∧(rowsL.drop i).find? (fun r=>eqS r.op op)=R}×List AObj) (fun i=>⟨upd (upd (upd topF 8 (.lit (.int .i64 i.1.1))) 7 (.agg rowCells)) 0 (.lit (.string op)),i.2⟩) (fun i=>22 - i.1.1) (⟨0,by omega,hR⟩,[]) ?_ ?_
  ·skip
   (refine Le.frame ?_;repeat' (first|exact leF_top _|(with_reducible refine leF_sl ?_ ?_)|(refine leF_upd (LeR.of_eq ?_) ?_)))<;>(try (simp only [go_sem];try rfl))
  ·rintro ⟨⟨i,hi,hF⟩,g⟩ K0
   rcases Nat.lt_or_ge i 22 with hc|hc
   ·have g1:decide ((i:Int)<22)=true:=decide_eq_true (by omega)
    have g2:=row_cells i hc
    have g3:(i*3+3≤66)=True:=eq_true (by omega)
    have hd:rowsL.drop i=rowsL.getD i default::rowsL.drop (i+1):=by
      rw [List.drop_eq_getElem_cons (by rw [rows_len];exact hc),getD_elem _ _ (by rw [rows_len];exact hc)]
    have hps:=rows_ps (rowsL.getD i default) (by rw [getD_elem _ _ (by rw [rows_len];exact hc)];exact List.getElem_mem _)
    generalize rowsL.getD i default=r at g2 hd hps
    obtain ⟨nm,ps,rs⟩:=r
    simp only at hps
    rw [hd,List.find?_cons] at hF
    have k1:∀ (A:AObj),(g++[A])[g.length]? =some A:=fun A=>getA0 rfl
    have k2:∀ (A B:AObj),(g++[A]).set g.length B=g++[B]:=fun A B=>setA0 rfl
    by_cases he:eqS nm op=true
    ·have:R=some ⟨nm,ps,rs⟩:=by rw [←hF];simp only [he]
     subst this
     repeat' (first
      |(with_reducible first|refine nx ?_|refine t_seq fun K=>?_|refine t_br (fun hc=>?_) fun hc=>?_|refine t_bx ?_|apply And.intro|intro vr)
      |((with_reducible first|refine ny ?_|refine t_dwh (h:=fun K KL=>?_));intros;simp only [go_sem,geff,g1,Int.toNat_natCast,g3,rowCells_len,g2,rowC,yes_def,need_def,k1,k2,he,con103_f,con104_f,con104_c,slS_sl,typesV]))
     all_goals try exact om
     refine end_ret rfl ?_
     simp only [fin,go_sem]
     exact LeA.refl _
    ·have he':eqS nm op=false:=by simpa using he
     have hF':(rowsL.drop (i+1)).find? (fun r=>eqS r.op op)=R:=by rw [←hF];simp only [he']
     repeat' (first
      |(with_reducible first|refine nx ?_|refine t_seq fun K=>?_|refine t_br (fun hc=>?_) fun hc=>?_|refine t_bx ?_|apply And.intro|intro vr)
      |((with_reducible first|refine ny ?_|refine t_dwh (h:=fun K KL=>?_));intros;simp only [go_sem,geff,g1,Int.toNat_natCast,g3,rowCells_len,g2,rowC,yes_def,need_def,k1,k2,he',con103_f,con104_f,con104_c,slS_sl]))
     all_goals try exact om
     refine ⟨(⟨i+1,by omega,hF'⟩,g++[.box 153 [.lit (.string nm),.sl true 1 (strs ps),.lit (.string rs)]]),by simp only;omega,?_⟩
     (refine Le.frame ?_;repeat' (first|exact leF_top _|(with_reducible refine leF_sl ?_ ?_)|(refine leF_upd (LeR.of_eq ?_) ?_)))<;>(try (simp only [go_sem];try rfl))
   ·have g1:decide ((i:Int)<22)=false:=decide_eq_false (by omega)
    have:i=22:=by omega
    subst this
    have:R=none:=by rw [←hF];rfl
    subst this
    repeat' (first
     |(with_reducible first|refine nx ?_|refine t_seq fun K=>?_|refine t_br (fun hc=>?_) fun hc=>?_|refine t_bx ?_|apply And.intro|intro vr)
     |((with_reducible first|refine ny ?_|refine t_dwh (h:=fun K KL=>?_));intros;simp only [go_sem,geff,g1,typesV]))
    refine end_ret rfl ?_
    simp only [fin,go_sem]
    exact LeA.refl _
theorem eqS_comm (a b:ByteArray):eqS a b=eqS b a:=by
  by_cases h:eqS a b=true
  ·rw [h,eqS_iff.1 h];exact (eqS_refl b).symm
  ·have: ¬ eqS b a=true:=fun e=>h (by rw [eqS_iff.1 e];exact eqS_refl a)
   simp only [Bool.not_eq_true] at h this
   rw [h,this]
set_option maxHeartbeats 4000000 in
theorem rtypes_pc {op:ByteArray}:PC Try.prog 29 [.lit (.string op)] (typesV (typesS op)):=by
  by_cases h0:op=(⟨#[97,100,100]⟩:ByteArray)
  ·subst h0
   refine pcO E0_ok (fun _=>[0,2,3,4,5,6,15,20,26,30,35,38,41]) Try.func29 (h:=fun KF=>?_)
   unfold E0
   repeat' (first
    |(with_reducible first|refine nx ?_|refine t_seq fun K=>?_|refine t_br (fun hc=>?_) fun hc=>?_|refine t_bx ?_|apply And.intro|intro vr)
    |((with_reducible first|refine ny ?_|refine t_dwh (h:=fun K KL=>?_));intros;simp only [go_sem,geff]))
   all_goals try exact om
   refine end_ret rfl ?_
   simp only [fin,go_sem]
   exact LeA.tup ⟨LeA.full true 1 _,LeA.refl _,LeA.refl _,trivial⟩
  have z0:eqS op (⟨#[97,100,100]⟩:ByteArray)=false:=Bool.eq_false_iff.2 fun e=>h0 (eqS_iff.1 e)
  by_cases h1:op=(⟨#[115,117,98]⟩:ByteArray)
  ·subst h1
   refine pcO E0_ok (fun _=>[0,2,3,4,5,6,15,20,26,30,35,38,41]) Try.func29 (h:=fun KF=>?_)
   unfold E0
   repeat' (first
    |(with_reducible first|refine nx ?_|refine t_seq fun K=>?_|refine t_br (fun hc=>?_) fun hc=>?_|refine t_bx ?_|apply And.intro|intro vr)
    |((with_reducible first|refine ny ?_|refine t_dwh (h:=fun K KL=>?_));intros;simp only [go_sem,geff]))
   all_goals try exact om
   refine end_ret rfl ?_
   simp only [fin,go_sem]
   exact LeA.tup ⟨LeA.full true 1 _,LeA.refl _,LeA.refl _,trivial⟩
  have z1:eqS op (⟨#[115,117,98]⟩:ByteArray)=false:=Bool.eq_false_iff.2 fun e=>h1 (eqS_iff.1 e)
  by_cases h2:op=(⟨#[109,117,108]⟩:ByteArray)
  ·subst h2
   refine pcO E0_ok (fun _=>[0,2,3,4,5,6,15,20,26,30,35,38,41]) Try.func29 (h:=fun KF=>?_)
   unfold E0
   repeat' (first
    |(with_reducible first|refine nx ?_|refine t_seq fun K=>?_|refine t_br (fun hc=>?_) fun hc=>?_|refine t_bx ?_|apply And.intro|intro vr)
    |((with_reducible first|refine ny ?_|refine t_dwh (h:=fun K KL=>?_));intros;simp only [go_sem,geff]))
   all_goals try exact om
   refine end_ret rfl ?_
   simp only [fin,go_sem]
   exact LeA.tup ⟨LeA.full true 1 _,LeA.refl _,LeA.refl _,trivial⟩
  have z2:eqS op (⟨#[109,117,108]⟩:ByteArray)=false:=Bool.eq_false_iff.2 fun e=>h2 (eqS_iff.1 e)
  by_cases h3:op=(⟨#[100,105,118]⟩:ByteArray)
  ·subst h3
   refine pcO E0_ok (fun _=>[0,2,3,4,5,6,15,20,26,30,35,38,41]) Try.func29 (h:=fun KF=>?_)
   unfold E0
   repeat' (first
    |(with_reducible first|refine nx ?_|refine t_seq fun K=>?_|refine t_br (fun hc=>?_) fun hc=>?_|refine t_bx ?_|apply And.intro|intro vr)
    |((with_reducible first|refine ny ?_|refine t_dwh (h:=fun K KL=>?_));intros;simp only [go_sem,geff]))
   all_goals try exact om
   refine end_ret rfl ?_
   simp only [fin,go_sem]
   exact LeA.tup ⟨LeA.full true 1 _,LeA.refl _,LeA.refl _,trivial⟩
  have z3:eqS op (⟨#[100,105,118]⟩:ByteArray)=false:=Bool.eq_false_iff.2 fun e=>h3 (eqS_iff.1 e)
  by_cases h4:op=(⟨#[109,111,100]⟩:ByteArray)
  ·subst h4
   refine pcO E0_ok (fun _=>[0,2,3,4,5,6,15,20,26,30,35,38,41]) Try.func29 (h:=fun KF=>?_)
   unfold E0
   repeat' (first
    |(with_reducible first|refine nx ?_|refine t_seq fun K=>?_|refine t_br (fun hc=>?_) fun hc=>?_|refine t_bx ?_|apply And.intro|intro vr)
    |((with_reducible first|refine ny ?_|refine t_dwh (h:=fun K KL=>?_));intros;simp only [go_sem,geff]))
   all_goals try exact om
   refine end_ret rfl ?_
   simp only [fin,go_sem]
   exact LeA.tup ⟨LeA.full true 1 _,LeA.refl _,LeA.refl _,trivial⟩
  have z4:eqS op (⟨#[109,111,100]⟩:ByteArray)=false:=Bool.eq_false_iff.2 fun e=>h4 (eqS_iff.1 e)
  by_cases h5:op=(⟨#[109,105,110]⟩:ByteArray)
  ·subst h5
   refine pcO E0_ok (fun _=>[0,2,3,4,5,6,15,20,26,30,35,38,41]) Try.func29 (h:=fun KF=>?_)
   unfold E0
   repeat' (first
    |(with_reducible first|refine nx ?_|refine t_seq fun K=>?_|refine t_br (fun hc=>?_) fun hc=>?_|refine t_bx ?_|apply And.intro|intro vr)
    |((with_reducible first|refine ny ?_|refine t_dwh (h:=fun K KL=>?_));intros;simp only [go_sem,geff]))
   all_goals try exact om
   refine end_ret rfl ?_
   simp only [fin,go_sem]
   exact LeA.tup ⟨LeA.full true 1 _,LeA.refl _,LeA.refl _,trivial⟩
  have z5:eqS op (⟨#[109,105,110]⟩:ByteArray)=false:=Bool.eq_false_iff.2 fun e=>h5 (eqS_iff.1 e)
  by_cases h6:op=(⟨#[109,97,120]⟩:ByteArray)
  ·subst h6
   refine pcO E0_ok (fun _=>[0,2,3,4,5,6,15,20,26,30,35,38,41]) Try.func29 (h:=fun KF=>?_)
   unfold E0
   repeat' (first
    |(with_reducible first|refine nx ?_|refine t_seq fun K=>?_|refine t_br (fun hc=>?_) fun hc=>?_|refine t_bx ?_|apply And.intro|intro vr)
    |((with_reducible first|refine ny ?_|refine t_dwh (h:=fun K KL=>?_));intros;simp only [go_sem,geff]))
   all_goals try exact om
   refine end_ret rfl ?_
   simp only [fin,go_sem]
   exact LeA.tup ⟨LeA.full true 1 _,LeA.refl _,LeA.refl _,trivial⟩
  have z6:eqS op (⟨#[109,97,120]⟩:ByteArray)=false:=Bool.eq_false_iff.2 fun e=>h6 (eqS_iff.1 e)
  by_cases h7:op=(⟨#[110,101,103]⟩:ByteArray)
  ·subst h7
   refine pcO E0_ok (fun _=>[0,2,3,4,5,6,15,20,26,30,35,38,41]) Try.func29 (h:=fun KF=>?_)
   unfold E0
   repeat' (first
    |(with_reducible first|refine nx ?_|refine t_seq fun K=>?_|refine t_br (fun hc=>?_) fun hc=>?_|refine t_bx ?_|apply And.intro|intro vr)
    |((with_reducible first|refine ny ?_|refine t_dwh (h:=fun K KL=>?_));intros;simp only [go_sem,geff]))
   all_goals try exact om
   refine end_ret rfl ?_
   simp only [fin,go_sem]
   exact LeA.tup ⟨LeA.full true 1 _,LeA.refl _,LeA.refl _,trivial⟩
  have z7:eqS op (⟨#[110,101,103]⟩:ByteArray)=false:=Bool.eq_false_iff.2 fun e=>h7 (eqS_iff.1 e)
  by_cases h8:op=(⟨#[97,98,115]⟩:ByteArray)
  ·subst h8
   refine pcO E0_ok (fun _=>[0,2,3,4,5,6,15,20,26,30,35,38,41]) Try.func29 (h:=fun KF=>?_)
   unfold E0
   repeat' (first
    |(with_reducible first|refine nx ?_|refine t_seq fun K=>?_|refine t_br (fun hc=>?_) fun hc=>?_|refine t_bx ?_|apply And.intro|intro vr)
    |((with_reducible first|refine ny ?_|refine t_dwh (h:=fun K KL=>?_));intros;simp only [go_sem,geff]))
   all_goals try exact om
   refine end_ret rfl ?_
   simp only [fin,go_sem]
   exact LeA.tup ⟨LeA.full true 1 _,LeA.refl _,LeA.refl _,trivial⟩
  have z8:eqS op (⟨#[97,98,115]⟩:ByteArray)=false:=Bool.eq_false_iff.2 fun e=>h8 (eqS_iff.1 e)
  by_cases h9:op=(⟨#[115,105,103,110]⟩:ByteArray)
  ·subst h9
   refine pcO E0_ok (fun _=>[0,2,3,4,5,6,15,20,26,30,35,38,41]) Try.func29 (h:=fun KF=>?_)
   unfold E0
   repeat' (first
    |(with_reducible first|refine nx ?_|refine t_seq fun K=>?_|refine t_br (fun hc=>?_) fun hc=>?_|refine t_bx ?_|apply And.intro|intro vr)
    |((with_reducible first|refine ny ?_|refine t_dwh (h:=fun K KL=>?_));intros;simp only [go_sem,geff]))
   all_goals try exact om
   refine end_ret rfl ?_
   simp only [fin,go_sem]
   exact LeA.tup ⟨LeA.full true 1 _,LeA.refl _,LeA.refl _,trivial⟩
  have z9:eqS op (⟨#[115,105,103,110]⟩:ByteArray)=false:=Bool.eq_false_iff.2 fun e=>h9 (eqS_iff.1 e)
  by_cases h10:op=(⟨#[108,116]⟩:ByteArray)
  ·subst h10
   refine pcO E0_ok (fun _=>[0,2,3,4,5,6,15,20,26,30,35,38,41]) Try.func29 (h:=fun KF=>?_)
   unfold E0
   repeat' (first
    |(with_reducible first|refine nx ?_|refine t_seq fun K=>?_|refine t_br (fun hc=>?_) fun hc=>?_|refine t_bx ?_|apply And.intro|intro vr)
    |((with_reducible first|refine ny ?_|refine t_dwh (h:=fun K KL=>?_));intros;simp only [go_sem,geff]))
   all_goals try exact om
   refine end_ret rfl ?_
   simp only [fin,go_sem]
   exact LeA.tup ⟨LeA.full true 1 _,LeA.refl _,LeA.refl _,trivial⟩
  have z10:eqS op (⟨#[108,116]⟩:ByteArray)=false:=Bool.eq_false_iff.2 fun e=>h10 (eqS_iff.1 e)
  by_cases h11:op=(⟨#[108,101]⟩:ByteArray)
  ·subst h11
   refine pcO E0_ok (fun _=>[0,2,3,4,5,6,15,20,26,30,35,38,41]) Try.func29 (h:=fun KF=>?_)
   unfold E0
   repeat' (first
    |(with_reducible first|refine nx ?_|refine t_seq fun K=>?_|refine t_br (fun hc=>?_) fun hc=>?_|refine t_bx ?_|apply And.intro|intro vr)
    |((with_reducible first|refine ny ?_|refine t_dwh (h:=fun K KL=>?_));intros;simp only [go_sem,geff]))
   all_goals try exact om
   refine end_ret rfl ?_
   simp only [fin,go_sem]
   exact LeA.tup ⟨LeA.full true 1 _,LeA.refl _,LeA.refl _,trivial⟩
  have z11:eqS op (⟨#[108,101]⟩:ByteArray)=false:=Bool.eq_false_iff.2 fun e=>h11 (eqS_iff.1 e)
  by_cases h12:op=(⟨#[103,116]⟩:ByteArray)
  ·subst h12
   refine pcO E0_ok (fun _=>[0,2,3,4,5,6,15,20,26,30,35,38,41]) Try.func29 (h:=fun KF=>?_)
   unfold E0
   repeat' (first
    |(with_reducible first|refine nx ?_|refine t_seq fun K=>?_|refine t_br (fun hc=>?_) fun hc=>?_|refine t_bx ?_|apply And.intro|intro vr)
    |((with_reducible first|refine ny ?_|refine t_dwh (h:=fun K KL=>?_));intros;simp only [go_sem,geff]))
   all_goals try exact om
   refine end_ret rfl ?_
   simp only [fin,go_sem]
   exact LeA.tup ⟨LeA.full true 1 _,LeA.refl _,LeA.refl _,trivial⟩
  have z12:eqS op (⟨#[103,116]⟩:ByteArray)=false:=Bool.eq_false_iff.2 fun e=>h12 (eqS_iff.1 e)
  by_cases h13:op=(⟨#[103,101]⟩:ByteArray)
  ·subst h13
   refine pcO E0_ok (fun _=>[0,2,3,4,5,6,15,20,26,30,35,38,41]) Try.func29 (h:=fun KF=>?_)
   unfold E0
   repeat' (first
    |(with_reducible first|refine nx ?_|refine t_seq fun K=>?_|refine t_br (fun hc=>?_) fun hc=>?_|refine t_bx ?_|apply And.intro|intro vr)
    |((with_reducible first|refine ny ?_|refine t_dwh (h:=fun K KL=>?_));intros;simp only [go_sem,geff]))
   all_goals try exact om
   refine end_ret rfl ?_
   simp only [fin,go_sem]
   exact LeA.tup ⟨LeA.full true 1 _,LeA.refl _,LeA.refl _,trivial⟩
  have z13:eqS op (⟨#[103,101]⟩:ByteArray)=false:=Bool.eq_false_iff.2 fun e=>h13 (eqS_iff.1 e)
  by_cases h14:op=(⟨#[101,113]⟩:ByteArray)
  ·subst h14
   refine pcO E0_ok (fun _=>[0,2,3,4,5,6,15,20,26,30,35,38,41]) Try.func29 (h:=fun KF=>?_)
   unfold E0
   repeat' (first
    |(with_reducible first|refine nx ?_|refine t_seq fun K=>?_|refine t_br (fun hc=>?_) fun hc=>?_|refine t_bx ?_|apply And.intro|intro vr)
    |((with_reducible first|refine ny ?_|refine t_dwh (h:=fun K KL=>?_));intros;simp only [go_sem,geff]))
   all_goals try exact om
   refine end_ret rfl ?_
   simp only [fin,go_sem]
   exact LeA.tup ⟨LeA.full true 1 _,LeA.refl _,LeA.refl _,trivial⟩
  have z14:eqS op (⟨#[101,113]⟩:ByteArray)=false:=Bool.eq_false_iff.2 fun e=>h14 (eqS_iff.1 e)
  by_cases h15:op=(⟨#[110,101]⟩:ByteArray)
  ·subst h15
   refine pcO E0_ok (fun _=>[0,2,3,4,5,6,15,20,26,30,35,38,41]) Try.func29 (h:=fun KF=>?_)
   unfold E0
   repeat' (first
    |(with_reducible first|refine nx ?_|refine t_seq fun K=>?_|refine t_br (fun hc=>?_) fun hc=>?_|refine t_bx ?_|apply And.intro|intro vr)
    |((with_reducible first|refine ny ?_|refine t_dwh (h:=fun K KL=>?_));intros;simp only [go_sem,geff]))
   all_goals try exact om
   refine end_ret rfl ?_
   simp only [fin,go_sem]
   exact LeA.tup ⟨LeA.full true 1 _,LeA.refl _,LeA.refl _,trivial⟩
  have z15:eqS op (⟨#[110,101]⟩:ByteArray)=false:=Bool.eq_false_iff.2 fun e=>h15 (eqS_iff.1 e)
  by_cases h16:op=(⟨#[97,110,100]⟩:ByteArray)
  ·subst h16
   refine pcO E0_ok (fun _=>[0,2,3,4,5,6,15,20,26,30,35,38,41]) Try.func29 (h:=fun KF=>?_)
   unfold E0
   repeat' (first
    |(with_reducible first|refine nx ?_|refine t_seq fun K=>?_|refine t_br (fun hc=>?_) fun hc=>?_|refine t_bx ?_|apply And.intro|intro vr)
    |((with_reducible first|refine ny ?_|refine t_dwh (h:=fun K KL=>?_));intros;simp only [go_sem,geff]))
   all_goals try exact om
   refine end_ret rfl ?_
   simp only [fin,go_sem]
   exact LeA.tup ⟨LeA.full true 1 _,LeA.refl _,LeA.refl _,trivial⟩
  have z16:eqS op (⟨#[97,110,100]⟩:ByteArray)=false:=Bool.eq_false_iff.2 fun e=>h16 (eqS_iff.1 e)
  by_cases h17:op=(⟨#[111,114]⟩:ByteArray)
  ·subst h17
   refine pcO E0_ok (fun _=>[0,2,3,4,5,6,15,20,26,30,35,38,41]) Try.func29 (h:=fun KF=>?_)
   unfold E0
   repeat' (first
    |(with_reducible first|refine nx ?_|refine t_seq fun K=>?_|refine t_br (fun hc=>?_) fun hc=>?_|refine t_bx ?_|apply And.intro|intro vr)
    |((with_reducible first|refine ny ?_|refine t_dwh (h:=fun K KL=>?_));intros;simp only [go_sem,geff]))
   all_goals try exact om
   refine end_ret rfl ?_
   simp only [fin,go_sem]
   exact LeA.tup ⟨LeA.full true 1 _,LeA.refl _,LeA.refl _,trivial⟩
  have z17:eqS op (⟨#[111,114]⟩:ByteArray)=false:=Bool.eq_false_iff.2 fun e=>h17 (eqS_iff.1 e)
  by_cases h18:op=(⟨#[120,111,114]⟩:ByteArray)
  ·subst h18
   refine pcO E0_ok (fun _=>[0,2,3,4,5,6,15,20,26,30,35,38,41]) Try.func29 (h:=fun KF=>?_)
   unfold E0
   repeat' (first
    |(with_reducible first|refine nx ?_|refine t_seq fun K=>?_|refine t_br (fun hc=>?_) fun hc=>?_|refine t_bx ?_|apply And.intro|intro vr)
    |((with_reducible first|refine ny ?_|refine t_dwh (h:=fun K KL=>?_));intros;simp only [go_sem,geff]))
   all_goals try exact om
   refine end_ret rfl ?_
   simp only [fin,go_sem]
   exact LeA.tup ⟨LeA.full true 1 _,LeA.refl _,LeA.refl _,trivial⟩
  have z18:eqS op (⟨#[120,111,114]⟩:ByteArray)=false:=Bool.eq_false_iff.2 fun e=>h18 (eqS_iff.1 e)
  by_cases h19:op=(⟨#[110,111,116]⟩:ByteArray)
  ·subst h19
   refine pcO E0_ok (fun _=>[0,2,3,4,5,6,15,20,26,30,35,38,41]) Try.func29 (h:=fun KF=>?_)
   unfold E0
   repeat' (first
    |(with_reducible first|refine nx ?_|refine t_seq fun K=>?_|refine t_br (fun hc=>?_) fun hc=>?_|refine t_bx ?_|apply And.intro|intro vr)
    |((with_reducible first|refine ny ?_|refine t_dwh (h:=fun K KL=>?_));intros;simp only [go_sem,geff]))
   all_goals try exact om
   refine end_ret rfl ?_
   simp only [fin,go_sem]
   exact LeA.tup ⟨LeA.full true 1 _,LeA.refl _,LeA.refl _,trivial⟩
  have z19:eqS op (⟨#[110,111,116]⟩:ByteArray)=false:=Bool.eq_false_iff.2 fun e=>h19 (eqS_iff.1 e)
  by_cases h20:op=(⟨#[115,101,108,101,99,116]⟩:ByteArray)
  ·subst h20
   refine pcO E0_ok (fun _=>[0,2,3,4,5,6,15,20,26,30,35,38,41]) Try.func29 (h:=fun KF=>?_)
   unfold E0
   repeat' (first
    |(with_reducible first|refine nx ?_|refine t_seq fun K=>?_|refine t_br (fun hc=>?_) fun hc=>?_|refine t_bx ?_|apply And.intro|intro vr)
    |((with_reducible first|refine ny ?_|refine t_dwh (h:=fun K KL=>?_));intros;simp only [go_sem,geff]))
   all_goals try exact om
   refine end_ret rfl ?_
   simp only [fin,go_sem]
   exact LeA.tup ⟨LeA.full true 1 _,LeA.refl _,LeA.refl _,trivial⟩
  have z20:eqS op (⟨#[115,101,108,101,99,116]⟩:ByteArray)=false:=Bool.eq_false_iff.2 fun e=>h20 (eqS_iff.1 e)
  by_cases h21:op=(⟨#[116,111,105,110,116]⟩:ByteArray)
  ·subst h21
   refine pcO E0_ok (fun _=>[0,2,3,4,5,6,15,20,26,30,35,38,41]) Try.func29 (h:=fun KF=>?_)
   unfold E0
   repeat' (first
    |(with_reducible first|refine nx ?_|refine t_seq fun K=>?_|refine t_br (fun hc=>?_) fun hc=>?_|refine t_bx ?_|apply And.intro|intro vr)
    |((with_reducible first|refine ny ?_|refine t_dwh (h:=fun K KL=>?_));intros;simp only [go_sem,geff]))
   all_goals try exact om
   refine end_ret rfl ?_
   simp only [fin,go_sem]
   exact LeA.tup ⟨LeA.full true 1 _,LeA.refl _,LeA.refl _,trivial⟩
  have z21:eqS op (⟨#[116,111,105,110,116]⟩:ByteArray)=false:=Bool.eq_false_iff.2 fun e=>h21 (eqS_iff.1 e)
  have hN:typesS op=none:=by
    unfold typesS
    rw [List.find?_eq_none]
    intro r hr
    rw [eqS_comm]
    have:r=rowsL.getD 0 default∨r=rowsL.getD 1 default∨r=rowsL.getD 2 default∨r=rowsL.getD 3 default∨r=rowsL.getD 4 default∨r=rowsL.getD 5 default∨r=rowsL.getD 6 default∨r=rowsL.getD 7 default∨r=rowsL.getD 8 default∨r=rowsL.getD 9 default∨r=rowsL.getD 10 default∨r=rowsL.getD 11 default∨r=rowsL.getD 12 default∨r=rowsL.getD 13 default∨r=rowsL.getD 14 default∨r=rowsL.getD 15 default∨r=rowsL.getD 16 default∨r=rowsL.getD 17 default∨r=rowsL.getD 18 default∨r=rowsL.getD 19 default∨r=rowsL.getD 20 default∨r=rowsL.getD 21 default:=by
      simp only [rowsL,List.mem_cons,List.mem_nil_iff,or_false] at hr
      exact hr
    rcases this with rfl|rfl|rfl|rfl|rfl|rfl|rfl|rfl|rfl|rfl|rfl|rfl|rfl|rfl|rfl|rfl|rfl|rfl|rfl|rfl|rfl|rfl<;>simp only [Bool.not_eq_true]
    all_goals first|exact z0|exact z1|exact z2|exact z3|exact z4|exact z5|exact z6|exact z7|exact z8|exact z9|exact z10|exact z11|exact z12|exact z13|exact z14|exact z15|exact z16|exact z17|exact z18|exact z19|exact z20|exact z21
  rw [hN]
  refine pcO E0_ok (fun _=>[0,2,3,4,5,6,15,20,26,30,35,38,41]) Try.func29 (h:=fun KF=>?_)
  unfold E0
  repeat' (first
   |(with_reducible first|refine nx ?_|refine t_seq fun K=>?_|refine t_br (fun hc=>?_) fun hc=>?_|refine t_bx ?_|apply And.intro|intro vr)
   |((with_reducible first|refine ny ?_|refine t_dwh (h:=fun K KL=>?_));intros;simp only [go_sem,geff,z0,z1,z2,z3,z4,z5,z6,z7,z8,z9,z10,z11,z12,z13,z14,z15,z16,z17,z18,z19,z20,z21]))
  refine end_ret rfl ?_
  simp only [fin,go_sem]
  exact LeA.refl _
end Go.Proofs.Ytnlimcijgpaegaa.El

namespace Go.Proofs.Ytnlimcijgpaegaa.El
open Go.Proofs.Ytnlimcijgpaegaa
open Go Go.Fw
set_option maxRecDepth 20000
def vS:Nat→List Int→Int
  |0,[a,b]=>w32 (a+b)
  |1,[a,b]=>w32 (a - b)
  |2,[a,b]=>w32 (a*b)
  |3,[a,b]=>w32 (flo a b)
  |4,[a,b]=>if b=0 then 0 else a - b*flo a b
  |5,[a,b]=>minI a b
  |6,[a,b]=>maxI a b
  |7,[a]=>w32 (0 - a)
  |8,[a]=>w32 (maxI a (0 - a))
  |9,[a]=>sgn a
  |10,[a,b]=>tru (decide (a<b))
  |11,[a,b]=>tru (decide (a≤b))
  |12,[a,b]=>tru (decide (a>b))
  |13,[a,b]=>tru (decide (a≥b))
  |14,[a,b]=>tru (a==b)
  |15,[a,b]=>tru (a !=b)
  |16,[a,b]=>minI a b
  |17,[a,b]=>maxI a b
  |18,[a,b]=>if a=b then 0 else 1
  |19,[a]=>1 - a
  |20,[a,b,c]=>if a=1 then b else c
  |21,[a]=>a
  |_,_=>0
def elT (s:ByteArray):ByteArray:=if eqS s sA=true then sInt else s
def okA (ps:List ByteArray) (xs:List Int):Bool:=(ps.zip xs).all fun p=>vld (elT p.1) p.2
def psN (i:Nat):List ByteArray:=(rowsL.getD i default).ps
def rowIx (op:ByteArray):Option Nat:=(List.range 22).find? fun i=>eqS (rowsL.getD i default).op op
theorem ix_cases (op:ByteArray):(∃ i,i<22∧op=(rowsL.getD i default).op∧rowIx op=some i∧typesS op=some (rowsL.getD i default))∨(rowIx op=none∧typesS op=none):=by
  by_cases h:∃ i,i<22∧op=(rowsL.getD i default).op
  ·left
   obtain ⟨i,hi,rfl⟩:=h
   refine ⟨i,hi,rfl,?_⟩
   have:i=0∨i=1∨i=2∨i=3∨i=4∨i=5∨i=6∨i=7∨i=8∨i=9∨i=10∨i=11∨i=12∨i=13∨i=14∨i=15∨i=16∨i=17∨i=18∨i=19∨i=20∨i=21:=by omega
   rcases this with rfl|rfl|rfl|rfl|rfl|rfl|rfl|rfl|rfl|rfl|rfl|rfl|rfl|rfl|rfl|rfl|rfl|rfl|rfl|rfl|rfl|rfl
   all_goals exact ⟨rfl,rfl⟩
  ·right
   constructor
   ·unfold rowIx
    rw [List.find?_eq_none]
    intro i hi he
    exact h ⟨i,by simpa using hi,(eqS_iff.1 he).symm⟩
   ·unfold typesS
    rw [List.find?_eq_none]
    intro r hr he
    obtain ⟨i,hi,rfl⟩:=List.mem_iff_getElem.1 hr
    rw [rows_len] at hi
    exact h ⟨i,hi,by rw [getD_elem _ _ (by rw [rows_len];exact hi)];exact (eqS_iff.1 he).symm⟩
end Go.Proofs.Ytnlimcijgpaegaa.El

namespace Go.Proofs.Ytnlimcijgpaegaa.El
open Go.Proofs.Ytnlimcijgpaegaa
open Go Go.Fw
set_option maxRecDepth 20000
end Go.Proofs.Ytnlimcijgpaegaa.El

namespace Go.Proofs.Ytnlimcijgpaegaa.El
open Go.Proofs.Ytnlimcijgpaegaa
open Go Go.Fw
set_option maxRecDepth 20000
end Go.Proofs.Ytnlimcijgpaegaa.El

namespace Go.Proofs.Ytnlimcijgpaegaa.El
open Go.Proofs.Ytnlimcijgpaegaa
open Go Go.Fw
set_option maxRecDepth 20000
noncomputable def con59:PCon Try.prog where
  f:=59
  c:=fun
   |[.lit (.string op)]=>some (True,typesV (typesS op))
   |_=>none
  ok:=by
   intro args p r hc hp
   split at hc
   ·cases hc;exact types_pc
   ·cases hc
  fk:=fk59
theorem con59_f:con59.f=59:=rfl
theorem con59_c {op:ByteArray}:con59.c [.lit (.string op)]=some (True,typesV (typesS op)):=rfl
noncomputable def con29:PCon Try.prog where
  f:=29
  c:=fun
   |[.lit (.string op)]=>some (True,typesV (typesS op))
   |_=>none
  ok:=by
   intro args p r hc hp
   split at hc
   ·cases hc;exact rtypes_pc
   ·cases hc
  fk:=fk29
theorem con29_f:con29.f=29:=rfl
theorem con29_c {op:ByteArray}:con29.c [.lit (.string op)]=some (True,typesV (typesS op)):=rfl
theorem typesV_none:typesV none= .tup [.lit (.slice none 0 0),.lit (.string ⟨#[]⟩),.lit (.bool false)]:=rfl
def okB (i:Nat) (xs:List Int):Bool:=decide (xs.length=(psN i).length)&&okA (psN i) xs
def applyS (op:ByteArray) (xs:List Int):Option Int:=(rowIx op).bind fun i=>if okB i xs=true then some (vS i xs) else none
end Go.Proofs.Ytnlimcijgpaegaa.El

namespace Go.Proofs.Ytnlimcijgpaegaa.El
open Go.Proofs.Ytnlimcijgpaegaa
open Go Go.Fw
set_option maxRecDepth 20000
end Go.Proofs.Ytnlimcijgpaegaa.El

namespace Go.Proofs.Ytnlimcijgpaegaa.Bm
open Go.Proofs.Ytnlimcijgpaegaa
open Go Go.Fw
structure Ins where
  code:Int
  prim:ByteArray
  a:Int
  b:Int
  c:Int
  d:Int
def nilI:Ins:=⟨0,⟨#[]⟩,0,0,0,0⟩
structure Prg where
  regs:Int
  arena:Int
  ops:List Ins
  ins:List (Int×Int)
  outs:List (Int×Int)
  types:List Arr
def Prg.op (B:Prg) (i:Int):Ins:=B.ops.getD i.toNat nilI
def formS (x:Ins):Option (List Bool):=
  if x.code=1 then some [true,false]
  else if x.code=2∨x.code=10 then some [true,true,true,false]
  else if x.code=3∨x.code=4 then some [true,true,true]
  else if x.code=5 then (El.typesS x.prim).map fun r=>List.replicate (1+r.ps.length) true
  else if x.code=6∨x.code=7∨x.code=14 then some [true,true]
  else if x.code=8∨x.code=11 then some [true]
  else if x.code=9 then some [false,true]
  else if x.code=12∨x.code=13∨x.code=15 then some []
  else none
def oprs (x:Ins):List Int:=[x.a,x.b,x.c,x.d]
def maxC:Int:=1099511627776
def maxA:Int:=1048576
def oprOk (f:List Bool) (regs:Int) (i:Nat) (n:Int):Bool:=
  if i≥f.length then decide (n=0) else if f.getD i false=true then decide (0≤n∧n<regs) else true
def restOk (x:Ins):Bool:=
  if x.code=1 then decide (-maxC≤x.b∧x.b≤maxC)
  else if x.code=2 then decide (-maxA≤x.d∧x.d≤maxA)
  else if x.code=9 then decide (1≤x.a∧x.a≤1000000)
  else if x.code=10 then decide (1≤x.d∧x.d≤maxA)
  else true
def rightS (x:Ins) (regs:Int):Bool:=match formS x with
  |none=>false
  |some f=>(decide (x.code=5)||decide (x.prim.data.toList=[]))&&(oprOk f regs 0 x.a&&oprOk f regs 1 x.b&&oprOk f regs 2 x.c&&oprOk f regs 3 x.d)&&restOk x
def wrtB (c:Int):Bool:=decide (c=1)||decide (c=2)||decide (c=3)||decide (c=4)||decide (c=5)||decide (c=6)||decide (c=8)||decide (c=10)||decide (c=14)
def pickR (w:Bool):Nat→List Bool→List Int→List Int
  |i,true::f,n::l=>if 0<i∨w=false then n::pickR w (i+1) f l else pickR w (i+1) f l
  |i,false::f,_::l=>pickR w (i+1) f l
  |_,_,_=>[]
def readsS (x:Ins):List Int:=match formS x with
  |none=>[]
  |some f=>pickR (wrtB x.code) 0 f (oprs x)
def matchG (ops:List Ins):List Ins→Nat→List Int→List Nat→Option (List Int)
  |[],_,out,[]=>some out
  |[],_,_,_::_=>none
  |x::l,i,out,st=>
   if x.code=10∨x.code=11 then (if st.length≥40 then none else matchG ops l (i+1) (out++[(i:Int)]) (i::st))
   else if x.code=12 then (match st with
     |[]=>none
     |j::st'=>if (ops.getD j nilI).code=11 then matchG ops l (i+1) ((out++[(i:Int)]).set j i) (i::st') else none)
   else if x.code=13 then (match st with
     |[]=>none
     |j::st'=>matchG ops l (i+1) ((out++[(i:Int)]).set j i) st')
   else matchG ops l (i+1) (out++[(i:Int)]) st
def matchS (ops:List Ins):Option (List Int):=if ops.length>5000 then none else matchG ops ops 0 [] []
def typeOk (arena:Int) (t:Arr) (p:Int×Int):Bool:=
  (eqS t.e sInt||eqS t.e sBool)&&decide ((sizeS t.d).2=0)&&decide (t.x=[])&&decide (p.2=(sizeS t.d).1)&&decide (0≤p.1)&&decide (p.1≤arena - (sizeS t.d).1)
def typesOk (arena:Int):List Arr→List (Int×Int)→Bool
  |t::ts,p::ps=>typeOk arena t p&&typesOk arena ts ps
  |_,_=>true
def validS (B:Prg):Bool:=decide (0≤B.regs∧B.regs≤200)&&decide (0≤B.arena∧B.arena≤maxA)&&decide (B.types.length=B.ins.length+B.outs.length)&&B.ops.all (fun x=>rightS x B.regs)&&(matchS B.ops).isSome&&
  typesOk B.arena B.types (B.ins++B.outs)
structure Rng where
  lo:Int
  hi:Int
structure St where
  regs:List Int
  arena:List Int
  reads:Int
  writes:Int
  ops:Int
  peak:Int
  viol:List Int
  left:Int
  failed:Bool
  at_:Int
  out:Bool
def gt (l:List Int) (i:Int):Int:=l.getD i.toNat 0
def noteS (l:List Int) (n:Int):List Int:=
  let k:=(l.takeWhile fun m=>decide (m<n)).length
  if k<l.length∧l.getD k 0=n then l else l.take k++[n]++l.drop k
def inMc (n:Int):Bool:=decide (-maxC≤n∧n≤maxC)
def St.put (s:St) (i v:Int):St:={s with regs:=s.regs.set i.toNat v}
def simpleS (x:Ins) (s:St):St:=
  if x.code=1 then s.put x.a x.b
  else if x.code=2 then (if inMc (gt s.regs x.b+x.d*gt s.regs x.c)=true then s.put x.a (gt s.regs x.b+x.d*gt s.regs x.c) else {s with failed:=true})
  else if x.code=3 then s.put x.a (minI (gt s.regs x.b) (gt s.regs x.c))
  else if x.code=4 then s.put x.a (maxI (gt s.regs x.b) (gt s.regs x.c))
  else if x.code=5 then (match El.applyS x.prim ((readsS x).map (gt s.regs)) with
    |none=>{s with failed:=true}
    |some n=>{s.put x.a n with ops:=s.ops+1})
  else if x.code=6 then (if 0≤gt s.regs x.b∧gt s.regs x.b<s.arena.length then {s.put x.a (gt s.arena (gt s.regs x.b)) with reads:=s.reads+1} else {s with failed:=true})
  else if x.code=7 then (if (0≤gt s.regs x.a∧gt s.regs x.a<s.arena.length)∧vld sInt (gt s.regs x.b)=true then
    {s with arena:=s.arena.set (gt s.regs x.a).toNat (gt s.regs x.b),writes:=s.writes+1,peak:=maxI s.peak (gt s.regs x.a+1)} else {s with failed:=true})
  else if x.code=14 then s.put x.a (El.w32 (gt s.regs x.b))
  else if x.code=15 then {s with writes:=s.writes+1}
  else if x.code=8 then {s.put x.a 0 with reads:=s.reads+1}
  else if x.code=9 then (if gt s.regs x.b=0 then {s with viol:=noteS s.viol x.a} else s)
  else s
def stpS (s:St):Bool:=decide (s.left≤0)||s.failed||s.out
def inR (l:List Int) (r:List Rng):Bool:=decide (l.length=r.length)&&(l.zip r).all fun p=>decide (p.2.lo≤p.1∧p.1≤p.2.hi)
def look (seen:List (List Rng)) (i:Int) (s:St):St:=if seen.length>0 then {s with out:= !inR s.regs (seen.getD i.toNat [])} else s
def endS (B:Prg) (mt:List Int) (i:Int):Int:=if (B.op (gt mt i)).code=12 then gt mt (gt mt i) else gt mt i
inductive Tk where
  |blk (i to:Int)
  |lop (i n hi:Int)
def tick (s:St):St:={s with left:=s.left - 1}
def exec (B:Prg) (mt:List Int) (seen:List (List Rng)):Nat→Tk→St→St
  |0,_,s=>s
  |f+1,.blk i to,s=>if i<to∧stpS s=false then (
    let x:=B.op i
    let s:=tick (look seen i s)
    if x.code=10 then exec B mt seen f (.blk (gt mt i+1) to) (exec B mt seen f (.lop i (gt s.regs x.b) (gt s.regs x.c)) s)
    else if x.code=11 then exec B mt seen f (.blk (endS B mt i+1) to) (
      if gt s.regs x.a≥0 then exec B mt seen f (.blk (i+1) (gt mt i)) s
      else if (B.op (gt mt i)).code=12 then exec B mt seen f (.blk (gt mt i+1) (gt mt (gt mt i))) s else s)
    else exec B mt seen f (.blk (i+1) to) (if (simpleS x s).failed=true then {simpleS x s with at_:=i} else simpleS x s)) else s
  |f+1,.lop i n hi,s=>if n<hi∧stpS s=false then
    exec B mt seen f (.lop i (n+(B.op i).d) hi) (exec B mt seen f (.blk (i+1) (gt mt i)) ((tick s).put (B.op i).a n)) else s
def Runs (B:Prg) (mt:List Int) (seen:List (List Rng)) (t:Tk) (s s':St):Prop:=∃ F,∀ f,F≤f→exec B mt seen f t s=s'
section
variable {B:Prg} {mt:List Int} {seen:List (List Rng)} {s s' s'':St} {i to n hi:Int}
end
end Go.Proofs.Ytnlimcijgpaegaa.Bm

namespace Go.Proofs.Ytnlimcijgpaegaa.Bm
open Go.Proofs.Ytnlimcijgpaegaa
open Go Go.Fw
section
variable {B:Prg} {mt:List Int} {seen:List (List Rng)}
def step1 (B:Prg) (seen:List (List Rng)) (i:Int) (s:St):St:=if (simpleS (B.op i) (tick (look seen i s))).failed=true then {simpleS (B.op i) (tick (look seen i s)) with at_:=i} else simpleS (B.op i) (tick (look seen i s))
theorem exec_inv {P:St→Prop} (h1:∀ i s,P s→stpS s=false→P (step1 B seen i s)) (h2:∀ i s,P s→stpS s=false→P (tick (look seen i s))) (h3:∀ i n s,P s→stpS s=false→P ((tick s).put (B.op i).a n)):
    ∀ (f:Nat) (t:Tk) (s:St),P s→P (exec B mt seen f t s)
  |0,_,_,h=>h
  |f+1,.blk i to,s,h=>by
   simp only [exec]
   split
   ·rename_i hc
    have h2':=h2 i s h hc.2
    split
    ·exact exec_inv h1 h2 h3 f _ _ (exec_inv h1 h2 h3 f _ _ h2')
    ·split
     ·refine exec_inv h1 h2 h3 f _ _ ?_
      split
      ·exact exec_inv h1 h2 h3 f _ _ h2'
      ·split
       ·exact exec_inv h1 h2 h3 f _ _ h2'
       ·exact h2'
     ·exact exec_inv h1 h2 h3 f _ _ (h1 i s h hc.2)
   ·exact h
  |f+1,.lop i n hi,s,h=>by
   simp only [exec]
   split
   ·rename_i hc
    exact exec_inv h1 h2 h3 f _ _ (exec_inv h1 h2 h3 f _ _ (h3 i n s h hc.2))
   ·exact h
theorem look_eq (i:Int) (s:St):∃ o,look seen i s={s with out:=o}:=by
  unfold look;split
  ·exact ⟨_,rfl⟩
  ·exact ⟨s.out,rfl⟩
theorem simple_P {P:St→Prop} {x:Ins} {s:St} (h0:P s) (hp:∀ v,P (s.put x.a v)) (hf:P {s with failed:=true}) (ho:∀ v,P {s.put x.a v with ops:=s.ops+1}) (hr:∀ v,P {s.put x.a v with reads:=s.reads+1})
    (hw:∀ (i v:Int),0≤i→i<s.arena.length→vld sInt v=true→P {s with arena:=s.arena.set i.toNat v,writes:=s.writes+1,peak:=maxI s.peak (i+1)}) (hk:P {s with writes:=s.writes+1}) (hv:∀ l,P {s with viol:=l}):P (simpleS x s):=by
  unfold simpleS
  by_cases c:x.code=1
  ·rw [if_pos c];exact hp _
  rw [if_neg c];clear c
  by_cases c:x.code=2
  ·rw [if_pos c];split
   ·exact hp _
   ·exact hf
  rw [if_neg c];clear c
  by_cases c:x.code=3
  ·rw [if_pos c];exact hp _
  rw [if_neg c];clear c
  by_cases c:x.code=4
  ·rw [if_pos c];exact hp _
  rw [if_neg c];clear c
  by_cases c:x.code=5
  ·rw [if_pos c];split
   ·exact hf
   ·exact ho _
  rw [if_neg c];clear c
  by_cases c:x.code=6
  ·rw [if_pos c];split
   ·exact hr _
   ·exact hf
  rw [if_neg c];clear c
  by_cases c:x.code=7
  ·rw [if_pos c];split
   ·rename_i h;exact hw _ _ h.1.1 h.1.2 h.2
   ·exact hf
  rw [if_neg c];clear c
  by_cases c:x.code=14
  ·rw [if_pos c];exact hp _
  rw [if_neg c];clear c
  by_cases c:x.code=15
  ·rw [if_pos c];exact hk
  rw [if_neg c];clear c
  by_cases c:x.code=8
  ·rw [if_pos c];exact hr _
  rw [if_neg c];clear c
  by_cases c:x.code=9
  ·rw [if_pos c];split
   ·exact hv _
   ·exact h0
  rw [if_neg c];exact h0
end
end Go.Proofs.Ytnlimcijgpaegaa.Bm

namespace Go.Proofs.Ytnlimcijgpaegaa.Bm
open Go.Proofs.Ytnlimcijgpaegaa
open Go Go.Fw
def opnr (c:Int):Bool:=decide (c=10)||decide (c=11)||decide (c=12)
def cd (ops:List Ins) (i:Nat):Int:=(ops.getD i nilI).code
structure Mid (ops:List Ins) (n:Nat) (out:List Int) (st:List Nat):Prop where
  len:out.length=n
  lt:∀ j∈st,j<n
  asc:st.Pairwise (fun a b=>b<a)
  opn:∀ j∈st,opnr (cd ops j)=true
  self:∀ j,j<n→(j∈st∨opnr (cd ops j)=false)→out.getD j 0=j
  clo:∀ j,j<n→j ∉ st→opnr (cd ops j)=true→∃ e:Nat,out.getD j 0=e∧j<e∧e<n∧(cd ops e=12→cd ops j=11)∧(cd ops e=12∨cd ops e=13)∧
    ∀ k,j<k→k<e→opnr (cd ops k)=true→∃ f:Nat,out.getD k 0=f∧k<f∧f<e
  deep:∀ j∈st,∀ k,j<k→k<n→k ∉ st→opnr (cd ops k)=true→∃ f:Nat,out.getD k 0=f∧k<f∧f<n
structure Nest (ops:List Ins) (mt:List Int):Prop where
  len:mt.length=ops.length
  self:∀ j,j<ops.length→opnr (cd ops j)=false→mt.getD j 0=j
  clo:∀ j,j<ops.length→opnr (cd ops j)=true→∃ e:Nat,mt.getD j 0=e∧j<e∧e<ops.length∧(cd ops e=12→cd ops j=11)∧(cd ops e=12∨cd ops e=13)∧
    ∀ k,j<k→k<e→opnr (cd ops k)=true→∃ f:Nat,mt.getD k 0=f∧k<f∧f<e
theorem getD_append_l {l m:List Int} {i:Nat} (h:i<l.length):(l++m).getD i 0=l.getD i 0:=by simp [List.getD,List.getElem?_append_left h]
theorem getD_set_ne {l:List Int} {i j:Nat} {x:Int} (h:i≠j):(l.set i x).getD j 0=l.getD j 0:=by simp [List.getD,List.getElem?_set_ne h]
theorem getD_set_eq {l:List Int} {i:Nat} {x:Int} (h:i<l.length):(l.set i x).getD i 0=x:=by simp [List.getD,List.getElem?_set_self h]
theorem Mid.plain {ops:List Ins} {n:Nat} {out:List Int} {st:List Nat} (h:Mid ops n out st) (hc:opnr (cd ops n)=false):Mid ops (n+1) (out++[(n:Int)]) st:=by
  have hl:=h.len
  have old:∀ j,j<n→(out++[(n:Int)]).getD j 0=out.getD j 0:=fun j hj=>getD_append_l (by omega)
  have new:(out++[(n:Int)]).getD n 0=n:=by simp [List.getD,←hl]
  refine ⟨by simp [hl],fun j hj=>Nat.lt_succ_of_lt (h.lt j hj),h.asc,h.opn,fun j hj hs=>?_,fun j hj hn ho=>?_,fun j hj k h1 h2 h3 h4=>?_⟩
  ·by_cases e:j=n
   ·subst e;exact new
   ·rw [old j (by omega)];exact h.self j (by omega) hs
  ·by_cases e:j=n
   ·subst e;rw [hc] at ho;cases ho
   ·obtain ⟨e',q1,q2,q3,q4,q5,q6⟩:=h.clo j (by omega) hn ho
    refine ⟨e',by rw [old j (by omega)];exact q1,q2,by omega,q4,q5,fun k k1 k2 k3=>?_⟩
    obtain ⟨f,f1,f0,f2⟩:=q6 k k1 k2 k3
    exact ⟨f,by rw [old k (by omega)];exact f1,f0,f2⟩
  ·by_cases e:k=n
   ·subst e;rw [hc] at h4;cases h4
   ·obtain ⟨f,f1,f0,f2⟩:=h.deep j hj k h1 (by omega) h3 h4
    exact ⟨f,by rw [old k (by omega)];exact f1,f0,by omega⟩
theorem Mid.push {ops:List Ins} {n:Nat} {out:List Int} {st:List Nat} (h:Mid ops n out st) (hc:opnr (cd ops n)=true):Mid ops (n+1) (out++[(n:Int)]) (n::st):=by
  have hl:=h.len
  have old:∀ j,j<n→(out++[(n:Int)]).getD j 0=out.getD j 0:=fun j hj=>getD_append_l (by omega)
  have new:(out++[(n:Int)]).getD n 0=n:=by simp [List.getD,←hl]
  refine ⟨by simp [hl],fun j hj=>?_,List.pairwise_cons.2 ⟨fun b hb=>h.lt b hb,h.asc⟩,fun j hj=>?_,fun j hj hs=>?_,fun j hj hn ho=>?_,fun j hj k h1 h2 h3 h4=>?_⟩
  ·rcases List.mem_cons.1 hj with rfl|hj
   ·omega
   ·exact Nat.lt_succ_of_lt (h.lt j hj)
  ·rcases List.mem_cons.1 hj with rfl|hj
   ·exact hc
   ·exact h.opn j hj
  ·by_cases e:j=n
   ·subst e;exact new
   ·rw [old j (by omega)]
    refine h.self j (by omega) ?_
    rcases hs with hs|hs
    ·rcases List.mem_cons.1 hs with rfl|hs
     ·exact absurd rfl e
     ·exact .inl hs
    ·exact .inr hs
  ·have hjn:j≠n:=fun e=>hn (by rw [e];simp)
   obtain ⟨e',q1,q2,q3,q4,q5,q6⟩:=h.clo j (by omega) (fun hm=>hn (by simp [hm])) ho
   refine ⟨e',by rw [old j (by omega)];exact q1,q2,by omega,q4,q5,fun k k1 k2 k3=>?_⟩
   obtain ⟨f,f1,f0,f2⟩:=q6 k k1 k2 k3
   exact ⟨f,by rw [old k (by omega)];exact f1,f0,f2⟩
  ·rcases List.mem_cons.1 hj with rfl|hj
   ·omega
   ·have hkn:k≠n:=fun e=>h3 (by rw [e];simp)
    obtain ⟨f,f1,f0,f2⟩:=h.deep j hj k h1 (by omega) (fun hm=>h3 (by simp [hm])) h4
    exact ⟨f,by rw [old k (by omega)];exact f1,f0,by omega⟩
theorem Mid.close {ops:List Ins} {n j:Nat} {out:List Int} {st:List Nat} (h:Mid ops n out (j::st)) (hc:(cd ops n=12∧cd ops j=11)∨cd ops n=13):
    Mid ops (n+1) ((out++[(n:Int)]).set j n) (if cd ops n=12 then n::st else st):=by
  have hl:=h.len
  have hjn:=h.lt j (by simp)
  have hj0:j<(out++[(n:Int)]).length:=by simp;omega
  have old:∀ k,k<n→k≠j→((out++[(n:Int)]).set j n).getD k 0=out.getD k 0:=fun k hk hn=>by rw [getD_set_ne (Ne.symm hn)];exact getD_append_l (by omega)
  have atj:((out++[(n:Int)]).set j n).getD j 0=n:=getD_set_eq hj0
  have new:((out++[(n:Int)]).set j n).getD n 0=n:=by rw [getD_set_ne (by omega)];simp [List.getD,←hl]
  have hasc:=List.pairwise_cons.1 h.asc
  have hst:∀ k∈st,k<j:=fun k hk=>hasc.1 k hk
  have hjs:j ∉ st:=fun hm=>Nat.lt_irrefl _ (hst j hm)
  have mem:∀ {k},k∈(if cd ops n=12 then n::st else st)→(k=n∧cd ops n=12)∨k∈st:=fun {k} hk=>by
    split at hk
    ·rename_i e;rcases List.mem_cons.1 hk with rfl|hk
     ·exact .inl ⟨rfl,e⟩
     ·exact .inr hk
    ·exact .inr hk
  have sub:∀ {k},k ∉ (if cd ops n=12 then n::st else st)→k ∉ st:=fun {k} hk hm=>hk (by
    split
    ·simp [hm]
    ·exact hm)
  have sub2:∀ {k},k ∉ (if cd ops n=12 then n::st else st)→k=n→opnr (cd ops n)=false:=fun {k} hk e=>by
    subst e
    split at hk
    ·simp at hk
    ·rename_i e12
     rcases hc with ⟨e,_⟩|e
     ·exact absurd e e12
     ·rw [e];decide
  refine ⟨by simp [hl],fun k hk=>?_,?_,fun k hk=>?_,fun k hk hs=>?_,fun k hk hn ho=>?_,fun i hi k h1 h2 h3 h4=>?_⟩
  ·rcases mem hk with ⟨rfl,_⟩|hk
   ·omega
   ·have:=hst k hk;omega
  ·split
   ·exact List.pairwise_cons.2 ⟨fun b hb=>by have:=hst b hb;omega,hasc.2⟩
   ·exact hasc.2
  ·rcases mem hk with ⟨rfl,e⟩|hk
   ·rw [e];decide
   ·exact h.opn k (by simp [hk])
  ·by_cases e:k=n
   ·subst e;exact new
   ·by_cases e2:k=j
    ·subst e2
     exfalso
     rcases hs with hs|hs
     ·rcases mem hs with ⟨rfl,_⟩|hs
      ·exact e rfl
      ·exact hjs hs
     ·have:=h.opn k (by simp);rw [hs] at this;cases this
    ·rw [old k (by omega) e2]
     refine h.self k (by omega) ?_
     rcases hs with hs|hs
     ·rcases mem hs with ⟨rfl,_⟩|hs
      ·exact absurd rfl e
      ·exact .inl (by simp [hs])
     ·exact .inr hs
  ·by_cases e:k=n
   ·rw [e] at ho;rw [sub2 hn e] at ho;cases ho
   ·by_cases e2:k=j
    ·subst e2
     refine ⟨n,atj,hjn,by omega,fun e12=>?_,?_,fun i i1 i2 i3=>?_⟩
     ·rcases hc with ⟨_,q⟩|q
      ·exact q
      ·omega
     ·rcases hc with ⟨q,_⟩|q
      ·exact .inl q
      ·exact .inr q
     ·have hi:i ∉ k::st:=fun hm=>by
        rcases List.mem_cons.1 hm with rfl|hm
        ·omega
        ·have:=hst i hm;omega
      obtain ⟨f,f1,f0,f2⟩:=h.deep k (by simp) i i1 i2 hi i3
      exact ⟨f,by rw [old i i2 (by omega)];exact f1,f0,f2⟩
    ·obtain ⟨e',q1,q2,q3,q4,q5,q6⟩:=h.clo k (by omega) (fun hm=>by
       rcases List.mem_cons.1 hm with rfl|hm
       ·exact e2 rfl
       ·exact sub hn hm) ho
     refine ⟨e',by rw [old k (by omega) e2];exact q1,q2,by omega,q4,q5,fun i i1 i2 i3=>?_⟩
     obtain ⟨f,f1,f0,f2⟩:=q6 i i1 i2 i3
     by_cases e3:i=j
     ·subst e3
      have:=h.self i (by omega) (.inl (by simp))
      omega
     ·exact ⟨f,by rw [old i (by omega) e3];exact f1,f0,f2⟩
  ·rcases mem hi with ⟨rfl,_⟩|hi
   ·omega
   ·by_cases e:k=n
    ·rw [e] at h4;rw [sub2 h3 e] at h4;cases h4
    ·by_cases e2:k=j
     ·subst e2;exact ⟨n,atj,by omega,by omega⟩
     ·obtain ⟨f,f1,f0,f2⟩:=h.deep i (by simp [hi]) k h1 (by omega) (fun hm=>by
        rcases List.mem_cons.1 hm with rfl|hm
        ·exact e2 rfl
        ·exact sub h3 hm) h4
      exact ⟨f,by rw [old k (by omega) e2];exact f1,f0,by omega⟩
theorem matchG_nest {ops:List Ins}:∀ (l:List Ins) (i:Nat) (out:List Int) (st:List Nat) (mt:List Int),ops.drop i=l→i≤ops.length→Mid ops i out st→matchG ops l i out st=some mt→Nest ops mt
  |[],i,out,st,mt,hl,hi,h,e=>by
   have hn:i=ops.length:=by
     have:=congrArg List.length hl
     simp at this;omega
   subst hn
   cases st with
   |cons j st=>cases e
   |nil=>
    cases e
    exact ⟨h.len,fun j hj ho=>h.self j hj (.inr ho),fun j hj ho=>h.clo j hj (by simp) ho⟩
  |x::l,i,out,st,mt,hl,hi,h,e=>by
   have hlt:i<ops.length:=by
     rcases Nat.lt_or_ge i ops.length with h|h
     ·exact h
     ·rw [List.drop_eq_nil_of_le h] at hl;cases hl
   have hx:cd ops i=x.code:=by
     have:=List.drop_eq_getElem_cons hlt
     rw [hl] at this
     simp only [List.cons.injEq] at this
     simp [cd,List.getD,hlt,this.1]
   have hl':ops.drop (i+1)=l:=by
     have:=List.drop_eq_getElem_cons hlt
     rw [hl] at this
     simp only [List.cons.injEq] at this
     exact this.2.symm
   simp only [matchG] at e
   split at e
   ·rename_i hc
    split at e
    ·cases e
    ·exact matchG_nest l (i+1) _ _ mt hl' hlt (h.push (by rw [hx];rcases hc with hc|hc<;>rw [hc]<;>decide)) e
   ·rename_i h1
    split at e
    ·rename_i h2
     split at e
     ·cases e
     ·rename_i j st'
      split at e
      ·rename_i h3
       have hj:=h.lt j (by simp)
       have hcj:cd ops j=11:=h3
       have:=h.close (.inl ⟨by rw [hx];exact h2,hcj⟩)
       rw [if_pos (by rw [hx];exact h2)] at this
       exact matchG_nest l (i+1) _ _ mt hl' hlt this e
      ·cases e
    ·rename_i h2
     split at e
     ·rename_i h3
      split at e
      ·cases e
      ·rename_i j st'
       have:=h.close (.inr (by rw [hx];exact h3))
       rw [if_neg (by rw [hx];exact h2)] at this
       exact matchG_nest l (i+1) _ _ mt hl' hlt this e
     ·rename_i h3
      exact matchG_nest l (i+1) _ _ mt hl' hlt (h.plain (by
        rw [hx]
        simp only [opnr,Bool.or_eq_false_iff,decide_eq_false_iff_not]
        omega)) e
theorem match_nest {ops:List Ins} {mt:List Int} (h:matchS ops=some mt):Nest ops mt:=by
  unfold matchS at h
  split at h
  ·cases h
  ·exact matchG_nest ops 0 [] [] mt (by simp) (Nat.zero_le _) ⟨rfl,by simp,by simp,by simp,by simp,by simp,by simp⟩ h
end Go.Proofs.Ytnlimcijgpaegaa.Bm

namespace Go.Proofs.Ytnlimcijgpaegaa.Bm
open Go.Proofs.Ytnlimcijgpaegaa
open Go Go.Fw
section
variable {B:Prg} {mt:List Int} {seen:List (List Rng)}
theorem simple_left {x:Ins} {s:St}:(simpleS x s).left=s.left:=by
  refine simple_P (P:=fun r=>r.left=s.left) ?_ ?_ ?_ ?_ ?_ ?_ ?_ ?_<;>intros<;>rfl
theorem step1_left {i:Int} {s:St}:(step1 B seen i s).left=s.left - 1:=by
  have:(tick (look seen i s)).left=s.left - 1:=by obtain ⟨o,ho⟩:=look_eq (seen:=seen) i s;rw [ho];rfl
  unfold step1
  split
  ·show (simpleS (B.op i) (tick (look seen i s))).left=_;rw [simple_left,this]
  ·rw [simple_left,this]
theorem look_left {i:Int} {s:St}:(tick (look seen i s)).left=s.left - 1:=by obtain ⟨o,ho⟩:=look_eq (seen:=seen) i s;rw [ho];rfl
theorem exec_left (f:Nat) (t:Tk) (s:St):(exec B mt seen f t s).left≤s.left:=
  exec_inv (P:=fun r=>r.left≤s.left) (fun i r h _=>by rw [step1_left];omega) (fun i r h _=>by rw [look_left];omega) (fun i n r h _=>by simp only [tick,St.put];omega) f t s (Int.le_refl _)
theorem Runs.left {t:Tk} {s s':St} (h:Runs B mt seen t s s'):s'.left≤s.left:=by
  obtain ⟨F,hF⟩:=h
  rw [←hF F (Nat.le_refl _)];exact exec_left F t s
theorem op_cd {i:Nat}:(B.op i).code=cd B.ops i:=rfl
theorem Nest.at (h:Nest B.ops mt) {i:Int} (h0:0≤i) (h1:i<B.ops.length) (ho:(B.op i).code=10∨(B.op i).code=11∨(B.op i).code=12):
    i<gt mt i∧gt mt i<B.ops.length∧((B.op (gt mt i)).code=12∨(B.op (gt mt i)).code=13)∧((B.op (gt mt i)).code=12→(B.op i).code=11):=by
  obtain ⟨n,rfl⟩:∃ n:Nat,i=n:=⟨i.toNat,by omega⟩
  obtain ⟨e,q1,q2,q3,q4,q5,_⟩:=h.clo n (by omega) (by rw [←op_cd];simp [opnr];omega)
  have:gt mt (n:Int)=e:=by simp [gt];simpa [List.getD] using q1
  rw [this]
  exact ⟨by omega,by omega,q5,q4⟩
end
end Go.Proofs.Ytnlimcijgpaegaa.Bm

namespace Go.Proofs.Ytnlimcijgpaegaa.Bm
open Go.Proofs.Ytnlimcijgpaegaa
open Go Go.Fw
instance:DecidableEq Rng:=fun a b=>if h:a.lo=b.lo∧a.hi=b.hi then isTrue (by obtain ⟨a,a'⟩:=a;obtain ⟨b,b'⟩:=b;obtain ⟨h1,h2⟩:=h;simp only at h1 h2;subst h1;subst h2;rfl) else isFalse (fun e=>h (by subst e;exact ⟨rfl,rfl⟩))
def intsR:Rng:=⟨-2147483648,2147483647⟩
def machR:Rng:=⟨-maxC,maxC⟩
def boolR:Rng:=⟨0,1⟩
def Rng.within (a b:Rng):Prop:=b.lo≤a.lo∧a.hi≤b.hi
instance (a b:Rng):Decidable (a.within b):=inferInstanceAs (Decidable (_∧_))
def Rng.has (a:Rng) (n:Int):Prop:=a.lo≤n∧n≤a.hi
def heldR (a b:Rng):Rng:=if a.within b then a else b
def hullR (a b:Rng):Rng:=⟨minI a.lo b.lo,maxI a.hi b.hi⟩
def min4 (a b c d:Int):Int:=minI (minI (minI a b) c) d
def max4 (a b c d:Int):Int:=maxI (maxI (maxI a b) c) d
def prodR (a b:Rng):Rng:=⟨min4 (a.lo*b.lo) (a.lo*b.hi) (a.hi*b.lo) (a.hi*b.hi),max4 (a.lo*b.lo) (a.lo*b.hi) (a.hi*b.lo) (a.hi*b.hi)⟩
def rngV:Nat→List Rng→Rng
  |0,[a,b]=>heldR ⟨a.lo+b.lo,a.hi+b.hi⟩ intsR
  |1,[a,b]=>heldR ⟨a.lo - b.hi,a.hi - b.lo⟩ intsR
  |2,[a,b]=>heldR (prodR a b) intsR
  |4,[a,b]=>if b.lo≥1 then ⟨0,b.hi - 1⟩ else intsR
  |5,[a,b]=>⟨minI a.lo b.lo,minI a.hi b.hi⟩
  |6,[a,b]=>⟨maxI a.lo b.lo,maxI a.hi b.hi⟩
  |9,_=>⟨-1,1⟩
  |20,[_,b,c]=>hullR b c
  |21,_=>boolR
  |i,_=>if 10≤i∧i≤19 then boolR else intsR
def fitR (p:ByteArray):Rng:=if eqS p El.sBool=true then boolR else intsR
def fitA (ps:List ByteArray) (l:List Rng):Bool:=(ps.zip l).all fun p=>decide (p.2.lo≤p.2.hi)&&decide (p.2.within (fitR p.1))
def fitsR (op:ByteArray) (l:List Rng):Option Nat:=(El.rowIx op).bind fun i=>if decide (l.length=(El.psN i).length)&&fitA (El.psN i) l then some i else none
def primR (op:ByteArray) (l:List Rng):Option Rng:=(fitsR op l).map fun i=>rngV i l
theorem minI_le (a b:Int):minI a b≤a∧minI a b≤b∧(minI a b=a∨minI a b=b):=by unfold minI;split<;>refine ⟨?_,?_,?_⟩<;>first|omega|exact .inl rfl|exact .inr rfl
theorem maxI_ge (a b:Int):a≤maxI a b∧b≤maxI a b∧(maxI a b=a∨maxI a b=b):=by unfold maxI;split<;>refine ⟨?_,?_,?_⟩<;>first|omega|exact .inl rfl|exact .inr rfl
theorem prod_lo {a b:Rng} {x y:Int} (hx:a.has x) (hy:b.has y):(prodR a b).lo≤x*y∧x*y≤(prodR a b).hi:=by
  obtain ⟨x1,x2⟩:=hx
  obtain ⟨y1,y2⟩:=hy
  have corner:∀ z:Int,(a.lo*z≤x*z∧x*z≤a.hi*z)∨(a.hi*z≤x*z∧x*z≤a.lo*z):=fun z=>by
    rcases Int.le_total 0 z with h|h
    ·exact .inl ⟨Int.mul_le_mul_of_nonneg_right x1 h,Int.mul_le_mul_of_nonneg_right x2 h⟩
    ·exact .inr ⟨Int.mul_le_mul_of_nonpos_right x2 h,Int.mul_le_mul_of_nonpos_right x1 h⟩
  have edge:(x*b.lo≤x*y∧x*y≤x*b.hi)∨(x*b.hi≤x*y∧x*y≤x*b.lo):=by
    rcases Int.le_total 0 x with h|h
    ·exact .inl ⟨Int.mul_le_mul_of_nonneg_left y1 h,Int.mul_le_mul_of_nonneg_left y2 h⟩
    ·exact .inr ⟨Int.mul_le_mul_of_nonpos_left h y2,Int.mul_le_mul_of_nonpos_left h y1⟩
  have h1:=corner b.lo
  have h2:=corner b.hi
  simp only [prodR,min4,max4]
  generalize a.lo*b.lo=p at*
  generalize a.lo*b.hi=q at*
  generalize a.hi*b.lo=r at*
  generalize a.hi*b.hi=t at*
  generalize x*b.lo=u at*
  generalize x*b.hi=v at*
  generalize x*y=z at*
  have m1:=minI_le p q
  have m2:=minI_le (minI p q) r
  have m3:=minI_le (minI (minI p q) r) t
  have n1:=maxI_ge p q
  have n2:=maxI_ge (maxI p q) r
  have n3:=maxI_ge (maxI (maxI p q) r) t
  omega
inductive Has:List Rng→List Int→Prop
  |nil:Has [] []
  |cons {a:Rng} {n:Int} {l:List Rng} {m:List Int} (h:a.has n) (t:Has l m):Has (a::l) (n::m)
theorem Has.length {l:List Rng} {m:List Int} (h:Has l m):m.length=l.length:=by
  induction h with
  |nil=>rfl
  |cons _ _ ih=>simp [ih]
theorem rng_ix {i:Nat} (h:i<22):i=0∨i=1∨i=2∨i=3∨i=4∨i=5∨i=6∨i=7∨i=8∨i=9∨i=10∨i=11∨i=12∨i=13∨i=14∨i=15∨i=16∨i=17∨i=18∨i=19∨i=20∨i=21:=by omega
theorem len1L {α:Type} {l:List α} (h:l.length=1):∃ a,l=[a]:=by
  cases l with
  |nil=>simp at h
  |cons a l=>cases l with
   |nil=>exact ⟨a,rfl⟩
   |cons _ _=>simp at h
theorem len2L {α:Type} {l:List α} (h:l.length=2):∃ a b,l=[a,b]:=by
  cases l with
  |nil=>simp at h
  |cons a l=>obtain ⟨b,rfl⟩:=len1L (l:=l) (by simpa using h);exact ⟨a,b,rfl⟩
theorem len3L {α:Type} {l:List α} (h:l.length=3):∃ a b c,l=[a,b,c]:=by
  cases l with
  |nil=>simp at h
  |cons a l=>obtain ⟨b,c,rfl⟩:=len2L (l:=l) (by simpa using h);exact ⟨a,b,c,rfl⟩
theorem Has.one {a:Rng} {m:List Int} (h:Has [a] m):∃ x,m=[x]∧a.has x:=by
  cases h with
  |cons h t=>cases t;exact ⟨_,rfl,h⟩
theorem Has.two {a b:Rng} {m:List Int} (h:Has [a,b] m):∃ x y,m=[x,y]∧a.has x∧b.has y:=by
  cases h with
  |cons h t=>obtain ⟨y,rfl,hy⟩:=t.one;exact ⟨_,_,rfl,h,hy⟩
theorem row_lt {op:ByteArray} {i:Nat} (h:El.rowIx op=some i):i<22:=by
  rcases El.ix_cases op with ⟨j,hj,_,hx,_⟩|⟨hx,_⟩
  ·rw [hx] at h;cases h;exact hj
  ·rw [hx] at h;cases h
theorem fits_inv {op:ByteArray} {l:List Rng} {i:Nat} (h:fitsR op l=some i):El.rowIx op=some i∧l.length=(El.psN i).length∧fitA (El.psN i) l=true:=by
  unfold fitsR at h
  cases hx:El.rowIx op with
  |none=>rw [hx] at h;cases h
  |some j=>
   rw [hx] at h
   simp only [Option.bind_some,Bool.and_eq_true,decide_eq_true_eq] at h
   split at h
   ·rename_i hc;cases h;exact ⟨rfl,hc.1,hc.2⟩
   ·cases h
end Go.Proofs.Ytnlimcijgpaegaa.Bm

namespace Go.Proofs.Ytnlimcijgpaegaa.Bm
open Go.Proofs.Ytnlimcijgpaegaa
open Go Go.Fw
theorem Rng.within_refl (a:Rng):a.within a:=⟨Int.le_refl _,Int.le_refl _⟩
inductive Wins:List Rng→List Rng→Prop
  |nil:Wins [] []
  |cons {a b:Rng} {l m:List Rng} (h:a.within b) (t:Wins l m):Wins (a::l) (b::m)
theorem Wins.one {a:Rng} {m:List Rng} (h:Wins [a] m):∃ x,m=[x]∧a.within x:=by
  cases h with
  |cons h t=>cases t;exact ⟨_,rfl,h⟩
theorem Wins.two {a b:Rng} {m:List Rng} (h:Wins [a,b] m):∃ x y,m=[x,y]∧a.within x∧b.within y:=by
  cases h with
  |cons h t=>obtain ⟨y,rfl,hy⟩:=t.one;exact ⟨_,_,rfl,h,hy⟩
end Go.Proofs.Ytnlimcijgpaegaa.Bm

namespace Go.Proofs.Ytnlimcijgpaegaa.Bm
open Go.Proofs.Ytnlimcijgpaegaa
open Go Go.Fw
def nilR:Rng:=⟨0,0⟩
def gR (s:List Rng) (i:Int):Rng:=s.getD i.toNat nilR
def sumR (x:Ins) (s:List Rng):Rng:=⟨(gR s x.b).lo+minI (x.d*(gR s x.c).lo) (x.d*(gR s x.c).hi),(gR s x.b).hi+maxI (x.d*(gR s x.c).lo) (x.d*(gR s x.c).hi)⟩
def pickedR (x:Ins) (s:List Rng):List Rng:=(readsS x).map (gR s)
def wideR (op:ByteArray):Rng:=match El.typesS op with
  |some r=>if eqS r.rs El.sBool=true then boolR else intsR
  |none=>intsR
def resultR (x:Ins) (s:List Rng):Rng:=
  if x.code=1 then ⟨x.b,x.b⟩
  else if x.code=2 then heldR (sumR x s) machR
  else if x.code=3 then ⟨minI (gR s x.b).lo (gR s x.c).lo,minI (gR s x.b).hi (gR s x.c).hi⟩
  else if x.code=4 then ⟨maxI (gR s x.b).lo (gR s x.c).lo,maxI (gR s x.b).hi (gR s x.c).hi⟩
  else if x.code=5 then (match primR x.prim (pickedR x s) with
    |some r=>r
    |none=>wideR x.prim)
  else if x.code=14 then heldR (gR s x.b) intsR
  else if x.code=8 then nilR
  else intsR
def withR (s:List Rng) (i:Int) (x:Rng):List Rng:=s.set i.toNat x
def hullsR:Option (List Rng)→Option (List Rng)→Option (List Rng)
  |none,t=>t
  |s,none=>s
  |some s,some t=>some (List.zipWith hullR s t)
def widenR (r:Rng):Rng:=if r.within boolR then boolR else if r.within ⟨-1,1⟩ then ⟨-1,1⟩ else if r.within intsR then intsR else machR
def growR (a b:Rng):Rng:=if hullR a b=a then a else widenR (hullR a b)
def grownR (head t:List Rng):List Rng:=List.zipWith growR head t
def wipe (l:List (List Rng)) (i to:Int):List (List Rng):=l.mapIdx fun j s=>if i≤j∧(j:Int)<to then [] else s
def lookH:List (Int×List Rng)→Int→Option (List Rng)
  |[],_=>none
  |e::l,i=>if i=e.1 then some e.2 else lookH l i
def putH:List (Int×List Rng)→Int→List Rng→List (Int×List Rng)
  |[],i,s=>[(i,s)]
  |e::l,i,s=>if i=e.1 then (i,s)::l else e::putH l i s
structure W where
  before:List (List Rng)
  heads:List (Int×List Rng)
inductive VTk where
  |blk (i to:Int)
  |lop (i:Int) (v:Rng)
def partV (rec:VTk→List Rng→W→Option (List Rng×W)) (i to:Int) (s:List Rng) (r:Int) (x:Rng) (w:W):Option (Option (List Rng)×W):=
  if x.lo>x.hi then some (none,{w with before:=wipe w.before i to}) else match rec (.blk i to) (withR s r x) w with
   |some (t,w')=>some (some t,w')
   |none=>none
def vrun (B:Prg) (mt:List Int):Nat→VTk→List Rng→W→Option (List Rng×W)
  |0,_,_,_=>none
  |f+1,.blk i to,s,w=>if i<to then (
    let w:={w with before:=w.before.set i.toNat s}
    let x:=B.op i
    if x.code=11 then (match partV (vrun B mt f) (i+1) (gt mt i) s x.a ⟨maxI (gR s x.a).lo 0,(gR s x.a).hi⟩ w with
     |some (yes,w)=>(match partV (vrun B mt f) (minI (gt mt i+1) (gt mt (gt mt i))) (gt mt (gt mt i)) s x.a ⟨(gR s x.a).lo,minI (gR s x.a).hi (-1)⟩ w with
      |some (no,w)=>(match hullsR yes no with
       |some t=>vrun B mt f (.blk (gt mt (gt mt i)+1) to) t w
       |none=>none)
      |none=>none)
     |none=>none)
    else if x.code=10 then (if (gR s x.b).lo>(gR s x.c).hi - 1 then vrun B mt f (.blk (gt mt i+1) to) s {w with before:=wipe w.before (i+1) (gt mt i)}
      else match vrun B mt f (.lop i ⟨(gR s x.b).lo,(gR s x.c).hi - 1⟩) (grownR ((lookH w.heads i).getD s) s) w with
        |some (t,w)=>vrun B mt f (.blk (gt mt i+1) to) t w
        |none=>none)
    else vrun B mt f (.blk (i+1) to) (if wrtB x.code=true then withR s x.a (resultR x s) else s) w) else some (s,w)
  |f+1,.lop i v,head,w=>match vrun B mt f (.blk (i+1) (gt mt i)) (withR head (B.op i).a v) {w with heads:=putH w.heads i head} with
   |some (t,w)=>if grownR head t=head then some (head,w) else vrun B mt f (.lop i v) (grownR head t) w
   |none=>none
def failR (x:Ins) (s:List Rng) (arena:Int):Bool:=
  if x.code=2 then !decide ((sumR x s).within machR)
  else if x.code=5 then (fitsR x.prim (pickedR x s)).isNone
  else if x.code=6 then !decide ((gR s x.b).within ⟨0,arena - 1⟩)
  else if x.code=7 then !decide ((gR s x.a).within ⟨0,arena - 1⟩)|| !decide ((gR s x.b).within intsR)
  else false
def InP (s:List Rng) (l:List Int):Prop:=l.length=s.length∧∀ i,i<s.length→(s.getD i nilR).has (l.getD i 0)
theorem InP.at {s:List Rng} {l:List Int} (h:InP s l) {i:Int} (h0:0≤i) (h1:i<s.length):(gR s i).has (gt l i):=h.2 i.toNat (by omega)
theorem InP.set {s:List Rng} {l:List Int} (h:InP s l) {i:Int} {x:Rng} {n:Int} (hx:x.has n):InP (withR s i x) (l.set i.toNat n):=by
  refine ⟨by simp [withR,h.1],fun j hj=>?_⟩
  have hj':j<s.length:=by simpa [withR] using hj
  by_cases e:i.toNat=j
  ·subst e
   simpa [withR,List.getD,List.getElem?_set_self hj',List.getElem?_set_self (show i.toNat<l.length by rw [h.1];exact hj')] using hx
  ·have:=h.2 j hj'
   simpa [withR,List.getD,List.getElem?_set_ne e] using this
theorem InP.mono {s t:List Rng} {l:List Int} (h:InP s l) (hl:t.length=s.length) (ht:∀ i,i<s.length→(s.getD i nilR).within (t.getD i nilR)):InP t l:=
  ⟨h.1.trans hl.symm,fun i hi=>⟨Int.le_trans (ht i (by omega)).1 (h.2 i (by omega)).1,Int.le_trans (h.2 i (by omega)).2 (ht i (by omega)).2⟩⟩
theorem hull_l (a b:Rng):a.within (hullR a b):=⟨(minI_le _ _).1,(maxI_ge _ _).1⟩
theorem Rng.within_trans {a b c:Rng} (h:a.within b) (k:b.within c):a.within c:=⟨Int.le_trans k.1 h.1,Int.le_trans h.2 k.2⟩
theorem hull_mach {a b:Rng} (h:a.within machR) (k:b.within machR):(hullR a b).within machR:=by
  have m1:=minI_le a.lo b.lo
  have m2:=maxI_ge a.hi b.hi
  obtain ⟨h1,h2⟩:=h
  obtain ⟨k1,k2⟩:=k
  refine ⟨?_,?_⟩<;>simp only [hullR]<;>omega
def OkR (r:Rng):Prop:=r.lo≤r.hi∧r.within machR
def OkS (n:Nat) (s:List Rng):Prop:=s.length=n∧∀ i,i<n→OkR (s.getD i nilR)
theorem okR_bool:OkR boolR:=⟨by decide,by decide,by decide⟩
theorem okR_ints:OkR intsR:=⟨by decide,by decide,by decide⟩
theorem okR_mach:OkR machR:=⟨by decide,by decide,by decide⟩
theorem okR_nil:OkR nilR:=⟨by decide,by decide,by decide⟩
theorem okR_widen (r:Rng):OkR (widenR r):=by
  unfold widenR
  split
  ·exact okR_bool
  ·split
   ·exact ⟨by decide,by decide,by decide⟩
   ·split
    ·exact okR_ints
    ·exact okR_mach
theorem okR_hull {a b:Rng} (h:OkR a) (k:OkR b):OkR (hullR a b):=by
  refine ⟨?_,hull_mach h.2 k.2⟩
  have:=h.1
  have m1:=minI_le a.lo b.lo
  have m2:=maxI_ge a.hi b.hi
  simp only [hullR];omega
theorem okR_grow {a b:Rng} (h:OkR a):OkR (growR a b):=by
  unfold growR
  split
  ·exact h
  ·exact okR_widen _
theorem okR_held {a b:Rng} (h:a.lo≤a.hi) (hb:OkR b):OkR (heldR a b):=by
  unfold heldR
  split
  ·rename_i k;exact ⟨h,Rng.within_trans k hb.2⟩
  ·exact hb
theorem getD_zip {f:Rng→Rng→Rng}:∀ {s t:List Rng} {i:Nat},i<s.length→i<t.length→(List.zipWith f s t).getD i nilR=f (s.getD i nilR) (t.getD i nilR)
  |[],_,_,h,_=>by simp at h
  |_::_,[],_,_,h=>by simp at h
  |a::s,b::t,0,_,_=>by simp
  |a::s,b::t,i+1,h,k=>by simpa using getD_zip (f:=f) (s:=s) (t:=t) (i:=i) (by simpa using h) (by simpa using k)
theorem OkS.at {n:Nat} {s:List Rng} (h:OkS n s) (i:Int):OkR (gR s i):=by
  by_cases hi:i.toNat<n
  ·exact h.2 _ hi
  ·have:gR s i=nilR:=by simp [gR,List.getD,show s.length≤i.toNat by have:=h.1;omega]
   rw [this];exact okR_nil
theorem OkS.with {n:Nat} {s:List Rng} (h:OkS n s) {i:Int} {x:Rng} (hx:OkR x):OkS n (withR s i x):=by
  refine ⟨by simp [withR,h.1],fun j hj=>?_⟩
  by_cases e:i.toNat=j
  ·subst e;simpa [withR,List.getD,List.getElem?_set_self (show i.toNat<s.length by rw [h.1];exact hj)] using hx
  ·simpa [withR,List.getD,List.getElem?_set_ne e] using h.2 j hj
theorem OkS.hulls {n:Nat} {s t:List Rng} (h:OkS n s) (k:OkS n t):OkS n (List.zipWith hullR s t):=by
  refine ⟨by simp [h.1,k.1],fun j hj=>?_⟩
  rw [getD_zip (by rw [h.1];exact hj) (by rw [k.1];exact hj)]
  exact okR_hull (h.2 j hj) (k.2 j hj)
theorem OkS.grown {n:Nat} {s t:List Rng} (h:OkS n s) (k:OkS n t):OkS n (grownR s t):=by
  refine ⟨by simp [grownR,h.1,k.1],fun j hj=>?_⟩
  unfold grownR
  rw [getD_zip (by rw [h.1];exact hj) (by rw [k.1];exact hj)]
  exact okR_grow (h.2 j hj)
theorem ok_held {a:Rng} (h:a.lo≤a.hi):(heldR a intsR).lo≤(heldR a intsR).hi∧(heldR a intsR).within intsR:=by
  unfold heldR
  split
  ·rename_i k;exact ⟨h,k⟩
  ·exact ⟨by decide,by decide,by decide⟩
theorem rng_ints {i:Nat} (hlt:i<22) {l:List Rng} (h2:l.length=(El.psN i).length) (h3:fitA (El.psN i) l=true):(rngV i l).lo≤(rngV i l).hi∧(rngV i l).within intsR:=by
  have two:∀ j,(El.psN j).length=2→j=i→∃ a b,l=[a,b]:=fun j hj e=>by subst e;exact len2L (h2.trans hj)
  have fw:∀ p,(fitR p).within intsR:=fun p=>by unfold fitR;split;exact ⟨by decide,by decide⟩;exact Rng.within_refl _
  have wi:∀ {p:ByteArray} {a:Rng} {ps:List ByteArray} {l:List Rng},fitA (p::ps) (a::l)=true→(a.lo≤a.hi∧a.within intsR)∧fitA ps l=true:=fun {p a ps l} h=>by
    simp only [fitA,List.zip_cons_cons,List.all_cons,Bool.and_eq_true,decide_eq_true_eq] at h
    exact ⟨⟨h.1.1,Rng.within_trans h.1.2 (fw _)⟩,by simpa [fitA] using h.2⟩
  have ki:intsR.lo≤intsR.hi∧intsR.within intsR:=⟨by decide,by decide,by decide⟩
  have kb:boolR.lo≤boolR.hi∧boolR.within intsR:=⟨by decide,by decide,by decide⟩
  have ks:(⟨-1,1⟩:Rng).lo≤(⟨-1,1⟩:Rng).hi∧(⟨-1,1⟩:Rng).within intsR:=⟨by decide,by decide,by decide⟩
  rcases rng_ix hlt with rfl|rfl|rfl|rfl|rfl|rfl|rfl|rfl|rfl|rfl|rfl|rfl|rfl|rfl|rfl|rfl|rfl|rfl|rfl|rfl|rfl|rfl
  ·obtain ⟨a,b,rfl⟩:=two 0 rfl rfl
   exact ok_held (Int.add_le_add (wi h3).1.1 (wi (wi h3).2).1.1)
  ·obtain ⟨a,b,rfl⟩:=two 1 rfl rfl
   exact ok_held (Int.sub_le_sub (wi h3).1.1 (wi (wi h3).2).1.1)
  ·obtain ⟨a,b,rfl⟩:=two 2 rfl rfl
   have:=prod_lo (a:=a) (b:=b) (x:=a.lo) (y:=b.lo) ⟨Int.le_refl _,(wi h3).1.1⟩ ⟨Int.le_refl _,(wi (wi h3).2).1.1⟩
   exact ok_held (Int.le_trans this.1 this.2)
  ·exact ki
  ·obtain ⟨a,b,rfl⟩:=two 4 rfl rfl
   have k:=(wi (wi h3).2).1
   show (if b.lo≥1 then (⟨0,b.hi - 1⟩:Rng) else intsR).lo≤(if b.lo≥1 then (⟨0,b.hi - 1⟩:Rng) else intsR).hi∧(if b.lo≥1 then (⟨0,b.hi - 1⟩:Rng) else intsR).within intsR
   simp only [Rng.within,intsR] at k
   split
   ·exact ⟨by simp only;omega,by simp only [intsR];omega,by simp only [intsR];omega⟩
   ·exact ki
  ·obtain ⟨a,b,rfl⟩:=two 5 rfl rfl
   have k1:=(wi h3).1
   have k2:=(wi (wi h3).2).1
   have m1:=minI_le a.lo b.lo
   have m2:=minI_le a.hi b.hi
   simp only [Rng.within,intsR] at k1 k2
   refine ⟨?_,?_,?_⟩<;>simp only [rngV,intsR]<;>omega
  ·obtain ⟨a,b,rfl⟩:=two 6 rfl rfl
   have k1:=(wi h3).1
   have k2:=(wi (wi h3).2).1
   have m1:=maxI_ge a.lo b.lo
   have m2:=maxI_ge a.hi b.hi
   simp only [Rng.within,intsR] at k1 k2
   refine ⟨?_,?_,?_⟩<;>simp only [rngV,intsR]<;>omega
  ·exact ki
  ·exact ki
  ·exact ks
  ·exact kb
  ·exact kb
  ·exact kb
  ·exact kb
  ·exact kb
  ·exact kb
  ·exact kb
  ·exact kb
  ·exact kb
  ·exact kb
  ·obtain ⟨a,b,c,rfl⟩:=len3L (l:=l) (h2.trans rfl)
   have k2:=(wi (wi h3).2).1
   have k3:=(wi (wi (wi h3).2).2).1
   have m1:=minI_le b.lo c.lo
   have m2:=maxI_ge b.hi c.hi
   simp only [Rng.within,intsR] at k2 k3
   refine ⟨?_,?_,?_⟩<;>simp only [rngV,hullR,intsR]<;>omega
  ·exact kb
theorem okR_prim {op:ByteArray} {l:List Rng} {r:Rng} (h:primR op l=some r):OkR r:=by
  unfold primR at h
  simp only [Option.map_eq_some_iff] at h
  obtain ⟨i,hi,rfl⟩:=h
  obtain ⟨h1,h2,h3⟩:=fits_inv hi
  obtain ⟨k1,k2⟩:=rng_ints (row_lt h1) h2 h3
  exact ⟨k1,Rng.within_trans k2 ⟨by decide,by decide⟩⟩
end Go.Proofs.Ytnlimcijgpaegaa.Bm

namespace Go.Proofs.Ytnlimcijgpaegaa.Bm
open Go.Proofs.Ytnlimcijgpaegaa
open Go Go.Fw
theorem right_reg {x:Ins} {f:List Bool} {regs:Int} (h:rightS x regs=true) (hf:formS x=some f) {i:Nat} (hi:i<4) (hb:f.getD i false=true):0≤(oprs x).getD i 0∧(oprs x).getD i 0<regs:=by
  unfold rightS at h
  rw [hf] at h
  simp only [Bool.and_eq_true] at h
  obtain ⟨⟨_,h⟩,_⟩:=h
  have hl:i<f.length:=by
    rcases Nat.lt_or_ge i f.length with h|h
    ·exact h
    ·simp [List.getD,h] at hb
  have key:∀ n,oprOk f regs i n=true→0≤n∧n<regs:=fun n hn=>by
    unfold oprOk at hn
    rw [if_neg (by omega),if_pos hb] at hn
    simpa using hn
  match i,hi with
  |0,_=>exact key _ h.1.1.1
  |1,_=>exact key _ h.1.1.2
  |2,_=>exact key _ h.1.2
  |3,_=>exact key _ h.2
theorem mem_pickR {w:Bool} {n:Int}:∀ {i:Nat} {f:List Bool} {l:List Int},n∈pickR w i f l→∃ k,f.getD k false=true∧l.getD k 0=n∧k<l.length
  |i,[],l,h=>by cases l<;>simp [pickR] at h
  |i,true::f,[],h=>by simp [pickR] at h
  |i,false::f,[],h=>by simp [pickR] at h
  |i,true::f,m::l,h=>by
   simp only [pickR] at h
   split at h
   ·rcases List.mem_cons.1 h with rfl|h
    ·exact ⟨0,rfl,rfl,by simp⟩
    ·obtain ⟨k,k1,k2,k3⟩:=mem_pickR h;exact ⟨k+1,by simpa using k1,by simpa using k2,by simpa using k3⟩
   ·obtain ⟨k,k1,k2,k3⟩:=mem_pickR h;exact ⟨k+1,by simpa using k1,by simpa using k2,by simpa using k3⟩
  |i,false::f,m::l,h=>by
   simp only [pickR] at h
   obtain ⟨k,k1,k2,k3⟩:=mem_pickR h;exact ⟨k+1,by simpa using k1,by simpa using k2,by simpa using k3⟩
theorem reads_reg {x:Ins} {regs:Int} (h:rightS x regs=true) {n:Int} (hn:n∈readsS x):0≤n∧n<regs:=by
  unfold readsS at hn
  cases hf:formS x with
  |none=>rw [hf] at hn;simp at hn
  |some f=>
   rw [hf] at hn
   obtain ⟨k,k1,k2,k3⟩:=mem_pickR hn
   rw [←k2]
   exact right_reg h hf k3 k1
structure Regs (x:Ins) (regs:Int):Prop where
  w:wrtB x.code=true→0≤x.a∧x.a<regs
  a:x.code=7∨x.code=11→0≤x.a∧x.a<regs
  b:x.code=2∨x.code=3∨x.code=4∨x.code=6∨x.code=7∨x.code=9∨x.code=10∨x.code=14→0≤x.b∧x.b<regs
  c:x.code=2∨x.code=3∨x.code=4∨x.code=10→0≤x.c∧x.c<regs
  code:x.code=1∨x.code=2∨x.code=3∨x.code=4∨x.code=5∨x.code=6∨x.code=7∨x.code=8∨x.code=9∨x.code=10∨x.code=11∨x.code=12∨x.code=13∨x.code=14∨x.code=15
  k1:x.code=1→ -maxC≤x.b∧x.b≤maxC
  k2:x.code=2→ -maxA≤x.d∧x.d≤maxA
  k10:x.code=10→1≤x.d∧x.d≤maxA
  k9:x.code=9→1≤x.a∧x.a≤1000000
theorem right_regs {x:Ins} {regs:Int} (h:rightS x regs=true):Regs x regs:=by
  cases hf:formS x with
  |none=>unfold rightS at h;rw [hf] at h;cases h
  |some f=>
   have key:=fun i (hi:i<4) (hb:f.getD i false=true)=>right_reg h hf hi hb
   have hrest:restOk x=true:=by
     unfold rightS at h;rw [hf] at h;simp only [Bool.and_eq_true] at h;exact h.2
   have f5:x.code=5→f.getD 0 false=true:=fun hc=>by
     unfold formS at hf
     rw [if_neg (by omega),if_neg (by omega),if_neg (by omega),if_pos hc] at hf
     simp only [Option.map_eq_some_iff] at hf
     obtain ⟨r,_,rfl⟩:=hf
     rw [Nat.add_comm];simp [List.replicate_succ]
   have hcode:x.code=1∨x.code=2∨x.code=3∨x.code=4∨x.code=5∨x.code=6∨x.code=7∨x.code=8∨x.code=9∨x.code=10∨x.code=11∨x.code=12∨x.code=13∨x.code=14∨x.code=15:=by
     unfold formS at hf
     repeat' split at hf
     all_goals first|omega|cases hf
   have fx:∀ (L:List Bool),(if x.code=1 then some [true,false] else if x.code=2∨x.code=10 then some [true,true,true,false] else if x.code=3∨x.code=4 then some [true,true,true]
     else if x.code=5 then some L else if x.code=6∨x.code=7∨x.code=14 then some [true,true] else if x.code=8∨x.code=11 then some [true] else if x.code=9 then some [false,true] else some [])=some f→x.code≠5→
     (wrtB x.code=true→f.getD 0 false=true)∧(x.code=7∨x.code=11→f.getD 0 false=true)∧
     (x.code=2∨x.code=3∨x.code=4∨x.code=6∨x.code=7∨x.code=9∨x.code=10∨x.code=14→f.getD 1 false=true)∧(x.code=2∨x.code=3∨x.code=4∨x.code=10→f.getD 2 false=true):=by
     intro L hL h5
     rcases hcode with e|e|e|e|e|e|e|e|e|e|e|e|e|e|e
     all_goals first|exact absurd e h5|skip
     all_goals (rw [e] at hL ⊢;simp at hL;subst hL;simp [wrtB])
   have all:(wrtB x.code=true→f.getD 0 false=true)∧(x.code=7∨x.code=11→f.getD 0 false=true)∧
     (x.code=2∨x.code=3∨x.code=4∨x.code=6∨x.code=7∨x.code=9∨x.code=10∨x.code=14→f.getD 1 false=true)∧(x.code=2∨x.code=3∨x.code=4∨x.code=10→f.getD 2 false=true):=by
     by_cases h5:x.code=5
     ·refine ⟨fun _=>f5 h5,?_,?_,?_⟩<;>intro h<;>omega
     ·refine fx [] ?_ h5
      have h0:=hf
      unfold formS at h0
      rcases hcode with e|e|e|e|e|e|e|e|e|e|e|e|e|e|e
      all_goals first|exact absurd e h5|(rw [e] at h0 ⊢;simpa using h0)
   obtain ⟨a1,a2,a3,a4⟩:=all
   refine ⟨fun hw=>key 0 (by decide) (a1 hw),fun hw=>key 0 (by decide) (a2 hw),fun hw=>key 1 (by decide) (a3 hw),fun hw=>key 2 (by decide) (a4 hw),hcode,fun e=>?_,fun e=>?_,fun e=>?_,fun e=>?_⟩
   all_goals (unfold restOk at hrest;rw [e] at hrest;simpa using hrest)
end Go.Proofs.Ytnlimcijgpaegaa.Bm

namespace Go.Proofs.Ytnlimcijgpaegaa.Bm
open Go.Proofs.Ytnlimcijgpaegaa
open Go Go.Fw
section
variable {B:Prg} {mt:List Int}
theorem wipe_length (l:List (List Rng)) (i to:Int):(wipe l i to).length=l.length:=by simp [wipe]
theorem wipe_getD {l:List (List Rng)} {i to:Int} {j:Nat}:(wipe l i to).getD j []=if i≤j∧(j:Int)<to then [] else l.getD j []:=by
  unfold wipe
  by_cases h:j<l.length
  ·simp [List.getD,List.getElem?_mapIdx,h]
  ·simp [List.getD,List.getElem?_mapIdx,List.getElem?_eq_none (show l.length≤j by omega)]
def Cl (B:Prg) (mt:List Int) (i to:Int):Prop:=0≤i∧to≤B.ops.length∧∀ j:Int,i≤j→j<to→((B.op j).code=10∨(B.op j).code=11∨(B.op j).code=12)→gt mt j<to
theorem Cl.next {i j to:Int} (h:Cl B mt i to) (hj:i≤j):Cl B mt j to:=⟨by have:=h.1;omega,h.2.1,fun k k1 k2 k3=>h.2.2 k (by omega) k2 k3⟩
theorem Nest.inner (hN:Nest B.ops mt) {i:Int} (h0:0≤i) (h1:i<B.ops.length) (ho:(B.op i).code=10∨(B.op i).code=11∨(B.op i).code=12):Cl B mt (i+1) (gt mt i):=by
  obtain ⟨k1,k2,_,_⟩:=hN.at h0 h1 ho
  refine ⟨by omega,by omega,fun j j1 j2 j3=>?_⟩
  obtain ⟨n,rfl⟩:∃ n:Nat,i=n:=⟨i.toNat,by omega⟩
  obtain ⟨m,rfl⟩:∃ m:Nat,j=m:=⟨j.toNat,by omega⟩
  obtain ⟨e,q1,q2,q3,_,_,q6⟩:=hN.clo n (by omega) (by rw [←op_cd];simp [opnr];omega)
  have e1:gt mt (n:Int)=e:=by simp [gt];simpa [List.getD] using q1
  obtain ⟨f,f1,f2,f3⟩:=q6 m (by omega) (by omega) (by rw [←op_cd];simp [opnr];omega)
  have e2:gt mt (m:Int)=f:=by simp [gt];simpa [List.getD] using f1
  omega
theorem Nest.end_ (hN:Nest B.ops mt) {i to:Int} (hc:Cl B mt i to) (hi:i<to) (ho:(B.op i).code=11):
    i<gt mt i∧gt mt i≤gt mt (gt mt i)∧gt mt (gt mt i)<to∧endS B mt i=gt mt (gt mt i)∧Cl B mt (minI (gt mt i+1) (gt mt (gt mt i))) (gt mt (gt mt i))∧((B.op (gt mt i)).code≠12→gt mt (gt mt i)=gt mt i):=by
  have h1:i<B.ops.length:=by have:=hc.2.1;omega
  obtain ⟨k1,k2,k3,k4⟩:=hN.at hc.1 h1 (.inr (.inl ho))
  have hk:=hc.2.2 i (Int.le_refl _) hi (.inr (.inl ho))
  have h0:=hc.1
  by_cases e:(B.op (gt mt i)).code=12
  ·obtain ⟨j1,j2,_,_⟩:=hN.at (i:=gt mt i) (by omega) k2 (.inr (.inr e))
   have hin:=hN.inner (i:=gt mt i) (by omega) k2 (.inr (.inr e))
   refine ⟨k1,by omega,hc.2.2 _ (by omega) hk (.inr (.inr e)),by unfold endS;rw [if_pos e],?_,fun h=>absurd e h⟩
   rw [show minI (gt mt i+1) (gt mt (gt mt i))=gt mt i+1 by unfold minI;rw [if_neg (by omega)]]
   exact hin
  ·have e13:(B.op (gt mt i)).code=13:=by rcases k3 with h|h;exact absurd h e;exact h
   obtain ⟨n,hn⟩:∃ n:Nat,gt mt i=n:=⟨(gt mt i).toNat,by omega⟩
   have hs:gt mt (gt mt i)=gt mt i:=by
     have:=hN.self n (by omega) (by rw [←op_cd,←hn,e13];decide)
     rw [hn]
     simpa [gt,List.getD] using this
   rw [hs]
   refine ⟨k1,Int.le_refl _,hk,by unfold endS;rw [if_neg e],?_,fun _=>rfl⟩
   rw [show minI (gt mt i+1) (gt mt i)=gt mt i by unfold minI;rw [if_pos (by omega)]]
   exact ⟨by omega,by omega,fun j j1 j2 _=>by omega⟩
def VTk.lo:VTk→Int
  |.blk i _=>i
  |.lop i _=>i+1
def VTk.hi (mt:List Int):VTk→Int
  |.blk _ to=>to
  |.lop i _=>gt mt i
def VTk.ok (B:Prg) (mt:List Int):VTk→Prop
  |.blk i to=>Cl B mt i to
  |.lop i _=>0≤i∧i<B.ops.length∧(B.op i).code=10
def Wr (lo hi:Int) (w w':W):Prop:=w'.before.length=w.before.length∧∀ j:Nat,¬ (lo≤j∧(j:Int)<hi)→w'.before.getD j []=w.before.getD j []
theorem Wr.refl (lo hi:Int) (w:W):Wr lo hi w w:=⟨rfl,fun _ _=>rfl⟩
theorem Wr.trans {lo hi:Int} {a b c:W} (h:Wr lo hi a b) (k:Wr lo hi b c):Wr lo hi a c:=⟨k.1.trans h.1,fun j hj=>(k.2 j hj).trans (h.2 j hj)⟩
theorem Wr.wide {lo hi lo' hi':Int} {a b:W} (h:Wr lo hi a b) (h1:lo'≤lo) (h2:hi≤hi'):Wr lo' hi' a b:=⟨h.1,fun j hj=>h.2 j (by omega)⟩
theorem wr_wipe {lo hi:Int} {w:W}:Wr lo hi w {w with before:=wipe w.before lo hi}:=⟨wipe_length _ _ _,fun j hj=>by simp only [wipe_getD];rw [if_neg hj]⟩
theorem wr_set {i hi:Int} {w:W} {s:List Rng} (h0:0≤i) (h:i<hi):Wr i hi w {w with before:=w.before.set i.toNat s}:=⟨by simp,fun j hj=>by
  have:i.toNat≠j:=by omega
  simp [List.getD,List.getElem?_set_ne this]⟩
theorem part_inv {rec:VTk→List Rng→W→Option (List Rng×W)} {i to:Int} {s:List Rng} {r:Int} {x:Rng} {w:W} {o:Option (List Rng)} {w':W} (h:partV rec i to s r x w=some (o,w')):
    (x.lo>x.hi∧o=none∧w'={w with before:=wipe w.before i to})∨(¬ x.lo>x.hi∧∃ t,o=some t∧rec (.blk i to) (withR s r x) w=some (t,w')):=by
  unfold partV at h
  split at h
  ·rename_i hx;cases h;exact .inl ⟨hx,rfl,rfl⟩
  ·rename_i hx
   split at h
   ·rename_i t w1 hr;cases h;exact .inr ⟨hx,t,rfl,hr⟩
   ·cases h
inductive Step1 (B:Prg) (mt:List Int) (f:Nat) (i to:Int) (s:List Rng) (w:W) (r:List Rng×W):Prop
  |iff (yes no:Option (List Rng)) (w1 w2:W) (t:List Rng) (hc:(B.op i).code=11)
     (h1:partV (vrun B mt f) (i+1) (gt mt i) s (B.op i).a ⟨maxI (gR s (B.op i).a).lo 0,(gR s (B.op i).a).hi⟩ {w with before:=w.before.set i.toNat s}=some (yes,w1))
     (h2:partV (vrun B mt f) (minI (gt mt i+1) (gt mt (gt mt i))) (gt mt (gt mt i)) s (B.op i).a ⟨(gR s (B.op i).a).lo,minI (gR s (B.op i).a).hi (-1)⟩ w1=some (no,w2))
     (h3:hullsR yes no=some t) (h4:vrun B mt f (.blk (gt mt (gt mt i)+1) to) t w2=some r)
  |dead (hc:(B.op i).code=10) (hv:(gR s (B.op i).b).lo>(gR s (B.op i).c).hi - 1)
     (h1:vrun B mt f (.blk (gt mt i+1) to) s {w with before:=wipe (w.before.set i.toNat s) (i+1) (gt mt i)}=some r)
  |forr (t:List Rng) (w1:W) (hc:(B.op i).code=10) (hv: ¬ (gR s (B.op i).b).lo>(gR s (B.op i).c).hi - 1)
     (h1:vrun B mt f (.lop i ⟨(gR s (B.op i).b).lo,(gR s (B.op i).c).hi - 1⟩) (grownR ((lookH w.heads i).getD s) s) {w with before:=w.before.set i.toNat s}=some (t,w1))
     (h2:vrun B mt f (.blk (gt mt i+1) to) t w1=some r)
  |one (h1:(B.op i).code≠10) (h2:(B.op i).code≠11)
     (h3:vrun B mt f (.blk (i+1) to) (if wrtB (B.op i).code=true then withR s (B.op i).a (resultR (B.op i) s) else s) {w with before:=w.before.set i.toNat s}=some r)
theorem step1_of {f:Nat} {i to:Int} {s:List Rng} {w:W} {r:List Rng×W} (h:vrun B mt (f+1) (.blk i to) s w=some r) (hi:i<to):Step1 B mt f i to s w r:=by
  simp only [vrun] at h
  rw [if_pos hi] at h
  split at h
  ·rename_i hc
   split at h
   ·rename_i yes w1 h1
    split at h
    ·rename_i no w2 h2
     split at h
     ·rename_i t h3;exact .iff yes no w1 w2 t hc h1 h2 h3 h
     ·cases h
    ·cases h
   ·cases h
  ·rename_i h11
   split at h
   ·rename_i hc
    split at h
    ·rename_i hv;exact .dead hc hv h
    ·rename_i hv
     split at h
     ·rename_i t w1 h1;exact .forr t w1 hc hv h1 h
     ·cases h
   ·rename_i h10;exact .one h10 h11 h
theorem vrun_wr (hN:Nest B.ops mt):∀ (f:Nat) (tk:VTk) (s:List Rng) (w:W) (t:List Rng) (w':W),tk.ok B mt→vrun B mt f tk s w=some (t,w')→Wr tk.lo (tk.hi mt) w w'
  |0,_,_,_,_,_,_,h=>by simp [vrun] at h
  |f+1,.blk i to,s,w,t,w',hk,h=>by
   have hk':Cl B mt i to:=hk
   by_cases hi:i<to
   ·have hs:=wr_set (w:=w) (s:=s) hk'.1 hi
    rcases step1_of h hi with ⟨yes,no,w1,w2,t1,hc,h1,h2,h3,h4⟩|⟨hc,hv,h1⟩|⟨t1,w1,hc,hv,h1,h2⟩|⟨_,_,h3⟩
    ·obtain ⟨k1,k2,k3,_,k5,_⟩:=hN.end_ hk' hi hc
     have hin:=hN.inner hk'.1 (by have:=hk'.2.1;omega) (.inr (.inl hc))
     have e1:Wr i to {w with before:=w.before.set i.toNat s} w1:=by
       rcases part_inv h1 with ⟨_,_,rfl⟩|⟨_,u,_,hr⟩
       ·exact (wr_wipe (lo:=i+1) (hi:=gt mt i)).wide (by omega) (by omega)
       ·exact (vrun_wr hN f (.blk (i+1) (gt mt i)) _ _ _ _ hin hr).wide (by show i≤i+1;omega) (by show gt mt i≤to;omega)
     have e2:Wr i to w1 w2:=by
       have hmin:i≤minI (gt mt i+1) (gt mt (gt mt i)):=by unfold minI;split<;>omega
       rcases part_inv h2 with ⟨_,_,rfl⟩|⟨_,u,_,hr⟩
       ·exact wr_wipe.wide hmin (by omega)
       ·exact (vrun_wr hN f (.blk _ _) _ _ _ _ k5 hr).wide hmin (by show gt mt (gt mt i)≤to;omega)
     exact ((hs.trans e1).trans e2).trans ((vrun_wr hN f (.blk _ _) _ _ _ _ (hk'.next (by omega)) h4).wide (by show i≤gt mt (gt mt i)+1;omega) (Int.le_refl _))
    ·have hk1:=hk'.2.2 i (Int.le_refl _) hi (.inl hc)
     obtain ⟨k1,_,_,_⟩:=hN.at hk'.1 (by have:=hk'.2.1;omega) (.inl hc)
     have e1:Wr i to {w with before:=w.before.set i.toNat s} {w with before:=wipe (w.before.set i.toNat s) (i+1) (gt mt i)}:=(wr_wipe (w:={w with before:=w.before.set i.toNat s}) (lo:=i+1) (hi:=gt mt i)).wide (by omega) (by omega)
     exact (hs.trans e1).trans ((vrun_wr hN f (.blk _ _) _ _ _ _ (hk'.next (by omega)) h1).wide (by show i≤gt mt i+1;omega) (Int.le_refl _))
    ·have hk1:=hk'.2.2 i (Int.le_refl _) hi (.inl hc)
     have hlt:i<B.ops.length:=by have:=hk'.2.1;omega
     obtain ⟨k1,_,_,_⟩:=hN.at hk'.1 hlt (.inl hc)
     have e1:=(vrun_wr hN f (.lop i _) _ _ _ _ ⟨hk'.1,hlt,hc⟩ h1).wide (lo':=i) (hi':=to) (by show i≤i+1;omega) (by show gt mt i≤to;omega)
     exact (hs.trans e1).trans ((vrun_wr hN f (.blk _ _) _ _ _ _ (hk'.next (by omega)) h2).wide (by show i≤gt mt i+1;omega) (Int.le_refl _))
    ·exact hs.trans ((vrun_wr hN f (.blk _ _) _ _ _ _ (hk'.next (by omega)) h3).wide (by show i≤i+1;omega) (Int.le_refl _))
   ·simp only [vrun] at h
    rw [if_neg hi] at h
    cases h
    exact Wr.refl _ _ _
  |f+1,.lop i v,s,w,t,w',hk,h=>by
   obtain ⟨h0,h1,hc⟩:=hk
   have hin:=hN.inner h0 h1 (.inl hc)
   simp only [vrun] at h
   split at h
   ·rename_i t1 w1 hr
    have e0:=vrun_wr hN f (.blk (i+1) (gt mt i)) _ _ _ _ hin hr
    have e1:Wr (i+1) (gt mt i) w w1:=e0
    split at h
    ·cases h;exact e1
    ·exact e1.trans (vrun_wr hN f (.lop i v) _ _ _ _ ⟨h0,h1,hc⟩ h)
   ·cases h
end
end Go.Proofs.Ytnlimcijgpaegaa.Bm

namespace Go.Proofs.Ytnlimcijgpaegaa.Bm
open Go.Proofs.Ytnlimcijgpaegaa
open Go Go.Fw
section
variable {B:Prg} {mt:List Int}
theorem okR_sum {x:Ins} {n:Nat} {s:List Rng} (h:OkS n s):(sumR x s).lo≤(sumR x s).hi:=by
  have h1:=(h.at x.b).1
  have m1:=minI_le (x.d*(gR s x.c).lo) (x.d*(gR s x.c).hi)
  have m2:=maxI_ge (x.d*(gR s x.c).lo) (x.d*(gR s x.c).hi)
  unfold sumR
  simp only
  generalize x.d*(gR s x.c).lo=p at*
  generalize x.d*(gR s x.c).hi=q at*
  omega
theorem okR_result {x:Ins} {n:Nat} {s:List Rng} (h:OkS n s) {regs:Int} (hx:Regs x regs):OkR (resultR x s):=by
  unfold resultR
  split
  ·rename_i e
   have:=hx.k1 e
   exact ⟨Int.le_refl _,this.1,this.2⟩
  ·split
   ·exact okR_held (okR_sum h) okR_mach
   ·split
    ·have b:=h.at x.b
     have c:=h.at x.c
     obtain ⟨b1,b2,b3⟩:=b
     obtain ⟨c1,c2,c3⟩:=c
     have m1:=minI_le (gR s x.b).lo (gR s x.c).lo
     have m2:=minI_le (gR s x.b).hi (gR s x.c).hi
     refine ⟨?_,?_,?_⟩<;>simp only<;>omega
    ·split
     ·have b:=h.at x.b
      have c:=h.at x.c
      obtain ⟨b1,b2,b3⟩:=b
      obtain ⟨c1,c2,c3⟩:=c
      have m1:=maxI_ge (gR s x.b).lo (gR s x.c).lo
      have m2:=maxI_ge (gR s x.b).hi (gR s x.c).hi
      refine ⟨?_,?_,?_⟩<;>simp only<;>omega
     ·split
      ·split
       ·rename_i r hr;exact okR_prim hr
       ·unfold wideR
        split
        ·split
         ·exact okR_bool
         ·exact okR_ints
        ·exact okR_ints
      ·split
       ·exact okR_held (h.at x.b).1 okR_ints
       ·split
        ·exact okR_nil
        ·exact okR_ints
def HOk (n:Nat) (w:W):Prop:=∀ i l,lookH w.heads i=some l→OkS n l
theorem lookH_put {l:List (Int×List Rng)} {i j:Int} {s:List Rng}:lookH (putH l i s) j=if j=i then some s else lookH l j:=by
  induction l with
  |nil=>simp only [putH,lookH]
  |cons e l ih=>
   simp only [putH]
   by_cases h:i=e.1
   ·rw [if_pos h]
    simp only [lookH]
    by_cases k:j=i
    ·rw [if_pos k,if_pos k]
    ·rw [if_neg k,if_neg k,if_neg (by omega)]
   ·rw [if_neg h]
    simp only [lookH]
    by_cases k:j=e.1
    ·rw [if_pos k,if_neg (by omega),if_pos k]
    ·rw [if_neg k,if_neg k,ih]
theorem hulls_ok {n:Nat} {a b:Option (List Rng)} {t:List Rng} (h:hullsR a b=some t) (ha:∀ l,a=some l→OkS n l) (hb:∀ l,b=some l→OkS n l):OkS n t:=by
  cases a with
  |none=>exact hb t h
  |some a=>cases b with
   |none=>exact ha t h
   |some b=>cases h;exact (ha a rfl).hulls (hb b rfl)
theorem ok_yes {r:Rng} (h:OkR r) (hx: ¬ (⟨maxI r.lo 0,r.hi⟩:Rng).lo>(⟨maxI r.lo 0,r.hi⟩:Rng).hi):OkR ⟨maxI r.lo 0,r.hi⟩:=by
  obtain ⟨h1,h2,h3⟩:=h
  have m:=maxI_ge r.lo 0
  refine ⟨?_,?_,?_⟩<;>simp only [machR,maxC] at* <;>omega
theorem ok_no {r:Rng} (h:OkR r) (hx: ¬ (⟨r.lo,minI r.hi (-1)⟩:Rng).lo>(⟨r.lo,minI r.hi (-1)⟩:Rng).hi):OkR ⟨r.lo,minI r.hi (-1)⟩:=by
  obtain ⟨h1,h2,h3⟩:=h
  have m:=minI_le r.hi (-1)
  refine ⟨?_,?_,?_⟩<;>simp only [machR,maxC] at* <;>omega
def Rights (B:Prg) (n:Nat):Prop:=∀ i:Int,0≤i→i<B.ops.length→rightS (B.op i) n=true
theorem vrun_ok (hN:Nest B.ops mt) {n:Nat} (hR:Rights B n):∀ (f:Nat) (tk:VTk) (s:List Rng) (w:W) (t:List Rng) (w':W),vrun B mt f tk s w=some (t,w')→tk.ok B mt→OkS n s→HOk n w→(∀ i v,tk= .lop i v→OkR v)→OkS n t∧HOk n w'
  |0,_,_,_,_,_,h,_,_,_,_=>by simp [vrun] at h
  |f+1,.blk i to,s,w,t,w',h,hk,hs,hw,_=>by
   have hk':Cl B mt i to:=hk
   by_cases hi:i<to
   ·have hlt:i<B.ops.length:=by have:=hk'.2.1;omega
    rcases step1_of h hi with ⟨yes,no,w1,w2,t1,hc,h1,h2,h3,h4⟩|⟨hc,hv,h1⟩|⟨t1,w1,hc,hv,h1,h2⟩|⟨_,_,h3⟩
    ·obtain ⟨k1,k2,k3,_,k5,_⟩:=hN.end_ hk' hi hc
     have hin:=hN.inner hk'.1 hlt (.inr (.inl hc))
     have e1:(∀ l,yes=some l→OkS n l)∧HOk n w1:=by
       rcases part_inv h1 with ⟨_,rfl,rfl⟩|⟨hx,u,rfl,hr⟩
       ·exact ⟨by (intro l h;cases h),hw⟩
       ·obtain ⟨q1,q2⟩:=vrun_ok hN hR f (.blk (i+1) (gt mt i)) _ _ _ _ hr hin (hs.with (ok_yes (hs.at _) hx)) hw (by intro i v h;cases h)
        exact ⟨by intro l h;cases h;exact q1,q2⟩
     have e2:(∀ l,no=some l→OkS n l)∧HOk n w2:=by
       rcases part_inv h2 with ⟨_,rfl,rfl⟩|⟨hx,u,rfl,hr⟩
       ·exact ⟨by (intro l h;cases h),e1.2⟩
       ·obtain ⟨q1,q2⟩:=vrun_ok hN hR f (.blk _ _) _ _ _ _ hr k5 (hs.with (ok_no (hs.at _) hx)) e1.2 (by intro i v h;cases h)
        exact ⟨by intro l h;cases h;exact q1,q2⟩
     exact vrun_ok hN hR f (.blk _ _) _ _ _ _ h4 (hk'.next (by omega)) (hulls_ok h3 e1.1 e2.1) e2.2 (by intro i v h;cases h)
    ·obtain ⟨k1,_,_,_⟩:=hN.at hk'.1 hlt (.inl hc)
     exact vrun_ok hN hR f (.blk _ _) _ _ _ _ h1 (hk'.next (by omega)) hs hw (by intro i v h;cases h)
    ·obtain ⟨k1,_,_,_⟩:=hN.at hk'.1 hlt (.inl hc)
     have hh:OkS n ((lookH w.heads i).getD s):=by
       cases e:lookH w.heads i with
       |none=>exact hs
       |some l=>exact hw i l e
     have hb:=hs.at (B.op i).b
     have hcc:=hs.at (B.op i).c
     obtain ⟨q1,q2⟩:=vrun_ok hN hR f (.lop i _) _ _ _ _ h1 ⟨hk'.1,hlt,hc⟩ (hh.grown hs) hw (by
       intro j v hj
       cases hj
       obtain ⟨b1,b2,b3⟩:=hb
       obtain ⟨c1,c2,c3⟩:=hcc
       refine ⟨?_,?_,?_⟩<;>simp only [machR,maxC] at* <;>omega)
     exact vrun_ok hN hR f (.blk _ _) _ _ _ _ h2 (hk'.next (by omega)) q1 q2 (by intro i v h;cases h)
    ·refine vrun_ok hN hR f (.blk _ _) _ _ _ _ h3 (hk'.next (by omega)) ?_ hw (by intro i v h;cases h)
     split
     ·exact hs.with (okR_result hs (right_regs (hR i hk'.1 hlt)))
     ·exact hs
   ·simp only [vrun] at h
    rw [if_neg hi] at h
    cases h
    exact ⟨hs,hw⟩
  |f+1,.lop i v,s,w,t,w',h,hk,hs,hw,hv=>by
   obtain ⟨h0,h1,hc⟩:=hk
   have hin:=hN.inner h0 h1 (.inl hc)
   simp only [vrun] at h
   split at h
   ·rename_i t1 w1 hr
    obtain ⟨q1,q2⟩:=vrun_ok hN hR f (.blk (i+1) (gt mt i)) _ _ _ _ hr hin (hs.with (hv i v rfl)) (by
      intro j l hj
      simp only [lookH_put] at hj
      split at hj
      ·cases hj;exact hs
      ·exact hw j l hj) (by intro i v h;cases h)
    split at h
    ·cases h;exact ⟨hs,q2⟩
    ·exact vrun_ok hN hR f (.lop i v) _ _ _ _ h ⟨h0,h1,hc⟩ (hs.grown q1) q2 hv
   ·cases h
def Wider (n:Nat) (s t:List Rng):Prop:=∀ i,i<n→(s.getD i nilR).within (t.getD i nilR)
theorem Wider.trans {n:Nat} {a b c:List Rng} (h:Wider n a b) (k:Wider n b c):Wider n a c:=fun i hi=>Rng.within_trans (h i hi) (k i hi)
theorem InP.refine {s:List Rng} {l:List Int} (h:InP s l) {i:Int} {x:Rng} (hx:x.has (gt l i)):InP (withR s i x) l:=by
  refine ⟨by simp [withR,h.1],fun j hj=>?_⟩
  have hj':j<s.length:=by simpa [withR] using hj
  by_cases e:i.toNat=j
  ·subst e
   simpa [withR,List.getD,List.getElem?_set_self hj',gt] using hx
  ·have:=h.2 j hj'
   simpa [withR,List.getD,List.getElem?_set_ne e] using this
end
end Go.Proofs.Ytnlimcijgpaegaa.Bm

namespace Go.Proofs.Ytnlimcijgpaegaa
open Go Go.Fw Bm
set_option maxRecDepth 20000
def opV (x:Ins):AV:= .agg [.lit (.int .i64 x.code),.lit (.string x.prim),.lit (.int .i64 x.a),.lit (.int .i64 x.b),.lit (.int .i64 x.c),.lit (.int .i64 x.d)]
def opsV (l:List Ins):List AV:=l.map opV
theorem opsV_length (l:List Ins):(opsV l).length=l.length:=by simp [opsV]
def jOp:AV:=opV nilI
theorem opsV_getJ (l:List Ins) (i:Nat):(opsV l).getD i jOp=opV (l.getD i nilI):=by
  simp only [opsV,jOp,List.getD_eq_getElem?_getD,List.getElem?_map];cases l[i]? <;>rfl
def opOf:AV→Option Ins
  |.agg [.lit (.int .i64 k),.lit (.string p),.lit (.int .i64 a),.lit (.int .i64 b),.lit (.int .i64 c),.lit (.int .i64 d)]=>some ⟨k,p,a,b,c,d⟩
  |_=>none
theorem opOf_agg {k a b c d:Int} {p:ByteArray}:opOf (.agg [.lit (.int .i64 k),.lit (.string p),.lit (.int .i64 a),.lit (.int .i64 b),.lit (.int .i64 c),.lit (.int .i64 d)])=some ⟨k,p,a,b,c,d⟩:=rfl
theorem opOf_V (x:Ins):opOf (opV x)=some x:=rfl
theorem opOf_inv {x:AV} {s:Ins} (h:opOf x=some s):x=opV s:=by
  unfold opOf at h
  split at h
  ·cases h;rfl
  ·cases h
theorem opOf_le {x:AV} {s:Ins} (h:opOf x=some s):LeA x (opV s):=by rw [opOf_inv h];exact LeA.refl _
def opL:List AV→Option (List Ins)
  |[]=>some []
  |x::xs=>match opOf x,opL xs with
   |some s,some l=>some (s::l)
   |_,_=>none
theorem opL_ops:∀ l:List Ins,opL (opsV l)=some l
  |[]=>rfl
  |s::l=>by
   show opL (opV s::opsV l)=_
   rw [opL,opOf_V,opL_ops l]
theorem opL_inv:∀ {xs:List AV} {l:List Ins},opL xs=some l→xs=opsV l
  |[],l,h=>by cases h;rfl
  |x::xs,l,h=>by
   unfold opL at h
   split at h
   ·rename_i s l' h1 h2
    cases h
    rw [opOf_inv h1,opL_inv h2];rfl
   ·cases h
def opsOf (x:AV):Option (List Ins):=(slA 6 x).bind opL
theorem opsOf_leR {x:AV} {l:List Ins} (h:opsOf x=some l):LeR x (.sl false 6 (opsV l)):=slA_leR (by
  unfold opsOf at h
  cases hx:slA 6 x with
  |none=>rw [hx] at h;cases h
  |some xs=>rw [hx] at h;rw [←opL_inv h])
theorem opsOf_le {x:AV} {l:List Ins} (h:opsOf x=some l):LeA x (.sl false 6 (opsV l)):=slA_le (by
  unfold opsOf at h
  cases hx:slA 6 x with
  |none=>rw [hx] at h;cases h
  |some xs=>rw [hx] at h;rw [←opL_inv h])
theorem opsOf_sl {b:Bool} {l:List Ins}:opsOf (.sl b 6 (opsV l))=some l:=by simp [opsOf,slA,opL_ops]
def plV (p:Int×Int):AV:= .agg [.lit (.int .i64 p.1),.lit (.int .i64 p.2)]
def plsV (l:List (Int×Int)):List AV:=l.map plV
theorem plsV_length (l:List (Int×Int)):(plsV l).length=l.length:=by simp [plsV]
def jPl:AV:=plV (0,0)
theorem plsV_getJ (l:List (Int×Int)) (i:Nat):(plsV l).getD i jPl=plV (l.getD i (0,0)):=by
  simp only [plsV,jPl,List.getD_eq_getElem?_getD,List.getElem?_map];cases l[i]? <;>rfl
def plOf:AV→Option (Int×Int)
  |.agg [.lit (.int .i64 a),.lit (.int .i64 b)]=>some (a,b)
  |_=>none
theorem plOf_inv {x:AV} {s:Int×Int} (h:plOf x=some s):x=plV s:=by
  unfold plOf at h
  split at h
  ·cases h;rfl
  ·cases h
def plL:List AV→Option (List (Int×Int))
  |[]=>some []
  |x::xs=>match plOf x,plL xs with
   |some s,some l=>some (s::l)
   |_,_=>none
theorem plL_pls:∀ l:List (Int×Int),plL (plsV l)=some l
  |[]=>rfl
  |s::l=>by
   show plL (plV s::plsV l)=_
   rw [plL,show plOf (plV s)=some s from rfl,plL_pls l]
theorem plL_inv:∀ {xs:List AV} {l:List (Int×Int)},plL xs=some l→xs=plsV l
  |[],l,h=>by cases h;rfl
  |x::xs,l,h=>by
   unfold plL at h
   split at h
   ·rename_i s l' h1 h2
    cases h
    rw [plOf_inv h1,plL_inv h2];rfl
   ·cases h
def plsOf (x:AV):Option (List (Int×Int)):=(slA 2 x).bind plL
theorem plsOf_le {x:AV} {l:List (Int×Int)} (h:plsOf x=some l):LeA x (.sl false 2 (plsV l)):=slA_le (by
  unfold plsOf at h
  cases hx:slA 2 x with
  |none=>rw [hx] at h;cases h
  |some xs=>rw [hx] at h;rw [←plL_inv h])
theorem plsOf_sl {b:Bool} {l:List (Int×Int)}:plsOf (.sl b 2 (plsV l))=some l:=by simp [plsOf,slA,plL_pls]
def jkV:TypeId→AV:=fun t=>if t=73 then jOp else if t=99 then jPl else jk t
theorem jkV_73:jkV 73=jOp:=rfl
theorem jkV_99:jkV 99=jPl:=rfl
theorem jkV_3:jkV 3= .lit (.int .i64 0):=rfl
theorem jkV_9:jkV 9= .lit (.string ByteArray.empty):=rfl
theorem jkV_34:jkV 34=jI:=rfl
theorem jkV_96:jkV 96=jA:=rfl
theorem typesV_some {r:El.Rw}:El.typesV (some r)= .tup [.sl false 1 (strs r.ps),.lit (.string r.rs),.lit (.bool true)]:=rfl
theorem typesV_none:El.typesV none= .tup [.lit (.slice none 0 0),.lit (.string ⟨#[]⟩),.lit (.bool false)]:=rfl
attribute [go_sem] jkV_73 jkV_99 jkV_3 jkV_9 jkV_34 jkV_96 opsV_getJ opsV_length plsV_getJ plsV_length typesV_some typesV_none opOf_agg
end Go.Proofs.Ytnlimcijgpaegaa

namespace Go.Proofs.Ytnlimcijgpaegaa
open Go Go.Fw Bm
set_option maxRecDepth 20000
def frB (f:List Bool):ByteArray:=⟨(f.map fun b=>if b=true then (114:UInt8) else 110).toArray⟩
def formV (x:Ins):AV:=match formS x with
  |some f=> .tup [.lit (.string (frB f)),.lit (.bool true)]
  |none=> .tup [.lit (.string (if x.code=5 then frB [true] else frB [])),.lit (.bool false)]
theorem typesS_len {op:ByteArray} {r:El.Rw} (h:El.typesS op=some r):r.ps.length=1∨r.ps.length=2∨r.ps.length=3:=by
  have hm:r∈El.rowsL:=List.mem_of_find?_eq_some h
  have:∀ r∈El.rowsL,r.ps.length=1∨r.ps.length=2∨r.ps.length=3:=by decide
  exact this r hm
theorem szR4:(#[114,114,114,114]:Array UInt8).size=4:=rfl
theorem ci1:(1:Int)+((1:Nat):Int)=2:=rfl
theorem ci2:(1:Int)+((2:Nat):Int)=3:=rfl
theorem ci3:(1:Int)+((3:Nat):Int)=4:=rfl
theorem mi1:minI 4 1=1:=rfl
theorem mi2:minI 4 2=2:=rfl
theorem mi3:minI 4 3=3:=rfl
theorem mi4:minI 4 4=4:=rfl
attribute [go_sem] ci1 ci2 ci3 szR4 mi1 mi2 mi3 mi4
noncomputable def V1:Env:=envJ (P:=Try.prog) jkV zer (fun _=>false) (fun _=>false) [El.con29] []
theorem V1_ok:EnvOk Try.prog V1:=envJOk zer_ok
attribute [go_sem] El.con29_f El.con29_c El.con59_f El.con59_c
set_option maxHeartbeats 4000000 in
theorem form_pc {x:Ins}:PC Try.prog 107 [opV x] (formV x):=by
  obtain ⟨k,p,a,b,c,d⟩:=x
  simp only [opV]
  generalize hR:formV ⟨k,p,a,b,c,d⟩=R
  by_cases h5:k=5
  ·subst h5
   cases hT:El.typesS p with
   |none=>
    refine pcR V1_ok (kp107) Try.func107 [.tmp 2,.tmp 3] (h:=fun KF=>?_)
    unfold V1
    repeat' (first
     |(with_reducible first|refine nx ?_|refine t_seq fun K=>?_|refine t_br (fun hc=>?_) fun hc=>?_|refine t_bx ?_|apply And.intro|intro vr)
     |((with_reducible first|refine ny ?_|refine t_dwh (h:=fun K KL=>?_));intros;simp only [go_sem,kp107,geff,hT]))
    all_goals try (first|(with_reducible assumption)|(intros;(try simp only [Bool.and_eq_true,Bool.or_eq_true,Bool.or_eq_false_iff,Bool.not_eq_true',Bool.not_eq_false',decide_eq_true_eq,decide_eq_false_iff_not,beq_iff_eq,beq_eq_false_iff_ne,bne_iff_ne,bne_eq_false_iff_eq,ne_eq,inI64,List.size_toArray,List.length_cons,List.length_nil] at*)<;>omega)|(intros;(with_reducible first|refine impB_ofR ?_|refine and_ofB ?_ ?_)<;>with_reducible first|assumption|(refine impB_ofR ?_;assumption))|((try simp only [Bool.and_eq_true] at vr);simp only [impB,vr,Bool.or_true,Bool.true_or,Bool.and_self,Bool.not_true,Bool.not_false,Bool.and_true];done))
    all_goals (refine nl ?_;simp only [go_sem])
    exact LeA.of_eq (by rw [←hR];simp [formV,formS,hT,frB];rfl)
   |some r=>
    have hfin:∀ n:Nat,r.ps.length=n→LeA (.tup [.lit (.string (frB (List.replicate (1+n) true))),.lit (.bool true)]) R:=fun n hn=>LeA.of_eq (by rw [←hR];simp only [formV,formS,hT,Option.map_some,hn];rfl)
    rcases typesS_len hT with hl|hl|hl
    all_goals
      have e:=hfin _ hl
      refine pcR V1_ok (kp107) Try.func107 [.tmp 2,.tmp 3] (h:=fun KF=>?_)
      unfold V1
      repeat' (first
       |(with_reducible first|refine nx ?_|refine t_seq fun K=>?_|refine t_br (fun hc=>?_) fun hc=>?_|refine t_bx ?_|apply And.intro|intro vr)
       |((with_reducible first|refine ny ?_|refine t_dwh (h:=fun K KL=>?_));intros;simp only [go_sem,kp107,geff,hT,hl,Int.reduceAdd]))
      all_goals try (first|(with_reducible assumption)|(intros;(try simp only [Bool.and_eq_true,Bool.or_eq_true,Bool.or_eq_false_iff,Bool.not_eq_true',Bool.not_eq_false',decide_eq_true_eq,decide_eq_false_iff_not,beq_iff_eq,beq_eq_false_iff_ne,bne_iff_ne,bne_eq_false_iff_eq,ne_eq,inI64,List.size_toArray,List.length_cons,List.length_nil] at*)<;>omega)|(intros;(with_reducible first|refine impB_ofR ?_|refine and_ofB ?_ ?_)<;>with_reducible first|assumption|(refine impB_ofR ?_;assumption))|((try simp only [Bool.and_eq_true] at vr);simp only [impB,vr,Bool.or_true,Bool.true_or,Bool.and_self,Bool.not_true,Bool.not_false,Bool.and_true];done))
      all_goals (refine nl ?_;simp only [go_sem])
      exact e
  ·skip
   refine pcR V1_ok (kp107) Try.func107 [.tmp 2,.tmp 3] (h:=fun KF=>?_)
   unfold V1
   repeat' (first
    |(with_reducible first|refine nx ?_|refine t_seq fun K=>?_|refine t_br (fun hc=>?_) fun hc=>?_|refine t_bx ?_|apply And.intro|intro vr)
    |((with_reducible first|refine ny ?_|refine t_dwh (h:=fun K KL=>?_));intros;simp only [go_sem,kp107,geff]))
   all_goals try exact nd
   all_goals (refine nl ?_;simp only [go_sem])
   all_goals (refine LeA.of_eq ?_;rw [←hR];simp_all [formV,formS,frB])
noncomputable def con107:PCon Try.prog where
  f:=107
  c:=fun
   |[xx]=>match opOf xx with|some x=>some (True,formV x)|_=>none
   |_=>none
  ok:=by
   intro args p r hc hp
   split at hc
   ·split at hc
    ·rename_i hx
     cases hc
     exact PC.weak form_pc ⟨opOf_le hx,trivial⟩
    ·cases hc
   ·cases hc
  fk:=fk107
theorem con107_f:con107.f=107:=rfl
theorem con107_c {xx:AV}:con107.c [xx]=match opOf xx with|some x=>some (True,formV x)|_=>none:=rfl
end Go.Proofs.Ytnlimcijgpaegaa

namespace Go.Proofs.Ytnlimcijgpaegaa
open Go Go.Fw Bm
set_option maxRecDepth 20000
noncomputable def V2:Env:=envJ (P:=Try.prog) jkV zer (fun _=>false) (fun _=>false) [] []
theorem V2_ok:EnvOk Try.prog V2:=envJOk zer_ok
attribute [go_sem] con107_f con107_c
def oprV (x:Ins):AV:= .agg [.lit (.int .i64 x.a),.lit (.int .i64 x.b),.lit (.int .i64 x.c),.lit (.int .i64 x.d)]
set_option maxHeartbeats 4000000 in
theorem ropr_pc {x:Ins}:PC Try.prog 108 [opV x] (oprV x):=by
  simp only [opV]
  refine pcR V2_ok (kp108) Try.func108 [.cell 2 160] (h:=fun KF=>?_)
  unfold V2
  repeat' (first
   |(with_reducible first|refine nx ?_|refine t_seq fun K=>?_|refine t_br (fun hc=>?_) fun hc=>?_|refine t_bx ?_|apply And.intro|intro vr)
   |((with_reducible first|refine ny ?_|refine t_dwh (h:=fun K KL=>?_));intros;simp only [go_sem,kp108,geff]))
  all_goals try exact nd
  all_goals (refine nl ?_;simp only [go_sem])
  exact LeA.refl _
set_option maxHeartbeats 4000000 in
theorem opr_pc {x:Ins}:PC Try.prog 111 [opV x] (oprV x):=by
  simp only [opV]
  refine pcR V2_ok (kp111) Try.func111 [.cell 2 160] (h:=fun KF=>?_)
  unfold V2
  repeat' (first
   |(with_reducible first|refine nx ?_|refine t_seq fun K=>?_|refine t_br (fun hc=>?_) fun hc=>?_|refine t_bx ?_|apply And.intro|intro vr)
   |((with_reducible first|refine ny ?_|refine t_dwh (h:=fun K KL=>?_));intros;simp only [go_sem,kp111,geff]))
  all_goals try exact nd
  all_goals (refine nl ?_;simp only [go_sem])
  exact LeA.refl _
def wrtV (x:Ins):AV:= .tup [.lit (.int .i64 (if wrtB x.code=true then x.a else 0)),.lit (.bool (wrtB x.code))]
def kindOk (k n regs:Int):Bool:=
  if k=0 then decide (0≤n)&&decide (n<regs)
  else if k=1 then decide (-maxC≤n)&&decide (n≤maxC)
  else if k=2 then decide (-maxA≤n)&&decide (n≤maxA)
  else if k=3 then decide (1≤n)&&decide (n≤1000000)
  else decide (1≤n)&&decide (n≤maxA)
set_option maxHeartbeats 4000000 in
theorem within_pc {k n regs:Int}:PC Try.prog 112 [.lit (.int .i64 k),.lit (.int .i64 n),.lit (.int .i64 regs)] (.lit (.bool (kindOk k n regs))):=by
  generalize hR:kindOk k n regs=R
  refine pcR V2_ok (kp112) Try.func112 [.tmp 6] (h:=fun KF=>?_)
  unfold V2
  repeat' (first
   |(with_reducible first|refine nx ?_|refine t_seq fun K=>?_|refine t_br (fun hc=>?_) fun hc=>?_|refine t_bx ?_|apply And.intro|intro vr)
   |((with_reducible first|refine ny ?_|refine t_dwh (h:=fun K KL=>?_));intros;simp only [go_sem,kp112,geff]))
  all_goals try exact nd
  all_goals (refine nl ?_;simp only [go_sem])
  all_goals (refine LeA.of_eq ?_;subst hR;first|(simp_all [kindOk,maxC,maxA];done)|(simp_all [kindOk,maxC,maxA];rfl))
noncomputable def con108:PCon Try.prog where
  f:=108
  c:=fun
   |[xx]=>match opOf xx with|some x=>some (True,oprV x)|_=>none
   |_=>none
  ok:=by
   intro args p r hc hp
   split at hc
   ·split at hc
    ·rename_i hx
     cases hc
     exact PC.weak ropr_pc ⟨opOf_le hx,trivial⟩
    ·cases hc
   ·cases hc
  fk:=fk108
theorem con108_f:con108.f=108:=rfl
theorem con108_c {xx:AV}:con108.c [xx]=match opOf xx with|some x=>some (True,oprV x)|_=>none:=rfl
noncomputable def con111:PCon Try.prog where
  f:=111
  c:=fun
   |[xx]=>match opOf xx with|some x=>some (True,oprV x)|_=>none
   |_=>none
  ok:=by
   intro args p r hc hp
   split at hc
   ·split at hc
    ·rename_i hx
     cases hc
     exact PC.weak opr_pc ⟨opOf_le hx,trivial⟩
    ·cases hc
   ·cases hc
  fk:=fk111
theorem con111_f:con111.f=111:=rfl
theorem con111_c {xx:AV}:con111.c [xx]=match opOf xx with|some x=>some (True,oprV x)|_=>none:=rfl
noncomputable def con112:PCon Try.prog where
  f:=112
  c:=fun
   |[.lit (.int .i64 k),.lit (.int .i64 n),.lit (.int .i64 r)]=>some (True,.lit (.bool (kindOk k n r)))
   |_=>none
  ok:=by
   intro args p r hc hp
   split at hc
   ·cases hc;exact within_pc
   ·cases hc
  fk:=fk112
theorem con112_f:con112.f=112:=rfl
theorem con112_c {k:Int} {n:Int} {r:Int}:con112.c [.lit (.int .i64 k),.lit (.int .i64 n),.lit (.int .i64 r)]=some (True,.lit (.bool (kindOk k n r))):=rfl
theorem oprV_mk {k a b c d:Int} {p:ByteArray}:oprV ⟨k,p,a,b,c,d⟩= .agg [.lit (.int .i64 a),.lit (.int .i64 b),.lit (.int .i64 c),.lit (.int .i64 d)]:=rfl
theorem wrtV_mk {k a b c d:Int} {p:ByteArray}:wrtV ⟨k,p,a,b,c,d⟩= .tup [.lit (.int .i64 (if wrtB k=true then a else 0)),.lit (.bool (wrtB k))]:=rfl
attribute [go_sem] oprV_mk wrtV_mk con108_f con108_c con111_f con111_c con112_f con112_c
end Go.Proofs.Ytnlimcijgpaegaa

namespace Go.Proofs.Ytnlimcijgpaegaa
open Go Go.Fw Bm
set_option maxRecDepth 20000
theorem formV_some {x:Ins} {f:List Bool} (h:formS x=some f):formV x= .tup [.lit (.string (frB f)),.lit (.bool true)]:=by unfold formV;rw [h]
theorem formV_none {x:Ins} (h:formS x=none):formV x= .tup [.lit (.string (if x.code=5 then frB [true] else frB [])),.lit (.bool false)]:=by unfold formV;rw [h]
theorem formS_len {x:Ins} {f:List Bool} (h:formS x=some f):f.length≤4:=by
  unfold formS at h
  split at h
  ·cases h;decide
  ·split at h
   ·cases h;decide
   ·split at h
    ·cases h;decide
    ·split at h
     ·cases hT:El.typesS x.prim with
      |none=>rw [hT] at h;cases h
      |some r=>
       rw [hT] at h
       cases h
       have:=typesS_len hT
       simp only [List.length_replicate];omega
     ·split at h
      ·cases h;decide
      ·split at h
       ·cases h;decide
       ·split at h
        ·cases h;decide
        ·split at h
         ·cases h;decide
         ·cases h
theorem frB_size (f:List Bool):(frB f).size=f.length:=by simp [frB,ByteArray.size]
theorem frB_at (f:List Bool) (i:Nat) (h:i<f.length):strAt (frB f) i=if f.getD i false=true then 114 else 110:=by
  simp only [strAt,frB,List.getD_eq_getElem?_getD,List.getElem?_map,List.getElem?_eq_getElem h,Option.map_some,Option.getD_some]
  split<;>rfl
theorem decAnd {p q:Prop} [Decidable p] [Decidable q] [Decidable (p∧q)]:(decide p&&decide q)=decide (p∧q):=by
  by_cases h:p<;>by_cases k:q<;>simp [h,k]
theorem stepP {P:Nat→Prop} {i:Nat} (h:∀ j,j<i→P j) (k:P i):∀ j,j<i+1→P j:=fun j hj=>by
  rcases (show j<i∨j=i by omega) with h1|rfl
  ·exact h j h1
  ·exact k
noncomputable def V3:Env:=envJ (P:=Try.prog) jkV zer (fun _=>false) (fun _=>false) [con107,con108] []
theorem V3_ok:EnvOk Try.prog V3:=envJOk zer_ok
set_option maxHeartbeats 8000000 in
theorem rright_pc {x:Ins} {regs:Int}:PC Try.prog 77 [opV x,.lit (.int .i64 regs)] (.lit (.bool (rightS x regs))):=by
  obtain ⟨k,p,a,b,c,d⟩:=x
  simp only [opV]
  generalize hR:rightS ⟨k,p,a,b,c,d⟩ regs=R
  cases hF:formS ⟨k,p,a,b,c,d⟩ with
  |none=>
   have hV:=formV_none hF
   refine pcR V3_ok (kp77) Try.func77 [.tmp 4] (h:=fun KF=>?_)
   unfold V3
   repeat' (first
    |(with_reducible first|refine nx ?_|refine t_seq fun K=>?_|refine t_br (fun hc=>?_) fun hc=>?_|refine t_bx ?_|apply And.intro|intro vr)
    |((with_reducible first|refine ny ?_|refine t_dwh (h:=fun K KL=>?_));intros;simp only [go_sem,kp77,geff,hV]))
   all_goals try exact nd
   all_goals (refine nl ?_;simp only [go_sem])
   all_goals (refine LeA.of_eq ?_;rw [←hR];simp [rightS,hF])
  |some f=>
   have hV:=formV_some hF
   have hl:=formS_len hF
   have hsz:=frB_size f
   have hsz':(frB f).data.size=f.length:=hsz
   have hRR:R=((decide (k=5)||decide (p.data.toList=[]))&&(oprOk f regs 0 a&&oprOk f regs 1 b&&oprOk f regs 2 c&&oprOk f regs 3 d)&&restOk ⟨k,p,a,b,c,d⟩):=by rw [←hR];simp only [rightS,hF]
   refine pcR V3_ok (kp77) Try.func77 [.tmp 4] (h:=fun KF=>?_)
   unfold V3
   repeat' (first
    |(with_reducible first|refine nx ?_|refine t_seq fun K=>?_|refine t_br (fun hc=>?_) fun hc=>?_|refine t_bx ?_|apply And.intro|intro vr)
    |((with_reducible first|refine ny ?_|refine t_dwh (h:=fun K KL=>?_));intros;simp only [go_sem,kp77,geff,hV]))
   all_goals try exact nd
   ·skip
    all_goals (refine nl ?_;simp only [go_sem])
    refine LeA.of_eq ?_
    rw [hRR]
    simp_all [eqS]
   ·have hpk:(decide (k=5)||decide (p.data.toList=[]))=true:=by
      have h1:=hc
      simp only [eqS,Bool.and_eq_false_iff,bne_eq_false_iff_eq,Bool.not_eq_false',beq_iff_eq] at h1
      rcases h1 with h1|h1
      ·simp [h1]
      ·rw [h1];simp
    refine t_loopF (ι:={i:Nat // i≤4∧∀ j,j<i→oprOk f regs j ([a,b,c,d].getD j 0)=true}) (fun i=>[(8,.lit (.int .i64 i.1))]) (fun i=>[.box 73 [.lit (.int .i64 k),.lit (.string p),.lit (.int .i64 a),.lit (.int .i64 b),.lit (.int .i64 c),.lit (.int .i64 d)],.box 160 [.lit (.int .i64 a),.lit (.int .i64 b),.lit (.int .i64 c),.lit (.int .i64 d)]]) (fun i=>4 - i.1) ⟨0,by omega,by omega⟩ ?_ ?_
    ·exact lf
    rintro ⟨i,hi,hP⟩ K0
    rcases (show i=0∨i=1∨i=2∨i=3∨i=4 by omega) with rfl|rfl|rfl|rfl|rfl
    ·have h0:((((0:Nat):Int)):Int)=0:=rfl
     rcases Nat.lt_or_ge 0 f.length with hlt|hlt
     ·have g1:decide ((0:Int)≥(f.length:Int))=false:=decide_eq_false (by omega)
      cases hr:f.getD 0 false with
      |true=>
       have g2:strAt (frB f) 0=114:=by rw [frB_at f 0 hlt,hr];rfl
       have hq:oprOk f regs 0 a=decide (0≤a∧a<regs):=by unfold oprOk;rw [if_neg (by omega),hr,if_pos rfl]
       repeat' (first
        |(with_reducible first|refine nx ?_|refine t_seq fun K=>?_|refine t_br (fun hc=>?_) fun hc=>?_|refine t_bx ?_|apply And.intro|intro vr)
        |((with_reducible first|refine ny ?_|refine t_dwh (h:=fun K KL=>?_));intros;simp only [go_sem,kp77,geff,hsz,h0,g1,g2]))
       all_goals try exact nd
       ·skip
        all_goals (refine nl ?_;simp only [go_sem])
        have hno:oprOk f regs 0 a=false:=by rw [hq];exact decide_eq_false (fun h=>by simp only [Bool.or_eq_true,decide_eq_true_eq] at hc;omega)
        exact LeA.of_eq (by rw [hRR,hno];simp)
       ·have hok:oprOk f regs 0 ([a,b,c,d].getD 0 0)=true:=by
          show oprOk f regs 0 a=true
          rw [hq];exact decide_eq_true (by simp only [Bool.or_eq_false_iff,decide_eq_false_iff_not] at hc;omega)
        exact ⟨⟨0+1,by omega,stepP hP hok⟩,wf,lf⟩
      |false=>
       have g2:strAt (frB f) 0=110:=by rw [frB_at f 0 hlt,hr];rfl
       have hok:oprOk f regs 0 ([a,b,c,d].getD 0 0)=true:=by unfold oprOk;rw [if_neg (by omega),hr,if_neg (by decide)]
       repeat' (first
        |(with_reducible first|refine nx ?_|refine t_seq fun K=>?_|refine t_br (fun hc=>?_) fun hc=>?_|refine t_bx ?_|apply And.intro|intro vr)
        |((with_reducible first|refine ny ?_|refine t_dwh (h:=fun K KL=>?_));intros;simp only [go_sem,kp77,geff,hsz,h0,g1,g2]))
       all_goals try exact nd
       exact ⟨⟨0+1,by omega,stepP hP hok⟩,wf,lf⟩
     ·have g1:decide ((0:Int)≥(f.length:Int))=true:=decide_eq_true (by omega)
      have hq:oprOk f regs 0 a=decide (a=0):=by unfold oprOk;rw [if_pos (by omega)]
      repeat' (first
       |(with_reducible first|refine nx ?_|refine t_seq fun K=>?_|refine t_br (fun hc=>?_) fun hc=>?_|refine t_bx ?_|apply And.intro|intro vr)
       |((with_reducible first|refine ny ?_|refine t_dwh (h:=fun K KL=>?_));intros;simp only [go_sem,kp77,geff,hsz,h0,g1]))
      all_goals try exact nd
      ·skip
       all_goals (refine nl ?_;simp only [go_sem])
       have hno:oprOk f regs 0 a=false:=by rw [hq];exact decide_eq_false (by simpa using hc)
       exact LeA.of_eq (by rw [hRR,hno];simp)
      ·have hok:oprOk f regs 0 ([a,b,c,d].getD 0 0)=true:=by
         show oprOk f regs 0 a=true
         rw [hq];exact decide_eq_true (by simpa using hc)
       exact ⟨⟨0+1,by omega,stepP hP hok⟩,wf,lf⟩
    ·have h0:((((1:Nat):Int)):Int)=1:=rfl
     rcases Nat.lt_or_ge 1 f.length with hlt|hlt
     ·have g1:decide ((1:Int)≥(f.length:Int))=false:=decide_eq_false (by omega)
      cases hr:f.getD 1 false with
      |true=>
       have g2:strAt (frB f) 1=114:=by rw [frB_at f 1 hlt,hr];rfl
       have hq:oprOk f regs 1 b=decide (0≤b∧b<regs):=by unfold oprOk;rw [if_neg (by omega),hr,if_pos rfl]
       repeat' (first
        |(with_reducible first|refine nx ?_|refine t_seq fun K=>?_|refine t_br (fun hc=>?_) fun hc=>?_|refine t_bx ?_|apply And.intro|intro vr)
        |((with_reducible first|refine ny ?_|refine t_dwh (h:=fun K KL=>?_));intros;simp only [go_sem,kp77,geff,hsz,h0,g1,g2]))
       all_goals try exact nd
       ·skip
        all_goals (refine nl ?_;simp only [go_sem])
        have hno:oprOk f regs 1 b=false:=by rw [hq];exact decide_eq_false (fun h=>by simp only [Bool.or_eq_true,decide_eq_true_eq] at hc;omega)
        exact LeA.of_eq (by rw [hRR,hno];simp)
       ·have hok:oprOk f regs 1 ([a,b,c,d].getD 1 0)=true:=by
          show oprOk f regs 1 b=true
          rw [hq];exact decide_eq_true (by simp only [Bool.or_eq_false_iff,decide_eq_false_iff_not] at hc;omega)
        exact ⟨⟨1+1,by omega,stepP hP hok⟩,wf,lf⟩
      |false=>
       have g2:strAt (frB f) 1=110:=by rw [frB_at f 1 hlt,hr];rfl
       have hok:oprOk f regs 1 ([a,b,c,d].getD 1 0)=true:=by unfold oprOk;rw [if_neg (by omega),hr,if_neg (by decide)]
       repeat' (first
        |(with_reducible first|refine nx ?_|refine t_seq fun K=>?_|refine t_br (fun hc=>?_) fun hc=>?_|refine t_bx ?_|apply And.intro|intro vr)
        |((with_reducible first|refine ny ?_|refine t_dwh (h:=fun K KL=>?_));intros;simp only [go_sem,kp77,geff,hsz,h0,g1,g2]))
       all_goals try exact nd
       exact ⟨⟨1+1,by omega,stepP hP hok⟩,wf,lf⟩
     ·have g1:decide ((1:Int)≥(f.length:Int))=true:=decide_eq_true (by omega)
      have hq:oprOk f regs 1 b=decide (b=0):=by unfold oprOk;rw [if_pos (by omega)]
      repeat' (first
       |(with_reducible first|refine nx ?_|refine t_seq fun K=>?_|refine t_br (fun hc=>?_) fun hc=>?_|refine t_bx ?_|apply And.intro|intro vr)
       |((with_reducible first|refine ny ?_|refine t_dwh (h:=fun K KL=>?_));intros;simp only [go_sem,kp77,geff,hsz,h0,g1]))
      all_goals try exact nd
      ·skip
       all_goals (refine nl ?_;simp only [go_sem])
       have hno:oprOk f regs 1 b=false:=by rw [hq];exact decide_eq_false (by simpa using hc)
       exact LeA.of_eq (by rw [hRR,hno];simp)
      ·have hok:oprOk f regs 1 ([a,b,c,d].getD 1 0)=true:=by
         show oprOk f regs 1 b=true
         rw [hq];exact decide_eq_true (by simpa using hc)
       exact ⟨⟨1+1,by omega,stepP hP hok⟩,wf,lf⟩
    ·have h0:((((2:Nat):Int)):Int)=2:=rfl
     rcases Nat.lt_or_ge 2 f.length with hlt|hlt
     ·have g1:decide ((2:Int)≥(f.length:Int))=false:=decide_eq_false (by omega)
      cases hr:f.getD 2 false with
      |true=>
       have g2:strAt (frB f) 2=114:=by rw [frB_at f 2 hlt,hr];rfl
       have hq:oprOk f regs 2 c=decide (0≤c∧c<regs):=by unfold oprOk;rw [if_neg (by omega),hr,if_pos rfl]
       repeat' (first
        |(with_reducible first|refine nx ?_|refine t_seq fun K=>?_|refine t_br (fun hc=>?_) fun hc=>?_|refine t_bx ?_|apply And.intro|intro vr)
        |((with_reducible first|refine ny ?_|refine t_dwh (h:=fun K KL=>?_));intros;simp only [go_sem,kp77,geff,hsz,h0,g1,g2]))
       all_goals try exact nd
       ·skip
        all_goals (refine nl ?_;simp only [go_sem])
        have hno:oprOk f regs 2 c=false:=by rw [hq];exact decide_eq_false (fun h=>by simp only [Bool.or_eq_true,decide_eq_true_eq] at hc;omega)
        exact LeA.of_eq (by rw [hRR,hno];simp)
       ·have hok:oprOk f regs 2 ([a,b,c,d].getD 2 0)=true:=by
          show oprOk f regs 2 c=true
          rw [hq];exact decide_eq_true (by simp only [Bool.or_eq_false_iff,decide_eq_false_iff_not] at hc;omega)
        exact ⟨⟨2+1,by omega,stepP hP hok⟩,wf,lf⟩
      |false=>
       have g2:strAt (frB f) 2=110:=by rw [frB_at f 2 hlt,hr];rfl
       have hok:oprOk f regs 2 ([a,b,c,d].getD 2 0)=true:=by unfold oprOk;rw [if_neg (by omega),hr,if_neg (by decide)]
       repeat' (first
        |(with_reducible first|refine nx ?_|refine t_seq fun K=>?_|refine t_br (fun hc=>?_) fun hc=>?_|refine t_bx ?_|apply And.intro|intro vr)
        |((with_reducible first|refine ny ?_|refine t_dwh (h:=fun K KL=>?_));intros;simp only [go_sem,kp77,geff,hsz,h0,g1,g2]))
       all_goals try exact nd
       exact ⟨⟨2+1,by omega,stepP hP hok⟩,wf,lf⟩
     ·have g1:decide ((2:Int)≥(f.length:Int))=true:=decide_eq_true (by omega)
      have hq:oprOk f regs 2 c=decide (c=0):=by unfold oprOk;rw [if_pos (by omega)]
      repeat' (first
       |(with_reducible first|refine nx ?_|refine t_seq fun K=>?_|refine t_br (fun hc=>?_) fun hc=>?_|refine t_bx ?_|apply And.intro|intro vr)
       |((with_reducible first|refine ny ?_|refine t_dwh (h:=fun K KL=>?_));intros;simp only [go_sem,kp77,geff,hsz,h0,g1]))
      all_goals try exact nd
      ·skip
       all_goals (refine nl ?_;simp only [go_sem])
       have hno:oprOk f regs 2 c=false:=by rw [hq];exact decide_eq_false (by simpa using hc)
       exact LeA.of_eq (by rw [hRR,hno];simp)
      ·have hok:oprOk f regs 2 ([a,b,c,d].getD 2 0)=true:=by
         show oprOk f regs 2 c=true
         rw [hq];exact decide_eq_true (by simpa using hc)
       exact ⟨⟨2+1,by omega,stepP hP hok⟩,wf,lf⟩
    ·have h0:((((3:Nat):Int)):Int)=3:=rfl
     rcases Nat.lt_or_ge 3 f.length with hlt|hlt
     ·have g1:decide ((3:Int)≥(f.length:Int))=false:=decide_eq_false (by omega)
      cases hr:f.getD 3 false with
      |true=>
       have g2:strAt (frB f) 3=114:=by rw [frB_at f 3 hlt,hr];rfl
       have hq:oprOk f regs 3 d=decide (0≤d∧d<regs):=by unfold oprOk;rw [if_neg (by omega),hr,if_pos rfl]
       repeat' (first
        |(with_reducible first|refine nx ?_|refine t_seq fun K=>?_|refine t_br (fun hc=>?_) fun hc=>?_|refine t_bx ?_|apply And.intro|intro vr)
        |((with_reducible first|refine ny ?_|refine t_dwh (h:=fun K KL=>?_));intros;simp only [go_sem,kp77,geff,hsz,h0,g1,g2]))
       all_goals try exact nd
       ·skip
        all_goals (refine nl ?_;simp only [go_sem])
        have hno:oprOk f regs 3 d=false:=by rw [hq];exact decide_eq_false (fun h=>by simp only [Bool.or_eq_true,decide_eq_true_eq] at hc;omega)
        exact LeA.of_eq (by rw [hRR,hno];simp)
       ·have hok:oprOk f regs 3 ([a,b,c,d].getD 3 0)=true:=by
          show oprOk f regs 3 d=true
          rw [hq];exact decide_eq_true (by simp only [Bool.or_eq_false_iff,decide_eq_false_iff_not] at hc;omega)
        exact ⟨⟨3+1,by omega,stepP hP hok⟩,wf,lf⟩
      |false=>
       have g2:strAt (frB f) 3=110:=by rw [frB_at f 3 hlt,hr];rfl
       have hok:oprOk f regs 3 ([a,b,c,d].getD 3 0)=true:=by unfold oprOk;rw [if_neg (by omega),hr,if_neg (by decide)]
       repeat' (first
        |(with_reducible first|refine nx ?_|refine t_seq fun K=>?_|refine t_br (fun hc=>?_) fun hc=>?_|refine t_bx ?_|apply And.intro|intro vr)
        |((with_reducible first|refine ny ?_|refine t_dwh (h:=fun K KL=>?_));intros;simp only [go_sem,kp77,geff,hsz,h0,g1,g2]))
       all_goals try exact nd
       exact ⟨⟨3+1,by omega,stepP hP hok⟩,wf,lf⟩
     ·have g1:decide ((3:Int)≥(f.length:Int))=true:=decide_eq_true (by omega)
      have hq:oprOk f regs 3 d=decide (d=0):=by unfold oprOk;rw [if_pos (by omega)]
      repeat' (first
       |(with_reducible first|refine nx ?_|refine t_seq fun K=>?_|refine t_br (fun hc=>?_) fun hc=>?_|refine t_bx ?_|apply And.intro|intro vr)
       |((with_reducible first|refine ny ?_|refine t_dwh (h:=fun K KL=>?_));intros;simp only [go_sem,kp77,geff,hsz,h0,g1]))
      all_goals try exact nd
      ·skip
       all_goals (refine nl ?_;simp only [go_sem])
       have hno:oprOk f regs 3 d=false:=by rw [hq];exact decide_eq_false (by simpa using hc)
       exact LeA.of_eq (by rw [hRR,hno];simp)
      ·have hok:oprOk f regs 3 ([a,b,c,d].getD 3 0)=true:=by
         show oprOk f regs 3 d=true
         rw [hq];exact decide_eq_true (by simpa using hc)
       exact ⟨⟨3+1,by omega,stepP hP hok⟩,wf,lf⟩
    ·have hR4:R=restOk ⟨k,p,a,b,c,d⟩:=by
       rw [hRR,show oprOk f regs 0 a=true from hP 0 (by omega),show oprOk f regs 1 b=true from hP 1 (by omega),show oprOk f regs 2 c=true from hP 2 (by omega),show oprOk f regs 3 d=true from hP 3 (by omega),hpk]
       rfl
     clear hRR hR hF hV
     have h0:((((4:Nat):Int)):Int)=4:=rfl
     repeat' (first
      |(with_reducible first|refine nx ?_|refine t_seq fun K=>?_|refine t_br (fun hc=>?_) fun hc=>?_|refine t_bx ?_|apply And.intro|intro vr)
      |((with_reducible first|refine ny ?_|refine t_dwh (h:=fun K KL=>?_));intros;simp only [go_sem,kp77,geff,h0]))
     all_goals try exact nd
     all_goals (refine nl ?_;simp only [go_sem])
     all_goals (refine LeA.of_eq ?_;subst hR4;first|(simp_all [restOk,maxC,maxA];done)|(simp_all [restOk,maxC,maxA];first|rfl|exact decAnd))
noncomputable def con77:PCon Try.prog where
  f:=77
  c:=fun
   |[xx,.lit (.int .i64 r)]=>match opOf xx with|some x=>some (True,.lit (.bool (rightS x r)))|_=>none
   |_=>none
  ok:=by
   intro args p r hc hp
   split at hc
   ·split at hc
    ·rename_i hx
     cases hc
     exact PC.weak rright_pc ⟨opOf_le hx,LeA.refl _,trivial⟩
    ·cases hc
   ·cases hc
  fk:=fk77
theorem con77_f:con77.f=77:=rfl
theorem con77_c {xx:AV} {r:Int}:con77.c [xx,.lit (.int .i64 r)]=match opOf xx with|some x=>some (True,.lit (.bool (rightS x r)))|_=>none:=rfl
attribute [go_sem] con77_f con77_c
end Go.Proofs.Ytnlimcijgpaegaa

namespace Go.Proofs.Ytnlimcijgpaegaa
open Go Go.Fw Bm
set_option maxRecDepth 20000
def formsV:AV:= .agg [
  .lit (.string ByteArray.empty),.sl true 1 [],.lit (.bool false),.sl true 1 [],
  .lit (.string ⟨#[99,111,110,115,116]⟩),.sl true 1 [.lit (.int .i64 0),.lit (.int .i64 1)],.lit (.bool true),.lit (.slice none 0 0),
  .lit (.string ⟨#[97,100,100]⟩),.sl true 1 [.lit (.int .i64 0),.lit (.int .i64 0),.lit (.int .i64 0),.lit (.int .i64 2)],.lit (.bool true),.sl true 1 [.lit (.int .i64 1),.lit (.int .i64 2)],
  .lit (.string ⟨#[109,105,110]⟩),.sl true 1 [.lit (.int .i64 0),.lit (.int .i64 0),.lit (.int .i64 0)],.lit (.bool true),.sl true 1 [.lit (.int .i64 1),.lit (.int .i64 2)],
  .lit (.string ⟨#[109,97,120]⟩),.sl true 1 [.lit (.int .i64 0),.lit (.int .i64 0),.lit (.int .i64 0)],.lit (.bool true),.sl true 1 [.lit (.int .i64 1),.lit (.int .i64 2)],
  .lit (.string ⟨#[112,114,105,109]⟩),.sl true 1 [.lit (.int .i64 0)],.lit (.bool true),.lit (.slice none 0 0),
  .lit (.string ⟨#[108,111,97,100]⟩),.sl true 1 [.lit (.int .i64 0),.lit (.int .i64 0)],.lit (.bool true),.sl true 1 [.lit (.int .i64 1)],
  .lit (.string ⟨#[115,116,111,114,101]⟩),.sl true 1 [.lit (.int .i64 0),.lit (.int .i64 0)],.lit (.bool false),.sl true 1 [.lit (.int .i64 0),.lit (.int .i64 1)],
  .lit (.string ⟨#[109,105,115,115]⟩),.sl true 1 [.lit (.int .i64 0)],.lit (.bool true),.lit (.slice none 0 0),
  .lit (.string ⟨#[99,104,101,99,107]⟩),.sl true 1 [.lit (.int .i64 3),.lit (.int .i64 0)],.lit (.bool false),.sl true 1 [.lit (.int .i64 1)],
  .lit (.string ⟨#[102,111,114]⟩),.sl true 1 [.lit (.int .i64 0),.lit (.int .i64 0),.lit (.int .i64 0),.lit (.int .i64 4)],.lit (.bool true),.sl true 1 [.lit (.int .i64 1),.lit (.int .i64 2)],
  .lit (.string ⟨#[105,102]⟩),.sl true 1 [.lit (.int .i64 0)],.lit (.bool false),.sl true 1 [.lit (.int .i64 0)],
  .lit (.string ⟨#[101,108,115,101]⟩),.lit (.slice none 0 0),.lit (.bool false),.lit (.slice none 0 0),
  .lit (.string ⟨#[101,110,100]⟩),.lit (.slice none 0 0),.lit (.bool false),.lit (.slice none 0 0),
  .lit (.string ⟨#[119,114,97,112]⟩),.sl true 1 [.lit (.int .i64 0),.lit (.int .i64 0)],.lit (.bool true),.sl true 1 [.lit (.int .i64 1)],
  .lit (.string ⟨#[115,107,105,112]⟩),.lit (.slice none 0 0),.lit (.bool false),.lit (.slice none 0 0)]
noncomputable def V4:Env:=envJ (P:=Try.prog) jkV zer (fun _=>false) (fun _=>false) [] []
theorem V4_ok:EnvOk Try.prog V4:=envJOk zer_ok
set_option maxHeartbeats 8000000 in
theorem forms_pc:PC Try.prog 121 [] formsV:=by
  refine pcR V4_ok (kp121) Try.func121 [.cell 0 175] (h:=fun KF=>?_)
  unfold V4
  repeat' (first
   |(with_reducible first|refine nx ?_|refine t_seq fun K=>?_|refine t_br (fun hc=>?_) fun hc=>?_|refine t_bx ?_|apply And.intro|intro vr)
   |((with_reducible first|refine ny ?_|refine t_dwh (h:=fun K KL=>?_));intros;simp only [go_sem,kp121,geff]))
  all_goals try exact nd
  all_goals (refine nl ?_;simp only [go_sem])
  exact LeA.refl _
noncomputable def con121:PCon Try.prog where
  f:=121
  c:=fun
   |[]=>some (True,formsV)
   |_=>none
  ok:=by
   intro args p r hc hp
   split at hc
   ·cases hc;exact forms_pc
   ·cases hc
  fk:=fk121
theorem con121_f:con121.f=121:=rfl
theorem con121_c:con121.c []=some (True,formsV):=rfl
attribute [go_sem] con121_f con121_c
def kndL (c:Int):List Int:=
  if c=1 then [0,1]
  else if c=2 then [0,0,0,2]
  else if c=3 then [0,0,0]
  else if c=4 then [0,0,0]
  else if c=5 then [0]
  else if c=6 then [0,0]
  else if c=7 then [0,0]
  else if c=8 then [0]
  else if c=9 then [3,0]
  else if c=10 then [0,0,0,4]
  else if c=11 then [0]
  else if c=12 then []
  else if c=13 then []
  else if c=14 then [0,0]
  else if c=15 then []
  else []
def redL (c:Int):List Int:=
  if c=1 then []
  else if c=2 then [1,2]
  else if c=3 then [1,2]
  else if c=4 then [1,2]
  else if c=5 then []
  else if c=6 then [1]
  else if c=7 then [0,1]
  else if c=8 then []
  else if c=9 then [1]
  else if c=10 then [1,2]
  else if c=11 then [0]
  else if c=12 then []
  else if c=13 then []
  else if c=14 then [1]
  else if c=15 then []
  else []
def namL (c:Int):ByteArray:=
  if c=1 then ⟨#[99,111,110,115,116]⟩
  else if c=2 then ⟨#[97,100,100]⟩
  else if c=3 then ⟨#[109,105,110]⟩
  else if c=4 then ⟨#[109,97,120]⟩
  else if c=5 then ⟨#[112,114,105,109]⟩
  else if c=6 then ⟨#[108,111,97,100]⟩
  else if c=7 then ⟨#[115,116,111,114,101]⟩
  else if c=8 then ⟨#[109,105,115,115]⟩
  else if c=9 then ⟨#[99,104,101,99,107]⟩
  else if c=10 then ⟨#[102,111,114]⟩
  else if c=11 then ⟨#[105,102]⟩
  else if c=12 then ⟨#[101,108,115,101]⟩
  else if c=13 then ⟨#[101,110,100]⟩
  else if c=14 then ⟨#[119,114,97,112]⟩
  else if c=15 then ⟨#[115,107,105,112]⟩
  else ⟨#[]⟩
def kndS (x:Ins):List Int:=if x.code=5 then (match El.typesS x.prim with
  |some r=>0::List.replicate r.ps.length 0
  |none=>[0]) else kndL x.code
def redS (x:Ins):List Int:=if x.code=5 then (match El.typesS x.prim with
  |some r=>(List.range r.ps.length).map fun i:Nat=>(i:Int)+1
  |none=>[]) else redL x.code
def shpOk (x:Ins):Bool:=if x.code<1∨x.code>15 then false else if x.code=5 then (El.typesS x.prim).isSome else true
def shpV (x:Ins):AV:= .tup [.agg [.lit (.string (namL x.code)),.sl false 1 (ints .i64 (kndS x)),.lit (.bool (wrtB x.code)),.sl false 1 (ints .i64 (redS x))],.lit (.bool (shpOk x))]
end Go.Proofs.Ytnlimcijgpaegaa

namespace Go.Proofs.Ytnlimcijgpaegaa
open Go Go.Fw Bm
set_option maxRecDepth 20000
noncomputable def V5:Env:=envJ (P:=Try.prog) jkV zer (fun _=>false) (fun _=>false) [con121] []
theorem V5_ok:EnvOk Try.prog V5:=envJOk zer_ok
attribute [go_sem] formsV
set_option maxHeartbeats 8000000 in
theorem wrt_pc {x:Ins}:PC Try.prog 89 [opV x] (wrtV x):=by
  obtain ⟨k,p,a,b,c,d⟩:=x
  simp only [opV]
  rcases (show k<1∨k>15∨k=1∨k=2∨k=3∨k=4∨k=5∨k=6∨k=7∨k=8∨k=9∨k=10∨k=11∨k=12∨k=13∨k=14∨k=15 by omega) with h|h|rfl|rfl|rfl|rfl|rfl|rfl|rfl|rfl|rfl|rfl|rfl|rfl|rfl|rfl|rfl
  ·have e:wrtV ⟨k,p,a,b,c,d⟩= .tup [.lit (.int .i64 0),.lit (.bool false)]:=by
     have:wrtB k=false:=by simp only [wrtB];simp;omega
     rw [wrtV_mk,this];rfl
   rw [e]
   have g1:decide (k<1)=true:=decide_eq_true h
   have hk:k.toNat=0:=by omega
   refine pcR V5_ok (kp89) Try.func89 [.tmp 2,.tmp 3] (h:=fun KF=>?_)
   unfold V5
   repeat' (first
    |(with_reducible first|refine nx ?_|refine t_seq fun K=>?_|refine t_br (fun hc=>?_) fun hc=>?_|refine t_bx ?_|apply And.intro|intro vr)
    |((with_reducible first|refine ny ?_|refine t_dwh (h:=fun K KL=>?_));intros;simp only [go_sem,kp89,geff,g1,hk,yes]))
   all_goals try exact nd
   all_goals (refine nl ?_;simp only [go_sem])
   exact LeA.refl _
  ·have e:wrtV ⟨k,p,a,b,c,d⟩= .tup [.lit (.int .i64 0),.lit (.bool false)]:=by
     have:wrtB k=false:=by simp only [wrtB];simp;omega
     rw [wrtV_mk,this];rfl
   rw [e]
   have g1:decide (k<1)=false:=decide_eq_false (by omega)
   have g2:decide (k>15)=true:=decide_eq_true h
   have hk: ¬ k.toNat*4≤60:=by omega
   refine pcR V5_ok (kp89) Try.func89 [.tmp 2,.tmp 3] (h:=fun KF=>?_)
   unfold V5
   repeat' (first
    |(with_reducible first|refine nx ?_|refine t_seq fun K=>?_|refine t_br (fun hc=>?_) fun hc=>?_|refine t_bx ?_|apply And.intro|intro vr)
    |((with_reducible first|refine ny ?_|refine t_dwh (h:=fun K KL=>?_));intros;simp only [go_sem,kp89,geff,g1,g2,hk,yes]))
   all_goals try exact nd
   all_goals (refine nl ?_;simp only [go_sem])
   exact LeA.refl _
  all_goals
    refine pcR V5_ok (kp89) Try.func89 [.tmp 2,.tmp 3] (h:=fun KF=>?_)
    unfold V5
    repeat' (first
     |(with_reducible first|refine nx ?_|refine t_seq fun K=>?_|refine t_br (fun hc=>?_) fun hc=>?_|refine t_bx ?_|apply And.intro|intro vr)
     |((with_reducible first|refine ny ?_|refine t_dwh (h:=fun K KL=>?_));intros;simp only [go_sem,kp89,geff,yes]))
    all_goals try exact nd
    all_goals (refine nl ?_;simp only [go_sem])
    exact LeA.refl _
noncomputable def con89:PCon Try.prog where
  f:=89
  c:=fun
   |[xx]=>match opOf xx with|some x=>some (True,wrtV x)|_=>none
   |_=>none
  ok:=by
   intro args p r hc hp
   split at hc
   ·split at hc
    ·rename_i hx
     cases hc
     exact PC.weak wrt_pc ⟨opOf_le hx,trivial⟩
    ·cases hc
   ·cases hc
  fk:=fk89
theorem con89_f:con89.f=89:=rfl
theorem con89_c {xx:AV}:con89.c [xx]=match opOf xx with|some x=>some (True,wrtV x)|_=>none:=rfl
attribute [go_sem] con89_f con89_c
theorem shpV_of {k a b c d:Int} {p:ByteArray} (h:k≠5):shpV ⟨k,p,a,b,c,d⟩= .tup [.agg [.lit (.string (namL k)),.sl false 1 (ints .i64 (kndL k)),.lit (.bool (wrtB k)),.sl false 1 (ints .i64 (redL k))],.lit (.bool (if k<1∨k>15 then false else true))]:=by
  simp only [shpV,kndS,redS,shpOk,if_neg h]
end Go.Proofs.Ytnlimcijgpaegaa
