import Derived.Test.YtcpjahmajkhchaaGreatRows
import Derived.Test.YtcpjahmajkhchaaGreatFwB

set_option linter.all false

namespace Go.Proofs.YtcpjahmajkhchaaGreat
open Go Go.Fw
theorem u2:Tryz.prog.underlying 2=some (.int .i64):=by kernel_rfl
theorem sz2:szT Tryz.prog 2=1:=by kernel_rfl
theorem by2:byT Tryz.prog 2=8:=by kernel_rfl
theorem ag2:aggT Tryz.prog 2=some false:=by kernel_rfl
theorem so2:structOk Tryz.prog 2=false:=by kernel_rfl
theorem iz2:(zeroT Tryz.prog 2).isSome=true:=by kernel_rfl
theorem zk2:zOk Tryz.prog 2=true:=by kernel_rfl
theorem iu2:(Tryz.prog.underlying 2).isSome=true:=by kernel_rfl
theorem u3:Tryz.prog.underlying 3=some (.int .i64):=by kernel_rfl
theorem sz3:szT Tryz.prog 3=1:=by kernel_rfl
theorem by3:byT Tryz.prog 3=8:=by kernel_rfl
theorem ag3:aggT Tryz.prog 3=some false:=by kernel_rfl
theorem so3:structOk Tryz.prog 3=false:=by kernel_rfl
theorem iz3:(zeroT Tryz.prog 3).isSome=true:=by kernel_rfl
theorem zk3:zOk Tryz.prog 3=true:=by kernel_rfl
theorem iu3:(Tryz.prog.underlying 3).isSome=true:=by kernel_rfl
theorem u4:Tryz.prog.underlying 4=some .bool:=by kernel_rfl
theorem sz4:szT Tryz.prog 4=1:=by kernel_rfl
theorem by4:byT Tryz.prog 4=1:=by kernel_rfl
theorem ag4:aggT Tryz.prog 4=some false:=by kernel_rfl
theorem so4:structOk Tryz.prog 4=false:=by kernel_rfl
theorem iz4:(zeroT Tryz.prog 4).isSome=true:=by kernel_rfl
theorem zk4:zOk Tryz.prog 4=true:=by kernel_rfl
theorem iu4:(Tryz.prog.underlying 4).isSome=true:=by kernel_rfl
theorem u5:Tryz.prog.underlying 5=some (.int .u8):=by kernel_rfl
theorem sz5:szT Tryz.prog 5=1:=by kernel_rfl
theorem by5:byT Tryz.prog 5=1:=by kernel_rfl
theorem ag5:aggT Tryz.prog 5=some false:=by kernel_rfl
theorem so5:structOk Tryz.prog 5=false:=by kernel_rfl
theorem iz5:(zeroT Tryz.prog 5).isSome=true:=by kernel_rfl
theorem zk5:zOk Tryz.prog 5=true:=by kernel_rfl
theorem iu5:(Tryz.prog.underlying 5).isSome=true:=by kernel_rfl
theorem u6:Tryz.prog.underlying 6=some (.int .u8):=by kernel_rfl
theorem sz6:szT Tryz.prog 6=1:=by kernel_rfl
theorem by6:byT Tryz.prog 6=1:=by kernel_rfl
theorem ag6:aggT Tryz.prog 6=some false:=by kernel_rfl
theorem so6:structOk Tryz.prog 6=false:=by kernel_rfl
theorem iz6:(zeroT Tryz.prog 6).isSome=true:=by kernel_rfl
theorem zk6:zOk Tryz.prog 6=true:=by kernel_rfl
theorem iu6:(Tryz.prog.underlying 6).isSome=true:=by kernel_rfl
theorem sz7:szT Tryz.prog 7=4:=by kernel_rfl
theorem by7:byT Tryz.prog 7=24:=by kernel_rfl
theorem ag7:aggT Tryz.prog 7=some true:=by kernel_rfl
theorem so7:structOk Tryz.prog 7=true:=by kernel_rfl
theorem fl7_0:fieldT Tryz.prog 7 0=some (2,0):=by kernel_rfl
theorem fl7_1:fieldT Tryz.prog 7 1=some (3,1):=by kernel_rfl
theorem fl7_2:fieldT Tryz.prog 7 2=some (4,2):=by kernel_rfl
theorem fl7_3:fieldT Tryz.prog 7 3=some (6,3):=by kernel_rfl
theorem se7:seqK Tryz.prog 7=some [0,0,2,0]:=by kernel_rfl
theorem iz7:(zeroT Tryz.prog 7).isSome=true:=by kernel_rfl
theorem zk7:zOk Tryz.prog 7=true:=by kernel_rfl
theorem iu7:(Tryz.prog.underlying 7).isSome=true:=by kernel_rfl
theorem sz8:szT Tryz.prog 8=4:=by kernel_rfl
theorem by8:byT Tryz.prog 8=24:=by kernel_rfl
theorem ag8:aggT Tryz.prog 8=some true:=by kernel_rfl
theorem so8:structOk Tryz.prog 8=true:=by kernel_rfl
theorem fl8_0:fieldT Tryz.prog 8 0=some (2,0):=by kernel_rfl
theorem fl8_1:fieldT Tryz.prog 8 1=some (3,1):=by kernel_rfl
theorem fl8_2:fieldT Tryz.prog 8 2=some (4,2):=by kernel_rfl
theorem fl8_3:fieldT Tryz.prog 8 3=some (6,3):=by kernel_rfl
theorem se8:seqK Tryz.prog 8=some [0,0,2,0]:=by kernel_rfl
theorem iz8:(zeroT Tryz.prog 8).isSome=true:=by kernel_rfl
theorem zk8:zOk Tryz.prog 8=true:=by kernel_rfl
theorem iu8:(Tryz.prog.underlying 8).isSome=true:=by kernel_rfl
theorem u9:Tryz.prog.underlying 9=some .string:=by kernel_rfl
theorem sz9:szT Tryz.prog 9=1:=by kernel_rfl
theorem by9:byT Tryz.prog 9=16:=by kernel_rfl
theorem ag9:aggT Tryz.prog 9=some false:=by kernel_rfl
theorem so9:structOk Tryz.prog 9=false:=by kernel_rfl
theorem iz9:(zeroT Tryz.prog 9).isSome=true:=by kernel_rfl
theorem zk9:zOk Tryz.prog 9=true:=by kernel_rfl
theorem iu9:(Tryz.prog.underlying 9).isSome=true:=by kernel_rfl
theorem u10:Tryz.prog.underlying 10=some .string:=by kernel_rfl
theorem sz10:szT Tryz.prog 10=1:=by kernel_rfl
theorem by10:byT Tryz.prog 10=16:=by kernel_rfl
theorem ag10:aggT Tryz.prog 10=some false:=by kernel_rfl
theorem so10:structOk Tryz.prog 10=false:=by kernel_rfl
theorem iz10:(zeroT Tryz.prog 10).isSome=true:=by kernel_rfl
theorem zk10:zOk Tryz.prog 10=true:=by kernel_rfl
theorem iu10:(Tryz.prog.underlying 10).isSome=true:=by kernel_rfl
theorem u11:Tryz.prog.underlying 11=some .string:=by kernel_rfl
theorem sz11:szT Tryz.prog 11=1:=by kernel_rfl
theorem by11:byT Tryz.prog 11=16:=by kernel_rfl
theorem ag11:aggT Tryz.prog 11=some false:=by kernel_rfl
theorem so11:structOk Tryz.prog 11=false:=by kernel_rfl
theorem iz11:(zeroT Tryz.prog 11).isSome=true:=by kernel_rfl
theorem zk11:zOk Tryz.prog 11=true:=by kernel_rfl
theorem iu11:(Tryz.prog.underlying 11).isSome=true:=by kernel_rfl
theorem u12:Tryz.prog.underlying 12=some (.int .u64):=by kernel_rfl
theorem sz12:szT Tryz.prog 12=1:=by kernel_rfl
theorem by12:byT Tryz.prog 12=8:=by kernel_rfl
theorem ag12:aggT Tryz.prog 12=some false:=by kernel_rfl
theorem so12:structOk Tryz.prog 12=false:=by kernel_rfl
theorem iz12:(zeroT Tryz.prog 12).isSome=true:=by kernel_rfl
theorem zk12:zOk Tryz.prog 12=true:=by kernel_rfl
theorem iu12:(Tryz.prog.underlying 12).isSome=true:=by kernel_rfl
theorem sz13:szT Tryz.prog 13=2:=by kernel_rfl
theorem by13:byT Tryz.prog 13=24:=by kernel_rfl
theorem ag13:aggT Tryz.prog 13=some true:=by kernel_rfl
theorem so13:structOk Tryz.prog 13=true:=by kernel_rfl
theorem fl13_0:fieldT Tryz.prog 13 0=some (9,0):=by kernel_rfl
theorem fl13_1:fieldT Tryz.prog 13 1=some (12,1):=by kernel_rfl
theorem iz13:(zeroT Tryz.prog 13).isSome=true:=by kernel_rfl
theorem zk13:zOk Tryz.prog 13=true:=by kernel_rfl
theorem iu13:(Tryz.prog.underlying 13).isSome=true:=by kernel_rfl
theorem sz14:szT Tryz.prog 14=2:=by kernel_rfl
theorem by14:byT Tryz.prog 14=24:=by kernel_rfl
theorem ag14:aggT Tryz.prog 14=some true:=by kernel_rfl
theorem so14:structOk Tryz.prog 14=true:=by kernel_rfl
theorem fl14_0:fieldT Tryz.prog 14 0=some (9,0):=by kernel_rfl
theorem fl14_1:fieldT Tryz.prog 14 1=some (12,1):=by kernel_rfl
theorem iz14:(zeroT Tryz.prog 14).isSome=true:=by kernel_rfl
theorem zk14:zOk Tryz.prog 14=true:=by kernel_rfl
theorem iu14:(Tryz.prog.underlying 14).isSome=true:=by kernel_rfl
theorem u15:Tryz.prog.underlying 15=some (.pointer 161):=by kernel_rfl
theorem sz15:szT Tryz.prog 15=1:=by kernel_rfl
theorem by15:byT Tryz.prog 15=8:=by kernel_rfl
theorem ag15:aggT Tryz.prog 15=some false:=by kernel_rfl
theorem so15:structOk Tryz.prog 15=false:=by kernel_rfl
theorem iz15:(zeroT Tryz.prog 15).isSome=true:=by kernel_rfl
theorem zk15:zOk Tryz.prog 15=true:=by kernel_rfl
theorem iu15:(Tryz.prog.underlying 15).isSome=true:=by kernel_rfl
theorem u16:Tryz.prog.underlying 16=some (.pointer 164):=by kernel_rfl
theorem sz16:szT Tryz.prog 16=1:=by kernel_rfl
theorem by16:byT Tryz.prog 16=8:=by kernel_rfl
theorem ag16:aggT Tryz.prog 16=some false:=by kernel_rfl
theorem so16:structOk Tryz.prog 16=false:=by kernel_rfl
theorem iz16:(zeroT Tryz.prog 16).isSome=true:=by kernel_rfl
theorem zk16:zOk Tryz.prog 16=true:=by kernel_rfl
theorem iu16:(Tryz.prog.underlying 16).isSome=true:=by kernel_rfl
theorem u17:Tryz.prog.underlying 17=some (.pointer 174):=by kernel_rfl
theorem sz17:szT Tryz.prog 17=1:=by kernel_rfl
theorem by17:byT Tryz.prog 17=8:=by kernel_rfl
theorem ag17:aggT Tryz.prog 17=some false:=by kernel_rfl
theorem so17:structOk Tryz.prog 17=false:=by kernel_rfl
theorem iz17:(zeroT Tryz.prog 17).isSome=true:=by kernel_rfl
theorem zk17:zOk Tryz.prog 17=true:=by kernel_rfl
theorem iu17:(Tryz.prog.underlying 17).isSome=true:=by kernel_rfl
theorem sz18:szT Tryz.prog 18=1:=by kernel_rfl
theorem by18:byT Tryz.prog 18=8:=by kernel_rfl
theorem ag18:aggT Tryz.prog 18=some true:=by kernel_rfl
theorem so18:structOk Tryz.prog 18=true:=by kernel_rfl
theorem fl18_0:fieldT Tryz.prog 18 0=some (17,0):=by kernel_rfl
theorem iz18:(zeroT Tryz.prog 18).isSome=true:=by kernel_rfl
theorem zk18:zOk Tryz.prog 18=true:=by kernel_rfl
theorem iu18:(Tryz.prog.underlying 18).isSome=true:=by kernel_rfl
theorem sz19:szT Tryz.prog 19=1:=by kernel_rfl
theorem by19:byT Tryz.prog 19=8:=by kernel_rfl
theorem ag19:aggT Tryz.prog 19=some true:=by kernel_rfl
theorem so19:structOk Tryz.prog 19=true:=by kernel_rfl
theorem fl19_0:fieldT Tryz.prog 19 0=some (17,0):=by kernel_rfl
theorem iz19:(zeroT Tryz.prog 19).isSome=true:=by kernel_rfl
theorem zk19:zOk Tryz.prog 19=true:=by kernel_rfl
theorem iu19:(Tryz.prog.underlying 19).isSome=true:=by kernel_rfl
theorem u21:Tryz.prog.underlying 21=some (.int .i32):=by kernel_rfl
theorem sz21:szT Tryz.prog 21=1:=by kernel_rfl
theorem by21:byT Tryz.prog 21=4:=by kernel_rfl
theorem ag21:aggT Tryz.prog 21=some false:=by kernel_rfl
theorem so21:structOk Tryz.prog 21=false:=by kernel_rfl
theorem iz21:(zeroT Tryz.prog 21).isSome=true:=by kernel_rfl
theorem zk21:zOk Tryz.prog 21=true:=by kernel_rfl
theorem iu21:(Tryz.prog.underlying 21).isSome=true:=by kernel_rfl
theorem u22:Tryz.prog.underlying 22=some (.slice 78):=by kernel_rfl
theorem sz22:szT Tryz.prog 22=1:=by kernel_rfl
theorem by22:byT Tryz.prog 22=24:=by kernel_rfl
theorem ag22:aggT Tryz.prog 22=some false:=by kernel_rfl
theorem so22:structOk Tryz.prog 22=false:=by kernel_rfl
theorem iz22:(zeroT Tryz.prog 22).isSome=true:=by kernel_rfl
theorem zk22:zOk Tryz.prog 22=true:=by kernel_rfl
theorem iu22:(Tryz.prog.underlying 22).isSome=true:=by kernel_rfl
theorem ap22:appT Tryz.prog #[22,22]=some 78:=by kernel_rfl
theorem u23:Tryz.prog.underlying 23=some (.slice 3):=by kernel_rfl
theorem sz23:szT Tryz.prog 23=1:=by kernel_rfl
theorem by23:byT Tryz.prog 23=24:=by kernel_rfl
theorem ag23:aggT Tryz.prog 23=some false:=by kernel_rfl
theorem so23:structOk Tryz.prog 23=false:=by kernel_rfl
theorem iz23:(zeroT Tryz.prog 23).isSome=true:=by kernel_rfl
theorem zk23:zOk Tryz.prog 23=true:=by kernel_rfl
theorem iu23:(Tryz.prog.underlying 23).isSome=true:=by kernel_rfl
theorem ap23:appT Tryz.prog #[23,23]=some 3:=by kernel_rfl
theorem sz30:szT Tryz.prog 30=3:=by kernel_rfl
theorem by30:byT Tryz.prog 30=64:=by kernel_rfl
theorem ag30:aggT Tryz.prog 30=some true:=by kernel_rfl
theorem so30:structOk Tryz.prog 30=true:=by kernel_rfl
theorem fl30_0:fieldT Tryz.prog 30 0=some (9,0):=by kernel_rfl
theorem fl30_1:fieldT Tryz.prog 30 1=some (23,1):=by kernel_rfl
theorem fl30_2:fieldT Tryz.prog 30 2=some (23,2):=by kernel_rfl
theorem iz30:(zeroT Tryz.prog 30).isSome=true:=by kernel_rfl
theorem zk30:zOk Tryz.prog 30=true:=by kernel_rfl
theorem iu30:(Tryz.prog.underlying 30).isSome=true:=by kernel_rfl
theorem sz31:szT Tryz.prog 31=3:=by kernel_rfl
theorem by31:byT Tryz.prog 31=64:=by kernel_rfl
theorem ag31:aggT Tryz.prog 31=some true:=by kernel_rfl
theorem so31:structOk Tryz.prog 31=true:=by kernel_rfl
theorem fl31_0:fieldT Tryz.prog 31 0=some (9,0):=by kernel_rfl
theorem fl31_1:fieldT Tryz.prog 31 1=some (23,1):=by kernel_rfl
theorem fl31_2:fieldT Tryz.prog 31 2=some (23,2):=by kernel_rfl
theorem iz31:(zeroT Tryz.prog 31).isSome=true:=by kernel_rfl
theorem zk31:zOk Tryz.prog 31=true:=by kernel_rfl
theorem iu31:(Tryz.prog.underlying 31).isSome=true:=by kernel_rfl
theorem u33:Tryz.prog.underlying 33=some (.int .i64):=by kernel_rfl
theorem sz33:szT Tryz.prog 33=1:=by kernel_rfl
theorem by33:byT Tryz.prog 33=8:=by kernel_rfl
theorem ag33:aggT Tryz.prog 33=some false:=by kernel_rfl
theorem so33:structOk Tryz.prog 33=false:=by kernel_rfl
theorem iz33:(zeroT Tryz.prog 33).isSome=true:=by kernel_rfl
theorem zk33:zOk Tryz.prog 33=true:=by kernel_rfl
theorem iu33:(Tryz.prog.underlying 33).isSome=true:=by kernel_rfl
theorem u39:Tryz.prog.underlying 39=some (.array 2 23):=by kernel_rfl
theorem sz39:szT Tryz.prog 39=2:=by kernel_rfl
theorem by39:byT Tryz.prog 39=48:=by kernel_rfl
theorem ag39:aggT Tryz.prog 39=some true:=by kernel_rfl
theorem so39:structOk Tryz.prog 39=false:=by kernel_rfl
theorem iz39:(zeroT Tryz.prog 39).isSome=true:=by kernel_rfl
theorem zk39:zOk Tryz.prog 39=true:=by kernel_rfl
theorem iu39:(Tryz.prog.underlying 39).isSome=true:=by kernel_rfl
theorem u42:Tryz.prog.underlying 42=some (.slice 9):=by kernel_rfl
theorem sz42:szT Tryz.prog 42=1:=by kernel_rfl
theorem by42:byT Tryz.prog 42=24:=by kernel_rfl
theorem ag42:aggT Tryz.prog 42=some false:=by kernel_rfl
theorem so42:structOk Tryz.prog 42=false:=by kernel_rfl
theorem iz42:(zeroT Tryz.prog 42).isSome=true:=by kernel_rfl
theorem zk42:zOk Tryz.prog 42=true:=by kernel_rfl
theorem iu42:(Tryz.prog.underlying 42).isSome=true:=by kernel_rfl
theorem ap42:appT Tryz.prog #[42,42]=some 9:=by kernel_rfl
theorem u49:Tryz.prog.underlying 49=some (.slice 177):=by kernel_rfl
theorem sz49:szT Tryz.prog 49=1:=by kernel_rfl
theorem by49:byT Tryz.prog 49=24:=by kernel_rfl
theorem ag49:aggT Tryz.prog 49=some false:=by kernel_rfl
theorem so49:structOk Tryz.prog 49=false:=by kernel_rfl
theorem iz49:(zeroT Tryz.prog 49).isSome=true:=by kernel_rfl
theorem zk49:zOk Tryz.prog 49=true:=by kernel_rfl
theorem iu49:(Tryz.prog.underlying 49).isSome=true:=by kernel_rfl
theorem ap49:appT Tryz.prog #[49,49]=some 177:=by kernel_rfl
theorem u50:Tryz.prog.underlying 50=some (.slice 23):=by kernel_rfl
theorem sz50:szT Tryz.prog 50=1:=by kernel_rfl
theorem by50:byT Tryz.prog 50=24:=by kernel_rfl
theorem ag50:aggT Tryz.prog 50=some false:=by kernel_rfl
theorem so50:structOk Tryz.prog 50=false:=by kernel_rfl
theorem iz50:(zeroT Tryz.prog 50).isSome=true:=by kernel_rfl
theorem zk50:zOk Tryz.prog 50=true:=by kernel_rfl
theorem iu50:(Tryz.prog.underlying 50).isSome=true:=by kernel_rfl
theorem ap50:appT Tryz.prog #[50,50]=some 23:=by kernel_rfl
theorem sz51:szT Tryz.prog 51=2:=by kernel_rfl
theorem by51:byT Tryz.prog 51=40:=by kernel_rfl
theorem ag51:aggT Tryz.prog 51=some true:=by kernel_rfl
theorem so51:structOk Tryz.prog 51=true:=by kernel_rfl
theorem fl51_0:fieldT Tryz.prog 51 0=some (9,0):=by kernel_rfl
theorem fl51_1:fieldT Tryz.prog 51 1=some (49,1):=by kernel_rfl
theorem iz51:(zeroT Tryz.prog 51).isSome=true:=by kernel_rfl
theorem zk51:zOk Tryz.prog 51=true:=by kernel_rfl
theorem iu51:(Tryz.prog.underlying 51).isSome=true:=by kernel_rfl
theorem sz52:szT Tryz.prog 52=2:=by kernel_rfl
theorem by52:byT Tryz.prog 52=40:=by kernel_rfl
theorem ag52:aggT Tryz.prog 52=some true:=by kernel_rfl
theorem so52:structOk Tryz.prog 52=true:=by kernel_rfl
theorem fl52_0:fieldT Tryz.prog 52 0=some (9,0):=by kernel_rfl
theorem fl52_1:fieldT Tryz.prog 52 1=some (49,1):=by kernel_rfl
theorem iz52:(zeroT Tryz.prog 52).isSome=true:=by kernel_rfl
theorem zk52:zOk Tryz.prog 52=true:=by kernel_rfl
theorem iu52:(Tryz.prog.underlying 52).isSome=true:=by kernel_rfl
theorem sz53:szT Tryz.prog 53=3:=by kernel_rfl
theorem by53:byT Tryz.prog 53=56:=by kernel_rfl
theorem ag53:aggT Tryz.prog 53=some true:=by kernel_rfl
theorem so53:structOk Tryz.prog 53=true:=by kernel_rfl
theorem fl53_0:fieldT Tryz.prog 53 0=some (9,0):=by kernel_rfl
theorem fl53_1:fieldT Tryz.prog 53 1=some (52,1):=by kernel_rfl
theorem iz53:(zeroT Tryz.prog 53).isSome=true:=by kernel_rfl
theorem zk53:zOk Tryz.prog 53=true:=by kernel_rfl
theorem iu53:(Tryz.prog.underlying 53).isSome=true:=by kernel_rfl
theorem sz54:szT Tryz.prog 54=3:=by kernel_rfl
theorem by54:byT Tryz.prog 54=56:=by kernel_rfl
theorem ag54:aggT Tryz.prog 54=some true:=by kernel_rfl
theorem so54:structOk Tryz.prog 54=true:=by kernel_rfl
theorem fl54_0:fieldT Tryz.prog 54 0=some (9,0):=by kernel_rfl
theorem fl54_1:fieldT Tryz.prog 54 1=some (52,1):=by kernel_rfl
theorem iz54:(zeroT Tryz.prog 54).isSome=true:=by kernel_rfl
theorem zk54:zOk Tryz.prog 54=true:=by kernel_rfl
theorem iu54:(Tryz.prog.underlying 54).isSome=true:=by kernel_rfl
theorem sz55:szT Tryz.prog 55=14:=by kernel_rfl
theorem by55:byT Tryz.prog 55=272:=by kernel_rfl
theorem ag55:aggT Tryz.prog 55=some true:=by kernel_rfl
theorem so55:structOk Tryz.prog 55=true:=by kernel_rfl
theorem fl55_0:fieldT Tryz.prog 55 0=some (9,0):=by kernel_rfl
theorem fl55_1:fieldT Tryz.prog 55 1=some (23,1):=by kernel_rfl
theorem fl55_2:fieldT Tryz.prog 55 2=some (49,2):=by kernel_rfl
theorem fl55_3:fieldT Tryz.prog 55 3=some (50,3):=by kernel_rfl
theorem fl55_4:fieldT Tryz.prog 55 4=some (49,4):=by kernel_rfl
theorem fl55_5:fieldT Tryz.prog 55 5=some (3,5):=by kernel_rfl
theorem fl55_6:fieldT Tryz.prog 55 6=some (31,6):=by kernel_rfl
theorem fl55_7:fieldT Tryz.prog 55 7=some (22,9):=by kernel_rfl
theorem fl55_8:fieldT Tryz.prog 55 8=some (3,10):=by kernel_rfl
theorem fl55_9:fieldT Tryz.prog 55 9=some (54,11):=by kernel_rfl
theorem iz55:(zeroT Tryz.prog 55).isSome=true:=by kernel_rfl
theorem zk55:zOk Tryz.prog 55=true:=by kernel_rfl
theorem iu55:(Tryz.prog.underlying 55).isSome=true:=by kernel_rfl
theorem sz56:szT Tryz.prog 56=14:=by kernel_rfl
theorem by56:byT Tryz.prog 56=272:=by kernel_rfl
theorem ag56:aggT Tryz.prog 56=some true:=by kernel_rfl
theorem so56:structOk Tryz.prog 56=true:=by kernel_rfl
theorem fl56_0:fieldT Tryz.prog 56 0=some (9,0):=by kernel_rfl
theorem fl56_1:fieldT Tryz.prog 56 1=some (23,1):=by kernel_rfl
theorem fl56_2:fieldT Tryz.prog 56 2=some (49,2):=by kernel_rfl
theorem fl56_3:fieldT Tryz.prog 56 3=some (50,3):=by kernel_rfl
theorem fl56_4:fieldT Tryz.prog 56 4=some (49,4):=by kernel_rfl
theorem fl56_5:fieldT Tryz.prog 56 5=some (3,5):=by kernel_rfl
theorem fl56_6:fieldT Tryz.prog 56 6=some (31,6):=by kernel_rfl
theorem fl56_7:fieldT Tryz.prog 56 7=some (22,9):=by kernel_rfl
theorem fl56_8:fieldT Tryz.prog 56 8=some (3,10):=by kernel_rfl
theorem fl56_9:fieldT Tryz.prog 56 9=some (54,11):=by kernel_rfl
theorem iz56:(zeroT Tryz.prog 56).isSome=true:=by kernel_rfl
theorem zk56:zOk Tryz.prog 56=true:=by kernel_rfl
theorem iu56:(Tryz.prog.underlying 56).isSome=true:=by kernel_rfl
theorem sz57:szT Tryz.prog 57=16:=by kernel_rfl
theorem by57:byT Tryz.prog 57=320:=by kernel_rfl
theorem ag57:aggT Tryz.prog 57=some true:=by kernel_rfl
theorem so57:structOk Tryz.prog 57=true:=by kernel_rfl
theorem fl57_0:fieldT Tryz.prog 57 0=some (56,0):=by kernel_rfl
theorem fl57_1:fieldT Tryz.prog 57 1=some (23,14):=by kernel_rfl
theorem fl57_2:fieldT Tryz.prog 57 2=some (23,15):=by kernel_rfl
theorem iz57:(zeroT Tryz.prog 57).isSome=true:=by kernel_rfl
theorem zk57:zOk Tryz.prog 57=true:=by kernel_rfl
theorem iu57:(Tryz.prog.underlying 57).isSome=true:=by kernel_rfl
theorem sz58:szT Tryz.prog 58=16:=by kernel_rfl
theorem by58:byT Tryz.prog 58=320:=by kernel_rfl
theorem ag58:aggT Tryz.prog 58=some true:=by kernel_rfl
theorem so58:structOk Tryz.prog 58=true:=by kernel_rfl
theorem fl58_0:fieldT Tryz.prog 58 0=some (56,0):=by kernel_rfl
theorem fl58_1:fieldT Tryz.prog 58 1=some (23,14):=by kernel_rfl
theorem fl58_2:fieldT Tryz.prog 58 2=some (23,15):=by kernel_rfl
theorem iz58:(zeroT Tryz.prog 58).isSome=true:=by kernel_rfl
theorem zk58:zOk Tryz.prog 58=true:=by kernel_rfl
theorem iu58:(Tryz.prog.underlying 58).isSome=true:=by kernel_rfl
theorem u59:Tryz.prog.underlying 59=some (.slice 31):=by kernel_rfl
theorem sz59:szT Tryz.prog 59=1:=by kernel_rfl
theorem by59:byT Tryz.prog 59=24:=by kernel_rfl
theorem ag59:aggT Tryz.prog 59=some false:=by kernel_rfl
theorem so59:structOk Tryz.prog 59=false:=by kernel_rfl
theorem iz59:(zeroT Tryz.prog 59).isSome=true:=by kernel_rfl
theorem zk59:zOk Tryz.prog 59=true:=by kernel_rfl
theorem iu59:(Tryz.prog.underlying 59).isSome=true:=by kernel_rfl
theorem ap59:appT Tryz.prog #[59,59]=some 31:=by kernel_rfl
theorem u69:Tryz.prog.underlying 69=some (.array 3 3):=by kernel_rfl
theorem sz69:szT Tryz.prog 69=3:=by kernel_rfl
theorem by69:byT Tryz.prog 69=24:=by kernel_rfl
theorem ag69:aggT Tryz.prog 69=some true:=by kernel_rfl
theorem so69:structOk Tryz.prog 69=false:=by kernel_rfl
theorem iz69:(zeroT Tryz.prog 69).isSome=true:=by kernel_rfl
theorem zk69:zOk Tryz.prog 69=true:=by kernel_rfl
theorem iu69:(Tryz.prog.underlying 69).isSome=true:=by kernel_rfl
theorem sz70:szT Tryz.prog 70=4:=by kernel_rfl
theorem by70:byT Tryz.prog 70=48:=by kernel_rfl
theorem ag70:aggT Tryz.prog 70=some true:=by kernel_rfl
theorem so70:structOk Tryz.prog 70=true:=by kernel_rfl
theorem fl70_0:fieldT Tryz.prog 70 0=some (42,0):=by kernel_rfl
theorem fl70_1:fieldT Tryz.prog 70 1=some (69,1):=by kernel_rfl
theorem iz70:(zeroT Tryz.prog 70).isSome=true:=by kernel_rfl
theorem zk70:zOk Tryz.prog 70=true:=by kernel_rfl
theorem iu70:(Tryz.prog.underlying 70).isSome=true:=by kernel_rfl
theorem sz71:szT Tryz.prog 71=4:=by kernel_rfl
theorem by71:byT Tryz.prog 71=48:=by kernel_rfl
theorem ag71:aggT Tryz.prog 71=some true:=by kernel_rfl
theorem so71:structOk Tryz.prog 71=true:=by kernel_rfl
theorem fl71_0:fieldT Tryz.prog 71 0=some (42,0):=by kernel_rfl
theorem fl71_1:fieldT Tryz.prog 71 1=some (69,1):=by kernel_rfl
theorem iz71:(zeroT Tryz.prog 71).isSome=true:=by kernel_rfl
theorem zk71:zOk Tryz.prog 71=true:=by kernel_rfl
theorem iu71:(Tryz.prog.underlying 71).isSome=true:=by kernel_rfl
theorem sz77:szT Tryz.prog 77=3:=by kernel_rfl
theorem by77:byT Tryz.prog 77=48:=by kernel_rfl
theorem ag77:aggT Tryz.prog 77=some true:=by kernel_rfl
theorem so77:structOk Tryz.prog 77=true:=by kernel_rfl
theorem fl77_0:fieldT Tryz.prog 77 0=some (9,0):=by kernel_rfl
theorem fl77_1:fieldT Tryz.prog 77 1=some (3,1):=by kernel_rfl
theorem fl77_2:fieldT Tryz.prog 77 2=some (23,2):=by kernel_rfl
theorem iz77:(zeroT Tryz.prog 77).isSome=true:=by kernel_rfl
theorem zk77:zOk Tryz.prog 77=true:=by kernel_rfl
theorem iu77:(Tryz.prog.underlying 77).isSome=true:=by kernel_rfl
theorem sz78:szT Tryz.prog 78=3:=by kernel_rfl
theorem by78:byT Tryz.prog 78=48:=by kernel_rfl
theorem ag78:aggT Tryz.prog 78=some true:=by kernel_rfl
theorem so78:structOk Tryz.prog 78=true:=by kernel_rfl
theorem fl78_0:fieldT Tryz.prog 78 0=some (9,0):=by kernel_rfl
theorem fl78_1:fieldT Tryz.prog 78 1=some (3,1):=by kernel_rfl
theorem fl78_2:fieldT Tryz.prog 78 2=some (23,2):=by kernel_rfl
theorem iz78:(zeroT Tryz.prog 78).isSome=true:=by kernel_rfl
theorem zk78:zOk Tryz.prog 78=true:=by kernel_rfl
theorem iu78:(Tryz.prog.underlying 78).isSome=true:=by kernel_rfl
theorem sz91:szT Tryz.prog 91=3:=by kernel_rfl
theorem by91:byT Tryz.prog 91=24:=by kernel_rfl
theorem ag91:aggT Tryz.prog 91=some true:=by kernel_rfl
theorem so91:structOk Tryz.prog 91=true:=by kernel_rfl
theorem fl91_0:fieldT Tryz.prog 91 0=some (89,0):=by kernel_rfl
theorem fl91_1:fieldT Tryz.prog 91 1=some (64,1):=by kernel_rfl
theorem fl91_2:fieldT Tryz.prog 91 2=some (90,2):=by kernel_rfl
theorem iz91:(zeroT Tryz.prog 91).isSome=true:=by kernel_rfl
theorem zk91:zOk Tryz.prog 91=true:=by kernel_rfl
theorem iu91:(Tryz.prog.underlying 91).isSome=true:=by kernel_rfl
theorem sz92:szT Tryz.prog 92=3:=by kernel_rfl
theorem by92:byT Tryz.prog 92=24:=by kernel_rfl
theorem ag92:aggT Tryz.prog 92=some true:=by kernel_rfl
theorem so92:structOk Tryz.prog 92=true:=by kernel_rfl
theorem fl92_0:fieldT Tryz.prog 92 0=some (89,0):=by kernel_rfl
theorem fl92_1:fieldT Tryz.prog 92 1=some (64,1):=by kernel_rfl
theorem fl92_2:fieldT Tryz.prog 92 2=some (90,2):=by kernel_rfl
theorem iz92:(zeroT Tryz.prog 92).isSome=true:=by kernel_rfl
theorem zk92:zOk Tryz.prog 92=true:=by kernel_rfl
theorem iu92:(Tryz.prog.underlying 92).isSome=true:=by kernel_rfl
theorem u111:Tryz.prog.underlying 111=some (.slice 92):=by kernel_rfl
theorem sz111:szT Tryz.prog 111=1:=by kernel_rfl
theorem by111:byT Tryz.prog 111=24:=by kernel_rfl
theorem ag111:aggT Tryz.prog 111=some false:=by kernel_rfl
theorem so111:structOk Tryz.prog 111=false:=by kernel_rfl
theorem iz111:(zeroT Tryz.prog 111).isSome=true:=by kernel_rfl
theorem zk111:zOk Tryz.prog 111=true:=by kernel_rfl
theorem iu111:(Tryz.prog.underlying 111).isSome=true:=by kernel_rfl
theorem ap111:appT Tryz.prog #[111,111]=some 92:=by kernel_rfl
theorem sz121:szT Tryz.prog 121=3:=by kernel_rfl
theorem by121:byT Tryz.prog 121=56:=by kernel_rfl
theorem ag121:aggT Tryz.prog 121=some true:=by kernel_rfl
theorem so121:structOk Tryz.prog 121=true:=by kernel_rfl
theorem fl121_0:fieldT Tryz.prog 121 0=some (9,0):=by kernel_rfl
theorem fl121_1:fieldT Tryz.prog 121 1=some (42,1):=by kernel_rfl
theorem fl121_2:fieldT Tryz.prog 121 2=some (9,2):=by kernel_rfl
theorem iz121:(zeroT Tryz.prog 121).isSome=true:=by kernel_rfl
theorem zk121:zOk Tryz.prog 121=true:=by kernel_rfl
theorem iu121:(Tryz.prog.underlying 121).isSome=true:=by kernel_rfl
theorem sz122:szT Tryz.prog 122=3:=by kernel_rfl
theorem by122:byT Tryz.prog 122=56:=by kernel_rfl
theorem ag122:aggT Tryz.prog 122=some true:=by kernel_rfl
theorem so122:structOk Tryz.prog 122=true:=by kernel_rfl
theorem fl122_0:fieldT Tryz.prog 122 0=some (9,0):=by kernel_rfl
theorem fl122_1:fieldT Tryz.prog 122 1=some (42,1):=by kernel_rfl
theorem fl122_2:fieldT Tryz.prog 122 2=some (9,2):=by kernel_rfl
theorem iz122:(zeroT Tryz.prog 122).isSome=true:=by kernel_rfl
theorem zk122:zOk Tryz.prog 122=true:=by kernel_rfl
theorem iu122:(Tryz.prog.underlying 122).isSome=true:=by kernel_rfl
theorem u123:Tryz.prog.underlying 123=some (.array 22 122):=by kernel_rfl
theorem sz123:szT Tryz.prog 123=66:=by kernel_rfl
theorem by123:byT Tryz.prog 123=1232:=by kernel_rfl
theorem ag123:aggT Tryz.prog 123=some true:=by kernel_rfl
theorem so123:structOk Tryz.prog 123=false:=by kernel_rfl
theorem iz123:(zeroT Tryz.prog 123).isSome=true:=by kernel_rfl
theorem zk123:zOk Tryz.prog 123=true:=by kernel_rfl
theorem iu123:(Tryz.prog.underlying 123).isSome=true:=by kernel_rfl
theorem sz142:szT Tryz.prog 142=5:=by kernel_rfl
theorem by142:byT Tryz.prog 142=64:=by kernel_rfl
theorem ag142:aggT Tryz.prog 142=some true:=by kernel_rfl
theorem so142:structOk Tryz.prog 142=true:=by kernel_rfl
theorem fl142_0:fieldT Tryz.prog 142 0=some (9,0):=by kernel_rfl
theorem fl142_1:fieldT Tryz.prog 142 1=some (4,1):=by kernel_rfl
theorem fl142_2:fieldT Tryz.prog 142 2=some (23,2):=by kernel_rfl
theorem fl142_3:fieldT Tryz.prog 142 3=some (140,3):=by kernel_rfl
theorem fl142_4:fieldT Tryz.prog 142 4=some (141,4):=by kernel_rfl
theorem iz142:(zeroT Tryz.prog 142).isSome=true:=by kernel_rfl
theorem zk142:zOk Tryz.prog 142=true:=by kernel_rfl
theorem iu142:(Tryz.prog.underlying 142).isSome=true:=by kernel_rfl
theorem sz143:szT Tryz.prog 143=5:=by kernel_rfl
theorem by143:byT Tryz.prog 143=64:=by kernel_rfl
theorem ag143:aggT Tryz.prog 143=some true:=by kernel_rfl
theorem so143:structOk Tryz.prog 143=true:=by kernel_rfl
theorem fl143_0:fieldT Tryz.prog 143 0=some (9,0):=by kernel_rfl
theorem fl143_1:fieldT Tryz.prog 143 1=some (4,1):=by kernel_rfl
theorem fl143_2:fieldT Tryz.prog 143 2=some (23,2):=by kernel_rfl
theorem fl143_3:fieldT Tryz.prog 143 3=some (140,3):=by kernel_rfl
theorem fl143_4:fieldT Tryz.prog 143 4=some (141,4):=by kernel_rfl
theorem iz143:(zeroT Tryz.prog 143).isSome=true:=by kernel_rfl
theorem zk143:zOk Tryz.prog 143=true:=by kernel_rfl
theorem iu143:(Tryz.prog.underlying 143).isSome=true:=by kernel_rfl
theorem u152:Tryz.prog.underlying 152=some (.slice 143):=by kernel_rfl
theorem sz152:szT Tryz.prog 152=1:=by kernel_rfl
theorem by152:byT Tryz.prog 152=24:=by kernel_rfl
theorem ag152:aggT Tryz.prog 152=some false:=by kernel_rfl
theorem so152:structOk Tryz.prog 152=false:=by kernel_rfl
theorem iz152:(zeroT Tryz.prog 152).isSome=true:=by kernel_rfl
theorem zk152:zOk Tryz.prog 152=true:=by kernel_rfl
theorem iu152:(Tryz.prog.underlying 152).isSome=true:=by kernel_rfl
theorem ap152:appT Tryz.prog #[152,152]=some 143:=by kernel_rfl
theorem sz160:szT Tryz.prog 160=4:=by kernel_rfl
theorem by160:byT Tryz.prog 160=40:=by kernel_rfl
theorem ag160:aggT Tryz.prog 160=some true:=by kernel_rfl
theorem so160:structOk Tryz.prog 160=true:=by kernel_rfl
theorem fl160_0:fieldT Tryz.prog 160 0=some (17,0):=by kernel_rfl
theorem fl160_1:fieldT Tryz.prog 160 1=some (17,1):=by kernel_rfl
theorem fl160_2:fieldT Tryz.prog 160 2=some (17,2):=by kernel_rfl
theorem fl160_3:fieldT Tryz.prog 160 3=some (9,3):=by kernel_rfl
theorem iz160:(zeroT Tryz.prog 160).isSome=true:=by kernel_rfl
theorem zk160:zOk Tryz.prog 160=true:=by kernel_rfl
theorem iu160:(Tryz.prog.underlying 160).isSome=true:=by kernel_rfl
theorem sz161:szT Tryz.prog 161=4:=by kernel_rfl
theorem by161:byT Tryz.prog 161=40:=by kernel_rfl
theorem ag161:aggT Tryz.prog 161=some true:=by kernel_rfl
theorem so161:structOk Tryz.prog 161=true:=by kernel_rfl
theorem fl161_0:fieldT Tryz.prog 161 0=some (17,0):=by kernel_rfl
theorem fl161_1:fieldT Tryz.prog 161 1=some (17,1):=by kernel_rfl
theorem fl161_2:fieldT Tryz.prog 161 2=some (17,2):=by kernel_rfl
theorem fl161_3:fieldT Tryz.prog 161 3=some (9,3):=by kernel_rfl
theorem iz161:(zeroT Tryz.prog 161).isSome=true:=by kernel_rfl
theorem zk161:zOk Tryz.prog 161=true:=by kernel_rfl
theorem iu161:(Tryz.prog.underlying 161).isSome=true:=by kernel_rfl
theorem u162:Tryz.prog.underlying 162=some (.array 0 16):=by kernel_rfl
theorem sz162:szT Tryz.prog 162=0:=by kernel_rfl
theorem by162:byT Tryz.prog 162=0:=by kernel_rfl
theorem ag162:aggT Tryz.prog 162=some true:=by kernel_rfl
theorem so162:structOk Tryz.prog 162=false:=by kernel_rfl
theorem iz162:(zeroT Tryz.prog 162).isSome=true:=by kernel_rfl
theorem zk162:zOk Tryz.prog 162=true:=by kernel_rfl
theorem iu162:(Tryz.prog.underlying 162).isSome=true:=by kernel_rfl
theorem sz163:szT Tryz.prog 163=0:=by kernel_rfl
theorem by163:byT Tryz.prog 163=0:=by kernel_rfl
theorem ag163:aggT Tryz.prog 163=some true:=by kernel_rfl
theorem so163:structOk Tryz.prog 163=true:=by kernel_rfl
theorem fl163_0:fieldT Tryz.prog 163 0=some (162,0):=by kernel_rfl
theorem iz163:(zeroT Tryz.prog 163).isSome=true:=by kernel_rfl
theorem zk163:zOk Tryz.prog 163=true:=by kernel_rfl
theorem iu163:(Tryz.prog.underlying 163).isSome=true:=by kernel_rfl
theorem sz164:szT Tryz.prog 164=0:=by kernel_rfl
theorem by164:byT Tryz.prog 164=0:=by kernel_rfl
theorem ag164:aggT Tryz.prog 164=some true:=by kernel_rfl
theorem so164:structOk Tryz.prog 164=true:=by kernel_rfl
theorem fl164_0:fieldT Tryz.prog 164 0=some (162,0):=by kernel_rfl
theorem iz164:(zeroT Tryz.prog 164).isSome=true:=by kernel_rfl
theorem zk164:zOk Tryz.prog 164=true:=by kernel_rfl
theorem iu164:(Tryz.prog.underlying 164).isSome=true:=by kernel_rfl
theorem u166:Tryz.prog.underlying 166=some (.int .u32):=by kernel_rfl
theorem sz166:szT Tryz.prog 166=1:=by kernel_rfl
theorem by166:byT Tryz.prog 166=4:=by kernel_rfl
theorem ag166:aggT Tryz.prog 166=some false:=by kernel_rfl
theorem so166:structOk Tryz.prog 166=false:=by kernel_rfl
theorem iz166:(zeroT Tryz.prog 166).isSome=true:=by kernel_rfl
theorem zk166:zOk Tryz.prog 166=true:=by kernel_rfl
theorem iu166:(Tryz.prog.underlying 166).isSome=true:=by kernel_rfl
theorem u167:Tryz.prog.underlying 167=some (.int .u8):=by kernel_rfl
theorem sz167:szT Tryz.prog 167=1:=by kernel_rfl
theorem by167:byT Tryz.prog 167=1:=by kernel_rfl
theorem ag167:aggT Tryz.prog 167=some false:=by kernel_rfl
theorem so167:structOk Tryz.prog 167=false:=by kernel_rfl
theorem iz167:(zeroT Tryz.prog 167).isSome=true:=by kernel_rfl
theorem zk167:zOk Tryz.prog 167=true:=by kernel_rfl
theorem iu167:(Tryz.prog.underlying 167).isSome=true:=by kernel_rfl
theorem u168:Tryz.prog.underlying 168=some (.int .u8):=by kernel_rfl
theorem sz168:szT Tryz.prog 168=1:=by kernel_rfl
theorem by168:byT Tryz.prog 168=1:=by kernel_rfl
theorem ag168:aggT Tryz.prog 168=some false:=by kernel_rfl
theorem so168:structOk Tryz.prog 168=false:=by kernel_rfl
theorem iz168:(zeroT Tryz.prog 168).isSome=true:=by kernel_rfl
theorem zk168:zOk Tryz.prog 168=true:=by kernel_rfl
theorem iu168:(Tryz.prog.underlying 168).isSome=true:=by kernel_rfl
theorem u170:Tryz.prog.underlying 170=some (.pointer 5):=by kernel_rfl
theorem sz170:szT Tryz.prog 170=1:=by kernel_rfl
theorem by170:byT Tryz.prog 170=8:=by kernel_rfl
theorem ag170:aggT Tryz.prog 170=some false:=by kernel_rfl
theorem so170:structOk Tryz.prog 170=false:=by kernel_rfl
theorem iz170:(zeroT Tryz.prog 170).isSome=true:=by kernel_rfl
theorem zk170:zOk Tryz.prog 170=true:=by kernel_rfl
theorem iu170:(Tryz.prog.underlying 170).isSome=true:=by kernel_rfl
theorem u171:Tryz.prog.underlying 171=some (.int .i32):=by kernel_rfl
theorem sz171:szT Tryz.prog 171=1:=by kernel_rfl
theorem by171:byT Tryz.prog 171=4:=by kernel_rfl
theorem ag171:aggT Tryz.prog 171=some false:=by kernel_rfl
theorem so171:structOk Tryz.prog 171=false:=by kernel_rfl
theorem iz171:(zeroT Tryz.prog 171).isSome=true:=by kernel_rfl
theorem zk171:zOk Tryz.prog 171=true:=by kernel_rfl
theorem iu171:(Tryz.prog.underlying 171).isSome=true:=by kernel_rfl
theorem u172:Tryz.prog.underlying 172=some (.int .i32):=by kernel_rfl
theorem sz172:szT Tryz.prog 172=1:=by kernel_rfl
theorem by172:byT Tryz.prog 172=4:=by kernel_rfl
theorem ag172:aggT Tryz.prog 172=some false:=by kernel_rfl
theorem so172:structOk Tryz.prog 172=false:=by kernel_rfl
theorem iz172:(zeroT Tryz.prog 172).isSome=true:=by kernel_rfl
theorem zk172:zOk Tryz.prog 172=true:=by kernel_rfl
theorem iu172:(Tryz.prog.underlying 172).isSome=true:=by kernel_rfl
theorem sz173:szT Tryz.prog 173=11:=by kernel_rfl
theorem by173:byT Tryz.prog 173=48:=by kernel_rfl
theorem ag173:aggT Tryz.prog 173=some true:=by kernel_rfl
theorem so173:structOk Tryz.prog 173=true:=by kernel_rfl
theorem fl173_0:fieldT Tryz.prog 173 0=some (12,0):=by kernel_rfl
theorem fl173_1:fieldT Tryz.prog 173 1=some (12,1):=by kernel_rfl
theorem fl173_2:fieldT Tryz.prog 173 2=some (166,2):=by kernel_rfl
theorem fl173_3:fieldT Tryz.prog 173 3=some (167,3):=by kernel_rfl
theorem fl173_4:fieldT Tryz.prog 173 4=some (5,4):=by kernel_rfl
theorem fl173_5:fieldT Tryz.prog 173 5=some (5,5):=by kernel_rfl
theorem fl173_6:fieldT Tryz.prog 173 6=some (168,6):=by kernel_rfl
theorem fl173_7:fieldT Tryz.prog 173 7=some (169,7):=by kernel_rfl
theorem fl173_8:fieldT Tryz.prog 173 8=some (170,8):=by kernel_rfl
theorem fl173_9:fieldT Tryz.prog 173 9=some (171,9):=by kernel_rfl
theorem fl173_10:fieldT Tryz.prog 173 10=some (172,10):=by kernel_rfl
theorem iz173:(zeroT Tryz.prog 173).isSome=true:=by kernel_rfl
theorem zk173:zOk Tryz.prog 173=true:=by kernel_rfl
theorem iu173:(Tryz.prog.underlying 173).isSome=true:=by kernel_rfl
theorem sz174:szT Tryz.prog 174=11:=by kernel_rfl
theorem by174:byT Tryz.prog 174=48:=by kernel_rfl
theorem ag174:aggT Tryz.prog 174=some true:=by kernel_rfl
theorem so174:structOk Tryz.prog 174=true:=by kernel_rfl
theorem fl174_0:fieldT Tryz.prog 174 0=some (12,0):=by kernel_rfl
theorem fl174_1:fieldT Tryz.prog 174 1=some (12,1):=by kernel_rfl
theorem fl174_2:fieldT Tryz.prog 174 2=some (166,2):=by kernel_rfl
theorem fl174_3:fieldT Tryz.prog 174 3=some (167,3):=by kernel_rfl
theorem fl174_4:fieldT Tryz.prog 174 4=some (5,4):=by kernel_rfl
theorem fl174_5:fieldT Tryz.prog 174 5=some (5,5):=by kernel_rfl
theorem fl174_6:fieldT Tryz.prog 174 6=some (168,6):=by kernel_rfl
theorem fl174_7:fieldT Tryz.prog 174 7=some (169,7):=by kernel_rfl
theorem fl174_8:fieldT Tryz.prog 174 8=some (170,8):=by kernel_rfl
theorem fl174_9:fieldT Tryz.prog 174 9=some (171,9):=by kernel_rfl
theorem fl174_10:fieldT Tryz.prog 174 10=some (172,10):=by kernel_rfl
theorem iz174:(zeroT Tryz.prog 174).isSome=true:=by kernel_rfl
theorem zk174:zOk Tryz.prog 174=true:=by kernel_rfl
theorem iu174:(Tryz.prog.underlying 174).isSome=true:=by kernel_rfl
theorem u175:Tryz.prog.underlying 175=some (.slice 180):=by kernel_rfl
theorem sz175:szT Tryz.prog 175=1:=by kernel_rfl
theorem by175:byT Tryz.prog 175=24:=by kernel_rfl
theorem ag175:aggT Tryz.prog 175=some false:=by kernel_rfl
theorem so175:structOk Tryz.prog 175=false:=by kernel_rfl
theorem iz175:(zeroT Tryz.prog 175).isSome=true:=by kernel_rfl
theorem zk175:zOk Tryz.prog 175=true:=by kernel_rfl
theorem iu175:(Tryz.prog.underlying 175).isSome=true:=by kernel_rfl
theorem ap175:appT Tryz.prog #[175,175]=some 180:=by kernel_rfl
theorem sz176:szT Tryz.prog 176=2:=by kernel_rfl
theorem by176:byT Tryz.prog 176=32:=by kernel_rfl
theorem ag176:aggT Tryz.prog 176=some true:=by kernel_rfl
theorem so176:structOk Tryz.prog 176=true:=by kernel_rfl
theorem fl176_0:fieldT Tryz.prog 176 0=some (3,0):=by kernel_rfl
theorem fl176_1:fieldT Tryz.prog 176 1=some (175,1):=by kernel_rfl
theorem iz176:(zeroT Tryz.prog 176).isSome=true:=by kernel_rfl
theorem zk176:zOk Tryz.prog 176=true:=by kernel_rfl
theorem iu176:(Tryz.prog.underlying 176).isSome=true:=by kernel_rfl
theorem sz177:szT Tryz.prog 177=2:=by kernel_rfl
theorem by177:byT Tryz.prog 177=32:=by kernel_rfl
theorem ag177:aggT Tryz.prog 177=some true:=by kernel_rfl
theorem so177:structOk Tryz.prog 177=true:=by kernel_rfl
theorem fl177_0:fieldT Tryz.prog 177 0=some (3,0):=by kernel_rfl
theorem fl177_1:fieldT Tryz.prog 177 1=some (175,1):=by kernel_rfl
theorem iz177:(zeroT Tryz.prog 177).isSome=true:=by kernel_rfl
theorem zk177:zOk Tryz.prog 177=true:=by kernel_rfl
theorem iu177:(Tryz.prog.underlying 177).isSome=true:=by kernel_rfl
theorem sz179:szT Tryz.prog 179=2:=by kernel_rfl
theorem by179:byT Tryz.prog 179=24:=by kernel_rfl
theorem ag179:aggT Tryz.prog 179=some true:=by kernel_rfl
theorem so179:structOk Tryz.prog 179=true:=by kernel_rfl
theorem fl179_0:fieldT Tryz.prog 179 0=some (9,0):=by kernel_rfl
theorem fl179_1:fieldT Tryz.prog 179 1=some (3,1):=by kernel_rfl
theorem se179:seqK Tryz.prog 179=some [1,0]:=by kernel_rfl
theorem iz179:(zeroT Tryz.prog 179).isSome=true:=by kernel_rfl
theorem zk179:zOk Tryz.prog 179=true:=by kernel_rfl
theorem iu179:(Tryz.prog.underlying 179).isSome=true:=by kernel_rfl
theorem sz180:szT Tryz.prog 180=2:=by kernel_rfl
theorem by180:byT Tryz.prog 180=24:=by kernel_rfl
theorem ag180:aggT Tryz.prog 180=some true:=by kernel_rfl
theorem so180:structOk Tryz.prog 180=true:=by kernel_rfl
theorem fl180_0:fieldT Tryz.prog 180 0=some (9,0):=by kernel_rfl
theorem fl180_1:fieldT Tryz.prog 180 1=some (3,1):=by kernel_rfl
theorem se180:seqK Tryz.prog 180=some [1,0]:=by kernel_rfl
theorem iz180:(zeroT Tryz.prog 180).isSome=true:=by kernel_rfl
theorem zk180:zOk Tryz.prog 180=true:=by kernel_rfl
theorem iu180:(Tryz.prog.underlying 180).isSome=true:=by kernel_rfl
theorem if20:isIfT Tryz.prog 20=true:=by kernel_rfl
def zerL:List (Nat×AV):=[(2,.lit (.int .i64 0)),
  (3,.lit (.int .i64 0)),
  (4,.lit (.bool false)),
  (5,.lit (.int .u8 0)),
  (6,.lit (.int .u8 0)),
  (7,.agg [.lit (.int .i64 0),.lit (.int .i64 0),.lit (.bool false),.lit (.int .u8 0)]),
  (8,.agg [.lit (.int .i64 0),.lit (.int .i64 0),.lit (.bool false),.lit (.int .u8 0)]),
  (9,.lit (.string ByteArray.empty)),
  (10,.lit (.string ByteArray.empty)),
  (11,.lit (.string ByteArray.empty)),
  (12,.lit (.int .u64 0)),
  (13,.agg [.lit (.string ByteArray.empty),.lit (.int .u64 0)]),
  (14,.agg [.lit (.string ByteArray.empty),.lit (.int .u64 0)]),
  (15,.lit (.pointer none)),
  (16,.lit (.pointer none)),
  (17,.lit (.pointer none)),
  (18,.agg [.lit (.pointer none)]),
  (19,.agg [.lit (.pointer none)]),
  (21,.lit (.int .i32 0)),
  (22,.sl true 3 []),
  (23,.sl true 1 []),
  (30,.agg [.lit (.string ByteArray.empty),.sl true 1 [],.sl true 1 []]),
  (31,.agg [.lit (.string ByteArray.empty),.sl true 1 [],.sl true 1 []]),
  (33,.lit (.int .i64 0)),
  (39,.agg [.sl true 1 [],.sl true 1 []]),
  (42,.sl true 1 []),
  (49,.sl true 2 []),
  (50,.sl true 1 []),
  (51,.agg [.lit (.string ByteArray.empty),.sl true 2 []]),
  (52,.agg [.lit (.string ByteArray.empty),.sl true 2 []]),
  (53,.agg [.lit (.string ByteArray.empty),.lit (.string ByteArray.empty),.sl true 2 []]),
  (54,.agg [.lit (.string ByteArray.empty),.lit (.string ByteArray.empty),.sl true 2 []]),
  (55,.agg [.lit (.string ByteArray.empty),.sl true 1 [],.sl true 2 [],.sl true 1 [],.sl true 2 [],.lit (.int .i64 0),.lit (.string ByteArray.empty),.sl true 1 [],.sl true 1 [],.sl true 3 [],.lit (.int .i64 0),.lit (.string ByteArray.empty),.lit (.string ByteArray.empty),.sl true 2 []]),
  (56,.agg [.lit (.string ByteArray.empty),.sl true 1 [],.sl true 2 [],.sl true 1 [],.sl true 2 [],.lit (.int .i64 0),.lit (.string ByteArray.empty),.sl true 1 [],.sl true 1 [],.sl true 3 [],.lit (.int .i64 0),.lit (.string ByteArray.empty),.lit (.string ByteArray.empty),.sl true 2 []]),
  (57,.agg [.lit (.string ByteArray.empty),.sl true 1 [],.sl true 2 [],.sl true 1 [],.sl true 2 [],.lit (.int .i64 0),.lit (.string ByteArray.empty),.sl true 1 [],.sl true 1 [],.sl true 3 [],.lit (.int .i64 0),.lit (.string ByteArray.empty),.lit (.string ByteArray.empty),.sl true 2 [],.sl true 1 [],.sl true 1 []]),
  (58,.agg [.lit (.string ByteArray.empty),.sl true 1 [],.sl true 2 [],.sl true 1 [],.sl true 2 [],.lit (.int .i64 0),.lit (.string ByteArray.empty),.sl true 1 [],.sl true 1 [],.sl true 3 [],.lit (.int .i64 0),.lit (.string ByteArray.empty),.lit (.string ByteArray.empty),.sl true 2 [],.sl true 1 [],.sl true 1 []]),
  (59,.sl true 3 []),
  (69,.agg [.lit (.int .i64 0),.lit (.int .i64 0),.lit (.int .i64 0)]),
  (70,.agg [.sl true 1 [],.lit (.int .i64 0),.lit (.int .i64 0),.lit (.int .i64 0)]),
  (71,.agg [.sl true 1 [],.lit (.int .i64 0),.lit (.int .i64 0),.lit (.int .i64 0)]),
  (77,.agg [.lit (.string ByteArray.empty),.lit (.int .i64 0),.sl true 1 []]),
  (78,.agg [.lit (.string ByteArray.empty),.lit (.int .i64 0),.sl true 1 []]),
  (91,.agg [.lit .nilFunc,.lit .nilFunc,.lit .nilFunc]),
  (92,.agg [.lit .nilFunc,.lit .nilFunc,.lit .nilFunc]),
  (111,.sl true 3 []),
  (121,.agg [.lit (.string ByteArray.empty),.sl true 1 [],.lit (.string ByteArray.empty)]),
  (122,.agg [.lit (.string ByteArray.empty),.sl true 1 [],.lit (.string ByteArray.empty)]),
  (123,.agg [.lit (.string ByteArray.empty),.sl true 1 [],.lit (.string ByteArray.empty),.lit (.string ByteArray.empty),.sl true 1 [],.lit (.string ByteArray.empty),.lit (.string ByteArray.empty),.sl true 1 [],.lit (.string ByteArray.empty),.lit (.string ByteArray.empty),.sl true 1 [],.lit (.string ByteArray.empty),.lit (.string ByteArray.empty),.sl true 1 [],.lit (.string ByteArray.empty),.lit (.string ByteArray.empty),.sl true 1 [],.lit (.string ByteArray.empty),.lit (.string ByteArray.empty),.sl true 1 [],.lit (.string ByteArray.empty),.lit (.string ByteArray.empty),.sl true 1 [],.lit (.string ByteArray.empty),.lit (.string ByteArray.empty),.sl true 1 [],.lit (.string ByteArray.empty),.lit (.string ByteArray.empty),.sl true 1 [],.lit (.string ByteArray.empty),.lit (.string ByteArray.empty),.sl true 1 [],.lit (.string ByteArray.empty),.lit (.string ByteArray.empty),.sl true 1 [],.lit (.string ByteArray.empty),.lit (.string ByteArray.empty),.sl true 1 [],.lit (.string ByteArray.empty),.lit (.string ByteArray.empty),.sl true 1 [],.lit (.string ByteArray.empty),.lit (.string ByteArray.empty),.sl true 1 [],.lit (.string ByteArray.empty),.lit (.string ByteArray.empty),.sl true 1 [],.lit (.string ByteArray.empty),.lit (.string ByteArray.empty),.sl true 1 [],.lit (.string ByteArray.empty),.lit (.string ByteArray.empty),.sl true 1 [],.lit (.string ByteArray.empty),.lit (.string ByteArray.empty),.sl true 1 [],.lit (.string ByteArray.empty),.lit (.string ByteArray.empty),.sl true 1 [],.lit (.string ByteArray.empty),.lit (.string ByteArray.empty),.sl true 1 [],.lit (.string ByteArray.empty),.lit (.string ByteArray.empty),.sl true 1 [],.lit (.string ByteArray.empty)]),
  (142,.agg [.lit (.string ByteArray.empty),.lit (.bool false),.sl true 1 [],.lit .nilFunc,.lit .nilFunc]),
  (143,.agg [.lit (.string ByteArray.empty),.lit (.bool false),.sl true 1 [],.lit .nilFunc,.lit .nilFunc]),
  (152,.sl true 5 []),
  (160,.agg [.lit (.pointer none),.lit (.pointer none),.lit (.pointer none),.lit (.string ByteArray.empty)]),
  (161,.agg [.lit (.pointer none),.lit (.pointer none),.lit (.pointer none),.lit (.string ByteArray.empty)]),
  (166,.lit (.int .u32 0)),
  (167,.lit (.int .u8 0)),
  (168,.lit (.int .u8 0)),
  (170,.lit (.pointer none)),
  (171,.lit (.int .i32 0)),
  (172,.lit (.int .i32 0)),
  (173,.agg [.lit (.int .u64 0),.lit (.int .u64 0),.lit (.int .u32 0),.lit (.int .u8 0),.lit (.int .u8 0),.lit (.int .u8 0),.lit (.int .u8 0),.lit .nilFunc,.lit (.pointer none),.lit (.int .i32 0),.lit (.int .i32 0)]),
  (174,.agg [.lit (.int .u64 0),.lit (.int .u64 0),.lit (.int .u32 0),.lit (.int .u8 0),.lit (.int .u8 0),.lit (.int .u8 0),.lit (.int .u8 0),.lit .nilFunc,.lit (.pointer none),.lit (.int .i32 0),.lit (.int .i32 0)]),
  (175,.sl true 2 []),
  (176,.agg [.lit (.int .i64 0),.sl true 2 []]),
  (177,.agg [.lit (.int .i64 0),.sl true 2 []]),
  (179,.agg [.lit (.string ByteArray.empty),.lit (.int .i64 0)]),
  (180,.agg [.lit (.string ByteArray.empty),.lit (.int .i64 0)])]
def zer (t:TypeId):AV:=lookZ zerL t
theorem zr2:ZerOk Tryz.prog (2,.lit (.int .i64 0)):=fun v h=>by
  rw [show zeroT Tryz.prog 2=some (.int .i64 0) from by kernel_rfl] at h;cases h;exact .lit _
theorem zv2:zer 2= .lit (.int .i64 0):=rfl
theorem zr3:ZerOk Tryz.prog (3,.lit (.int .i64 0)):=fun v h=>by
  rw [show zeroT Tryz.prog 3=some (.int .i64 0) from by kernel_rfl] at h;cases h;exact .lit _
theorem zv3:zer 3= .lit (.int .i64 0):=rfl
theorem zr4:ZerOk Tryz.prog (4,.lit (.bool false)):=fun v h=>by
  rw [show zeroT Tryz.prog 4=some (.bool false) from by kernel_rfl] at h;cases h;exact .lit _
theorem zv4:zer 4= .lit (.bool false):=rfl
theorem zr5:ZerOk Tryz.prog (5,.lit (.int .u8 0)):=fun v h=>by
  rw [show zeroT Tryz.prog 5=some (.int .u8 0) from by kernel_rfl] at h;cases h;exact .lit _
theorem zv5:zer 5= .lit (.int .u8 0):=rfl
theorem zr6:ZerOk Tryz.prog (6,.lit (.int .u8 0)):=fun v h=>by
  rw [show zeroT Tryz.prog 6=some (.int .u8 0) from by kernel_rfl] at h;cases h;exact .lit _
theorem zv6:zer 6= .lit (.int .u8 0):=rfl
theorem zr7:ZerOk Tryz.prog (7,.agg [.lit (.int .i64 0),.lit (.int .i64 0),.lit (.bool false),.lit (.int .u8 0)]):=fun v h=>by
  rw [show zeroT Tryz.prog 7=some (.agg #[(.int .i64 0),(.int .i64 0),(.bool false),(.int .u8 0)]) from by kernel_rfl] at h;cases h
  exact zr_agg _ _ (zl_cons (.lit _) rfl (zl_cons (.lit _) rfl (zl_cons (.lit _) rfl (zl_cons (.lit _) rfl (zl_nil)))))
theorem zv7:zer 7= .agg [.lit (.int .i64 0),.lit (.int .i64 0),.lit (.bool false),.lit (.int .u8 0)]:=rfl
theorem zr8:ZerOk Tryz.prog (8,.agg [.lit (.int .i64 0),.lit (.int .i64 0),.lit (.bool false),.lit (.int .u8 0)]):=fun v h=>by
  rw [show zeroT Tryz.prog 8=some (.agg #[(.int .i64 0),(.int .i64 0),(.bool false),(.int .u8 0)]) from by kernel_rfl] at h;cases h
  exact zr_agg _ _ (zl_cons (.lit _) rfl (zl_cons (.lit _) rfl (zl_cons (.lit _) rfl (zl_cons (.lit _) rfl (zl_nil)))))
theorem zv8:zer 8= .agg [.lit (.int .i64 0),.lit (.int .i64 0),.lit (.bool false),.lit (.int .u8 0)]:=rfl
theorem zr9:ZerOk Tryz.prog (9,.lit (.string ByteArray.empty)):=fun v h=>by
  rw [show zeroT Tryz.prog 9=some (.string ByteArray.empty) from by kernel_rfl] at h;cases h;exact .lit _
theorem zv9:zer 9= .lit (.string ByteArray.empty):=rfl
theorem zr10:ZerOk Tryz.prog (10,.lit (.string ByteArray.empty)):=fun v h=>by
  rw [show zeroT Tryz.prog 10=some (.string ByteArray.empty) from by kernel_rfl] at h;cases h;exact .lit _
theorem zv10:zer 10= .lit (.string ByteArray.empty):=rfl
theorem zr11:ZerOk Tryz.prog (11,.lit (.string ByteArray.empty)):=fun v h=>by
  rw [show zeroT Tryz.prog 11=some (.string ByteArray.empty) from by kernel_rfl] at h;cases h;exact .lit _
theorem zv11:zer 11= .lit (.string ByteArray.empty):=rfl
theorem zr12:ZerOk Tryz.prog (12,.lit (.int .u64 0)):=fun v h=>by
  rw [show zeroT Tryz.prog 12=some (.int .u64 0) from by kernel_rfl] at h;cases h;exact .lit _
theorem zv12:zer 12= .lit (.int .u64 0):=rfl
theorem zr13:ZerOk Tryz.prog (13,.agg [.lit (.string ByteArray.empty),.lit (.int .u64 0)]):=fun v h=>by
  rw [show zeroT Tryz.prog 13=some (.agg #[(.string ByteArray.empty),(.int .u64 0)]) from by kernel_rfl] at h;cases h
  exact zr_agg _ _ (zl_cons (.lit _) rfl (zl_cons (.lit _) rfl (zl_nil)))
theorem zv13:zer 13= .agg [.lit (.string ByteArray.empty),.lit (.int .u64 0)]:=rfl
theorem zr14:ZerOk Tryz.prog (14,.agg [.lit (.string ByteArray.empty),.lit (.int .u64 0)]):=fun v h=>by
  rw [show zeroT Tryz.prog 14=some (.agg #[(.string ByteArray.empty),(.int .u64 0)]) from by kernel_rfl] at h;cases h
  exact zr_agg _ _ (zl_cons (.lit _) rfl (zl_cons (.lit _) rfl (zl_nil)))
theorem zv14:zer 14= .agg [.lit (.string ByteArray.empty),.lit (.int .u64 0)]:=rfl
theorem zr15:ZerOk Tryz.prog (15,.lit (.pointer none)):=fun v h=>by
  rw [show zeroT Tryz.prog 15=some (.pointer none) from by kernel_rfl] at h;cases h;exact .lit _
theorem zv15:zer 15= .lit (.pointer none):=rfl
theorem zr16:ZerOk Tryz.prog (16,.lit (.pointer none)):=fun v h=>by
  rw [show zeroT Tryz.prog 16=some (.pointer none) from by kernel_rfl] at h;cases h;exact .lit _
theorem zv16:zer 16= .lit (.pointer none):=rfl
theorem zr17:ZerOk Tryz.prog (17,.lit (.pointer none)):=fun v h=>by
  rw [show zeroT Tryz.prog 17=some (.pointer none) from by kernel_rfl] at h;cases h;exact .lit _
theorem zv17:zer 17= .lit (.pointer none):=rfl
theorem zr18:ZerOk Tryz.prog (18,.agg [.lit (.pointer none)]):=fun v h=>by
  rw [show zeroT Tryz.prog 18=some (.agg #[(.pointer none)]) from by kernel_rfl] at h;cases h
  exact zr_agg _ _ (zl_cons (.lit _) rfl (zl_nil))
theorem zv18:zer 18= .agg [.lit (.pointer none)]:=rfl
theorem zr19:ZerOk Tryz.prog (19,.agg [.lit (.pointer none)]):=fun v h=>by
  rw [show zeroT Tryz.prog 19=some (.agg #[(.pointer none)]) from by kernel_rfl] at h;cases h
  exact zr_agg _ _ (zl_cons (.lit _) rfl (zl_nil))
theorem zv19:zer 19= .agg [.lit (.pointer none)]:=rfl
theorem zr21:ZerOk Tryz.prog (21,.lit (.int .i32 0)):=fun v h=>by
  rw [show zeroT Tryz.prog 21=some (.int .i32 0) from by kernel_rfl] at h;cases h;exact .lit _
theorem zv21:zer 21= .lit (.int .i32 0):=rfl
theorem zr22:ZerOk Tryz.prog (22,.sl true 3 []):=fun v h=>by
  rw [show zeroT Tryz.prog 22=some (.slice none 0 0) from by kernel_rfl] at h;cases h;exact .nil _ _ _
theorem zv22:zer 22= .sl true 3 []:=rfl
theorem zr23:ZerOk Tryz.prog (23,.sl true 1 []):=fun v h=>by
  rw [show zeroT Tryz.prog 23=some (.slice none 0 0) from by kernel_rfl] at h;cases h;exact .nil _ _ _
theorem zv23:zer 23= .sl true 1 []:=rfl
theorem zr30:ZerOk Tryz.prog (30,.agg [.lit (.string ByteArray.empty),.sl true 1 [],.sl true 1 []]):=fun v h=>by
  rw [show zeroT Tryz.prog 30=some (.agg #[(.string ByteArray.empty),(.slice none 0 0),(.slice none 0 0)]) from by kernel_rfl] at h;cases h
  exact zr_agg _ _ (zl_cons (.lit _) rfl (zl_cons (.nil _ _ _) rfl (zl_cons (.nil _ _ _) rfl (zl_nil))))
theorem zv30:zer 30= .agg [.lit (.string ByteArray.empty),.sl true 1 [],.sl true 1 []]:=rfl
theorem zr31:ZerOk Tryz.prog (31,.agg [.lit (.string ByteArray.empty),.sl true 1 [],.sl true 1 []]):=fun v h=>by
  rw [show zeroT Tryz.prog 31=some (.agg #[(.string ByteArray.empty),(.slice none 0 0),(.slice none 0 0)]) from by kernel_rfl] at h;cases h
  exact zr_agg _ _ (zl_cons (.lit _) rfl (zl_cons (.nil _ _ _) rfl (zl_cons (.nil _ _ _) rfl (zl_nil))))
theorem zv31:zer 31= .agg [.lit (.string ByteArray.empty),.sl true 1 [],.sl true 1 []]:=rfl
theorem zr33:ZerOk Tryz.prog (33,.lit (.int .i64 0)):=fun v h=>by
  rw [show zeroT Tryz.prog 33=some (.int .i64 0) from by kernel_rfl] at h;cases h;exact .lit _
theorem zv33:zer 33= .lit (.int .i64 0):=rfl
theorem zr39:ZerOk Tryz.prog (39,.agg [.sl true 1 [],.sl true 1 []]):=fun v h=>by
  rw [show zeroT Tryz.prog 39=some (.agg #[(.slice none 0 0),(.slice none 0 0)]) from by kernel_rfl] at h;cases h
  exact zr_agg _ _ (zl_cons (.nil _ _ _) rfl (zl_cons (.nil _ _ _) rfl (zl_nil)))
theorem zv39:zer 39= .agg [.sl true 1 [],.sl true 1 []]:=rfl
theorem zr42:ZerOk Tryz.prog (42,.sl true 1 []):=fun v h=>by
  rw [show zeroT Tryz.prog 42=some (.slice none 0 0) from by kernel_rfl] at h;cases h;exact .nil _ _ _
theorem zv42:zer 42= .sl true 1 []:=rfl
theorem zr49:ZerOk Tryz.prog (49,.sl true 2 []):=fun v h=>by
  rw [show zeroT Tryz.prog 49=some (.slice none 0 0) from by kernel_rfl] at h;cases h;exact .nil _ _ _
theorem zv49:zer 49= .sl true 2 []:=rfl
theorem zr50:ZerOk Tryz.prog (50,.sl true 1 []):=fun v h=>by
  rw [show zeroT Tryz.prog 50=some (.slice none 0 0) from by kernel_rfl] at h;cases h;exact .nil _ _ _
theorem zv50:zer 50= .sl true 1 []:=rfl
theorem zr51:ZerOk Tryz.prog (51,.agg [.lit (.string ByteArray.empty),.sl true 2 []]):=fun v h=>by
  rw [show zeroT Tryz.prog 51=some (.agg #[(.string ByteArray.empty),(.slice none 0 0)]) from by kernel_rfl] at h;cases h
  exact zr_agg _ _ (zl_cons (.lit _) rfl (zl_cons (.nil _ _ _) rfl (zl_nil)))
theorem zv51:zer 51= .agg [.lit (.string ByteArray.empty),.sl true 2 []]:=rfl
theorem zr52:ZerOk Tryz.prog (52,.agg [.lit (.string ByteArray.empty),.sl true 2 []]):=fun v h=>by
  rw [show zeroT Tryz.prog 52=some (.agg #[(.string ByteArray.empty),(.slice none 0 0)]) from by kernel_rfl] at h;cases h
  exact zr_agg _ _ (zl_cons (.lit _) rfl (zl_cons (.nil _ _ _) rfl (zl_nil)))
theorem zv52:zer 52= .agg [.lit (.string ByteArray.empty),.sl true 2 []]:=rfl
theorem zr53:ZerOk Tryz.prog (53,.agg [.lit (.string ByteArray.empty),.lit (.string ByteArray.empty),.sl true 2 []]):=fun v h=>by
  rw [show zeroT Tryz.prog 53=some (.agg #[(.string ByteArray.empty),(.string ByteArray.empty),(.slice none 0 0)]) from by kernel_rfl] at h;cases h
  exact zr_agg _ _ (zl_cons (.lit _) rfl (zl_cons (.lit _) rfl (zl_cons (.nil _ _ _) rfl (zl_nil))))
theorem zv53:zer 53= .agg [.lit (.string ByteArray.empty),.lit (.string ByteArray.empty),.sl true 2 []]:=rfl
theorem zr54:ZerOk Tryz.prog (54,.agg [.lit (.string ByteArray.empty),.lit (.string ByteArray.empty),.sl true 2 []]):=fun v h=>by
  rw [show zeroT Tryz.prog 54=some (.agg #[(.string ByteArray.empty),(.string ByteArray.empty),(.slice none 0 0)]) from by kernel_rfl] at h;cases h
  exact zr_agg _ _ (zl_cons (.lit _) rfl (zl_cons (.lit _) rfl (zl_cons (.nil _ _ _) rfl (zl_nil))))
theorem zv54:zer 54= .agg [.lit (.string ByteArray.empty),.lit (.string ByteArray.empty),.sl true 2 []]:=rfl
theorem zr55:ZerOk Tryz.prog (55,.agg [.lit (.string ByteArray.empty),.sl true 1 [],.sl true 2 [],.sl true 1 [],.sl true 2 [],.lit (.int .i64 0),.lit (.string ByteArray.empty),.sl true 1 [],.sl true 1 [],.sl true 3 [],.lit (.int .i64 0),.lit (.string ByteArray.empty),.lit (.string ByteArray.empty),.sl true 2 []]):=fun v h=>by
  rw [show zeroT Tryz.prog 55=some (.agg #[(.string ByteArray.empty),(.slice none 0 0),(.slice none 0 0),(.slice none 0 0),(.slice none 0 0),(.int .i64 0),(.string ByteArray.empty),(.slice none 0 0),(.slice none 0 0),(.slice none 0 0),(.int .i64 0),(.string ByteArray.empty),(.string ByteArray.empty),(.slice none 0 0)]) from by kernel_rfl] at h;cases h
  exact zr_agg _ _ (zl_cons (.lit _) rfl (zl_cons (.nil _ _ _) rfl (zl_cons (.nil _ _ _) rfl (zl_cons (.nil _ _ _) rfl (zl_cons (.nil _ _ _) rfl (zl_cons (.lit _) rfl (zl_cons (.lit _) rfl (zl_cons (.nil _ _ _) rfl (zl_cons (.nil _ _ _) rfl (zl_cons (.nil _ _ _) rfl (zl_cons (.lit _) rfl (zl_cons (.lit _) rfl (zl_cons (.lit _) rfl (zl_cons (.nil _ _ _) rfl (zl_nil)))))))))))))))
theorem zv55:zer 55= .agg [.lit (.string ByteArray.empty),.sl true 1 [],.sl true 2 [],.sl true 1 [],.sl true 2 [],.lit (.int .i64 0),.lit (.string ByteArray.empty),.sl true 1 [],.sl true 1 [],.sl true 3 [],.lit (.int .i64 0),.lit (.string ByteArray.empty),.lit (.string ByteArray.empty),.sl true 2 []]:=rfl
theorem zr56:ZerOk Tryz.prog (56,.agg [.lit (.string ByteArray.empty),.sl true 1 [],.sl true 2 [],.sl true 1 [],.sl true 2 [],.lit (.int .i64 0),.lit (.string ByteArray.empty),.sl true 1 [],.sl true 1 [],.sl true 3 [],.lit (.int .i64 0),.lit (.string ByteArray.empty),.lit (.string ByteArray.empty),.sl true 2 []]):=fun v h=>by
  rw [show zeroT Tryz.prog 56=some (.agg #[(.string ByteArray.empty),(.slice none 0 0),(.slice none 0 0),(.slice none 0 0),(.slice none 0 0),(.int .i64 0),(.string ByteArray.empty),(.slice none 0 0),(.slice none 0 0),(.slice none 0 0),(.int .i64 0),(.string ByteArray.empty),(.string ByteArray.empty),(.slice none 0 0)]) from by kernel_rfl] at h;cases h
  exact zr_agg _ _ (zl_cons (.lit _) rfl (zl_cons (.nil _ _ _) rfl (zl_cons (.nil _ _ _) rfl (zl_cons (.nil _ _ _) rfl (zl_cons (.nil _ _ _) rfl (zl_cons (.lit _) rfl (zl_cons (.lit _) rfl (zl_cons (.nil _ _ _) rfl (zl_cons (.nil _ _ _) rfl (zl_cons (.nil _ _ _) rfl (zl_cons (.lit _) rfl (zl_cons (.lit _) rfl (zl_cons (.lit _) rfl (zl_cons (.nil _ _ _) rfl (zl_nil)))))))))))))))
theorem zv56:zer 56= .agg [.lit (.string ByteArray.empty),.sl true 1 [],.sl true 2 [],.sl true 1 [],.sl true 2 [],.lit (.int .i64 0),.lit (.string ByteArray.empty),.sl true 1 [],.sl true 1 [],.sl true 3 [],.lit (.int .i64 0),.lit (.string ByteArray.empty),.lit (.string ByteArray.empty),.sl true 2 []]:=rfl
theorem zr57:ZerOk Tryz.prog (57,.agg [.lit (.string ByteArray.empty),.sl true 1 [],.sl true 2 [],.sl true 1 [],.sl true 2 [],.lit (.int .i64 0),.lit (.string ByteArray.empty),.sl true 1 [],.sl true 1 [],.sl true 3 [],.lit (.int .i64 0),.lit (.string ByteArray.empty),.lit (.string ByteArray.empty),.sl true 2 [],.sl true 1 [],.sl true 1 []]):=fun v h=>by
  rw [show zeroT Tryz.prog 57=some (.agg #[(.string ByteArray.empty),(.slice none 0 0),(.slice none 0 0),(.slice none 0 0),(.slice none 0 0),(.int .i64 0),(.string ByteArray.empty),(.slice none 0 0),(.slice none 0 0),(.slice none 0 0),(.int .i64 0),(.string ByteArray.empty),(.string ByteArray.empty),(.slice none 0 0),(.slice none 0 0),(.slice none 0 0)]) from by kernel_rfl] at h;cases h
  exact zr_agg _ _ (zl_cons (.lit _) rfl (zl_cons (.nil _ _ _) rfl (zl_cons (.nil _ _ _) rfl (zl_cons (.nil _ _ _) rfl (zl_cons (.nil _ _ _) rfl (zl_cons (.lit _) rfl (zl_cons (.lit _) rfl (zl_cons (.nil _ _ _) rfl (zl_cons (.nil _ _ _) rfl (zl_cons (.nil _ _ _) rfl (zl_cons (.lit _) rfl (zl_cons (.lit _) rfl (zl_cons (.lit _) rfl (zl_cons (.nil _ _ _) rfl (zl_cons (.nil _ _ _) rfl (zl_cons (.nil _ _ _) rfl (zl_nil)))))))))))))))))
theorem zv57:zer 57= .agg [.lit (.string ByteArray.empty),.sl true 1 [],.sl true 2 [],.sl true 1 [],.sl true 2 [],.lit (.int .i64 0),.lit (.string ByteArray.empty),.sl true 1 [],.sl true 1 [],.sl true 3 [],.lit (.int .i64 0),.lit (.string ByteArray.empty),.lit (.string ByteArray.empty),.sl true 2 [],.sl true 1 [],.sl true 1 []]:=rfl
theorem zr58:ZerOk Tryz.prog (58,.agg [.lit (.string ByteArray.empty),.sl true 1 [],.sl true 2 [],.sl true 1 [],.sl true 2 [],.lit (.int .i64 0),.lit (.string ByteArray.empty),.sl true 1 [],.sl true 1 [],.sl true 3 [],.lit (.int .i64 0),.lit (.string ByteArray.empty),.lit (.string ByteArray.empty),.sl true 2 [],.sl true 1 [],.sl true 1 []]):=fun v h=>by
  rw [show zeroT Tryz.prog 58=some (.agg #[(.string ByteArray.empty),(.slice none 0 0),(.slice none 0 0),(.slice none 0 0),(.slice none 0 0),(.int .i64 0),(.string ByteArray.empty),(.slice none 0 0),(.slice none 0 0),(.slice none 0 0),(.int .i64 0),(.string ByteArray.empty),(.string ByteArray.empty),(.slice none 0 0),(.slice none 0 0),(.slice none 0 0)]) from by kernel_rfl] at h;cases h
  exact zr_agg _ _ (zl_cons (.lit _) rfl (zl_cons (.nil _ _ _) rfl (zl_cons (.nil _ _ _) rfl (zl_cons (.nil _ _ _) rfl (zl_cons (.nil _ _ _) rfl (zl_cons (.lit _) rfl (zl_cons (.lit _) rfl (zl_cons (.nil _ _ _) rfl (zl_cons (.nil _ _ _) rfl (zl_cons (.nil _ _ _) rfl (zl_cons (.lit _) rfl (zl_cons (.lit _) rfl (zl_cons (.lit _) rfl (zl_cons (.nil _ _ _) rfl (zl_cons (.nil _ _ _) rfl (zl_cons (.nil _ _ _) rfl (zl_nil)))))))))))))))))
theorem zv58:zer 58= .agg [.lit (.string ByteArray.empty),.sl true 1 [],.sl true 2 [],.sl true 1 [],.sl true 2 [],.lit (.int .i64 0),.lit (.string ByteArray.empty),.sl true 1 [],.sl true 1 [],.sl true 3 [],.lit (.int .i64 0),.lit (.string ByteArray.empty),.lit (.string ByteArray.empty),.sl true 2 [],.sl true 1 [],.sl true 1 []]:=rfl
theorem zr59:ZerOk Tryz.prog (59,.sl true 3 []):=fun v h=>by
  rw [show zeroT Tryz.prog 59=some (.slice none 0 0) from by kernel_rfl] at h;cases h;exact .nil _ _ _
theorem zv59:zer 59= .sl true 3 []:=rfl
theorem zr69:ZerOk Tryz.prog (69,.agg [.lit (.int .i64 0),.lit (.int .i64 0),.lit (.int .i64 0)]):=fun v h=>by
  rw [show zeroT Tryz.prog 69=some (.agg #[(.int .i64 0),(.int .i64 0),(.int .i64 0)]) from by kernel_rfl] at h;cases h
  exact zr_agg _ _ (zl_cons (.lit _) rfl (zl_cons (.lit _) rfl (zl_cons (.lit _) rfl (zl_nil))))
theorem zv69:zer 69= .agg [.lit (.int .i64 0),.lit (.int .i64 0),.lit (.int .i64 0)]:=rfl
theorem zr70:ZerOk Tryz.prog (70,.agg [.sl true 1 [],.lit (.int .i64 0),.lit (.int .i64 0),.lit (.int .i64 0)]):=fun v h=>by
  rw [show zeroT Tryz.prog 70=some (.agg #[(.slice none 0 0),(.int .i64 0),(.int .i64 0),(.int .i64 0)]) from by kernel_rfl] at h;cases h
  exact zr_agg _ _ (zl_cons (.nil _ _ _) rfl (zl_cons (.lit _) rfl (zl_cons (.lit _) rfl (zl_cons (.lit _) rfl (zl_nil)))))
theorem zv70:zer 70= .agg [.sl true 1 [],.lit (.int .i64 0),.lit (.int .i64 0),.lit (.int .i64 0)]:=rfl
theorem zr71:ZerOk Tryz.prog (71,.agg [.sl true 1 [],.lit (.int .i64 0),.lit (.int .i64 0),.lit (.int .i64 0)]):=fun v h=>by
  rw [show zeroT Tryz.prog 71=some (.agg #[(.slice none 0 0),(.int .i64 0),(.int .i64 0),(.int .i64 0)]) from by kernel_rfl] at h;cases h
  exact zr_agg _ _ (zl_cons (.nil _ _ _) rfl (zl_cons (.lit _) rfl (zl_cons (.lit _) rfl (zl_cons (.lit _) rfl (zl_nil)))))
theorem zv71:zer 71= .agg [.sl true 1 [],.lit (.int .i64 0),.lit (.int .i64 0),.lit (.int .i64 0)]:=rfl
theorem zr77:ZerOk Tryz.prog (77,.agg [.lit (.string ByteArray.empty),.lit (.int .i64 0),.sl true 1 []]):=fun v h=>by
  rw [show zeroT Tryz.prog 77=some (.agg #[(.string ByteArray.empty),(.int .i64 0),(.slice none 0 0)]) from by kernel_rfl] at h;cases h
  exact zr_agg _ _ (zl_cons (.lit _) rfl (zl_cons (.lit _) rfl (zl_cons (.nil _ _ _) rfl (zl_nil))))
theorem zv77:zer 77= .agg [.lit (.string ByteArray.empty),.lit (.int .i64 0),.sl true 1 []]:=rfl
theorem zr78:ZerOk Tryz.prog (78,.agg [.lit (.string ByteArray.empty),.lit (.int .i64 0),.sl true 1 []]):=fun v h=>by
  rw [show zeroT Tryz.prog 78=some (.agg #[(.string ByteArray.empty),(.int .i64 0),(.slice none 0 0)]) from by kernel_rfl] at h;cases h
  exact zr_agg _ _ (zl_cons (.lit _) rfl (zl_cons (.lit _) rfl (zl_cons (.nil _ _ _) rfl (zl_nil))))
theorem zv78:zer 78= .agg [.lit (.string ByteArray.empty),.lit (.int .i64 0),.sl true 1 []]:=rfl
theorem zr91:ZerOk Tryz.prog (91,.agg [.lit .nilFunc,.lit .nilFunc,.lit .nilFunc]):=fun v h=>by
  rw [show zeroT Tryz.prog 91=some (.agg #[.nilFunc,.nilFunc,.nilFunc]) from by kernel_rfl] at h;cases h
  exact zr_agg _ _ (zl_cons (.lit _) rfl (zl_cons (.lit _) rfl (zl_cons (.lit _) rfl (zl_nil))))
theorem zv91:zer 91= .agg [.lit .nilFunc,.lit .nilFunc,.lit .nilFunc]:=rfl
theorem zr92:ZerOk Tryz.prog (92,.agg [.lit .nilFunc,.lit .nilFunc,.lit .nilFunc]):=fun v h=>by
  rw [show zeroT Tryz.prog 92=some (.agg #[.nilFunc,.nilFunc,.nilFunc]) from by kernel_rfl] at h;cases h
  exact zr_agg _ _ (zl_cons (.lit _) rfl (zl_cons (.lit _) rfl (zl_cons (.lit _) rfl (zl_nil))))
theorem zv92:zer 92= .agg [.lit .nilFunc,.lit .nilFunc,.lit .nilFunc]:=rfl
theorem zr111:ZerOk Tryz.prog (111,.sl true 3 []):=fun v h=>by
  rw [show zeroT Tryz.prog 111=some (.slice none 0 0) from by kernel_rfl] at h;cases h;exact .nil _ _ _
theorem zv111:zer 111= .sl true 3 []:=rfl
theorem zr121:ZerOk Tryz.prog (121,.agg [.lit (.string ByteArray.empty),.sl true 1 [],.lit (.string ByteArray.empty)]):=fun v h=>by
  rw [show zeroT Tryz.prog 121=some (.agg #[(.string ByteArray.empty),(.slice none 0 0),(.string ByteArray.empty)]) from by kernel_rfl] at h;cases h
  exact zr_agg _ _ (zl_cons (.lit _) rfl (zl_cons (.nil _ _ _) rfl (zl_cons (.lit _) rfl (zl_nil))))
theorem zv121:zer 121= .agg [.lit (.string ByteArray.empty),.sl true 1 [],.lit (.string ByteArray.empty)]:=rfl
theorem zr122:ZerOk Tryz.prog (122,.agg [.lit (.string ByteArray.empty),.sl true 1 [],.lit (.string ByteArray.empty)]):=fun v h=>by
  rw [show zeroT Tryz.prog 122=some (.agg #[(.string ByteArray.empty),(.slice none 0 0),(.string ByteArray.empty)]) from by kernel_rfl] at h;cases h
  exact zr_agg _ _ (zl_cons (.lit _) rfl (zl_cons (.nil _ _ _) rfl (zl_cons (.lit _) rfl (zl_nil))))
theorem zv122:zer 122= .agg [.lit (.string ByteArray.empty),.sl true 1 [],.lit (.string ByteArray.empty)]:=rfl
theorem zr123:ZerOk Tryz.prog (123,.agg [.lit (.string ByteArray.empty),.sl true 1 [],.lit (.string ByteArray.empty),.lit (.string ByteArray.empty),.sl true 1 [],.lit (.string ByteArray.empty),.lit (.string ByteArray.empty),.sl true 1 [],.lit (.string ByteArray.empty),.lit (.string ByteArray.empty),.sl true 1 [],.lit (.string ByteArray.empty),.lit (.string ByteArray.empty),.sl true 1 [],.lit (.string ByteArray.empty),.lit (.string ByteArray.empty),.sl true 1 [],.lit (.string ByteArray.empty),.lit (.string ByteArray.empty),.sl true 1 [],.lit (.string ByteArray.empty),.lit (.string ByteArray.empty),.sl true 1 [],.lit (.string ByteArray.empty),.lit (.string ByteArray.empty),.sl true 1 [],.lit (.string ByteArray.empty),.lit (.string ByteArray.empty),.sl true 1 [],.lit (.string ByteArray.empty),.lit (.string ByteArray.empty),.sl true 1 [],.lit (.string ByteArray.empty),.lit (.string ByteArray.empty),.sl true 1 [],.lit (.string ByteArray.empty),.lit (.string ByteArray.empty),.sl true 1 [],.lit (.string ByteArray.empty),.lit (.string ByteArray.empty),.sl true 1 [],.lit (.string ByteArray.empty),.lit (.string ByteArray.empty),.sl true 1 [],.lit (.string ByteArray.empty),.lit (.string ByteArray.empty),.sl true 1 [],.lit (.string ByteArray.empty),.lit (.string ByteArray.empty),.sl true 1 [],.lit (.string ByteArray.empty),.lit (.string ByteArray.empty),.sl true 1 [],.lit (.string ByteArray.empty),.lit (.string ByteArray.empty),.sl true 1 [],.lit (.string ByteArray.empty),.lit (.string ByteArray.empty),.sl true 1 [],.lit (.string ByteArray.empty),.lit (.string ByteArray.empty),.sl true 1 [],.lit (.string ByteArray.empty),.lit (.string ByteArray.empty),.sl true 1 [],.lit (.string ByteArray.empty)]):=fun v h=>by
  rw [show zeroT Tryz.prog 123=some (.agg #[(.string ByteArray.empty),(.slice none 0 0),(.string ByteArray.empty),(.string ByteArray.empty),(.slice none 0 0),(.string ByteArray.empty),(.string ByteArray.empty),(.slice none 0 0),(.string ByteArray.empty),(.string ByteArray.empty),(.slice none 0 0),(.string ByteArray.empty),(.string ByteArray.empty),(.slice none 0 0),(.string ByteArray.empty),(.string ByteArray.empty),(.slice none 0 0),(.string ByteArray.empty),(.string ByteArray.empty),(.slice none 0 0),(.string ByteArray.empty),(.string ByteArray.empty),(.slice none 0 0),(.string ByteArray.empty),(.string ByteArray.empty),(.slice none 0 0),(.string ByteArray.empty),(.string ByteArray.empty),(.slice none 0 0),(.string ByteArray.empty),(.string ByteArray.empty),(.slice none 0 0),(.string ByteArray.empty),(.string ByteArray.empty),(.slice none 0 0),(.string ByteArray.empty),(.string ByteArray.empty),(.slice none 0 0),(.string ByteArray.empty),(.string ByteArray.empty),(.slice none 0 0),(.string ByteArray.empty),(.string ByteArray.empty),(.slice none 0 0),(.string ByteArray.empty),(.string ByteArray.empty),(.slice none 0 0),(.string ByteArray.empty),(.string ByteArray.empty),(.slice none 0 0),(.string ByteArray.empty),(.string ByteArray.empty),(.slice none 0 0),(.string ByteArray.empty),(.string ByteArray.empty),(.slice none 0 0),(.string ByteArray.empty),(.string ByteArray.empty),(.slice none 0 0),(.string ByteArray.empty),(.string ByteArray.empty),(.slice none 0 0),(.string ByteArray.empty),(.string ByteArray.empty),(.slice none 0 0),(.string ByteArray.empty)]) from by kernel_rfl] at h;cases h
  exact zr_agg _ _ (zl_cons (.lit _) rfl (zl_cons (.nil _ _ _) rfl (zl_cons (.lit _) rfl (zl_cons (.lit _) rfl (zl_cons (.nil _ _ _) rfl (zl_cons (.lit _) rfl (zl_cons (.lit _) rfl (zl_cons (.nil _ _ _) rfl (zl_cons (.lit _) rfl (zl_cons (.lit _) rfl (zl_cons (.nil _ _ _) rfl (zl_cons (.lit _) rfl (zl_cons (.lit _) rfl (zl_cons (.nil _ _ _) rfl (zl_cons (.lit _) rfl (zl_cons (.lit _) rfl (zl_cons (.nil _ _ _) rfl (zl_cons (.lit _) rfl (zl_cons (.lit _) rfl (zl_cons (.nil _ _ _) rfl (zl_cons (.lit _) rfl (zl_cons (.lit _) rfl (zl_cons (.nil _ _ _) rfl (zl_cons (.lit _) rfl (zl_cons (.lit _) rfl (zl_cons (.nil _ _ _) rfl (zl_cons (.lit _) rfl (zl_cons (.lit _) rfl (zl_cons (.nil _ _ _) rfl (zl_cons (.lit _) rfl (zl_cons (.lit _) rfl (zl_cons (.nil _ _ _) rfl (zl_cons (.lit _) rfl (zl_cons (.lit _) rfl (zl_cons (.nil _ _ _) rfl (zl_cons (.lit _) rfl (zl_cons (.lit _) rfl (zl_cons (.nil _ _ _) rfl (zl_cons (.lit _) rfl (zl_cons (.lit _) rfl (zl_cons (.nil _ _ _) rfl (zl_cons (.lit _) rfl (zl_cons (.lit _) rfl (zl_cons (.nil _ _ _) rfl (zl_cons (.lit _) rfl (zl_cons (.lit _) rfl (zl_cons (.nil _ _ _) rfl (zl_cons (.lit _) rfl (zl_cons (.lit _) rfl (zl_cons (.nil _ _ _) rfl (zl_cons (.lit _) rfl (zl_cons (.lit _) rfl (zl_cons (.nil _ _ _) rfl (zl_cons (.lit _) rfl (zl_cons (.lit _) rfl (zl_cons (.nil _ _ _) rfl (zl_cons (.lit _) rfl (zl_cons (.lit _) rfl (zl_cons (.nil _ _ _) rfl (zl_cons (.lit _) rfl (zl_cons (.lit _) rfl (zl_cons (.nil _ _ _) rfl (zl_cons (.lit _) rfl (zl_cons (.lit _) rfl (zl_cons (.nil _ _ _) rfl (zl_cons (.lit _) rfl (zl_nil)))))))))))))))))))))))))))))))))))))))))))))))))))))))))))))))))))
theorem zv123:zer 123= .agg [.lit (.string ByteArray.empty),.sl true 1 [],.lit (.string ByteArray.empty),.lit (.string ByteArray.empty),.sl true 1 [],.lit (.string ByteArray.empty),.lit (.string ByteArray.empty),.sl true 1 [],.lit (.string ByteArray.empty),.lit (.string ByteArray.empty),.sl true 1 [],.lit (.string ByteArray.empty),.lit (.string ByteArray.empty),.sl true 1 [],.lit (.string ByteArray.empty),.lit (.string ByteArray.empty),.sl true 1 [],.lit (.string ByteArray.empty),.lit (.string ByteArray.empty),.sl true 1 [],.lit (.string ByteArray.empty),.lit (.string ByteArray.empty),.sl true 1 [],.lit (.string ByteArray.empty),.lit (.string ByteArray.empty),.sl true 1 [],.lit (.string ByteArray.empty),.lit (.string ByteArray.empty),.sl true 1 [],.lit (.string ByteArray.empty),.lit (.string ByteArray.empty),.sl true 1 [],.lit (.string ByteArray.empty),.lit (.string ByteArray.empty),.sl true 1 [],.lit (.string ByteArray.empty),.lit (.string ByteArray.empty),.sl true 1 [],.lit (.string ByteArray.empty),.lit (.string ByteArray.empty),.sl true 1 [],.lit (.string ByteArray.empty),.lit (.string ByteArray.empty),.sl true 1 [],.lit (.string ByteArray.empty),.lit (.string ByteArray.empty),.sl true 1 [],.lit (.string ByteArray.empty),.lit (.string ByteArray.empty),.sl true 1 [],.lit (.string ByteArray.empty),.lit (.string ByteArray.empty),.sl true 1 [],.lit (.string ByteArray.empty),.lit (.string ByteArray.empty),.sl true 1 [],.lit (.string ByteArray.empty),.lit (.string ByteArray.empty),.sl true 1 [],.lit (.string ByteArray.empty),.lit (.string ByteArray.empty),.sl true 1 [],.lit (.string ByteArray.empty),.lit (.string ByteArray.empty),.sl true 1 [],.lit (.string ByteArray.empty)]:=rfl
theorem zr142:ZerOk Tryz.prog (142,.agg [.lit (.string ByteArray.empty),.lit (.bool false),.sl true 1 [],.lit .nilFunc,.lit .nilFunc]):=fun v h=>by
  rw [show zeroT Tryz.prog 142=some (.agg #[(.string ByteArray.empty),(.bool false),(.slice none 0 0),.nilFunc,.nilFunc]) from by kernel_rfl] at h;cases h
  exact zr_agg _ _ (zl_cons (.lit _) rfl (zl_cons (.lit _) rfl (zl_cons (.nil _ _ _) rfl (zl_cons (.lit _) rfl (zl_cons (.lit _) rfl (zl_nil))))))
theorem zv142:zer 142= .agg [.lit (.string ByteArray.empty),.lit (.bool false),.sl true 1 [],.lit .nilFunc,.lit .nilFunc]:=rfl
theorem zr143:ZerOk Tryz.prog (143,.agg [.lit (.string ByteArray.empty),.lit (.bool false),.sl true 1 [],.lit .nilFunc,.lit .nilFunc]):=fun v h=>by
  rw [show zeroT Tryz.prog 143=some (.agg #[(.string ByteArray.empty),(.bool false),(.slice none 0 0),.nilFunc,.nilFunc]) from by kernel_rfl] at h;cases h
  exact zr_agg _ _ (zl_cons (.lit _) rfl (zl_cons (.lit _) rfl (zl_cons (.nil _ _ _) rfl (zl_cons (.lit _) rfl (zl_cons (.lit _) rfl (zl_nil))))))
theorem zv143:zer 143= .agg [.lit (.string ByteArray.empty),.lit (.bool false),.sl true 1 [],.lit .nilFunc,.lit .nilFunc]:=rfl
theorem zr152:ZerOk Tryz.prog (152,.sl true 5 []):=fun v h=>by
  rw [show zeroT Tryz.prog 152=some (.slice none 0 0) from by kernel_rfl] at h;cases h;exact .nil _ _ _
theorem zv152:zer 152= .sl true 5 []:=rfl
theorem zr160:ZerOk Tryz.prog (160,.agg [.lit (.pointer none),.lit (.pointer none),.lit (.pointer none),.lit (.string ByteArray.empty)]):=fun v h=>by
  rw [show zeroT Tryz.prog 160=some (.agg #[(.pointer none),(.pointer none),(.pointer none),(.string ByteArray.empty)]) from by kernel_rfl] at h;cases h
  exact zr_agg _ _ (zl_cons (.lit _) rfl (zl_cons (.lit _) rfl (zl_cons (.lit _) rfl (zl_cons (.lit _) rfl (zl_nil)))))
theorem zv160:zer 160= .agg [.lit (.pointer none),.lit (.pointer none),.lit (.pointer none),.lit (.string ByteArray.empty)]:=rfl
theorem zr161:ZerOk Tryz.prog (161,.agg [.lit (.pointer none),.lit (.pointer none),.lit (.pointer none),.lit (.string ByteArray.empty)]):=fun v h=>by
  rw [show zeroT Tryz.prog 161=some (.agg #[(.pointer none),(.pointer none),(.pointer none),(.string ByteArray.empty)]) from by kernel_rfl] at h;cases h
  exact zr_agg _ _ (zl_cons (.lit _) rfl (zl_cons (.lit _) rfl (zl_cons (.lit _) rfl (zl_cons (.lit _) rfl (zl_nil)))))
theorem zv161:zer 161= .agg [.lit (.pointer none),.lit (.pointer none),.lit (.pointer none),.lit (.string ByteArray.empty)]:=rfl
theorem zr166:ZerOk Tryz.prog (166,.lit (.int .u32 0)):=fun v h=>by
  rw [show zeroT Tryz.prog 166=some (.int .u32 0) from by kernel_rfl] at h;cases h;exact .lit _
theorem zv166:zer 166= .lit (.int .u32 0):=rfl
theorem zr167:ZerOk Tryz.prog (167,.lit (.int .u8 0)):=fun v h=>by
  rw [show zeroT Tryz.prog 167=some (.int .u8 0) from by kernel_rfl] at h;cases h;exact .lit _
theorem zv167:zer 167= .lit (.int .u8 0):=rfl
theorem zr168:ZerOk Tryz.prog (168,.lit (.int .u8 0)):=fun v h=>by
  rw [show zeroT Tryz.prog 168=some (.int .u8 0) from by kernel_rfl] at h;cases h;exact .lit _
theorem zv168:zer 168= .lit (.int .u8 0):=rfl
theorem zr170:ZerOk Tryz.prog (170,.lit (.pointer none)):=fun v h=>by
  rw [show zeroT Tryz.prog 170=some (.pointer none) from by kernel_rfl] at h;cases h;exact .lit _
theorem zv170:zer 170= .lit (.pointer none):=rfl
theorem zr171:ZerOk Tryz.prog (171,.lit (.int .i32 0)):=fun v h=>by
  rw [show zeroT Tryz.prog 171=some (.int .i32 0) from by kernel_rfl] at h;cases h;exact .lit _
theorem zv171:zer 171= .lit (.int .i32 0):=rfl
theorem zr172:ZerOk Tryz.prog (172,.lit (.int .i32 0)):=fun v h=>by
  rw [show zeroT Tryz.prog 172=some (.int .i32 0) from by kernel_rfl] at h;cases h;exact .lit _
theorem zv172:zer 172= .lit (.int .i32 0):=rfl
theorem zr173:ZerOk Tryz.prog (173,.agg [.lit (.int .u64 0),.lit (.int .u64 0),.lit (.int .u32 0),.lit (.int .u8 0),.lit (.int .u8 0),.lit (.int .u8 0),.lit (.int .u8 0),.lit .nilFunc,.lit (.pointer none),.lit (.int .i32 0),.lit (.int .i32 0)]):=fun v h=>by
  rw [show zeroT Tryz.prog 173=some (.agg #[(.int .u64 0),(.int .u64 0),(.int .u32 0),(.int .u8 0),(.int .u8 0),(.int .u8 0),(.int .u8 0),.nilFunc,(.pointer none),(.int .i32 0),(.int .i32 0)]) from by kernel_rfl] at h;cases h
  exact zr_agg _ _ (zl_cons (.lit _) rfl (zl_cons (.lit _) rfl (zl_cons (.lit _) rfl (zl_cons (.lit _) rfl (zl_cons (.lit _) rfl (zl_cons (.lit _) rfl (zl_cons (.lit _) rfl (zl_cons (.lit _) rfl (zl_cons (.lit _) rfl (zl_cons (.lit _) rfl (zl_cons (.lit _) rfl (zl_nil))))))))))))
theorem zv173:zer 173= .agg [.lit (.int .u64 0),.lit (.int .u64 0),.lit (.int .u32 0),.lit (.int .u8 0),.lit (.int .u8 0),.lit (.int .u8 0),.lit (.int .u8 0),.lit .nilFunc,.lit (.pointer none),.lit (.int .i32 0),.lit (.int .i32 0)]:=rfl
theorem zr174:ZerOk Tryz.prog (174,.agg [.lit (.int .u64 0),.lit (.int .u64 0),.lit (.int .u32 0),.lit (.int .u8 0),.lit (.int .u8 0),.lit (.int .u8 0),.lit (.int .u8 0),.lit .nilFunc,.lit (.pointer none),.lit (.int .i32 0),.lit (.int .i32 0)]):=fun v h=>by
  rw [show zeroT Tryz.prog 174=some (.agg #[(.int .u64 0),(.int .u64 0),(.int .u32 0),(.int .u8 0),(.int .u8 0),(.int .u8 0),(.int .u8 0),.nilFunc,(.pointer none),(.int .i32 0),(.int .i32 0)]) from by kernel_rfl] at h;cases h
  exact zr_agg _ _ (zl_cons (.lit _) rfl (zl_cons (.lit _) rfl (zl_cons (.lit _) rfl (zl_cons (.lit _) rfl (zl_cons (.lit _) rfl (zl_cons (.lit _) rfl (zl_cons (.lit _) rfl (zl_cons (.lit _) rfl (zl_cons (.lit _) rfl (zl_cons (.lit _) rfl (zl_cons (.lit _) rfl (zl_nil))))))))))))
theorem zv174:zer 174= .agg [.lit (.int .u64 0),.lit (.int .u64 0),.lit (.int .u32 0),.lit (.int .u8 0),.lit (.int .u8 0),.lit (.int .u8 0),.lit (.int .u8 0),.lit .nilFunc,.lit (.pointer none),.lit (.int .i32 0),.lit (.int .i32 0)]:=rfl
theorem zr175:ZerOk Tryz.prog (175,.sl true 2 []):=fun v h=>by
  rw [show zeroT Tryz.prog 175=some (.slice none 0 0) from by kernel_rfl] at h;cases h;exact .nil _ _ _
theorem zv175:zer 175= .sl true 2 []:=rfl
theorem zr176:ZerOk Tryz.prog (176,.agg [.lit (.int .i64 0),.sl true 2 []]):=fun v h=>by
  rw [show zeroT Tryz.prog 176=some (.agg #[(.int .i64 0),(.slice none 0 0)]) from by kernel_rfl] at h;cases h
  exact zr_agg _ _ (zl_cons (.lit _) rfl (zl_cons (.nil _ _ _) rfl (zl_nil)))
theorem zv176:zer 176= .agg [.lit (.int .i64 0),.sl true 2 []]:=rfl
theorem zr177:ZerOk Tryz.prog (177,.agg [.lit (.int .i64 0),.sl true 2 []]):=fun v h=>by
  rw [show zeroT Tryz.prog 177=some (.agg #[(.int .i64 0),(.slice none 0 0)]) from by kernel_rfl] at h;cases h
  exact zr_agg _ _ (zl_cons (.lit _) rfl (zl_cons (.nil _ _ _) rfl (zl_nil)))
theorem zv177:zer 177= .agg [.lit (.int .i64 0),.sl true 2 []]:=rfl
theorem zr179:ZerOk Tryz.prog (179,.agg [.lit (.string ByteArray.empty),.lit (.int .i64 0)]):=fun v h=>by
  rw [show zeroT Tryz.prog 179=some (.agg #[(.string ByteArray.empty),(.int .i64 0)]) from by kernel_rfl] at h;cases h
  exact zr_agg _ _ (zl_cons (.lit _) rfl (zl_cons (.lit _) rfl (zl_nil)))
theorem zv179:zer 179= .agg [.lit (.string ByteArray.empty),.lit (.int .i64 0)]:=rfl
theorem zr180:ZerOk Tryz.prog (180,.agg [.lit (.string ByteArray.empty),.lit (.int .i64 0)]):=fun v h=>by
  rw [show zeroT Tryz.prog 180=some (.agg #[(.string ByteArray.empty),(.int .i64 0)]) from by kernel_rfl] at h;cases h
  exact zr_agg _ _ (zl_cons (.lit _) rfl (zl_cons (.lit _) rfl (zl_nil)))
theorem zv180:zer 180= .agg [.lit (.string ByteArray.empty),.lit (.int .i64 0)]:=rfl
theorem zer_ok:∀ t v,zeroT Tryz.prog t=some v→RC (fun _ _=>none) (zer t) v:=zer_sound zerL (zs_cons zr2 (zs_cons zr3 (zs_cons zr4 (zs_cons zr5 (zs_cons zr6 (zs_cons zr7 (zs_cons zr8 (zs_cons zr9 (zs_cons zr10 (zs_cons zr11 (zs_cons zr12 (zs_cons zr13 (zs_cons zr14 (zs_cons zr15 (zs_cons zr16 (zs_cons zr17 (zs_cons zr18 (zs_cons zr19 (zs_cons zr21 (zs_cons zr22 (zs_cons zr23 (zs_cons zr30 (zs_cons zr31 (zs_cons zr33 (zs_cons zr39 (zs_cons zr42 (zs_cons zr49 (zs_cons zr50 (zs_cons zr51 (zs_cons zr52 (zs_cons zr53 (zs_cons zr54 (zs_cons zr55 (zs_cons zr56 (zs_cons zr57 (zs_cons zr58 (zs_cons zr59 (zs_cons zr69 (zs_cons zr70 (zs_cons zr71 (zs_cons zr77 (zs_cons zr78 (zs_cons zr91 (zs_cons zr92 (zs_cons zr111 (zs_cons zr121 (zs_cons zr122 (zs_cons zr123 (zs_cons zr142 (zs_cons zr143 (zs_cons zr152 (zs_cons zr160 (zs_cons zr161 (zs_cons zr166 (zs_cons zr167 (zs_cons zr168 (zs_cons zr170 (zs_cons zr171 (zs_cons zr172 (zs_cons zr173 (zs_cons zr174 (zs_cons zr175 (zs_cons zr176 (zs_cons zr177 (zs_cons zr179 (zs_cons zr180 (zs_nil)))))))))))))))))))))))))))))))))))))))))))))))))))))))))))))))))))
theorem mixed:Tryz.prog.follows .mixedOrders=true:=by kernel_rfl
theorem fk9:fok Tryz.prog 9=true:=by kernel_rfl
theorem fk10:fok Tryz.prog 10=true:=by kernel_rfl
theorem fk11:fok Tryz.prog 11=true:=by kernel_rfl
theorem fk12:fok Tryz.prog 12=true:=by kernel_rfl
theorem fk13:fok Tryz.prog 13=true:=by kernel_rfl
theorem fk14:fok Tryz.prog 14=true:=by kernel_rfl
theorem fk15:fok Tryz.prog 15=true:=by kernel_rfl
theorem fk16:fok Tryz.prog 16=true:=by kernel_rfl
theorem fk17:fok Tryz.prog 17=true:=by kernel_rfl
theorem fk18:fok Tryz.prog 18=true:=by kernel_rfl
theorem fk19:fok Tryz.prog 19=true:=by kernel_rfl
theorem fk20:fok Tryz.prog 20=true:=by kernel_rfl
theorem fk21:fok Tryz.prog 21=true:=by kernel_rfl
theorem fk22:fok Tryz.prog 22=true:=by kernel_rfl
theorem fk23:fok Tryz.prog 23=true:=by kernel_rfl
theorem fk24:fok Tryz.prog 24=true:=by kernel_rfl
theorem fk25:fok Tryz.prog 25=true:=by kernel_rfl
theorem fk26:fok Tryz.prog 26=true:=by kernel_rfl
theorem fk28:fok Tryz.prog 28=true:=by kernel_rfl
theorem fk33:fok Tryz.prog 33=true:=by kernel_rfl
theorem fk34:fok Tryz.prog 34=true:=by kernel_rfl
theorem fk35:fok Tryz.prog 35=true:=by kernel_rfl
theorem fk37:fok Tryz.prog 37=true:=by kernel_rfl
theorem fk38:fok Tryz.prog 38=true:=by kernel_rfl
theorem fk39:fok Tryz.prog 39=true:=by kernel_rfl
theorem fk40:fok Tryz.prog 40=true:=by kernel_rfl
theorem fk41:fok Tryz.prog 41=true:=by kernel_rfl
theorem fk42:fok Tryz.prog 42=true:=by kernel_rfl
theorem fk43:fok Tryz.prog 43=true:=by kernel_rfl
theorem fk44:fok Tryz.prog 44=true:=by kernel_rfl
theorem fk45:fok Tryz.prog 45=true:=by kernel_rfl
theorem fk46:fok Tryz.prog 46=true:=by kernel_rfl
theorem fk47:fok Tryz.prog 47=true:=by kernel_rfl
theorem fk48:fok Tryz.prog 48=true:=by kernel_rfl
theorem fk49:fok Tryz.prog 49=true:=by kernel_rfl
theorem fk50:fok Tryz.prog 50=true:=by kernel_rfl
theorem fk51:fok Tryz.prog 51=true:=by kernel_rfl
theorem fk52:fok Tryz.prog 52=true:=by kernel_rfl
theorem fk53:fok Tryz.prog 53=true:=by kernel_rfl
theorem fk54:fok Tryz.prog 54=true:=by kernel_rfl
theorem fk55:fok Tryz.prog 55=true:=by kernel_rfl
theorem fk56:fok Tryz.prog 56=true:=by kernel_rfl
theorem fk57:fok Tryz.prog 57=true:=by kernel_rfl
theorem fk60:fok Tryz.prog 60=true:=by kernel_rfl
theorem fk63:fok Tryz.prog 63=true:=by kernel_rfl
theorem fk64:fok Tryz.prog 64=true:=by kernel_rfl
theorem fk65:fok Tryz.prog 65=true:=by kernel_rfl
theorem fk66:fok Tryz.prog 66=true:=by kernel_rfl
theorem fk67:fok Tryz.prog 67=true:=by kernel_rfl
theorem fk68:fok Tryz.prog 68=true:=by kernel_rfl
theorem fk69:fok Tryz.prog 69=true:=by kernel_rfl
theorem fk70:fok Tryz.prog 70=true:=by kernel_rfl
theorem fk71:fok Tryz.prog 71=true:=by kernel_rfl
theorem fk72:fok Tryz.prog 72=true:=by kernel_rfl
theorem fk73:fok Tryz.prog 73=true:=by kernel_rfl
theorem fk74:fok Tryz.prog 74=true:=by kernel_rfl
theorem fk75:fok Tryz.prog 75=true:=by kernel_rfl
theorem fk77:fok Tryz.prog 77=true:=by kernel_rfl
theorem fk78:fok Tryz.prog 78=true:=by kernel_rfl
theorem fk79:fok Tryz.prog 79=true:=by kernel_rfl
theorem fk80:fok Tryz.prog 80=true:=by kernel_rfl
theorem fk81:fok Tryz.prog 81=true:=by kernel_rfl
theorem fk83:fok Tryz.prog 83=true:=by kernel_rfl
theorem fk84:fok Tryz.prog 84=true:=by kernel_rfl
theorem fk85:fok Tryz.prog 85=true:=by kernel_rfl
theorem fk86:fok Tryz.prog 86=true:=by kernel_rfl
theorem fk87:fok Tryz.prog 87=true:=by kernel_rfl
theorem fk88:fok Tryz.prog 88=true:=by kernel_rfl
theorem fk89:fok Tryz.prog 89=true:=by kernel_rfl
theorem fk90:fok Tryz.prog 90=true:=by kernel_rfl
theorem fk91:fok Tryz.prog 91=true:=by kernel_rfl
theorem fk92:fok Tryz.prog 92=true:=by kernel_rfl
theorem fk93:fok Tryz.prog 93=true:=by kernel_rfl
theorem fk94:fok Tryz.prog 94=true:=by kernel_rfl
theorem fk95:fok Tryz.prog 95=true:=by kernel_rfl
theorem fk96:fok Tryz.prog 96=true:=by kernel_rfl
theorem fk97:fok Tryz.prog 97=true:=by kernel_rfl
theorem fk98:fok Tryz.prog 98=true:=by kernel_rfl
theorem fk102:fok Tryz.prog 102=true:=by kernel_rfl
theorem fk107:fok Tryz.prog 107=true:=by kernel_rfl
theorem fk108:fok Tryz.prog 108=true:=by kernel_rfl
theorem fk111:fok Tryz.prog 111=true:=by kernel_rfl
theorem fk112:fok Tryz.prog 112=true:=by kernel_rfl
theorem fk113:fok Tryz.prog 113=true:=by kernel_rfl
theorem fk114:fok Tryz.prog 114=true:=by kernel_rfl
theorem fk115:fok Tryz.prog 115=true:=by kernel_rfl
theorem fk116:fok Tryz.prog 116=true:=by kernel_rfl
theorem fk117:fok Tryz.prog 117=true:=by kernel_rfl
theorem fk125:fok Tryz.prog 125=true:=by kernel_rfl
theorem fk126:fok Tryz.prog 126=true:=by kernel_rfl
theorem fk127:fok Tryz.prog 127=true:=by kernel_rfl
attribute [go_sem] u2 sz2 by2 ag2 so2 iz2 zk2 iu2 u3 sz3 by3 ag3 so3 iz3 zk3 iu3 u4 sz4 by4 ag4 so4 iz4 zk4 iu4 u5 sz5 by5 ag5 so5 iz5 zk5 iu5 u6 sz6 by6 ag6 so6 iz6 zk6 iu6 sz7 by7 ag7 so7 fl7_0 fl7_1 fl7_2 fl7_3 se7 iz7 zk7 iu7 sz8 by8 ag8 so8 fl8_0 fl8_1 fl8_2 fl8_3 se8 iz8 zk8 iu8 u9 sz9 by9 ag9 so9 iz9 zk9 iu9 u10 sz10 by10 ag10 so10 iz10 zk10 iu10 u11 sz11 by11 ag11 so11 iz11 zk11 iu11 u12 sz12 by12 ag12 so12 iz12 zk12 iu12 sz13 by13 ag13 so13 fl13_0 fl13_1 iz13 zk13 iu13 sz14 by14 ag14 so14 fl14_0 fl14_1 iz14 zk14 iu14 u15 sz15 by15 ag15 so15 iz15 zk15 iu15 u16 sz16 by16 ag16 so16 iz16 zk16 iu16 u17 sz17 by17 ag17 so17 iz17 zk17 iu17 sz18 by18 ag18 so18 fl18_0 iz18 zk18 iu18 sz19 by19 ag19 so19 fl19_0 iz19 zk19 iu19 u21 sz21 by21 ag21 so21 iz21 zk21 iu21 u22 sz22 by22 ag22 so22 iz22 zk22 iu22 ap22 u23 sz23 by23 ag23 so23 iz23 zk23 iu23 ap23 sz30 by30 ag30 so30 fl30_0 fl30_1 fl30_2 iz30 zk30 iu30 sz31 by31 ag31 so31 fl31_0 fl31_1 fl31_2 iz31 zk31 iu31 u33 sz33 by33 ag33 so33 iz33 zk33 iu33 u39 sz39 by39 ag39 so39 iz39 zk39 iu39 u42 sz42 by42 ag42 so42 iz42 zk42 iu42 ap42 u49 sz49 by49 ag49 so49 iz49 zk49 iu49 ap49 u50 sz50 by50 ag50 so50 iz50 zk50 iu50 ap50 sz51 by51 ag51 so51 fl51_0 fl51_1 iz51 zk51 iu51 sz52 by52 ag52 so52 fl52_0 fl52_1 iz52 zk52 iu52 sz53 by53 ag53 so53 fl53_0 fl53_1 iz53 zk53 iu53 sz54 by54 ag54 so54 fl54_0 fl54_1 iz54 zk54 iu54 sz55 by55 ag55 so55 fl55_0 fl55_1 fl55_2 fl55_3 fl55_4 fl55_5 fl55_6 fl55_7 fl55_8 fl55_9 iz55 zk55 iu55 sz56 by56 ag56 so56 fl56_0 fl56_1 fl56_2 fl56_3 fl56_4 fl56_5 fl56_6 fl56_7 fl56_8 fl56_9 iz56 zk56 iu56 sz57 by57 ag57 so57 fl57_0 fl57_1 fl57_2 iz57 zk57 iu57 sz58 by58 ag58 so58 fl58_0 fl58_1 fl58_2 iz58 zk58 iu58 u59 sz59 by59 ag59 so59 iz59 zk59 iu59 ap59 u69 sz69 by69 ag69 so69 iz69 zk69 iu69 sz70 by70 ag70 so70 fl70_0 fl70_1 iz70 zk70 iu70 sz71 by71 ag71 so71 fl71_0 fl71_1 iz71 zk71 iu71 sz77 by77 ag77 so77 fl77_0 fl77_1 fl77_2 iz77 zk77 iu77 sz78 by78 ag78 so78 fl78_0 fl78_1 fl78_2 iz78 zk78 iu78 sz91 by91 ag91 so91 fl91_0 fl91_1 fl91_2 iz91 zk91 iu91 sz92 by92 ag92 so92 fl92_0 fl92_1 fl92_2 iz92 zk92 iu92 u111 sz111 by111 ag111 so111 iz111 zk111 iu111 ap111 sz121 by121 ag121 so121 fl121_0 fl121_1 fl121_2 iz121 zk121 iu121 sz122 by122 ag122 so122 fl122_0 fl122_1 fl122_2 iz122 zk122 iu122 u123 sz123 by123 ag123 so123 iz123 zk123 iu123 sz142 by142 ag142 so142 fl142_0 fl142_1 fl142_2 fl142_3 fl142_4 iz142 zk142 iu142 sz143 by143 ag143 so143 fl143_0 fl143_1 fl143_2 fl143_3 fl143_4 iz143 zk143 iu143 u152 sz152 by152 ag152 so152 iz152 zk152 iu152 ap152 sz160 by160 ag160 so160 fl160_0 fl160_1 fl160_2 fl160_3 iz160 zk160 iu160 sz161 by161 ag161 so161 fl161_0 fl161_1 fl161_2 fl161_3 iz161 zk161 iu161 u162 sz162 by162 ag162 so162 iz162 zk162 iu162 sz163 by163 ag163 so163 fl163_0 iz163 zk163 iu163 sz164 by164 ag164 so164 fl164_0 iz164 zk164 iu164 u166 sz166 by166 ag166 so166 iz166 zk166 iu166 u167 sz167 by167 ag167 so167 iz167 zk167 iu167 u168 sz168 by168 ag168 so168 iz168 zk168 iu168 u170 sz170 by170 ag170 so170 iz170 zk170 iu170 u171 sz171 by171 ag171 so171 iz171 zk171 iu171 u172 sz172 by172 ag172 so172 iz172 zk172 iu172 sz173 by173 ag173 so173 fl173_0 fl173_1 fl173_2 fl173_3 fl173_4 fl173_5 fl173_6 fl173_7 fl173_8 fl173_9 fl173_10 iz173 zk173 iu173 sz174 by174 ag174 so174 fl174_0 fl174_1 fl174_2 fl174_3 fl174_4 fl174_5 fl174_6 fl174_7 fl174_8 fl174_9 fl174_10 iz174 zk174 iu174 u175 sz175 by175 ag175 so175 iz175 zk175 iu175 ap175 sz176 by176 ag176 so176 fl176_0 fl176_1 iz176 zk176 iu176 sz177 by177 ag177 so177 fl177_0 fl177_1 iz177 zk177 iu177 sz179 by179 ag179 so179 fl179_0 fl179_1 se179 iz179 zk179 iu179 sz180 by180 ag180 so180 fl180_0 fl180_1 se180 iz180 zk180 iu180 if20 zv2 zv3 zv4 zv5 zv6 zv7 zv8 zv9 zv10 zv11 zv12 zv13 zv14 zv15 zv16 zv17 zv18 zv19 zv21 zv22 zv23 zv30 zv31 zv33 zv39 zv42 zv49 zv50 zv51 zv52 zv53 zv54 zv55 zv56 zv57 zv58 zv59 zv69 zv70 zv71 zv77 zv78 zv91 zv92 zv111 zv121 zv122 zv123 zv142 zv143 zv152 zv160 zv161 zv166 zv167 zv168 zv170 zv171 zv172 zv173 zv174 zv175 zv176 zv177 zv179 zv180
end Go.Proofs.YtcpjahmajkhchaaGreat

namespace Go.Proofs.YtcpjahmajkhchaaGreat
open Go Go.Fw
set_option maxRecDepth 20000
def sInt:ByteArray:=⟨#[105,110,116]⟩
def sBool:ByteArray:=⟨#[98,111,111,108]⟩
def el (n:Int):Prop:= -2147483648≤n∧n≤2147483647
def vld (s:ByteArray) (n:Int):Bool:=if eqS s sInt=true then decide (-2147483648≤n∧n≤2147483647) else if eqS s sBool=true then decide (n=0∨n=1) else false
def badD (d:Int):Bool:=decide (d<0)||decide (d>4096)
def prodS:List Int→Int→Int×Int
  |[],n=>(n,0)
  |d::t,n=>if n*d>4096 then (0,3) else prodS t (n*d)
def sizeS (l:List Int):Int×Int:=if l.length>6 then (0,13) else if l.any badD=true then (0,2) else if l.any (fun d=>0==d)=true then (0,0) else prodS l 1
structure Arr where
  e:ByteArray
  d:List Int
  x:List Int
def arrV (a:Arr):AV:= .agg [.lit (.string a.e),.sl false 1 (ints .i64 a.d),.sl false 1 (ints .i64 a.x)]
def nilA:Arr:=⟨⟨#[]⟩,[],[]⟩
instance:Inhabited Arr:=⟨nilA⟩
def arrs (l:List Arr):List AV:=l.map arrV
def ofE (a:Arr):Int:=if (eqS a.e sInt||eqS a.e sBool)=false then 12 else if (sizeS a.d).2≠0 then (sizeS a.d).2 else if (a.x.length:Int)≠(sizeS a.d).1 then 1 else if a.x.any (fun n=> !vld a.e n)=true then 2 else 0
def ofS (a:Arr):Arr×Int:=if ofE a=0 then (a,0) else (nilA,ofE a)
def splitS (a:Arr) (r:Int):List Int×List Int×Int:=if ofE a≠0 then ([],[],1) else if r<0∨r>a.d.length then ([],[],13) else (a.d.take (a.d.length - r.toNat),a.d.drop (a.d.length - r.toNat),0)
theorem prodS_bd {l:List Int} {n:Int} (hl:∀ d∈l,0≤d∧d≤4096) (hn:0≤n∧n≤4096):0≤(prodS l n).1∧(prodS l n).1≤4096:=by
  induction l generalizing n with
  |nil=>exact hn
  |cons d t ih=>
   unfold prodS
   split
   ·exact ⟨by decide,by decide⟩
   ·rename_i h
    have h1:=hl d (by simp)
    exact ih (fun x hx=>hl x (by simp [hx])) ⟨Int.mul_nonneg hn.1 h1.1,by omega⟩
theorem bad_no {l:List Int} (h: ¬ l.any badD=true):∀ d∈l,0≤d∧d≤4096:=by
  intro d hd
  have: ¬ badD d=true:=fun hb=>h (List.any_eq_true.2 ⟨d,hd,hb⟩)
  unfold badD at this
  simp only [Bool.or_eq_true,decide_eq_true_eq,not_or] at this
  omega
theorem sizeS_bd (l:List Int):0≤(sizeS l).1∧(sizeS l).1≤4096:=by
  unfold sizeS
  split
  ·exact ⟨by decide,by decide⟩
  split
  ·exact ⟨by decide,by decide⟩
  split
  ·exact ⟨by decide,by decide⟩
  rename_i h _
  exact prodS_bd (bad_no h) ⟨by decide,by decide⟩
theorem arrs_length (l:List Arr):(arrs l).length=l.length:=by simp [arrs]
theorem arrs_getD (l:List Arr) (i:Nat) (h:i<l.length):(arrs l).getD i .top=arrV (l.getD i nilA):=by simp [arrs,List.getD,h]
theorem drop_getD {α:Type} {l:List α} {i:Nat} (z:α) (h:i<l.length):l.drop i=l.getD i z::l.drop (i+1):=by
  rw [List.drop_eq_getElem_cons h];simp [List.getD,h]
end Go.Proofs.YtcpjahmajkhchaaGreat

namespace Go.Proofs.YtcpjahmajkhchaaGreat
open Go Go.Fw
set_option maxRecDepth 20000
noncomputable def E0:Env:=envOf (P:=Tryz.prog) zer (fun _=>false) (fun _=>false) [] []
theorem E0_ok:EnvOk Tryz.prog E0:=envOk zer_ok
theorem eqS_iff {a b:ByteArray}:eqS a b=true ↔ a=b:=by
  unfold eqS
  rw [beq_iff_eq]
  constructor
  ·intro h
   apply ByteArray.ext
   apply Array.ext'
   simpa using h
  ·intro h;rw [h]
theorem eqS_refl (b:ByteArray):eqS b b=true:=eqS_iff.2 rfl
theorem vld_pc {f:FuncId} {s:ByteArray} {n:Int} (hf:f=40∨f=38):PC Tryz.prog f [.lit (.string s),.lit (.int .i64 n)] (.lit (.bool (vld s n))):=by
  unfold vld sInt sBool
  by_cases h1:eqS s ⟨#[105,110,116]⟩=true
  ·have hs:s=⟨#[105,110,116]⟩:=eqS_iff.1 h1
   have h2:eqS s ⟨#[98,111,111,108]⟩=false:=by rw [hs];rfl
   rw [if_pos h1]
   by_cases h3:n≥ -2147483648
   ·have z3:decide (n≥ -2147483648)=true:=decide_eq_true h3
    have e:decide (-2147483648≤n∧n≤2147483647)=decide (n≤2147483647):=by simp;omega
    rw [e]
    rcases hf with rfl|rfl
    ·skip
     refine pcO E0_ok (fun _=>[0,1,4,5,6,14]) Tryz.func40 (h:=fun KF=>?_)
     unfold E0
     repeat' (first
      |(with_reducible first|refine t_seq fun K=>?_|refine nx ?_|refine t_br (fun hc=>?_) fun hc=>?_)|exact kpd
      |((with_reducible first|refine ny ?_|refine t_kLF ?_ ?_|refine t_region fun K=>?_|refine t_cond fun A B=>?_|refine t_dw (h:=fun K=>?_));simp only [go_sem,geff,h1,h2,z3])
      |simp only [thenQ,blockQ,scopeQ,Nat.reduceEqDiff,reduceIte]|(with_reducible first|refine And.intro ?_ ?_|intro vr))
     refine end_ret rfl ?_
     simp only [fin,go_sem]
     exact LeA.refl _
    ·skip
     refine pcO E0_ok (fun _=>[0,1,4,6]) Tryz.func38 (h:=fun KF=>?_)
     unfold E0
     repeat' (first
      |(with_reducible first|refine t_seq fun K=>?_|refine nx ?_|refine t_br (fun hc=>?_) fun hc=>?_)|exact kpd
      |((with_reducible first|refine ny ?_|refine t_kLF ?_ ?_|refine t_region fun K=>?_|refine t_cond fun A B=>?_|refine t_dw (h:=fun K=>?_));simp only [go_sem,geff,h1,h2,z3])
      |simp only [thenQ,blockQ,scopeQ,Nat.reduceEqDiff,reduceIte]|(with_reducible first|refine And.intro ?_ ?_|intro vr))
     refine end_ret rfl ?_
     simp only [fin,go_sem]
     exact LeA.refl _
   ·have z3:decide (n≥ -2147483648)=false:=decide_eq_false h3
    have e:decide (-2147483648≤n∧n≤2147483647)=false:=by simp;omega
    rw [e]
    rcases hf with rfl|rfl
    ·skip
     refine pcO E0_ok (fun _=>[0,1,4,5,6,14]) Tryz.func40 (h:=fun KF=>?_)
     unfold E0
     repeat' (first
      |(with_reducible first|refine t_seq fun K=>?_|refine nx ?_|refine t_br (fun hc=>?_) fun hc=>?_)|exact kpd
      |((with_reducible first|refine ny ?_|refine t_kLF ?_ ?_|refine t_region fun K=>?_|refine t_cond fun A B=>?_|refine t_dw (h:=fun K=>?_));simp only [go_sem,geff,h1,h2,z3])
      |simp only [thenQ,blockQ,scopeQ,Nat.reduceEqDiff,reduceIte]|(with_reducible first|refine And.intro ?_ ?_|intro vr))
     refine end_ret rfl ?_
     simp only [fin,go_sem]
     exact LeA.refl _
    ·skip
     refine pcO E0_ok (fun _=>[0,1,4,6]) Tryz.func38 (h:=fun KF=>?_)
     unfold E0
     repeat' (first
      |(with_reducible first|refine t_seq fun K=>?_|refine nx ?_|refine t_br (fun hc=>?_) fun hc=>?_)|exact kpd
      |((with_reducible first|refine ny ?_|refine t_kLF ?_ ?_|refine t_region fun K=>?_|refine t_cond fun A B=>?_|refine t_dw (h:=fun K=>?_));simp only [go_sem,geff,h1,h2,z3])
      |simp only [thenQ,blockQ,scopeQ,Nat.reduceEqDiff,reduceIte]|(with_reducible first|refine And.intro ?_ ?_|intro vr))
     refine end_ret rfl ?_
     simp only [fin,go_sem]
     exact LeA.refl _
  ·have h1':eqS s ⟨#[105,110,116]⟩=false:=by simpa using h1
   rw [if_neg h1]
   by_cases h2:eqS s ⟨#[98,111,111,108]⟩=true
   ·rw [if_pos h2]
    by_cases h3:n=0
    ·have z3:(n==0)=true:=by rw [beq_iff_eq];exact h3
     have e:decide (n=0∨n=1)=true:=decide_eq_true (.inl h3)
     rw [e]
     rcases hf with rfl|rfl
     ·skip
      refine pcO E0_ok (fun _=>[0,1,4,5,6,14]) Tryz.func40 (h:=fun KF=>?_)
      unfold E0
      repeat' (first
       |(with_reducible first|refine t_seq fun K=>?_|refine nx ?_|refine t_br (fun hc=>?_) fun hc=>?_)|exact kpd
       |((with_reducible first|refine ny ?_|refine t_kLF ?_ ?_|refine t_region fun K=>?_|refine t_cond fun A B=>?_|refine t_dw (h:=fun K=>?_));simp only [go_sem,geff,h1',h2,z3])
       |simp only [thenQ,blockQ,scopeQ,Nat.reduceEqDiff,reduceIte]|(with_reducible first|refine And.intro ?_ ?_|intro vr))
      refine end_ret rfl ?_
      simp only [fin,go_sem]
      exact LeA.refl _
     ·skip
      refine pcO E0_ok (fun _=>[0,1,4,6]) Tryz.func38 (h:=fun KF=>?_)
      unfold E0
      repeat' (first
       |(with_reducible first|refine t_seq fun K=>?_|refine nx ?_|refine t_br (fun hc=>?_) fun hc=>?_)|exact kpd
       |((with_reducible first|refine ny ?_|refine t_kLF ?_ ?_|refine t_region fun K=>?_|refine t_cond fun A B=>?_|refine t_dw (h:=fun K=>?_));simp only [go_sem,geff,h1',h2,z3])
       |simp only [thenQ,blockQ,scopeQ,Nat.reduceEqDiff,reduceIte]|(with_reducible first|refine And.intro ?_ ?_|intro vr))
      refine end_ret rfl ?_
      simp only [fin,go_sem]
      exact LeA.refl _
    ·have z3:(n==0)=false:=by rw [beq_eq_false_iff_ne];exact h3
     have e:decide (n=0∨n=1)=(n==1):=by
       by_cases h4:n=1
       ·subst h4;rfl
       ·rw [decide_eq_false (by omega)];symm;rw [beq_eq_false_iff_ne];exact h4
     rw [e]
     rcases hf with rfl|rfl
     ·skip
      refine pcO E0_ok (fun _=>[0,1,4,5,6,14]) Tryz.func40 (h:=fun KF=>?_)
      unfold E0
      repeat' (first
       |(with_reducible first|refine t_seq fun K=>?_|refine nx ?_|refine t_br (fun hc=>?_) fun hc=>?_)|exact kpd
       |((with_reducible first|refine ny ?_|refine t_kLF ?_ ?_|refine t_region fun K=>?_|refine t_cond fun A B=>?_|refine t_dw (h:=fun K=>?_));simp only [go_sem,geff,h1',h2,z3])
       |simp only [thenQ,blockQ,scopeQ,Nat.reduceEqDiff,reduceIte]|(with_reducible first|refine And.intro ?_ ?_|intro vr))
      refine end_ret rfl ?_
      simp only [fin,go_sem]
      exact LeA.refl _
     ·skip
      refine pcO E0_ok (fun _=>[0,1,4,6]) Tryz.func38 (h:=fun KF=>?_)
      unfold E0
      repeat' (first
       |(with_reducible first|refine t_seq fun K=>?_|refine nx ?_|refine t_br (fun hc=>?_) fun hc=>?_)|exact kpd
       |((with_reducible first|refine ny ?_|refine t_kLF ?_ ?_|refine t_region fun K=>?_|refine t_cond fun A B=>?_|refine t_dw (h:=fun K=>?_));simp only [go_sem,geff,h1',h2,z3])
       |simp only [thenQ,blockQ,scopeQ,Nat.reduceEqDiff,reduceIte]|(with_reducible first|refine And.intro ?_ ?_|intro vr))
      refine end_ret rfl ?_
      simp only [fin,go_sem]
      exact LeA.refl _
   ·have h2':eqS s ⟨#[98,111,111,108]⟩=false:=by simpa using h2
    rw [if_neg h2]
    rcases hf with rfl|rfl
    ·skip
     refine pcO E0_ok (fun _=>[0,1,4,5,6,14]) Tryz.func40 (h:=fun KF=>?_)
     unfold E0
     repeat' (first
      |(with_reducible first|refine t_seq fun K=>?_|refine nx ?_|refine t_br (fun hc=>?_) fun hc=>?_)|exact kpd
      |((with_reducible first|refine ny ?_|refine t_kLF ?_ ?_|refine t_region fun K=>?_|refine t_cond fun A B=>?_|refine t_dw (h:=fun K=>?_));simp only [go_sem,geff,h1',h2'])
      |simp only [thenQ,blockQ,scopeQ,Nat.reduceEqDiff,reduceIte]|(with_reducible first|refine And.intro ?_ ?_|intro vr))
     refine end_ret rfl ?_
     simp only [fin,go_sem]
     exact LeA.refl _
    ·skip
     refine pcO E0_ok (fun _=>[0,1,4,6]) Tryz.func38 (h:=fun KF=>?_)
     unfold E0
     repeat' (first
      |(with_reducible first|refine t_seq fun K=>?_|refine nx ?_|refine t_br (fun hc=>?_) fun hc=>?_)|exact kpd
      |((with_reducible first|refine ny ?_|refine t_kLF ?_ ?_|refine t_region fun K=>?_|refine t_cond fun A B=>?_|refine t_dw (h:=fun K=>?_));simp only [go_sem,geff,h1',h2'])
      |simp only [thenQ,blockQ,scopeQ,Nat.reduceEqDiff,reduceIte]|(with_reducible first|refine And.intro ?_ ?_|intro vr))
     refine end_ret rfl ?_
     simp only [fin,go_sem]
     exact LeA.refl _
noncomputable def con40:PCon Tryz.prog where
  f:=40
  c:=fun
   |[.lit (.string s),.lit (.int .i64 n)]=>some (True,.lit (.bool (vld s n)))
   |_=>none
  ok:=by
   intro args p r hc hp
   split at hc
   ·cases hc;exact (vld_pc (.inl rfl))
   ·cases hc
  fk:=fk40
theorem con40_f:con40.f=40:=rfl
theorem con40_c {s:ByteArray} {n:Int}:con40.c [.lit (.string s),.lit (.int .i64 n)]=some (True,.lit (.bool (vld s n))):=rfl
noncomputable def con38:PCon Tryz.prog where
  f:=38
  c:=fun
   |[.lit (.string s),.lit (.int .i64 n)]=>some (True,.lit (.bool (vld s n)))
   |_=>none
  ok:=by
   intro args p r hc hp
   split at hc
   ·cases hc;exact (vld_pc (.inr rfl))
   ·cases hc
  fk:=fk38
theorem con38_f:con38.f=38:=rfl
theorem con38_c {s:ByteArray} {n:Int}:con38.c [.lit (.string s),.lit (.int .i64 n)]=some (True,.lit (.bool (vld s n))):=rfl
def idxG (p:Int→Bool):List Int→Int→Int
  |[],_=> -1
  |d::t,i=>if p d=true then i else idxG p t (i+1)
theorem idxG_any (p:Int→Bool):∀ (l:List Int) (i:Int),0≤i→decide (idxG p l i≥0)=l.any p
  |[],_,_=>rfl
  |d::t,i,hi=>by
   unfold idxG
   by_cases h:p d=true
   ·rw [if_pos h,List.any_cons,h,decide_eq_true hi];rfl
   ·rw [if_neg h,idxG_any p t (i+1) (by omega),List.any_cons]
    simp only [Bool.not_eq_true] at h
    rw [h];rfl
theorem index_pc {l:List Int} {v:Int} (hl:l.length≤1000000):PC Tryz.prog 115 [.sl false 1 (ints .i64 l),.lit (.int .i64 v)] (.lit (.int .i64 (idxG (fun d=>v==d) l 0))):=by
  generalize hR:idxG (fun d=>v==d) l 0=R
  refine pcO E0_ok (fun _=>[0,1,4,5,7,8,9,16]) Tryz.func115 (h:=fun KF=>?_)
  unfold E0
  repeat' (first
   |(with_reducible first|refine t_seq fun K=>?_|refine nx ?_|refine t_br (fun hc=>?_) fun hc=>?_)|exact kpd
   |((with_reducible first|refine ny ?_|refine t_kLF ?_ ?_|refine t_region fun K=>?_|refine t_cond fun A B=>?_|refine t_dw (h:=fun K=>?_));simp only [go_sem,geff])
   |simp only [thenQ,blockQ,scopeQ,Nat.reduceEqDiff,reduceIte]|(with_reducible first|refine And.intro ?_ ?_|intro vr))
  refine t_loop (ι:={i:Nat // i≤l.length∧idxG (fun d=>v==d) (l.drop i) i=R}) (fun i=>⟨upd (upd (upd (upd topF 8 (.lit (.int .i64 i.1))) 7 (.lit (.int .i64 l.length))) 1 (.lit (.int .i64 v))) 0 (.sl false 1 (ints .i64 l)),[]⟩) (fun i=>l.length - i.1) ⟨0,by omega,hR⟩ ?_ ?_
  ·skip
   (refine Le.frame ?_;repeat' (first|exact leF_top _|(with_reducible refine leF_sl ?_ ?_)|(refine leF_upd (LeR.of_eq ?_) ?_)))<;>(try (simp only [go_sem];try rfl))
  ·rintro ⟨i,hi,hF⟩ K0
   rcases Nat.lt_or_ge i l.length with hc|hc
   ·have g1:decide ((i:Int)<(l.length:Int))=true:=decide_eq_true (by omega)
    have g2:=ints_getD .i64 l i hc
    rw [drop_getD 0 hc,idxG] at hF
    generalize l.getD i 0=d at g2 hF
    by_cases he:(v==d)=true
    ·rw [if_pos he] at hF
     subst hF
     repeat' (first
      |(with_reducible first|refine t_seq fun K=>?_|refine nx ?_|refine t_br (fun hc=>?_) fun hc=>?_)|exact kpd
      |((with_reducible first|refine ny ?_|refine t_kLF ?_ ?_|refine t_region fun K=>?_|refine t_cond fun A B=>?_|refine t_dw (h:=fun K=>?_));simp only [go_sem,geff,g1,g2,he,Int.toNat_natCast])
      |simp only [thenQ,blockQ,scopeQ,Nat.reduceEqDiff,reduceIte]|(with_reducible first|refine And.intro ?_ ?_|intro vr))
     all_goals try exact om
     refine end_ret rfl ?_
     simp only [fin,go_sem]
     exact LeA.refl _
    ·rw [if_neg he] at hF
     have he':(v==d)=false:=by simpa using he
     repeat' (first
      |(with_reducible first|refine t_seq fun K=>?_|refine nx ?_|refine t_br (fun hc=>?_) fun hc=>?_)|exact kpd
      |((with_reducible first|refine ny ?_|refine t_kLF ?_ ?_|refine t_region fun K=>?_|refine t_cond fun A B=>?_|refine t_dw (h:=fun K=>?_));simp only [go_sem,geff,g1,g2,he',Int.toNat_natCast])
      |simp only [thenQ,blockQ,scopeQ,Nat.reduceEqDiff,reduceIte]|(with_reducible first|refine And.intro ?_ ?_|intro vr))
     all_goals try exact om
     refine ⟨⟨i+1,by omega,by rw [←hF];congr 1⟩,by simp only;omega,?_⟩
     (refine Le.frame ?_;repeat' (first|exact leF_top _|(with_reducible refine leF_sl ?_ ?_)|(refine leF_upd (LeR.of_eq ?_) ?_)))<;>(try (simp only [go_sem];try rfl))
   ·have g1:decide ((i:Int)<(l.length:Int))=false:=decide_eq_false (by omega)
    rw [List.drop_eq_nil_of_le hc,idxG] at hF
    subst hF
    repeat' (first
     |(with_reducible first|refine t_seq fun K=>?_|refine nx ?_|refine t_br (fun hc=>?_) fun hc=>?_)|exact kpd
     |((with_reducible first|refine ny ?_|refine t_kLF ?_ ?_|refine t_region fun K=>?_|refine t_cond fun A B=>?_|refine t_dw (h:=fun K=>?_));simp only [go_sem,geff,g1])
     |simp only [thenQ,blockQ,scopeQ,Nat.reduceEqDiff,reduceIte]|(with_reducible first|refine And.intro ?_ ?_|intro vr))
    refine end_ret rfl ?_
    simp only [fin,go_sem]
    exact LeA.refl _
noncomputable def con115:PCon Tryz.prog where
  f:=115
  c:=fun
   |[xl,.lit (.int .i64 v)]=>match slK .i64 xl with|some l=>some (l.length≤1000000,.lit (.int .i64 (idxG (fun d=>v==d) l 0)))|_=>none
   |_=>none
  ok:=by
   intro args p r hc hp
   split at hc
   ·split at hc
    ·rename_i hl
     cases hc
     exact PC.weak (index_pc hp) ⟨slK_le hl,LeA.refl _,trivial⟩
    ·cases hc
   ·cases hc
  fk:=fk115
theorem con115_f:con115.f=115:=rfl
theorem con115_c {xl:AV} {v:Int}:con115.c [xl,.lit (.int .i64 v)]=match slK .i64 xl with|some l=>some (l.length≤1000000,.lit (.int .i64 (idxG (fun d=>v==d) l 0)))|_=>none:=rfl
noncomputable def E1:Env:=envOf (P:=Tryz.prog) zer (fun _=>false) (fun _=>false) [con115] []
theorem E1_ok:EnvOk Tryz.prog E1:=envOk zer_ok
theorem contains_pc {l:List Int} {v:Int} (hl:l.length≤1000000):PC Tryz.prog 92 [.sl false 1 (ints .i64 l),.lit (.int .i64 v)] (.lit (.bool (l.any fun d=>v==d))):=by
  have h:=idxG_any (fun d=>v==d) l 0 (by omega)
  refine pcO E1_ok (fun _=>[0,1,4]) Tryz.func92 (h:=fun KF=>?_)
  unfold E1
  repeat' (first
   |(with_reducible first|refine t_seq fun K=>?_|refine nx ?_|refine t_br (fun hc=>?_) fun hc=>?_)|exact kpd
   |((with_reducible first|refine ny ?_|refine t_kLF ?_ ?_|refine t_region fun K=>?_|refine t_cond fun A B=>?_|refine t_dw (h:=fun K=>?_));simp only [go_sem,geff,con115_f,con115_c,slK_sl,h])
   |simp only [thenQ,blockQ,scopeQ,Nat.reduceEqDiff,reduceIte]|(with_reducible first|refine And.intro ?_ ?_|intro vr))
  all_goals try exact om
  refine end_ret rfl ?_
  simp only [fin,go_sem]
  exact LeA.refl _
noncomputable def con92:PCon Tryz.prog where
  f:=92
  c:=fun
   |[xl,.lit (.int .i64 v)]=>match slK .i64 xl with|some l=>some (l.length≤1000000,.lit (.bool (l.any fun d=>v==d)))|_=>none
   |_=>none
  ok:=by
   intro args p r hc hp
   split at hc
   ·split at hc
    ·rename_i hl
     cases hc
     exact PC.weak (contains_pc hp) ⟨slK_le hl,LeA.refl _,trivial⟩
    ·cases hc
   ·cases hc
  fk:=fk92
theorem con92_f:con92.f=92:=rfl
theorem con92_c {xl:AV} {v:Int}:con92.c [xl,.lit (.int .i64 v)]=match slK .i64 xl with|some l=>some (l.length≤1000000,.lit (.bool (l.any fun d=>v==d)))|_=>none:=rfl
theorem clone_pc {l:List Int} (hl:l.length≤1000000):PC Tryz.prog 71 [.sl false 1 (ints .i64 l)] (.sl false 1 (ints .i64 l)):=by
  refine pcO E0_ok (fun _=>[0,2,4]) Tryz.func71 (h:=fun KF=>?_)
  unfold E0
  repeat' (first
   |(with_reducible first|refine t_seq fun K=>?_|refine nx ?_|refine t_br (fun hc=>?_) fun hc=>?_)|exact kpd
   |((with_reducible first|refine ny ?_|refine t_kLF ?_ ?_|refine t_region fun K=>?_|refine t_cond fun A B=>?_|refine t_dw (h:=fun K=>?_));simp only [go_sem,geff])
   |simp only [thenQ,blockQ,scopeQ,Nat.reduceEqDiff,reduceIte]|(with_reducible first|refine And.intro ?_ ?_|intro vr))
  all_goals try exact om
  ·skip
   refine end_ret rfl ?_
   simp only [fin,go_sem]
   rw [show ints .i64 l=[] from by assumption]
   exact LeA.nil false 1
  ·skip
   refine end_ret rfl ?_
   simp only [fin,go_sem]
   exact LeA.refl _
noncomputable def con71:PCon Tryz.prog where
  f:=71
  c:=fun
   |[xl]=>match slK .i64 xl with|some l=>some (l.length≤1000000,.sl false 1 (ints .i64 l))|_=>none
   |_=>none
  ok:=by
   intro args p r hc hp
   split at hc
   ·split at hc
    ·rename_i hl
     cases hc
     exact PC.weak (clone_pc hp) ⟨slK_le hl,trivial⟩
    ·cases hc
   ·cases hc
  fk:=fk71
theorem con71_f:con71.f=71:=rfl
theorem con71_c {xl:AV}:con71.c [xl]=match slK .i64 xl with|some l=>some (l.length≤1000000,.sl false 1 (ints .i64 l))|_=>none:=rfl
theorem copy_pc {l:List Int} (hl:l.length≤1000000):PC Tryz.prog 72 [.sl false 1 (ints .i64 l)] (.sl false 1 (ints .i64 l)):=by
  refine pcO E0_ok (fun _=>[0,2]) Tryz.func72 (h:=fun KF=>?_)
  unfold E0
  repeat' (first
   |(with_reducible first|refine t_seq fun K=>?_|refine nx ?_|refine t_br (fun hc=>?_) fun hc=>?_)|exact kpd
   |((with_reducible first|refine ny ?_|refine t_kLF ?_ ?_|refine t_region fun K=>?_|refine t_cond fun A B=>?_|refine t_dw (h:=fun K=>?_));simp only [go_sem,geff])
   |simp only [thenQ,blockQ,scopeQ,Nat.reduceEqDiff,reduceIte]|(with_reducible first|refine And.intro ?_ ?_|intro vr))
  all_goals try exact om
  refine end_ret rfl ?_
  simp only [fin,go_sem]
  exact LeA.refl _
noncomputable def con72:PCon Tryz.prog where
  f:=72
  c:=fun
   |[xl]=>match slK .i64 xl with|some l=>some (l.length≤1000000,.sl false 1 (ints .i64 l))|_=>none
   |_=>none
  ok:=by
   intro args p r hc hp
   split at hc
   ·split at hc
    ·rename_i hl
     cases hc
     exact PC.weak (copy_pc hp) ⟨slK_le hl,trivial⟩
    ·cases hc
   ·cases hc
  fk:=fk72
theorem con72_f:con72.f=72:=rfl
theorem con72_c {xl:AV}:con72.c [xl]=match slK .i64 xl with|some l=>some (l.length≤1000000,.sl false 1 (ints .i64 l))|_=>none:=rfl
theorem drop_ne {l m:List Int} {i:Nat} (hl:i<l.length) (hm:i<m.length) (h:(l.getD i 0 !=m.getD i 0)=true):decide (l.drop i=m.drop i)=false:=by
  rw [drop_getD 0 hl,drop_getD 0 hm]
  rw [bne_iff_ne] at h
  exact decide_eq_false fun e=>h (List.cons.inj e).1
theorem drop_eq {l m:List Int} {i:Nat} (hl:i<l.length) (hm:i<m.length) (h:(l.getD i 0 !=m.getD i 0)=false):decide (l.drop i=m.drop i)=decide (l.drop (i+1)=m.drop (i+1)):=by
  rw [drop_getD 0 hl,drop_getD 0 hm]
  rw [bne_eq_false_iff_eq] at h
  rw [h]
  simp
theorem equal_pc {l m:List Int} (hl:l.length≤1000000):PC Tryz.prog 81 [.sl false 1 (ints .i64 l),.sl false 1 (ints .i64 m)] (.lit (.bool (decide (l=m)))):=by
  by_cases hn:l.length=m.length
  ·have g0:((l.length:Int) !=(m.length:Int))=false:=by rw [bne_eq_false_iff_eq];omega
   generalize hR:decide (l=m)=R
   refine pcO E0_ok (fun _=>[0,1,4,5,10,12,13,14,24]) Tryz.func81 (h:=fun KF=>?_)
   unfold E0
   repeat' (first
    |(with_reducible first|refine t_seq fun K=>?_|refine nx ?_|refine t_br (fun hc=>?_) fun hc=>?_)|exact kpd
    |((with_reducible first|refine ny ?_|refine t_kLF ?_ ?_|refine t_region fun K=>?_|refine t_cond fun A B=>?_|refine t_dw (h:=fun K=>?_));simp only [go_sem,geff,g0])
    |simp only [thenQ,blockQ,scopeQ,Nat.reduceEqDiff,reduceIte]|(with_reducible first|refine And.intro ?_ ?_|intro vr))
   refine t_loop (ι:={i:Nat // i≤l.length∧decide (l.drop i=m.drop i)=R}) (fun i=>⟨upd (upd (upd (upd topF 1 (.sl false 1 (ints .i64 m))) 0 (.sl false 1 (ints .i64 l))) 13 (.lit (.int .i64 i.1))) 12 (.lit (.int .i64 l.length)),[]⟩) (fun i=>l.length - i.1) ⟨0,by omega,hR⟩ ?_ ?_
   ·skip
    (refine Le.frame ?_;repeat' (first|exact leF_top _|(with_reducible refine leF_sl ?_ ?_)|(refine leF_upd (LeR.of_eq ?_) ?_)))<;>(try (simp only [go_sem];try rfl))
   ·rintro ⟨i,hi,hF⟩ K0
    rcases Nat.lt_or_ge i l.length with hc|hc
    ·have g1:decide ((i:Int)<(l.length:Int))=true:=decide_eq_true (by omega)
     have g2:=ints_getD .i64 l i hc
     have g3:=ints_getD .i64 m i (by omega)
     by_cases he:(l.getD i 0 !=m.getD i 0)=true
     ·rw [drop_ne hc (by omega) he] at hF
      subst hF
      repeat' (first
       |(with_reducible first|refine t_seq fun K=>?_|refine nx ?_|refine t_br (fun hc=>?_) fun hc=>?_)|exact kpd
       |((with_reducible first|refine ny ?_|refine t_kLF ?_ ?_|refine t_region fun K=>?_|refine t_cond fun A B=>?_|refine t_dw (h:=fun K=>?_));simp only [go_sem,geff,g1,g2,g3,he,Int.toNat_natCast])
       |simp only [thenQ,blockQ,scopeQ,Nat.reduceEqDiff,reduceIte]|(with_reducible first|refine And.intro ?_ ?_|intro vr))
      all_goals try exact om
      refine end_ret rfl ?_
      simp only [fin,go_sem]
      exact LeA.refl _
     ·have he':(l.getD i 0 !=m.getD i 0)=false:=by simpa using he
      rw [drop_eq hc (by omega) he'] at hF
      repeat' (first
       |(with_reducible first|refine t_seq fun K=>?_|refine nx ?_|refine t_br (fun hc=>?_) fun hc=>?_)|exact kpd
       |((with_reducible first|refine ny ?_|refine t_kLF ?_ ?_|refine t_region fun K=>?_|refine t_cond fun A B=>?_|refine t_dw (h:=fun K=>?_));simp only [go_sem,geff,g1,g2,g3,he',Int.toNat_natCast])
       |simp only [thenQ,blockQ,scopeQ,Nat.reduceEqDiff,reduceIte]|(with_reducible first|refine And.intro ?_ ?_|intro vr))
      all_goals try exact om
      refine ⟨⟨i+1,by omega,hF⟩,by simp only;omega,?_⟩
      (refine Le.frame ?_;repeat' (first|exact leF_top _|(with_reducible refine leF_sl ?_ ?_)|(refine leF_upd (LeR.of_eq ?_) ?_)))<;>(try (simp only [go_sem];try rfl))
    ·have g1:decide ((i:Int)<(l.length:Int))=false:=decide_eq_false (by omega)
     rw [List.drop_eq_nil_of_le hc,List.drop_eq_nil_of_le (by omega)] at hF
     subst hF
     repeat' (first
      |(with_reducible first|refine t_seq fun K=>?_|refine nx ?_|refine t_br (fun hc=>?_) fun hc=>?_)|exact kpd
      |((with_reducible first|refine ny ?_|refine t_kLF ?_ ?_|refine t_region fun K=>?_|refine t_cond fun A B=>?_|refine t_dw (h:=fun K=>?_));simp only [go_sem,geff,g1])
      |simp only [thenQ,blockQ,scopeQ,Nat.reduceEqDiff,reduceIte]|(with_reducible first|refine And.intro ?_ ?_|intro vr))
     refine end_ret rfl ?_
     simp only [fin,go_sem]
     exact LeA.refl _
  ·have g0:((l.length:Int) !=(m.length:Int))=true:=by rw [bne_iff_ne];omega
   have:decide (l=m)=false:=decide_eq_false fun e=>hn (by rw [e])
   rw [this]
   refine pcO E0_ok (fun _=>[0,1,4,5,10,12,13,14,24]) Tryz.func81 (h:=fun KF=>?_)
   unfold E0
   repeat' (first
    |(with_reducible first|refine t_seq fun K=>?_|refine nx ?_|refine t_br (fun hc=>?_) fun hc=>?_)|exact kpd
    |((with_reducible first|refine ny ?_|refine t_kLF ?_ ?_|refine t_region fun K=>?_|refine t_cond fun A B=>?_|refine t_dw (h:=fun K=>?_));simp only [go_sem,geff,g0])
    |simp only [thenQ,blockQ,scopeQ,Nat.reduceEqDiff,reduceIte]|(with_reducible first|refine And.intro ?_ ?_|intro vr))
   refine end_ret rfl ?_
   simp only [fin,go_sem]
   exact LeA.refl _
noncomputable def con81:PCon Tryz.prog where
  f:=81
  c:=fun
   |[xl,xm]=>match slK .i64 xl,slK .i64 xm with|some l,some m=>some (l.length≤1000000,.lit (.bool (decide (l=m))))|_,_=>none
   |_=>none
  ok:=by
   intro args p r hc hp
   split at hc
   ·split at hc
    ·rename_i hl hm
     cases hc
     exact PC.weak (equal_pc hp) ⟨slK_le hl,slK_le hm,trivial⟩
    ·cases hc
   ·cases hc
  fk:=fk81
theorem con81_f:con81.f=81:=rfl
theorem con81_c {xl:AV} {xm:AV}:con81.c [xl,xm]=match slK .i64 xl,slK .i64 xm with|some l,some m=>some (l.length≤1000000,.lit (.bool (decide (l=m))))|_,_=>none:=rfl
theorem same_pc {l m:List Int} (hl:l.length≤1000000):PC Tryz.prog 26 [.sl false 1 (ints .i64 l),.sl false 1 (ints .i64 m)] (.lit (.bool (decide (l=m)))):=by
  by_cases hn:l.length=m.length
  ·have g0:((l.length:Int) !=(m.length:Int))=false:=by rw [bne_eq_false_iff_eq];omega
   generalize hR:decide (l=m)=R
   refine pcO E0_ok (fun _=>[0,1,4,5,10,14,25]) Tryz.func26 (h:=fun KF=>?_)
   unfold E0
   repeat' (first
    |(with_reducible first|refine t_seq fun K=>?_|refine nx ?_|refine t_br (fun hc=>?_) fun hc=>?_)|exact kpd
    |((with_reducible first|refine ny ?_|refine t_kLF ?_ ?_|refine t_region fun K=>?_|refine t_cond fun A B=>?_|refine t_dw (h:=fun K=>?_));simp only [go_sem,geff,g0])
    |simp only [thenQ,blockQ,scopeQ,Nat.reduceEqDiff,reduceIte]|(with_reducible first|refine And.intro ?_ ?_|intro vr))
   refine t_loop (ι:={i:Nat // i≤l.length∧decide (l.drop i=m.drop i)=R}) (fun i=>⟨upd (upd (upd topF 1 (.sl false 1 (ints .i64 m))) 0 (.sl false 1 (ints .i64 l))) 5 (.lit (.int .i64 i.1)),[]⟩) (fun i=>l.length - i.1) ⟨0,by omega,hR⟩ ?_ ?_
   ·skip
    (refine Le.frame ?_;repeat' (first|exact leF_top _|(with_reducible refine leF_sl ?_ ?_)|(refine leF_upd (LeR.of_eq ?_) ?_)))<;>(try (simp only [go_sem];try rfl))
   ·rintro ⟨i,hi,hF⟩ K0
    rcases Nat.lt_or_ge i l.length with hc|hc
    ·have g1:decide ((i:Int)<(l.length:Int))=true:=decide_eq_true (by omega)
     have g2:=ints_getD .i64 l i hc
     have g3:=ints_getD .i64 m i (by omega)
     by_cases he:(l.getD i 0 !=m.getD i 0)=true
     ·rw [drop_ne hc (by omega) he] at hF
      subst hF
      repeat' (first
       |(with_reducible first|refine t_seq fun K=>?_|refine nx ?_|refine t_br (fun hc=>?_) fun hc=>?_)|exact kpd
       |((with_reducible first|refine ny ?_|refine t_kLF ?_ ?_|refine t_region fun K=>?_|refine t_cond fun A B=>?_|refine t_dw (h:=fun K=>?_));simp only [go_sem,geff,g1,g2,g3,he,Int.toNat_natCast])
       |simp only [thenQ,blockQ,scopeQ,Nat.reduceEqDiff,reduceIte]|(with_reducible first|refine And.intro ?_ ?_|intro vr))
      all_goals try exact om
      refine end_ret rfl ?_
      simp only [fin,go_sem]
      exact LeA.refl _
     ·have he':(l.getD i 0 !=m.getD i 0)=false:=by simpa using he
      rw [drop_eq hc (by omega) he'] at hF
      repeat' (first
       |(with_reducible first|refine t_seq fun K=>?_|refine nx ?_|refine t_br (fun hc=>?_) fun hc=>?_)|exact kpd
       |((with_reducible first|refine ny ?_|refine t_kLF ?_ ?_|refine t_region fun K=>?_|refine t_cond fun A B=>?_|refine t_dw (h:=fun K=>?_));simp only [go_sem,geff,g1,g2,g3,he',Int.toNat_natCast])
       |simp only [thenQ,blockQ,scopeQ,Nat.reduceEqDiff,reduceIte]|(with_reducible first|refine And.intro ?_ ?_|intro vr))
      all_goals try exact om
      refine ⟨⟨i+1,by omega,hF⟩,by simp only;omega,?_⟩
      (refine Le.frame ?_;repeat' (first|exact leF_top _|(with_reducible refine leF_sl ?_ ?_)|(refine leF_upd (LeR.of_eq ?_) ?_)))<;>(try (simp only [go_sem];try rfl))
    ·have g1:decide ((i:Int)<(l.length:Int))=false:=decide_eq_false (by omega)
     rw [List.drop_eq_nil_of_le hc,List.drop_eq_nil_of_le (by omega)] at hF
     subst hF
     repeat' (first
      |(with_reducible first|refine t_seq fun K=>?_|refine nx ?_|refine t_br (fun hc=>?_) fun hc=>?_)|exact kpd
      |((with_reducible first|refine ny ?_|refine t_kLF ?_ ?_|refine t_region fun K=>?_|refine t_cond fun A B=>?_|refine t_dw (h:=fun K=>?_));simp only [go_sem,geff,g1])
      |simp only [thenQ,blockQ,scopeQ,Nat.reduceEqDiff,reduceIte]|(with_reducible first|refine And.intro ?_ ?_|intro vr))
     refine end_ret rfl ?_
     simp only [fin,go_sem]
     exact LeA.refl _
  ·have g0:((l.length:Int) !=(m.length:Int))=true:=by rw [bne_iff_ne];omega
   have:decide (l=m)=false:=decide_eq_false fun e=>hn (by rw [e])
   rw [this]
   refine pcO E0_ok (fun _=>[0,1,4,5,10,14,25]) Tryz.func26 (h:=fun KF=>?_)
   unfold E0
   repeat' (first
    |(with_reducible first|refine t_seq fun K=>?_|refine nx ?_|refine t_br (fun hc=>?_) fun hc=>?_)|exact kpd
    |((with_reducible first|refine ny ?_|refine t_kLF ?_ ?_|refine t_region fun K=>?_|refine t_cond fun A B=>?_|refine t_dw (h:=fun K=>?_));simp only [go_sem,geff,g0])
    |simp only [thenQ,blockQ,scopeQ,Nat.reduceEqDiff,reduceIte]|(with_reducible first|refine And.intro ?_ ?_|intro vr))
   refine end_ret rfl ?_
   simp only [fin,go_sem]
   exact LeA.refl _
noncomputable def con26:PCon Tryz.prog where
  f:=26
  c:=fun
   |[xl,xm]=>match slK .i64 xl,slK .i64 xm with|some l,some m=>some (l.length≤1000000,.lit (.bool (decide (l=m))))|_,_=>none
   |_=>none
  ok:=by
   intro args p r hc hp
   split at hc
   ·split at hc
    ·rename_i hl hm
     cases hc
     exact PC.weak (same_pc hp) ⟨slK_le hl,slK_le hm,trivial⟩
    ·cases hc
   ·cases hc
  fk:=fk26
theorem con26_f:con26.f=26:=rfl
theorem con26_c {xl:AV} {xm:AV}:con26.c [xl,xm]=match slK .i64 xl,slK .i64 xm with|some l,some m=>some (l.length≤1000000,.lit (.bool (decide (l=m))))|_,_=>none:=rfl
end Go.Proofs.YtcpjahmajkhchaaGreat

namespace Go.Proofs.YtcpjahmajkhchaaGreat
open Go Go.Fw
set_option maxRecDepth 20000
def szV (p:Int×Int):AV:= .tup [.lit (.int .i64 p.1),.lit (.int .i64 p.2)]
theorem mul_bd {n d:Int} (hn:0≤n∧n≤4096) (hd:0≤d∧d≤4096):0≤n*d∧n*d≤16777216:=by
  constructor
  ·exact Int.mul_nonneg hn.1 hd.1
  ·have:=Int.mul_le_mul hn.2 hd.2 hd.1 (by omega)
   omega
structure Ls (l:List Int) (G:Int×Int) where
  i:Nat
  n:Int
  hi:i≤l.length
  hn:0≤n∧n≤4096
  hF:prodS (l.drop i) n=G
noncomputable def E2:Env:=envOf (P:=Tryz.prog) zer (fun _=>false) (fun _=>false) [con92] []
theorem E2_ok:EnvOk Tryz.prog E2:=envOk zer_ok
set_option maxHeartbeats 1000000 in
theorem size_pc {l:List Int} (hl:l.length≤1000000):PC Tryz.prog 69 [.sl false 1 (ints .i64 l)] (szV (sizeS l)):=by
  unfold sizeS
  by_cases h6:l.length>6
  ·have g0:decide ((l.length:Int)>6)=true:=decide_eq_true (by omega)
   rw [if_pos h6]
   refine pcO E2_ok (fun _=>[0,2,3,5,6,8,11,12,13,14,15,23,26,27,28,29,30,37]) Tryz.func69 (h:=fun KF=>?_)
   unfold E2
   repeat' (first
    |(with_reducible first|refine t_seq fun K=>?_|refine nx ?_|refine t_br (fun hc=>?_) fun hc=>?_)|exact kpd
    |((with_reducible first|refine ny ?_|refine t_kLF ?_ ?_|refine t_region fun K=>?_|refine t_cond fun A B=>?_|refine t_dw (h:=fun K=>?_));simp only [go_sem,geff,con92_f,g0])
    |simp only [thenQ,blockQ,scopeQ,Nat.reduceEqDiff,reduceIte]|(with_reducible first|refine And.intro ?_ ?_|intro vr))
   refine end_ret rfl ?_
   simp only [fin,go_sem,szV]
   exact LeA.refl _
  ·have g0:decide ((l.length:Int)>6)=false:=decide_eq_false (by omega)
   rw [if_neg h6]
   generalize hB:l.any badD=Bb
   generalize hG:prodS l 1=G
   refine pcO E2_ok (fun _=>[0,2,3,5,6,8,11,12,13,14,15,23,26,27,28,29,30,37]) Tryz.func69 (h:=fun KF=>?_)
   unfold E2
   repeat' (first
    |(with_reducible first|refine t_seq fun K=>?_|refine nx ?_|refine t_br (fun hc=>?_) fun hc=>?_)|exact kpd
    |((with_reducible first|refine ny ?_|refine t_kLF ?_ ?_|refine t_region fun K=>?_|refine t_cond fun A B=>?_|refine t_dw (h:=fun K=>?_));simp only [go_sem,geff,con92_f,g0])
    |simp only [thenQ,blockQ,scopeQ,Nat.reduceEqDiff,reduceIte]|(with_reducible first|refine And.intro ?_ ?_|intro vr))
   refine t_loop (ι:={i:Nat // i≤l.length∧(l.drop i).any badD=Bb}) (fun i=>⟨upd (upd (upd (upd topF 14 (.lit (.int .i64 i.1))) 13 (.lit (.int .i64 l.length))) 12 (.sl false 1 (ints .i64 l))) 0 (.sl false 1 (ints .i64 l)),[]⟩) (fun i=>l.length - i.1) ⟨0,by omega,hB⟩ ?_ ?_
   ·skip
    (refine Le.frame ?_;repeat' (first|exact leF_top _|(with_reducible refine leF_sl ?_ ?_)|(refine leF_upd (LeR.of_eq ?_) ?_)))<;>(try (simp only [go_sem];try rfl))
   ·rintro ⟨i,hi,hF⟩ K0
    rcases Nat.lt_or_ge i l.length with hc|hc
    ·have g1:decide ((i:Int)<(l.length:Int))=true:=decide_eq_true (by omega)
     have g2:=ints_getD .i64 l i hc
     rw [drop_getD 0 hc,List.any_cons] at hF
     generalize l.getD i 0=d at g2 hF
     rw [show badD d=(decide (d<0)||decide (d>4096)) from rfl] at hF
     by_cases d1:d<0
     ·have d1':decide (d<0)=true:=decide_eq_true d1
      have:Bb=true:=by rw [←hF,d1'];rfl
      subst this
      repeat' (first
       |(with_reducible first|refine t_seq fun K=>?_|refine nx ?_|refine t_br (fun hc=>?_) fun hc=>?_)|exact kpd
       |((with_reducible first|refine ny ?_|refine t_kLF ?_ ?_|refine t_region fun K=>?_|refine t_cond fun A B=>?_|refine t_dw (h:=fun K=>?_));simp only [go_sem,geff,con92_f,g1,g2,d1',Int.toNat_natCast])
       |simp only [thenQ,blockQ,scopeQ,Nat.reduceEqDiff,reduceIte]|(with_reducible first|refine And.intro ?_ ?_|intro vr))
      all_goals try exact om
      refine end_ret rfl ?_
      simp only [fin,go_sem,szV]
      exact LeA.refl _
     ·have d1':decide (d<0)=false:=decide_eq_false d1
      by_cases d2:d>4096
      ·have d2':decide (d>4096)=true:=decide_eq_true d2
       have:Bb=true:=by rw [←hF,d1',d2'];rfl
       subst this
       repeat' (first
        |(with_reducible first|refine t_seq fun K=>?_|refine nx ?_|refine t_br (fun hc=>?_) fun hc=>?_)|exact kpd
        |((with_reducible first|refine ny ?_|refine t_kLF ?_ ?_|refine t_region fun K=>?_|refine t_cond fun A B=>?_|refine t_dw (h:=fun K=>?_));simp only [go_sem,geff,con92_f,g1,g2,d1',d2',Int.toNat_natCast])
        |simp only [thenQ,blockQ,scopeQ,Nat.reduceEqDiff,reduceIte]|(with_reducible first|refine And.intro ?_ ?_|intro vr))
       all_goals try exact om
       refine end_ret rfl ?_
       simp only [fin,go_sem,szV]
       exact LeA.refl _
      ·have d2':decide (d>4096)=false:=decide_eq_false d2
       rw [d1',d2',Bool.false_or,Bool.false_or] at hF
       repeat' (first
        |(with_reducible first|refine t_seq fun K=>?_|refine nx ?_|refine t_br (fun hc=>?_) fun hc=>?_)|exact kpd
        |((with_reducible first|refine ny ?_|refine t_kLF ?_ ?_|refine t_region fun K=>?_|refine t_cond fun A B=>?_|refine t_dw (h:=fun K=>?_));simp only [go_sem,geff,con92_f,g1,g2,d1',d2',Int.toNat_natCast])
        |simp only [thenQ,blockQ,scopeQ,Nat.reduceEqDiff,reduceIte]|(with_reducible first|refine And.intro ?_ ?_|intro vr))
       all_goals try exact om
       refine ⟨⟨i+1,by omega,hF⟩,by simp only;omega,?_⟩
       (refine Le.frame ?_;repeat' (first|exact leF_top _|(with_reducible refine leF_sl ?_ ?_)|(refine leF_upd (LeR.of_eq ?_) ?_)))<;>(try (simp only [go_sem];try rfl))
    ·have g1:decide ((i:Int)<(l.length:Int))=false:=decide_eq_false (by omega)
     rw [List.drop_eq_nil_of_le hc,List.any_nil] at hF
     subst hF
     have hd:=bad_no (by rw [hB];simp)
     by_cases h0:(l.any fun d=>0==d)=true
     ·skip
      repeat' (first
       |(with_reducible first|refine t_seq fun K=>?_|refine nx ?_|refine t_br (fun hc=>?_) fun hc=>?_)|exact kpd
       |((with_reducible first|refine ny ?_|refine t_kLF ?_ ?_|refine t_region fun K=>?_|refine t_cond fun A B=>?_|refine t_dw (h:=fun K=>?_));simp only [go_sem,geff,con92_f,con92_c,slK_sl,g1,h0])
       |simp only [thenQ,blockQ,scopeQ,Nat.reduceEqDiff,reduceIte]|(with_reducible first|refine And.intro ?_ ?_|intro vr))
      all_goals try exact om
      refine end_ret rfl ?_
      simp only [fin,go_sem,szV,h0,Bool.false_eq_true]
      exact LeA.refl _
     ·have h0':(l.any fun d=>0==d)=false:=Bool.eq_false_iff.2 h0
      repeat' (first
       |(with_reducible first|refine t_seq fun K=>?_|refine nx ?_|refine t_br (fun hc=>?_) fun hc=>?_)|exact kpd
       |((with_reducible first|refine ny ?_|refine t_kLF ?_ ?_|refine t_region fun K=>?_|refine t_cond fun A B=>?_|refine t_dw (h:=fun K=>?_));simp only [go_sem,geff,con92_f,con92_c,slK_sl,g1,h0'])
       |simp only [thenQ,blockQ,scopeQ,Nat.reduceEqDiff,reduceIte]|(with_reducible first|refine And.intro ?_ ?_|intro vr))
      all_goals try exact om
      refine t_loop (ι:=Ls l G) (fun i=>⟨upd (upd (upd (upd topF 29 (.lit (.int .i64 i.i))) 28 (.lit (.int .i64 l.length))) 27 (.sl false 1 (ints .i64 l))) 6 (.lit (.int .i64 i.n)),[]⟩) (fun i=>l.length - i.i) ⟨0,1,by omega,by omega,hG⟩ ?_ ?_
      ·skip
       (refine Le.frame ?_;repeat' (first|exact leF_top _|(with_reducible refine leF_sl ?_ ?_)|(refine leF_upd (LeR.of_eq ?_) ?_)))<;>(try (simp only [go_sem];try rfl))
      ·rintro ⟨i,n,hi,hn,hF⟩ K1
       rcases Nat.lt_or_ge i l.length with hc|hc
       ·have g1:decide ((i:Int)<(l.length:Int))=true:=decide_eq_true (by omega)
        have g2:=ints_getD .i64 l i hc
        have hd':=hd (l.getD i 0) (by rw [List.getD_eq_getElem?_getD,List.getElem?_eq_getElem hc];exact List.getElem_mem _)
        rw [drop_getD 0 hc,prodS] at hF
        generalize l.getD i 0=d at g2 hF hd'
        have hb:=mul_bd hn hd'
        by_cases hp:n*d>4096
        ·have hp':decide (n*d>4096)=true:=decide_eq_true hp
         rw [if_pos hp] at hF
         subst hF
         repeat' (first
          |(with_reducible first|refine t_seq fun K=>?_|refine nx ?_|refine t_br (fun hc=>?_) fun hc=>?_)|exact kpd
          |((with_reducible first|refine ny ?_|refine t_kLF ?_ ?_|refine t_region fun K=>?_|refine t_cond fun A B=>?_|refine t_dw (h:=fun K=>?_));simp only [go_sem,geff,con92_f,g1,g2,hp',Int.toNat_natCast])
          |simp only [thenQ,blockQ,scopeQ,Nat.reduceEqDiff,reduceIte]|(with_reducible first|refine And.intro ?_ ?_|intro vr))
         all_goals try exact om
         refine end_ret rfl ?_
         simp only [fin,go_sem,szV,h0',Bool.false_eq_true]
         exact LeA.refl _
        ·have hp':decide (n*d>4096)=false:=decide_eq_false hp
         rw [if_neg hp] at hF
         repeat' (first
          |(with_reducible first|refine t_seq fun K=>?_|refine nx ?_|refine t_br (fun hc=>?_) fun hc=>?_)|exact kpd
          |((with_reducible first|refine ny ?_|refine t_kLF ?_ ?_|refine t_region fun K=>?_|refine t_cond fun A B=>?_|refine t_dw (h:=fun K=>?_));simp only [go_sem,geff,con92_f,g1,g2,hp',Int.toNat_natCast])
          |simp only [thenQ,blockQ,scopeQ,Nat.reduceEqDiff,reduceIte]|(with_reducible first|refine And.intro ?_ ?_|intro vr))
         all_goals try exact om
         refine ⟨⟨i+1,n*d,by omega,by omega,hF⟩,by simp only;omega,?_⟩
         (refine Le.frame ?_;repeat' (first|exact leF_top _|(with_reducible refine leF_sl ?_ ?_)|(refine leF_upd (LeR.of_eq ?_) ?_)))<;>(try (simp only [go_sem];try rfl))
       ·have g1:decide ((i:Int)<(l.length:Int))=false:=decide_eq_false (by omega)
        rw [List.drop_eq_nil_of_le hc,prodS] at hF
        subst hF
        repeat' (first
         |(with_reducible first|refine t_seq fun K=>?_|refine nx ?_|refine t_br (fun hc=>?_) fun hc=>?_)|exact kpd
         |((with_reducible first|refine ny ?_|refine t_kLF ?_ ?_|refine t_region fun K=>?_|refine t_cond fun A B=>?_|refine t_dw (h:=fun K=>?_));simp only [go_sem,geff,con92_f,g1])
         |simp only [thenQ,blockQ,scopeQ,Nat.reduceEqDiff,reduceIte]|(with_reducible first|refine And.intro ?_ ?_|intro vr))
        refine end_ret rfl ?_
        simp only [fin,go_sem,szV,h0',Bool.false_eq_true]
        exact LeA.refl _
noncomputable def con69:PCon Tryz.prog where
  f:=69
  c:=fun
   |[xl]=>match slK .i64 xl with|some l=>some (l.length≤1000000,szV (sizeS l))|_=>none
   |_=>none
  ok:=by
   intro args p r hc hp
   split at hc
   ·split at hc
    ·rename_i hl
     cases hc
     exact PC.weak (size_pc hp) ⟨slK_le hl,trivial⟩
    ·cases hc
   ·cases hc
  fk:=fk69
theorem con69_f:con69.f=69:=rfl
theorem con69_c {xl:AV}:con69.c [xl]=match slK .i64 xl with|some l=>some (l.length≤1000000,szV (sizeS l))|_=>none:=rfl
set_option maxHeartbeats 1000000 in
theorem rsize_pc {l:List Int} (hl:l.length≤1000000):PC Tryz.prog 50 [.sl false 1 (ints .i64 l)] (szV (sizeS l)):=by
  unfold sizeS
  by_cases h6:l.length>6
  ·have g0:decide ((l.length:Int)>6)=true:=decide_eq_true (by omega)
   rw [if_pos h6]
   refine pcO E0_ok (fun _=>[0,2,3,4,5,6,7,10,14,28,37,41,51]) Tryz.func50 (h:=fun KF=>?_)
   unfold E0
   repeat' (first
    |(with_reducible first|refine t_seq fun K=>?_|refine nx ?_|refine t_br (fun hc=>?_) fun hc=>?_)|exact kpd
    |((with_reducible first|refine ny ?_|refine t_kLF ?_ ?_|refine t_region fun K=>?_|refine t_cond fun A B=>?_|refine t_dw (h:=fun K=>?_));simp only [go_sem,geff,g0])
    |simp only [thenQ,blockQ,scopeQ,Nat.reduceEqDiff,reduceIte]|(with_reducible first|refine And.intro ?_ ?_|intro vr))
   refine end_ret rfl ?_
   simp only [fin,go_sem,szV]
   exact LeA.refl _
  ·have g0:decide ((l.length:Int)>6)=false:=decide_eq_false (by omega)
   rw [if_neg h6]
   generalize hB:l.any badD=Bb
   generalize hG:prodS l 1=G
   generalize hZ:(l.any fun d=>0==d)=Z
   refine pcO E0_ok (fun _=>[0,2,3,4,5,6,7,10,14,28,37,41,51]) Tryz.func50 (h:=fun KF=>?_)
   unfold E0
   repeat' (first
    |(with_reducible first|refine t_seq fun K=>?_|refine nx ?_|refine t_br (fun hc=>?_) fun hc=>?_)|exact kpd
    |((with_reducible first|refine ny ?_|refine t_kLF ?_ ?_|refine t_region fun K=>?_|refine t_cond fun A B=>?_|refine t_dw (h:=fun K=>?_));simp only [go_sem,geff,g0])
    |simp only [thenQ,blockQ,scopeQ,Nat.reduceEqDiff,reduceIte]|(with_reducible first|refine And.intro ?_ ?_|intro vr))
   refine t_loop (ι:={i:Nat×Bool // i.1≤l.length∧(l.drop i.1).any badD=Bb∧(i.2||(l.drop i.1).any fun d=>0==d)=Z}) (fun i=>⟨upd (upd (upd topF 5 (.lit (.int .i64 i.1.1))) 4 (.lit (.bool i.1.2))) 0 (.sl false 1 (ints .i64 l)),[]⟩) (fun i=>l.length - i.1.1) ⟨(0,false),by simp,hB,by simpa using hZ⟩ ?_ ?_
   ·skip
    (refine Le.frame ?_;repeat' (first|exact leF_top _|(with_reducible refine leF_sl ?_ ?_)|(refine leF_upd (LeR.of_eq ?_) ?_)))<;>(try (simp only [go_sem];try rfl))
   ·rintro ⟨⟨i,z⟩,hi,hF,hY⟩ K0
    simp only at hi hF hY
    rcases Nat.lt_or_ge i l.length with hc|hc
    ·have g1:decide ((i:Int)<(l.length:Int))=true:=decide_eq_true (by omega)
     have g2:=ints_getD .i64 l i hc
     rw [drop_getD 0 hc,List.any_cons] at hF
     rw [drop_getD 0 hc,List.any_cons,←Bool.or_assoc] at hY
     generalize l.getD i 0=d at g2 hF hY
     rw [show badD d=(decide (d<0)||decide (d>4096)) from rfl] at hF
     by_cases d1:d<0
     ·have d1':decide (d<0)=true:=decide_eq_true d1
      have:Bb=true:=by rw [←hF,d1'];rfl
      subst this
      repeat' (first
       |(with_reducible first|refine t_seq fun K=>?_|refine nx ?_|refine t_br (fun hc=>?_) fun hc=>?_)|exact kpd
       |((with_reducible first|refine ny ?_|refine t_kLF ?_ ?_|refine t_region fun K=>?_|refine t_cond fun A B=>?_|refine t_dw (h:=fun K=>?_));simp only [go_sem,geff,g1,g2,d1',Int.toNat_natCast])
       |simp only [thenQ,blockQ,scopeQ,Nat.reduceEqDiff,reduceIte]|(with_reducible first|refine And.intro ?_ ?_|intro vr))
      all_goals try exact om
      refine end_ret rfl ?_
      simp only [fin,go_sem,szV]
      exact LeA.refl _
     ·have d1':decide (d<0)=false:=decide_eq_false d1
      by_cases d2:d>4096
      ·have d2':decide (d>4096)=true:=decide_eq_true d2
       have:Bb=true:=by rw [←hF,d1',d2'];rfl
       subst this
       repeat' (first
        |(with_reducible first|refine t_seq fun K=>?_|refine nx ?_|refine t_br (fun hc=>?_) fun hc=>?_)|exact kpd
        |((with_reducible first|refine ny ?_|refine t_kLF ?_ ?_|refine t_region fun K=>?_|refine t_cond fun A B=>?_|refine t_dw (h:=fun K=>?_));simp only [go_sem,geff,g1,g2,d1',d2',Int.toNat_natCast])
        |simp only [thenQ,blockQ,scopeQ,Nat.reduceEqDiff,reduceIte]|(with_reducible first|refine And.intro ?_ ?_|intro vr))
       all_goals try exact om
       refine end_ret rfl ?_
       simp only [fin,go_sem,szV]
       exact LeA.refl _
      ·have d2':decide (d>4096)=false:=decide_eq_false d2
       rw [d1',d2',Bool.false_or,Bool.false_or] at hF
       cases z
       ·by_cases e0:(d==0)=true
        ·have e1:(0==d)=true:=by rw [beq_iff_eq] at e0 ⊢;exact e0.symm
         rw [e1] at hY
         repeat' (first
          |(with_reducible first|refine t_seq fun K=>?_|refine nx ?_|refine t_br (fun hc=>?_) fun hc=>?_)|exact kpd
          |((with_reducible first|refine ny ?_|refine t_kLF ?_ ?_|refine t_region fun K=>?_|refine t_cond fun A B=>?_|refine t_dw (h:=fun K=>?_));simp only [go_sem,geff,g1,g2,d1',d2',e0,Int.toNat_natCast])
          |simp only [thenQ,blockQ,scopeQ,Nat.reduceEqDiff,reduceIte]|(with_reducible first|refine And.intro ?_ ?_|intro vr))
         all_goals try exact om
         refine ⟨⟨(i+1,true),by simp only;omega,hF,hY⟩,by simp only;omega,?_⟩
         (refine Le.frame ?_;repeat' (first|exact leF_top _|(with_reducible refine leF_sl ?_ ?_)|(refine leF_upd (LeR.of_eq ?_) ?_)))<;>(try (simp only [go_sem];try rfl))
        ·have e0':(d==0)=false:=by simpa using e0
         have e1:(0==d)=false:=by rw [beq_eq_false_iff_ne] at e0' ⊢;exact fun h=>e0' h.symm
         rw [e1] at hY
         repeat' (first
          |(with_reducible first|refine t_seq fun K=>?_|refine nx ?_|refine t_br (fun hc=>?_) fun hc=>?_)|exact kpd
          |((with_reducible first|refine ny ?_|refine t_kLF ?_ ?_|refine t_region fun K=>?_|refine t_cond fun A B=>?_|refine t_dw (h:=fun K=>?_));simp only [go_sem,geff,g1,g2,d1',d2',e0',Int.toNat_natCast])
          |simp only [thenQ,blockQ,scopeQ,Nat.reduceEqDiff,reduceIte]|(with_reducible first|refine And.intro ?_ ?_|intro vr))
         all_goals try exact om
         refine ⟨⟨(i+1,false),by simp only;omega,hF,hY⟩,by simp only;omega,?_⟩
         (refine Le.frame ?_;repeat' (first|exact leF_top _|(with_reducible refine leF_sl ?_ ?_)|(refine leF_upd (LeR.of_eq ?_) ?_)))<;>(try (simp only [go_sem];try rfl))
       ·skip
        repeat' (first
         |(with_reducible first|refine t_seq fun K=>?_|refine nx ?_|refine t_br (fun hc=>?_) fun hc=>?_)|exact kpd
         |((with_reducible first|refine ny ?_|refine t_kLF ?_ ?_|refine t_region fun K=>?_|refine t_cond fun A B=>?_|refine t_dw (h:=fun K=>?_));simp only [go_sem,geff,g1,g2,d1',d2',Int.toNat_natCast])
         |simp only [thenQ,blockQ,scopeQ,Nat.reduceEqDiff,reduceIte]|(with_reducible first|refine And.intro ?_ ?_|intro vr))
        all_goals try exact om
        refine ⟨⟨(i+1,true),by simp only;omega,hF,by rw [←hY];simp⟩,by simp only;omega,?_⟩
        (refine Le.frame ?_;repeat' (first|exact leF_top _|(with_reducible refine leF_sl ?_ ?_)|(refine leF_upd (LeR.of_eq ?_) ?_)))<;>(try (simp only [go_sem];try rfl))
    ·have g1:decide ((i:Int)<(l.length:Int))=false:=decide_eq_false (by omega)
     rw [List.drop_eq_nil_of_le hc,List.any_nil] at hF
     rw [List.drop_eq_nil_of_le hc,List.any_nil,Bool.or_false] at hY
     subst hF
     have hd:=bad_no (by rw [hB];simp)
     cases z
     ·subst hY
      repeat' (first
       |(with_reducible first|refine t_seq fun K=>?_|refine nx ?_|refine t_br (fun hc=>?_) fun hc=>?_)|exact kpd
       |((with_reducible first|refine ny ?_|refine t_kLF ?_ ?_|refine t_region fun K=>?_|refine t_cond fun A B=>?_|refine t_dw (h:=fun K=>?_));simp only [go_sem,geff,g1])
       |simp only [thenQ,blockQ,scopeQ,Nat.reduceEqDiff,reduceIte]|(with_reducible first|refine And.intro ?_ ?_|intro vr))
      refine t_loop (ι:=Ls l G) (fun i=>⟨upd (upd (upd topF 7 (.lit (.int .i64 i.i))) 6 (.lit (.int .i64 i.n))) 0 (.sl false 1 (ints .i64 l)),[]⟩) (fun i=>l.length - i.i) ⟨0,1,by omega,by omega,hG⟩ ?_ ?_
      ·skip
       (refine Le.frame ?_;repeat' (first|exact leF_top _|(with_reducible refine leF_sl ?_ ?_)|(refine leF_upd (LeR.of_eq ?_) ?_)))<;>(try (simp only [go_sem];try rfl))
      ·rintro ⟨i,n,hi,hn,hF⟩ K1
       rcases Nat.lt_or_ge i l.length with hc|hc
       ·have g1:decide ((i:Int)<(l.length:Int))=true:=decide_eq_true (by omega)
        have g2:=ints_getD .i64 l i hc
        have hd':=hd (l.getD i 0) (by rw [List.getD_eq_getElem?_getD,List.getElem?_eq_getElem hc];exact List.getElem_mem _)
        rw [drop_getD 0 hc,prodS] at hF
        generalize l.getD i 0=d at g2 hF hd'
        have hb:=mul_bd hn hd'
        by_cases hp:n*d>4096
        ·have hp':decide (n*d>4096)=true:=decide_eq_true hp
         rw [if_pos hp] at hF
         subst hF
         repeat' (first
          |(with_reducible first|refine t_seq fun K=>?_|refine nx ?_|refine t_br (fun hc=>?_) fun hc=>?_)|exact kpd
          |((with_reducible first|refine ny ?_|refine t_kLF ?_ ?_|refine t_region fun K=>?_|refine t_cond fun A B=>?_|refine t_dw (h:=fun K=>?_));simp only [go_sem,geff,g1,g2,hp',Int.toNat_natCast])
          |simp only [thenQ,blockQ,scopeQ,Nat.reduceEqDiff,reduceIte]|(with_reducible first|refine And.intro ?_ ?_|intro vr))
         all_goals try exact om
         refine end_ret rfl ?_
         simp only [fin,go_sem,szV,Bool.false_eq_true]
         exact LeA.refl _
        ·have hp':decide (n*d>4096)=false:=decide_eq_false hp
         rw [if_neg hp] at hF
         repeat' (first
          |(with_reducible first|refine t_seq fun K=>?_|refine nx ?_|refine t_br (fun hc=>?_) fun hc=>?_)|exact kpd
          |((with_reducible first|refine ny ?_|refine t_kLF ?_ ?_|refine t_region fun K=>?_|refine t_cond fun A B=>?_|refine t_dw (h:=fun K=>?_));simp only [go_sem,geff,g1,g2,hp',Int.toNat_natCast])
          |simp only [thenQ,blockQ,scopeQ,Nat.reduceEqDiff,reduceIte]|(with_reducible first|refine And.intro ?_ ?_|intro vr))
         all_goals try exact om
         refine ⟨⟨i+1,n*d,by omega,by omega,hF⟩,by simp only;omega,?_⟩
         (refine Le.frame ?_;repeat' (first|exact leF_top _|(with_reducible refine leF_sl ?_ ?_)|(refine leF_upd (LeR.of_eq ?_) ?_)))<;>(try (simp only [go_sem];try rfl))
       ·have g1:decide ((i:Int)<(l.length:Int))=false:=decide_eq_false (by omega)
        rw [List.drop_eq_nil_of_le hc,prodS] at hF
        subst hF
        repeat' (first
         |(with_reducible first|refine t_seq fun K=>?_|refine nx ?_|refine t_br (fun hc=>?_) fun hc=>?_)|exact kpd
         |((with_reducible first|refine ny ?_|refine t_kLF ?_ ?_|refine t_region fun K=>?_|refine t_cond fun A B=>?_|refine t_dw (h:=fun K=>?_));simp only [go_sem,geff,g1])
         |simp only [thenQ,blockQ,scopeQ,Nat.reduceEqDiff,reduceIte]|(with_reducible first|refine And.intro ?_ ?_|intro vr))
        refine end_ret rfl ?_
        simp only [fin,go_sem,szV,Bool.false_eq_true]
        exact LeA.refl _
     ·subst hY
      repeat' (first
       |(with_reducible first|refine t_seq fun K=>?_|refine nx ?_|refine t_br (fun hc=>?_) fun hc=>?_)|exact kpd
       |((with_reducible first|refine ny ?_|refine t_kLF ?_ ?_|refine t_region fun K=>?_|refine t_cond fun A B=>?_|refine t_dw (h:=fun K=>?_));simp only [go_sem,geff,g1])
       |simp only [thenQ,blockQ,scopeQ,Nat.reduceEqDiff,reduceIte]|(with_reducible first|refine And.intro ?_ ?_|intro vr))
      refine end_ret rfl ?_
      simp only [fin,go_sem,szV,Bool.false_eq_true]
      exact LeA.refl _
noncomputable def con50:PCon Tryz.prog where
  f:=50
  c:=fun
   |[xl]=>match slK .i64 xl with|some l=>some (l.length≤1000000,szV (sizeS l))|_=>none
   |_=>none
  ok:=by
   intro args p r hc hp
   split at hc
   ·split at hc
    ·rename_i hl
     cases hc
     exact PC.weak (rsize_pc hp) ⟨slK_le hl,trivial⟩
    ·cases hc
   ·cases hc
  fk:=fk50
theorem con50_f:con50.f=50:=rfl
theorem con50_c {xl:AV}:con50.c [xl]=match slK .i64 xl with|some l=>some (l.length≤1000000,szV (sizeS l))|_=>none:=rfl
end Go.Proofs.YtcpjahmajkhchaaGreat

namespace Go.Proofs.YtcpjahmajkhchaaGreat
open Go Go.Fw
set_option maxRecDepth 20000
theorem LeL.len:∀ {xs ys:List AV},LeL xs ys→xs.length=ys.length
  |[],[],_=>rfl
  |_::_,_::_,h=>by simp [LeL.len h.2]
  |[],_::_,h=>h.elim
  |_::_,[],h=>h.elim
theorem LeA.agg {xs ys:List AV} (h:LeL xs ys):LeA (.agg xs) (.agg ys):=fun C v hv=>by
  cases hv with
  |agg _ vs hl h1 hh=>exact .agg ys vs (h.rl ⟨hl,hh⟩).1 (fun i hi=>h1 i (by rw [LeL.len h];exact hi)) (h.rl ⟨hl,hh⟩).2
theorem LeL.refl:∀ (xs:List AV),LeL xs xs
  |[]=>trivial
  |x::xs=>⟨LeA.refl x,LeL.refl xs⟩
theorem LeL.append:∀ {xs ys us vs:List AV},LeL xs ys→LeL us vs→LeL (xs++us) (ys++vs)
  |[],[],_,_,_,h=>h
  |_::_,_::_,_,_,h,h'=>⟨h.1,LeL.append h.2 h'⟩
  |[],_::_,_,_,h,_=>h.elim
  |_::_,[],_,_,h,_=>h.elim
theorem LeL.get:∀ {xs ys:List AV},LeL xs ys→∀ i,LeA (xs.getD i .top) (ys.getD i .top)
  |[],[],_,_=>LeA.refl _
  |x::xs,y::ys,h,0=>by simpa using h.1
  |x::xs,y::ys,h,i+1=>by simpa using LeL.get h.2 i
  |[],_::_,h,_=>h.elim
  |_::_,[],h,_=>h.elim
theorem LeA.sl {b:Bool} {sz:Nat} {xs ys:List AV} (hl:xs.length=ys.length) (hw:∀ y∈ys,y.cells.length=sz) (h:LeL (flat xs) (flat ys)):LeA (.sl b sz xs) (.sl false sz ys):=fun C v hv=>by
  cases hv with
  |nil full sz a=>
   have:ys=[]:=List.eq_nil_of_length_eq_zero (by simpa using hl.symm)
   subst this
   exact .nil false sz a
  |sl full sz xs bb off cap f hc hm hf hw' hC h1 hR=>
   rw [hl]
   exact .sl false sz ys bb off cap f (by rw [←hl];exact hc) hm (by simp) hw (fun j hj=>hC j (by rw [LeL.len h];exact hj)) (fun j hj=>h1 j (by rw [LeL.len h];exact hj))
     (fun j hj=>LeL.get h j _ _ (hR j (by rw [LeL.len h];exact hj)))
def arrOf:AV→Option Arr
  |.agg [.lit (.string e),x,y]=>match slK .i64 x,slK .i64 y with
   |some d,some w=>some ⟨e,d,w⟩
   |_,_=>none
  |_=>none
theorem arrOf_agg {e:ByteArray} {x y:AV}:arrOf (.agg [.lit (.string e),x,y])=match slK .i64 x,slK .i64 y with
    |some d,some w=>some ⟨e,d,w⟩
    |_,_=>none:=rfl
theorem arrOf_V (a:Arr):arrOf (arrV a)=some a:=by simp [arrV,arrOf,slK_sl]
theorem arrOf_inv {x:AV} {a:Arr} (h:arrOf x=some a):∃ p q,x= .agg [.lit (.string a.e),p,q]∧LeA p (.sl false 1 (ints .i64 a.d))∧LeA q (.sl false 1 (ints .i64 a.x)):=by
  unfold arrOf at h
  split at h
  ·split at h
   ·rename_i h1 h2
    cases h
    exact ⟨_,_,rfl,slK_le h1,slK_le h2⟩
   ·cases h
  ·cases h
theorem arrOf_le {x:AV} {a:Arr} (h:arrOf x=some a):LeA x (arrV a):=by
  obtain ⟨p,q,rfl,h1,h2⟩:=arrOf_inv h
  exact LeA.agg ⟨LeA.refl _,h1,h2,trivial⟩
def arrL:List AV→Option (List Arr)
  |[]=>some []
  |x::xs=>match arrOf x,arrL xs with
   |some a,some l=>some (a::l)
   |_,_=>none
theorem arrL_nil:arrL []=some []:=rfl
theorem arrL_cons {x:AV} {xs:List AV}:arrL (x::xs)=match arrOf x,arrL xs with
    |some a,some l=>some (a::l)
    |_,_=>none:=rfl
theorem arrL_arrs:∀ l:List Arr,arrL (arrs l)=some l
  |[]=>rfl
  |a::l=>by
   have:=arrL_arrs l
   unfold arrs at this ⊢
   rw [List.map_cons,arrL_cons,arrOf_V,this]
theorem arrL_inv:∀ {xs:List AV} {l:List Arr},arrL xs=some l→xs.length=l.length∧LeL (flat xs) (flat (arrs l))
  |[],l,h=>by cases h;exact ⟨rfl,trivial⟩
  |x::xs,l,h=>by
   rw [arrL_cons] at h
   split at h
   ·rename_i a m h1 h2
    cases h
    obtain ⟨e1,e2⟩:=arrL_inv h2
    obtain ⟨p,q,rfl,g1,g2⟩:=arrOf_inv h1
    refine ⟨by simp [e1],?_⟩
    have:LeL (AV.cells (.agg [.lit (.string a.e),p,q])) (AV.cells (arrV a)):=⟨LeA.refl _,g1,g2,trivial⟩
    exact LeL.append this e2
   ·cases h
theorem arrs_wid (l:List Arr):∀ y∈arrs l,y.cells.length=3:=by
  intro y hy
  obtain ⟨a,_,rfl⟩:=List.mem_map.1 hy
  rfl
def arrsOf (x:AV):Option (List Arr):=(slA 3 x).bind arrL
theorem arrsOf_le {x:AV} {l:List Arr} (h:arrsOf x=some l):LeA x (.sl false 3 (arrs l)):=by
  unfold arrsOf at h
  cases hx:slA 3 x with
  |none=>rw [hx] at h;cases h
  |some xs=>
   rw [hx] at h
   obtain ⟨h1,h2⟩:=arrL_inv (l:=l) h
   intro C v hv
   exact LeA.sl (b:=false) (by rw [arrs_length];exact h1) (arrs_wid l) h2 C v (slA_le hx C v hv)
theorem arrsOf_sl {b:Bool} {l:List Arr}:arrsOf (.sl b 3 (arrs l))=some l:=by simp [arrsOf,slA,arrL_arrs]
theorem arrsOf_x {b:Bool} {xs:List AV}:arrsOf (.sl b 3 xs)=arrL xs:=by simp [arrsOf,slA]
def aeV (p:Arr×Int):AV:= .tup [arrV p.1,.lit (.int .i64 p.2)]
end Go.Proofs.YtcpjahmajkhchaaGreat

namespace Go.Proofs.YtcpjahmajkhchaaGreat
open Go Go.Fw
set_option maxRecDepth 20000
noncomputable def E3:Env:=envOf (P:=Tryz.prog) zer (fun _=>false) (fun _=>false) [con40] []
theorem E3_ok:EnvOk Tryz.prog E3:=envOk zer_ok
theorem notel_ec {σ:List AObj} {o:Nat} {e:ByteArray} {n:Int} (ho:σ[o]? =some (.box 9 [.lit (.string e)])) {k:AV→List AObj→Prop} (hk:k (.lit (.bool (!vld e n))) σ):EC Tryz.prog 94 [.lit (.int .i64 n),.ref o 0] σ k:=by
  refine ecO E3_ok (fun _=>[0,1,3]) Tryz.func94 (h:=fun KF=>?_)
  unfold E3
  repeat' (first
   |(with_reducible first|refine t_seq fun K=>?_|refine nx ?_|refine t_br (fun hc=>?_) fun hc=>?_)|exact kpd
   |((with_reducible first|refine ny ?_|refine t_kLF ?_ ?_|refine t_region fun K=>?_|refine t_cond fun A B=>?_|refine t_dw (h:=fun K=>?_));simp only [go_sem,geff,con40_f,con40_c,ho])
   |simp only [thenQ,blockQ,scopeQ,Nat.reduceEqDiff,reduceIte]|(with_reducible first|refine And.intro ?_ ?_|intro vr))
  refine end_ret rfl ?_
  simp only [go_sem]
  exact hk
noncomputable def con94:ECon Tryz.prog where
  f:=94
  c:=fun args σ k=>match args with
   |[.lit (.int .i64 n),.ref o 0]=>match σ[o]? with
    |some (.box 9 [.lit (.string e)])=>k (.lit (.bool (!vld e n))) σ
    |_=>False
   |_=>False
  ok:=by
   intro args σ k h
   split at h
   ·split at h
    ·rename_i ho
     exact notel_ec ho h
    ·exact h.elim
   ·exact h.elim
  fk:=fk94
theorem con94_f:con94.f=94:=rfl
theorem con94_c {σ:List AObj} {k:AV→List AObj→Prop} {o:Nat} {n:Int}:con94.c [.lit (.int .i64 n),.ref o 0] σ k=match σ[o]? with
      |some (.box 9 [.lit (.string e)])=>k (.lit (.bool (!vld e n))) σ
      |_=>False:=rfl
noncomputable def E4:Env:=envOf (P:=Tryz.prog) zer (fun _=>false) (fun _=>false) [] [con94]
theorem E4_ok:EnvOk Tryz.prog E4:=envOk zer_ok
theorem indexf_ec {σ:List AObj} {o:Nat} {e:ByteArray} {l:List Int} (hl:l.length≤1000000) (ho:σ[o]? =some (.box 9 [.lit (.string e)])) {k:AV→List AObj→Prop} (hk:k (.lit (.int .i64 (idxG (fun n=> !vld e n) l 0))) σ):
    EC Tryz.prog 116 [.sl false 1 (ints .i64 l),.fn (.func 94) [] [.ref o 0]] σ k:=by
  generalize hR:idxG (fun n=> !vld e n) l 0=R at hk
  refine ecO E4_ok (fun _=>[0,1,4,5,7,8,9,16]) Tryz.func116 (h:=fun KF=>?_)
  unfold E4
  repeat' (first
   |(with_reducible first|refine t_seq fun K=>?_|refine nx ?_|refine t_br (fun hc=>?_) fun hc=>?_)|exact kpd
   |((with_reducible first|refine ny ?_|refine t_kLF ?_ ?_|refine t_region fun K=>?_|refine t_cond fun A B=>?_|refine t_dw (h:=fun K=>?_));simp only [go_sem,geff,con94_f])
   |simp only [thenQ,blockQ,scopeQ,Nat.reduceEqDiff,reduceIte]|(with_reducible first|refine And.intro ?_ ?_|intro vr))
  refine t_loop (ι:={i:Nat // i≤l.length∧idxG (fun n=> !vld e n) (l.drop i) i=R}) (fun i=>⟨upd (upd (upd (upd topF 8 (.lit (.int .i64 i.1))) 7 (.lit (.int .i64 l.length))) 1 (.fn (.func 94) [] [.ref o 0])) 0 (.sl false 1 (ints .i64 l)),σ⟩) (fun i=>l.length - i.1) ⟨0,by omega,hR⟩ ?_ ?_
  ·skip
   (refine Le.frame ?_;repeat' (first|exact leF_top _|(with_reducible refine leF_sl ?_ ?_)|(refine leF_upd (LeR.of_eq ?_) ?_)))<;>(try (simp only [go_sem];try rfl))
  ·rintro ⟨i,hi,hF⟩ K0
   rcases Nat.lt_or_ge i l.length with hc|hc
   ·have g1:decide ((i:Int)<(l.length:Int))=true:=decide_eq_true (by omega)
    have g2:=ints_getD .i64 l i hc
    rw [drop_getD 0 hc,idxG] at hF
    generalize l.getD i 0=d at g2 hF
    by_cases he:vld e d=true
    ·rw [if_neg (by simp [he])] at hF
     repeat' (first
      |(with_reducible first|refine t_seq fun K=>?_|refine nx ?_|refine t_br (fun hc=>?_) fun hc=>?_)|exact kpd
      |((with_reducible first|refine ny ?_|refine t_kLF ?_ ?_|refine t_region fun K=>?_|refine t_cond fun A B=>?_|refine t_dw (h:=fun K=>?_));simp only [go_sem,geff,con94_f,con94_c,ho,g1,g2,he,Int.toNat_natCast,Bool.not_true])
      |simp only [thenQ,blockQ,scopeQ,Nat.reduceEqDiff,reduceIte]|(with_reducible first|refine And.intro ?_ ?_|intro vr))
     all_goals try exact om
     refine ⟨⟨i+1,by omega,by rw [←hF];congr 1⟩,by simp only;omega,?_⟩
     (refine Le.frame ?_;repeat' (first|exact leF_top _|(with_reducible refine leF_sl ?_ ?_)|(refine leF_upd (LeR.of_eq ?_) ?_)))<;>(try (simp only [go_sem];try rfl))
    ·have he':vld e d=false:=by simpa using he
     rw [if_pos (by simp [he'])] at hF
     subst hF
     repeat' (first
      |(with_reducible first|refine t_seq fun K=>?_|refine nx ?_|refine t_br (fun hc=>?_) fun hc=>?_)|exact kpd
      |((with_reducible first|refine ny ?_|refine t_kLF ?_ ?_|refine t_region fun K=>?_|refine t_cond fun A B=>?_|refine t_dw (h:=fun K=>?_));simp only [go_sem,geff,con94_f,con94_c,ho,g1,g2,he',Int.toNat_natCast,Bool.not_false])
      |simp only [thenQ,blockQ,scopeQ,Nat.reduceEqDiff,reduceIte]|(with_reducible first|refine And.intro ?_ ?_|intro vr))
     all_goals try exact om
     refine end_ret rfl ?_
     simp only [go_sem]
     exact hk
   ·have g1:decide ((i:Int)<(l.length:Int))=false:=decide_eq_false (by omega)
    rw [List.drop_eq_nil_of_le hc,idxG] at hF
    subst hF
    repeat' (first
     |(with_reducible first|refine t_seq fun K=>?_|refine nx ?_|refine t_br (fun hc=>?_) fun hc=>?_)|exact kpd
     |((with_reducible first|refine ny ?_|refine t_kLF ?_ ?_|refine t_region fun K=>?_|refine t_cond fun A B=>?_|refine t_dw (h:=fun K=>?_));simp only [go_sem,geff,con94_f,g1])
     |simp only [thenQ,blockQ,scopeQ,Nat.reduceEqDiff,reduceIte]|(with_reducible first|refine And.intro ?_ ?_|intro vr))
    refine end_ret rfl ?_
    simp only [go_sem]
    exact hk
noncomputable def con116:ECon Tryz.prog where
  f:=116
  c:=fun args σ k=>match args with
   |[x,.fn (.func 94) [] [.ref o 0]]=>match slK .i64 x,σ[o]? with
    |some l,some (.box 9 [.lit (.string e)])=>l.length≤1000000∧k (.lit (.int .i64 (idxG (fun n=> !vld e n) l 0))) σ
    |_,_=>False
   |_=>False
  ok:=by
   intro args σ k h
   split at h
   ·split at h
    ·rename_i hx ho
     exact EC.weak (indexf_ec h.1 ho h.2) (LeRL.cons (slK_leR hx) (LeRL.cons (LeR.refl _) LeRL.nil))
    ·exact h.elim
   ·exact h.elim
  fk:=fk116
theorem con116_f:con116.f=116:=rfl
theorem con116_c {σ:List AObj} {k:AV→List AObj→Prop} {x:AV} {o:Nat}:con116.c [x,.fn (.func 94) [] [.ref o 0]] σ k=match slK .i64 x,σ[o]? with
      |some l,some (.box 9 [.lit (.string e)])=>l.length≤1000000∧k (.lit (.int .i64 (idxG (fun n=> !vld e n) l 0))) σ
      |_,_=>False:=rfl
noncomputable def E5:Env:=envOf (P:=Tryz.prog) zer (fun _=>false) (fun _=>false) [] [con116]
theorem E5_ok:EnvOk Tryz.prog E5:=envOk zer_ok
theorem containsf_ec {σ:List AObj} {o:Nat} {e:ByteArray} {l:List Int} (hl:l.length≤1000000) (ho:σ[o]? =some (.box 9 [.lit (.string e)])) {k:AV→List AObj→Prop} (hk:k (.lit (.bool (l.any fun n=> !vld e n))) σ):
    EC Tryz.prog 93 [.sl false 1 (ints .i64 l),.fn (.func 94) [] [.ref o 0]] σ k:=by
  rw [←idxG_any _ l 0 (by omega)] at hk
  refine ecO E5_ok (fun _=>[0,1,4]) Tryz.func93 (h:=fun KF=>?_)
  unfold E5
  repeat' (first
   |(with_reducible first|refine t_seq fun K=>?_|refine nx ?_|refine t_br (fun hc=>?_) fun hc=>?_)|exact kpd
   |((with_reducible first|refine ny ?_|refine t_kLF ?_ ?_|refine t_region fun K=>?_|refine t_cond fun A B=>?_|refine t_dw (h:=fun K=>?_));simp only [go_sem,geff,con116_f,con116_c,slK_sl,ho])
   |simp only [thenQ,blockQ,scopeQ,Nat.reduceEqDiff,reduceIte]|(with_reducible first|refine And.intro ?_ ?_|intro vr))
  all_goals try exact om
  refine end_ret rfl ?_
  simp only [go_sem]
  exact hk
noncomputable def con93:ECon Tryz.prog where
  f:=93
  c:=fun args σ k=>match args with
   |[x,.fn (.func 94) [] [.ref o 0]]=>match slK .i64 x,σ[o]? with
    |some l,some (.box 9 [.lit (.string e)])=>l.length≤1000000∧k (.lit (.bool (l.any fun n=> !vld e n))) σ
    |_,_=>False
   |_=>False
  ok:=by
   intro args σ k h
   split at h
   ·split at h
    ·rename_i hx ho
     exact EC.weak (containsf_ec h.1 ho h.2) (LeRL.cons (slK_leR hx) (LeRL.cons (LeR.refl _) LeRL.nil))
    ·exact h.elim
   ·exact h.elim
  fk:=fk93
theorem con93_f:con93.f=93:=rfl
theorem con93_c {σ:List AObj} {k:AV→List AObj→Prop} {x:AV} {o:Nat}:con93.c [x,.fn (.func 94) [] [.ref o 0]] σ k=match slK .i64 x,σ[o]? with
      |some l,some (.box 9 [.lit (.string e)])=>l.length≤1000000∧k (.lit (.bool (l.any fun n=> !vld e n))) σ
      |_,_=>False:=rfl
noncomputable def E6:Env:=envOf (P:=Tryz.prog) zer (fun _=>false) (fun _=>false) [] [con93]
theorem E6_ok:EnvOk Tryz.prog E6:=envOk zer_ok
theorem elements_pc {e:ByteArray} {l:List Int} (hl:l.length≤1000000):PC Tryz.prog 70 [.lit (.string e),.sl false 1 (ints .i64 l)] (.lit (.bool (!(l.any fun n=> !vld e n)))):=by
  refine pcO E6_ok (fun _=>[1,2,4]) Tryz.func70 (h:=fun KF=>?_)
  unfold E6
  repeat' (first
   |(with_reducible first|refine t_seq fun K=>?_|refine nx ?_|refine t_br (fun hc=>?_) fun hc=>?_)|exact kpd
   |((with_reducible first|refine ny ?_|refine t_kLF ?_ ?_|refine t_region fun K=>?_|refine t_cond fun A B=>?_|refine t_dw (h:=fun K=>?_));simp only [go_sem,geff,con93_f,con93_c,slK_sl])
   |simp only [thenQ,blockQ,scopeQ,Nat.reduceEqDiff,reduceIte]|(with_reducible first|refine And.intro ?_ ?_|intro vr))
  all_goals try exact om
  refine end_ret rfl ?_
  simp only [fin,go_sem]
  exact LeA.refl _
noncomputable def con70:PCon Tryz.prog where
  f:=70
  c:=fun
   |[.lit (.string e),xl]=>match slK .i64 xl with|some l=>some (l.length≤1000000,.lit (.bool (!(l.any fun n=> !vld e n))))|_=>none
   |_=>none
  ok:=by
   intro args p r hc hp
   split at hc
   ·split at hc
    ·rename_i hl
     cases hc
     exact PC.weak (elements_pc hp) ⟨LeA.refl _,slK_le hl,trivial⟩
    ·cases hc
   ·cases hc
  fk:=fk70
theorem con70_f:con70.f=70:=rfl
theorem con70_c {e:ByteArray} {xl:AV}:con70.c [.lit (.string e),xl]=match slK .i64 xl with|some l=>some (l.length≤1000000,.lit (.bool (!(l.any fun n=> !vld e n))))|_=>none:=rfl
theorem szV_def {p:Int×Int}:szV p= .tup [.lit (.int .i64 p.1),.lit (.int .i64 p.2)]:=rfl
theorem arrV_def {a:Arr}:arrV a= .agg [.lit (.string a.e),.sl false 1 (ints .i64 a.d),.sl false 1 (ints .i64 a.x)]:=rfl
theorem nilA_le:LeA (.agg [.lit (.string ByteArray.empty),.sl true 1 [],.sl true 1 []]) (arrV nilA):=LeA.agg ⟨LeA.of_eq rfl,LeA.full _ _ _,LeA.full _ _ _,trivial⟩
theorem nilAe_le {e:Int}:LeA (.tup [.agg [.lit (.string ByteArray.empty),.sl true 1 [],.sl true 1 []],.lit (.int .i64 e)]) (aeV (nilA,e)):=LeA.tup ⟨nilA_le,LeA.refl _,trivial⟩
def tyOk (e:ByteArray):Bool:=eqS e ⟨#[105,110,116]⟩||eqS e ⟨#[98,111,111,108]⟩
def bad (a:Arr):Bool:=a.x.any fun n=> !vld a.e n
theorem ofE_ty {a:Arr} (h:tyOk a.e=false):ofE a=12:=if_pos h
theorem ofE_sz {a:Arr} (h:tyOk a.e=true) (h2:(sizeS a.d).2≠0):ofE a=(sizeS a.d).2:=by
  unfold ofE;rw [if_neg (show ¬ (eqS a.e sInt||eqS a.e sBool)=false from fun e=>by have e:tyOk a.e=false:=e;rw [h] at e;cases e),if_pos h2]
theorem ofE_len {a:Arr} (h:tyOk a.e=true) (h2:(sizeS a.d).2=0) (h3:(a.x.length:Int)≠(sizeS a.d).1):ofE a=1:=by
  unfold ofE;rw [if_neg (show ¬ (eqS a.e sInt||eqS a.e sBool)=false from fun e=>by have e:tyOk a.e=false:=e;rw [h] at e;cases e),if_neg (by simpa using h2),if_pos h3]
theorem ofE_el {a:Arr} (h:tyOk a.e=true) (h2:(sizeS a.d).2=0) (h3:(a.x.length:Int)=(sizeS a.d).1):ofE a=if bad a=true then 2 else 0:=by
  unfold ofE;rw [if_neg (show ¬ (eqS a.e sInt||eqS a.e sBool)=false from fun e=>by have e:tyOk a.e=false:=e;rw [h] at e;cases e),if_neg (by simpa using h2),if_neg (by simpa using h3)];rfl
theorem ofS_err {a:Arr} {e:Int} (h:ofE a=e) (h0:e≠0):ofS a=(nilA,e):=by unfold ofS;rw [h,if_neg h0]
theorem ofS_ok {a:Arr} (h:ofE a=0):ofS a=(a,0):=by unfold ofS;rw [if_pos h]
noncomputable def E7:Env:=envOf (P:=Tryz.prog) zer (fun _=>false) (fun _=>false) [con71,con69,con70] []
theorem E7_ok:EnvOk Tryz.prog E7:=envOk zer_ok
set_option maxRecDepth 20000 in
set_option maxHeartbeats 2000000 in
theorem of_pc {e:ByteArray} {d x:List Int} (hd:d.length≤1000000) (hx:x.length≤1000000):PC Tryz.prog 47 [.lit (.string e),.sl false 1 (ints .i64 d),.sl false 1 (ints .i64 x)] (aeV (ofS ⟨e,d,x⟩)):=by
  have hz:=sizeS_bd d
  by_cases t:tyOk e=true
  ·generalize hS:sizeS d=s at hz
   obtain ⟨n,er⟩:=s
   simp only at hz
   have hS1:(sizeS d).1=n:=by rw [hS]
   have hS2:(sizeS d).2=er:=by rw [hS]
   by_cases t1:eqS e ⟨#[105,110,116]⟩=true
   ·skip
    by_cases e0:er=0
    ·subst e0
     by_cases hn:(x.length:Int)=n
     ·have n1:((x.length:Int) !=n)=false:=by rw [bne_eq_false_iff_eq];exact hn
      by_cases hb:bad ⟨e,d,x⟩=true
      ·rw [ofS_err (e:=2) (by rw [ofE_el t hS2 (by rw [hS1];exact hn),if_pos hb]) (by decide)]
       have hb':(x.any fun n=> !vld e n)=true:=hb
       refine pcO E7_ok (fun _=>[0,1,2,6,7,8,9,15,22,27,33]) Tryz.func47 (h:=fun KF=>?_)
       unfold E7
       repeat' (first
        |(with_reducible first|refine t_seq fun K=>?_|refine nx ?_|refine t_br (fun hc=>?_) fun hc=>?_)|exact kpd
        |((with_reducible first|refine ny ?_|refine t_kLF ?_ ?_|refine t_region fun K=>?_|refine t_cond fun A B=>?_|refine t_dw (h:=fun K=>?_));simp only [go_sem,geff,con71_f,con69_f,con70_f,con71_c,con69_c,con70_c,slK_sl,t1,hS,szV_def,n1,hb',Bool.not_true])
        |simp only [thenQ,blockQ,scopeQ,Nat.reduceEqDiff,reduceIte]|(with_reducible first|refine And.intro ?_ ?_|intro vr))
       all_goals try exact om
       refine end_ret rfl ?_
       simp only [fin,go_sem]
       exact nilAe_le
      ·rw [ofS_ok (by rw [ofE_el t hS2 (by rw [hS1];exact hn),if_neg hb])]
       have hb':(x.any fun n=> !vld e n)=false:=Bool.eq_false_iff.2 hb
       refine pcO E7_ok (fun _=>[0,1,2,6,7,8,9,15,22,27,33]) Tryz.func47 (h:=fun KF=>?_)
       unfold E7
       repeat' (first
        |(with_reducible first|refine t_seq fun K=>?_|refine nx ?_|refine t_br (fun hc=>?_) fun hc=>?_)|exact kpd
        |((with_reducible first|refine ny ?_|refine t_kLF ?_ ?_|refine t_region fun K=>?_|refine t_cond fun A B=>?_|refine t_dw (h:=fun K=>?_));simp only [go_sem,geff,con71_f,con69_f,con70_f,con71_c,con69_c,con70_c,slK_sl,t1,hS,szV_def,n1,hb',Bool.not_false])
        |simp only [thenQ,blockQ,scopeQ,Nat.reduceEqDiff,reduceIte]|(with_reducible first|refine And.intro ?_ ?_|intro vr))
       all_goals try exact om
       refine end_ret rfl ?_
       simp only [fin,go_sem]
       exact LeA.refl _
     ·have n1:((x.length:Int) !=n)=true:=by rw [bne_iff_ne];exact hn
      rw [ofS_err (e:=1) (ofE_len t hS2 (by rw [hS1];exact hn)) (by decide)]
      refine pcO E7_ok (fun _=>[0,1,2,6,7,8,9,15,22,27,33]) Tryz.func47 (h:=fun KF=>?_)
      unfold E7
      repeat' (first
       |(with_reducible first|refine t_seq fun K=>?_|refine nx ?_|refine t_br (fun hc=>?_) fun hc=>?_)|exact kpd
       |((with_reducible first|refine ny ?_|refine t_kLF ?_ ?_|refine t_region fun K=>?_|refine t_cond fun A B=>?_|refine t_dw (h:=fun K=>?_));simp only [go_sem,geff,con71_f,con69_f,con70_f,con71_c,con69_c,con70_c,slK_sl,t1,hS,szV_def,n1])
       |simp only [thenQ,blockQ,scopeQ,Nat.reduceEqDiff,reduceIte]|(with_reducible first|refine And.intro ?_ ?_|intro vr))
      all_goals try exact om
      refine end_ret rfl ?_
      simp only [fin,go_sem]
      exact nilAe_le
    ·have e1:(er !=0)=true:=by rw [bne_iff_ne];exact e0
     rw [ofS_err (by rw [ofE_sz t (by rw [hS2];exact e0)]) (by rw [hS2];exact e0)]
     refine pcO E7_ok (fun _=>[0,1,2,6,7,8,9,15,22,27,33]) Tryz.func47 (h:=fun KF=>?_)
     unfold E7
     repeat' (first
      |(with_reducible first|refine t_seq fun K=>?_|refine nx ?_|refine t_br (fun hc=>?_) fun hc=>?_)|exact kpd
      |((with_reducible first|refine ny ?_|refine t_kLF ?_ ?_|refine t_region fun K=>?_|refine t_cond fun A B=>?_|refine t_dw (h:=fun K=>?_));simp only [go_sem,geff,con71_f,con69_f,con70_f,con71_c,con69_c,con70_c,slK_sl,t1,hS,szV_def,e1])
      |simp only [thenQ,blockQ,scopeQ,Nat.reduceEqDiff,reduceIte]|(with_reducible first|refine And.intro ?_ ?_|intro vr))
     all_goals try exact om
     refine end_ret rfl ?_
     simp only [fin,go_sem,hS]
     exact nilAe_le
   ·have t2:eqS e ⟨#[98,111,111,108]⟩=true:=by unfold tyOk at t;rw [Bool.or_eq_true] at t;exact t.resolve_left t1
    have t1':eqS e ⟨#[105,110,116]⟩=false:=by simpa using t1
    by_cases e0:er=0
    ·subst e0
     by_cases hn:(x.length:Int)=n
     ·have n1:((x.length:Int) !=n)=false:=by rw [bne_eq_false_iff_eq];exact hn
      by_cases hb:bad ⟨e,d,x⟩=true
      ·rw [ofS_err (e:=2) (by rw [ofE_el t hS2 (by rw [hS1];exact hn),if_pos hb]) (by decide)]
       have hb':(x.any fun n=> !vld e n)=true:=hb
       refine pcO E7_ok (fun _=>[0,1,2,6,7,8,9,15,22,27,33]) Tryz.func47 (h:=fun KF=>?_)
       unfold E7
       repeat' (first
        |(with_reducible first|refine t_seq fun K=>?_|refine nx ?_|refine t_br (fun hc=>?_) fun hc=>?_)|exact kpd
        |((with_reducible first|refine ny ?_|refine t_kLF ?_ ?_|refine t_region fun K=>?_|refine t_cond fun A B=>?_|refine t_dw (h:=fun K=>?_));simp only [go_sem,geff,con71_f,con69_f,con70_f,con71_c,con69_c,con70_c,slK_sl,t1',t2,hS,szV_def,n1,hb',Bool.not_true])
        |simp only [thenQ,blockQ,scopeQ,Nat.reduceEqDiff,reduceIte]|(with_reducible first|refine And.intro ?_ ?_|intro vr))
       all_goals try exact om
       refine end_ret rfl ?_
       simp only [fin,go_sem]
       exact nilAe_le
      ·rw [ofS_ok (by rw [ofE_el t hS2 (by rw [hS1];exact hn),if_neg hb])]
       have hb':(x.any fun n=> !vld e n)=false:=Bool.eq_false_iff.2 hb
       refine pcO E7_ok (fun _=>[0,1,2,6,7,8,9,15,22,27,33]) Tryz.func47 (h:=fun KF=>?_)
       unfold E7
       repeat' (first
        |(with_reducible first|refine t_seq fun K=>?_|refine nx ?_|refine t_br (fun hc=>?_) fun hc=>?_)|exact kpd
        |((with_reducible first|refine ny ?_|refine t_kLF ?_ ?_|refine t_region fun K=>?_|refine t_cond fun A B=>?_|refine t_dw (h:=fun K=>?_));simp only [go_sem,geff,con71_f,con69_f,con70_f,con71_c,con69_c,con70_c,slK_sl,t1',t2,hS,szV_def,n1,hb',Bool.not_false])
        |simp only [thenQ,blockQ,scopeQ,Nat.reduceEqDiff,reduceIte]|(with_reducible first|refine And.intro ?_ ?_|intro vr))
       all_goals try exact om
       refine end_ret rfl ?_
       simp only [fin,go_sem]
       exact LeA.refl _
     ·have n1:((x.length:Int) !=n)=true:=by rw [bne_iff_ne];exact hn
      rw [ofS_err (e:=1) (ofE_len t hS2 (by rw [hS1];exact hn)) (by decide)]
      refine pcO E7_ok (fun _=>[0,1,2,6,7,8,9,15,22,27,33]) Tryz.func47 (h:=fun KF=>?_)
      unfold E7
      repeat' (first
       |(with_reducible first|refine t_seq fun K=>?_|refine nx ?_|refine t_br (fun hc=>?_) fun hc=>?_)|exact kpd
       |((with_reducible first|refine ny ?_|refine t_kLF ?_ ?_|refine t_region fun K=>?_|refine t_cond fun A B=>?_|refine t_dw (h:=fun K=>?_));simp only [go_sem,geff,con71_f,con69_f,con70_f,con71_c,con69_c,con70_c,slK_sl,t1',t2,hS,szV_def,n1])
       |simp only [thenQ,blockQ,scopeQ,Nat.reduceEqDiff,reduceIte]|(with_reducible first|refine And.intro ?_ ?_|intro vr))
      all_goals try exact om
      refine end_ret rfl ?_
      simp only [fin,go_sem]
      exact nilAe_le
    ·have e1:(er !=0)=true:=by rw [bne_iff_ne];exact e0
     rw [ofS_err (by rw [ofE_sz t (by rw [hS2];exact e0)]) (by rw [hS2];exact e0)]
     refine pcO E7_ok (fun _=>[0,1,2,6,7,8,9,15,22,27,33]) Tryz.func47 (h:=fun KF=>?_)
     unfold E7
     repeat' (first
      |(with_reducible first|refine t_seq fun K=>?_|refine nx ?_|refine t_br (fun hc=>?_) fun hc=>?_)|exact kpd
      |((with_reducible first|refine ny ?_|refine t_kLF ?_ ?_|refine t_region fun K=>?_|refine t_cond fun A B=>?_|refine t_dw (h:=fun K=>?_));simp only [go_sem,geff,con71_f,con69_f,con70_f,con71_c,con69_c,con70_c,slK_sl,t1',t2,hS,szV_def,e1])
      |simp only [thenQ,blockQ,scopeQ,Nat.reduceEqDiff,reduceIte]|(with_reducible first|refine And.intro ?_ ?_|intro vr))
     all_goals try exact om
     refine end_ret rfl ?_
     simp only [fin,go_sem,hS]
     exact nilAe_le
  ·have t':tyOk e=false:=by simpa using t
   have t1:eqS e ⟨#[105,110,116]⟩=false:=(Bool.or_eq_false_iff.1 t').1
   have t2:eqS e ⟨#[98,111,111,108]⟩=false:=(Bool.or_eq_false_iff.1 t').2
   rw [ofS_err (ofE_ty t') (by decide)]
   refine pcO E7_ok (fun _=>[0,1,2,6,7,8,9,15,22,27,33]) Tryz.func47 (h:=fun KF=>?_)
   unfold E7
   repeat' (first
    |(with_reducible first|refine t_seq fun K=>?_|refine nx ?_|refine t_br (fun hc=>?_) fun hc=>?_)|exact kpd
    |((with_reducible first|refine ny ?_|refine t_kLF ?_ ?_|refine t_region fun K=>?_|refine t_cond fun A B=>?_|refine t_dw (h:=fun K=>?_));simp only [go_sem,geff,con71_f,con69_f,con70_f,con71_c,con69_c,con70_c,t1,t2])
    |simp only [thenQ,blockQ,scopeQ,Nat.reduceEqDiff,reduceIte]|(with_reducible first|refine And.intro ?_ ?_|intro vr))
   all_goals try exact om
   refine end_ret rfl ?_
   simp only [fin,go_sem]
   exact nilAe_le
noncomputable def con47:PCon Tryz.prog where
  f:=47
  c:=fun
   |[.lit (.string e),xd,xx]=>match slK .i64 xd,slK .i64 xx with|some d,some x=>some (d.length≤1000000∧x.length≤1000000,aeV (ofS ⟨e,d,x⟩))|_,_=>none
   |_=>none
  ok:=by
   intro args p r hc hp
   split at hc
   ·split at hc
    ·rename_i hd hx
     cases hc
     exact PC.weak ((fun hp:_∧_=>of_pc hp.1 hp.2) hp) ⟨LeA.refl _,slK_le hd,slK_le hx,trivial⟩
    ·cases hc
   ·cases hc
  fk:=fk47
theorem con47_f:con47.f=47:=rfl
theorem con47_c {e:ByteArray} {xd:AV} {xx:AV}:con47.c [.lit (.string e),xd,xx]=match slK .i64 xd,slK .i64 xx with|some d,some x=>some (d.length≤1000000∧x.length≤1000000,aeV (ofS ⟨e,d,x⟩))|_,_=>none:=rfl
noncomputable def E8:Env:=envOf (P:=Tryz.prog) zer (fun _=>false) (fun _=>false) [con72,con50,con38] []
theorem E8_ok:EnvOk Tryz.prog E8:=envOk zer_ok
set_option maxRecDepth 20000 in
set_option maxHeartbeats 2000000 in
theorem rof_pc {e:ByteArray} {d x:List Int} (hd:d.length≤1000000) (hx:x.length≤1000000):PC Tryz.prog 48 [.lit (.string e),.sl false 1 (ints .i64 d),.sl false 1 (ints .i64 x)] (aeV (ofS ⟨e,d,x⟩)):=by
  have hz:=sizeS_bd d
  by_cases t:tyOk e=true
  ·generalize hS:sizeS d=s at hz
   obtain ⟨n,er⟩:=s
   simp only at hz
   have hS1:(sizeS d).1=n:=by rw [hS]
   have hS2:(sizeS d).2=er:=by rw [hS]
   by_cases t1:eqS e ⟨#[105,110,116]⟩=true
   ·skip
    by_cases e0:er=0
    ·subst e0
     by_cases hn:(x.length:Int)=n
     ·have n1:((x.length:Int) !=n)=false:=by rw [bne_eq_false_iff_eq];exact hn
      have hO:=ofE_el (a:=⟨e,d,x⟩) t hS2 (by rw [hS1];exact hn)
      unfold bad at hO
      simp only at hO
      generalize hB:(x.any fun n=> !vld e n)=Bb at hO
      generalize hG:aeV (ofS ⟨e,d,x⟩)=G
      refine pcO E8_ok (fun _=>[0,1,2,6,7,8,9,10,16,24,30,35,44]) Tryz.func48 (h:=fun KF=>?_)
      unfold E8
      repeat' (first
       |(with_reducible first|refine t_seq fun K=>?_|refine nx ?_|refine t_br (fun hc=>?_) fun hc=>?_)|exact kpd
       |((with_reducible first|refine ny ?_|refine t_kLF ?_ ?_|refine t_region fun K=>?_|refine t_cond fun A B=>?_|refine t_dw (h:=fun K=>?_));simp only [go_sem,geff,con72_f,con50_f,con38_f,con72_c,con50_c,con38_c,slK_sl,t1,hS,szV_def,n1])
       |simp only [thenQ,blockQ,scopeQ,Nat.reduceEqDiff,reduceIte]|(with_reducible first|refine And.intro ?_ ?_|intro vr))
      all_goals try exact om
      refine t_loop (ι:={i:Nat // i≤x.length∧((x.drop i).any fun n=> !vld e n)=Bb}) (fun i=>⟨upd (upd (upd (upd (upd topF 10 (.lit (.int .i64 i.1))) 6 (.ref 0 0)) 2 (.sl false 1 (ints .i64 x))) 1 (.sl false 1 (ints .i64 d))) 0 (.lit (.string e)),[AObj.box 31 [AV.lit (Value.string ByteArray.empty),AV.sl true 1 [],AV.sl true 1 []]]⟩) (fun i=>x.length - i.1) ⟨0,by omega,hB⟩ ?_ ?_
      ·skip
       (refine Le.frame ?_;repeat' (first|exact leF_top _|(with_reducible refine leF_sl ?_ ?_)|(refine leF_upd (LeR.of_eq ?_) ?_)))<;>(try (simp only [go_sem];try rfl))
      ·rintro ⟨i,hi,hF⟩ K0
       rcases Nat.lt_or_ge i x.length with hc|hc
       ·have g1:decide ((i:Int)<(x.length:Int))=true:=decide_eq_true (by omega)
        have g2:=ints_getD .i64 x i hc
        rw [drop_getD 0 hc,List.any_cons] at hF
        generalize x.getD i 0=v at g2 hF
        by_cases hv:vld e v=true
        ·rw [hv,Bool.not_true,Bool.false_or] at hF
         repeat' (first
          |(with_reducible first|refine t_seq fun K=>?_|refine nx ?_|refine t_br (fun hc=>?_) fun hc=>?_)|exact kpd
          |((with_reducible first|refine ny ?_|refine t_kLF ?_ ?_|refine t_region fun K=>?_|refine t_cond fun A B=>?_|refine t_dw (h:=fun K=>?_));simp only [go_sem,geff,con72_f,con50_f,con38_f,con72_c,con50_c,con38_c,g1,g2,hv,Int.toNat_natCast,Bool.not_true])
          |simp only [thenQ,blockQ,scopeQ,Nat.reduceEqDiff,reduceIte]|(with_reducible first|refine And.intro ?_ ?_|intro vr))
         all_goals try exact om
         refine ⟨⟨i+1,by omega,hF⟩,by simp only;omega,?_⟩
         (refine Le.frame ?_;repeat' (first|exact leF_top _|(with_reducible refine leF_sl ?_ ?_)|(refine leF_upd (LeR.of_eq ?_) ?_)))<;>(try (simp only [go_sem];try rfl))
        ·have hv':vld e v=false:=by simpa using hv
         rw [hv',Bool.not_false,Bool.true_or] at hF
         subst hF
         rw [if_pos rfl] at hO
         rw [ofS_err hO (by decide)] at hG
         subst hG
         repeat' (first
          |(with_reducible first|refine t_seq fun K=>?_|refine nx ?_|refine t_br (fun hc=>?_) fun hc=>?_)|exact kpd
          |((with_reducible first|refine ny ?_|refine t_kLF ?_ ?_|refine t_region fun K=>?_|refine t_cond fun A B=>?_|refine t_dw (h:=fun K=>?_));simp only [go_sem,geff,con72_f,con50_f,con38_f,con72_c,con50_c,con38_c,g1,g2,hv',Int.toNat_natCast,Bool.not_false])
          |simp only [thenQ,blockQ,scopeQ,Nat.reduceEqDiff,reduceIte]|(with_reducible first|refine And.intro ?_ ?_|intro vr))
         all_goals try exact om
         refine end_ret rfl ?_
         simp only [fin,go_sem]
         exact nilAe_le
       ·have g1:decide ((i:Int)<(x.length:Int))=false:=decide_eq_false (by omega)
        rw [List.drop_eq_nil_of_le hc,List.any_nil] at hF
        subst hF
        rw [if_neg (by decide)] at hO
        rw [ofS_ok hO] at hG
        subst hG
        repeat' (first
         |(with_reducible first|refine t_seq fun K=>?_|refine nx ?_|refine t_br (fun hc=>?_) fun hc=>?_)|exact kpd
         |((with_reducible first|refine ny ?_|refine t_kLF ?_ ?_|refine t_region fun K=>?_|refine t_cond fun A B=>?_|refine t_dw (h:=fun K=>?_));simp only [go_sem,geff,con72_f,con50_f,con38_f,con72_c,con50_c,con38_c,g1,slK_sl])
         |simp only [thenQ,blockQ,scopeQ,Nat.reduceEqDiff,reduceIte]|(with_reducible first|refine And.intro ?_ ?_|intro vr))
        all_goals try exact om
        refine end_ret rfl ?_
        simp only [fin,go_sem]
        exact LeA.refl _
     ·have n1:((x.length:Int) !=n)=true:=by rw [bne_iff_ne];exact hn
      rw [ofS_err (e:=1) (ofE_len t hS2 (by rw [hS1];exact hn)) (by decide)]
      refine pcO E8_ok (fun _=>[0,1,2,6,7,8,9,10,16,24,30,35,44]) Tryz.func48 (h:=fun KF=>?_)
      unfold E8
      repeat' (first
       |(with_reducible first|refine t_seq fun K=>?_|refine nx ?_|refine t_br (fun hc=>?_) fun hc=>?_)|exact kpd
       |((with_reducible first|refine ny ?_|refine t_kLF ?_ ?_|refine t_region fun K=>?_|refine t_cond fun A B=>?_|refine t_dw (h:=fun K=>?_));simp only [go_sem,geff,con72_f,con50_f,con38_f,con72_c,con50_c,con38_c,slK_sl,t1,hS,szV_def,n1])
       |simp only [thenQ,blockQ,scopeQ,Nat.reduceEqDiff,reduceIte]|(with_reducible first|refine And.intro ?_ ?_|intro vr))
      all_goals try exact om
      refine end_ret rfl ?_
      simp only [fin,go_sem]
      exact nilAe_le
    ·have e1:(er !=0)=true:=by rw [bne_iff_ne];exact e0
     rw [ofS_err (by rw [ofE_sz t (by rw [hS2];exact e0)]) (by rw [hS2];exact e0)]
     refine pcO E8_ok (fun _=>[0,1,2,6,7,8,9,10,16,24,30,35,44]) Tryz.func48 (h:=fun KF=>?_)
     unfold E8
     repeat' (first
      |(with_reducible first|refine t_seq fun K=>?_|refine nx ?_|refine t_br (fun hc=>?_) fun hc=>?_)|exact kpd
      |((with_reducible first|refine ny ?_|refine t_kLF ?_ ?_|refine t_region fun K=>?_|refine t_cond fun A B=>?_|refine t_dw (h:=fun K=>?_));simp only [go_sem,geff,con72_f,con50_f,con38_f,con72_c,con50_c,con38_c,slK_sl,t1,hS,szV_def,e1])
      |simp only [thenQ,blockQ,scopeQ,Nat.reduceEqDiff,reduceIte]|(with_reducible first|refine And.intro ?_ ?_|intro vr))
     all_goals try exact om
     refine end_ret rfl ?_
     simp only [fin,go_sem,hS]
     exact nilAe_le
   ·have t2:eqS e ⟨#[98,111,111,108]⟩=true:=by unfold tyOk at t;rw [Bool.or_eq_true] at t;exact t.resolve_left t1
    have t1':eqS e ⟨#[105,110,116]⟩=false:=by simpa using t1
    by_cases e0:er=0
    ·subst e0
     by_cases hn:(x.length:Int)=n
     ·have n1:((x.length:Int) !=n)=false:=by rw [bne_eq_false_iff_eq];exact hn
      have hO:=ofE_el (a:=⟨e,d,x⟩) t hS2 (by rw [hS1];exact hn)
      unfold bad at hO
      simp only at hO
      generalize hB:(x.any fun n=> !vld e n)=Bb at hO
      generalize hG:aeV (ofS ⟨e,d,x⟩)=G
      refine pcO E8_ok (fun _=>[0,1,2,6,7,8,9,10,16,24,30,35,44]) Tryz.func48 (h:=fun KF=>?_)
      unfold E8
      repeat' (first
       |(with_reducible first|refine t_seq fun K=>?_|refine nx ?_|refine t_br (fun hc=>?_) fun hc=>?_)|exact kpd
       |((with_reducible first|refine ny ?_|refine t_kLF ?_ ?_|refine t_region fun K=>?_|refine t_cond fun A B=>?_|refine t_dw (h:=fun K=>?_));simp only [go_sem,geff,con72_f,con50_f,con38_f,con72_c,con50_c,con38_c,slK_sl,t1',t2,hS,szV_def,n1])
       |simp only [thenQ,blockQ,scopeQ,Nat.reduceEqDiff,reduceIte]|(with_reducible first|refine And.intro ?_ ?_|intro vr))
      all_goals try exact om
      refine t_loop (ι:={i:Nat // i≤x.length∧((x.drop i).any fun n=> !vld e n)=Bb}) (fun i=>⟨upd (upd (upd (upd (upd topF 10 (.lit (.int .i64 i.1))) 6 (.ref 0 0)) 2 (.sl false 1 (ints .i64 x))) 1 (.sl false 1 (ints .i64 d))) 0 (.lit (.string e)),[AObj.box 31 [AV.lit (Value.string ByteArray.empty),AV.sl true 1 [],AV.sl true 1 []]]⟩) (fun i=>x.length - i.1) ⟨0,by omega,hB⟩ ?_ ?_
      ·skip
       (refine Le.frame ?_;repeat' (first|exact leF_top _|(with_reducible refine leF_sl ?_ ?_)|(refine leF_upd (LeR.of_eq ?_) ?_)))<;>(try (simp only [go_sem];try rfl))
      ·rintro ⟨i,hi,hF⟩ K0
       rcases Nat.lt_or_ge i x.length with hc|hc
       ·have g1:decide ((i:Int)<(x.length:Int))=true:=decide_eq_true (by omega)
        have g2:=ints_getD .i64 x i hc
        rw [drop_getD 0 hc,List.any_cons] at hF
        generalize x.getD i 0=v at g2 hF
        by_cases hv:vld e v=true
        ·rw [hv,Bool.not_true,Bool.false_or] at hF
         repeat' (first
          |(with_reducible first|refine t_seq fun K=>?_|refine nx ?_|refine t_br (fun hc=>?_) fun hc=>?_)|exact kpd
          |((with_reducible first|refine ny ?_|refine t_kLF ?_ ?_|refine t_region fun K=>?_|refine t_cond fun A B=>?_|refine t_dw (h:=fun K=>?_));simp only [go_sem,geff,con72_f,con50_f,con38_f,con72_c,con50_c,con38_c,g1,g2,hv,Int.toNat_natCast,Bool.not_true])
          |simp only [thenQ,blockQ,scopeQ,Nat.reduceEqDiff,reduceIte]|(with_reducible first|refine And.intro ?_ ?_|intro vr))
         all_goals try exact om
         refine ⟨⟨i+1,by omega,hF⟩,by simp only;omega,?_⟩
         (refine Le.frame ?_;repeat' (first|exact leF_top _|(with_reducible refine leF_sl ?_ ?_)|(refine leF_upd (LeR.of_eq ?_) ?_)))<;>(try (simp only [go_sem];try rfl))
        ·have hv':vld e v=false:=by simpa using hv
         rw [hv',Bool.not_false,Bool.true_or] at hF
         subst hF
         rw [if_pos rfl] at hO
         rw [ofS_err hO (by decide)] at hG
         subst hG
         repeat' (first
          |(with_reducible first|refine t_seq fun K=>?_|refine nx ?_|refine t_br (fun hc=>?_) fun hc=>?_)|exact kpd
          |((with_reducible first|refine ny ?_|refine t_kLF ?_ ?_|refine t_region fun K=>?_|refine t_cond fun A B=>?_|refine t_dw (h:=fun K=>?_));simp only [go_sem,geff,con72_f,con50_f,con38_f,con72_c,con50_c,con38_c,g1,g2,hv',Int.toNat_natCast,Bool.not_false])
          |simp only [thenQ,blockQ,scopeQ,Nat.reduceEqDiff,reduceIte]|(with_reducible first|refine And.intro ?_ ?_|intro vr))
         all_goals try exact om
         refine end_ret rfl ?_
         simp only [fin,go_sem]
         exact nilAe_le
       ·have g1:decide ((i:Int)<(x.length:Int))=false:=decide_eq_false (by omega)
        rw [List.drop_eq_nil_of_le hc,List.any_nil] at hF
        subst hF
        rw [if_neg (by decide)] at hO
        rw [ofS_ok hO] at hG
        subst hG
        repeat' (first
         |(with_reducible first|refine t_seq fun K=>?_|refine nx ?_|refine t_br (fun hc=>?_) fun hc=>?_)|exact kpd
         |((with_reducible first|refine ny ?_|refine t_kLF ?_ ?_|refine t_region fun K=>?_|refine t_cond fun A B=>?_|refine t_dw (h:=fun K=>?_));simp only [go_sem,geff,con72_f,con50_f,con38_f,con72_c,con50_c,con38_c,g1,slK_sl])
         |simp only [thenQ,blockQ,scopeQ,Nat.reduceEqDiff,reduceIte]|(with_reducible first|refine And.intro ?_ ?_|intro vr))
        all_goals try exact om
        refine end_ret rfl ?_
        simp only [fin,go_sem]
        exact LeA.refl _
     ·have n1:((x.length:Int) !=n)=true:=by rw [bne_iff_ne];exact hn
      rw [ofS_err (e:=1) (ofE_len t hS2 (by rw [hS1];exact hn)) (by decide)]
      refine pcO E8_ok (fun _=>[0,1,2,6,7,8,9,10,16,24,30,35,44]) Tryz.func48 (h:=fun KF=>?_)
      unfold E8
      repeat' (first
       |(with_reducible first|refine t_seq fun K=>?_|refine nx ?_|refine t_br (fun hc=>?_) fun hc=>?_)|exact kpd
       |((with_reducible first|refine ny ?_|refine t_kLF ?_ ?_|refine t_region fun K=>?_|refine t_cond fun A B=>?_|refine t_dw (h:=fun K=>?_));simp only [go_sem,geff,con72_f,con50_f,con38_f,con72_c,con50_c,con38_c,slK_sl,t1',t2,hS,szV_def,n1])
       |simp only [thenQ,blockQ,scopeQ,Nat.reduceEqDiff,reduceIte]|(with_reducible first|refine And.intro ?_ ?_|intro vr))
      all_goals try exact om
      refine end_ret rfl ?_
      simp only [fin,go_sem]
      exact nilAe_le
    ·have e1:(er !=0)=true:=by rw [bne_iff_ne];exact e0
     rw [ofS_err (by rw [ofE_sz t (by rw [hS2];exact e0)]) (by rw [hS2];exact e0)]
     refine pcO E8_ok (fun _=>[0,1,2,6,7,8,9,10,16,24,30,35,44]) Tryz.func48 (h:=fun KF=>?_)
     unfold E8
     repeat' (first
      |(with_reducible first|refine t_seq fun K=>?_|refine nx ?_|refine t_br (fun hc=>?_) fun hc=>?_)|exact kpd
      |((with_reducible first|refine ny ?_|refine t_kLF ?_ ?_|refine t_region fun K=>?_|refine t_cond fun A B=>?_|refine t_dw (h:=fun K=>?_));simp only [go_sem,geff,con72_f,con50_f,con38_f,con72_c,con50_c,con38_c,slK_sl,t1',t2,hS,szV_def,e1])
      |simp only [thenQ,blockQ,scopeQ,Nat.reduceEqDiff,reduceIte]|(with_reducible first|refine And.intro ?_ ?_|intro vr))
     all_goals try exact om
     refine end_ret rfl ?_
     simp only [fin,go_sem,hS]
     exact nilAe_le
  ·have t':tyOk e=false:=by simpa using t
   have t1:eqS e ⟨#[105,110,116]⟩=false:=(Bool.or_eq_false_iff.1 t').1
   have t2:eqS e ⟨#[98,111,111,108]⟩=false:=(Bool.or_eq_false_iff.1 t').2
   rw [ofS_err (ofE_ty t') (by decide)]
   refine pcO E8_ok (fun _=>[0,1,2,6,7,8,9,10,16,24,30,35,44]) Tryz.func48 (h:=fun KF=>?_)
   unfold E8
   repeat' (first
    |(with_reducible first|refine t_seq fun K=>?_|refine nx ?_|refine t_br (fun hc=>?_) fun hc=>?_)|exact kpd
    |((with_reducible first|refine ny ?_|refine t_kLF ?_ ?_|refine t_region fun K=>?_|refine t_cond fun A B=>?_|refine t_dw (h:=fun K=>?_));simp only [go_sem,geff,con72_f,con50_f,con38_f,con72_c,con50_c,con38_c,t1,t2])
    |simp only [thenQ,blockQ,scopeQ,Nat.reduceEqDiff,reduceIte]|(with_reducible first|refine And.intro ?_ ?_|intro vr))
   all_goals try exact om
   refine end_ret rfl ?_
   simp only [fin,go_sem]
   exact nilAe_le
noncomputable def con48:PCon Tryz.prog where
  f:=48
  c:=fun
   |[.lit (.string e),xd,xx]=>match slK .i64 xd,slK .i64 xx with|some d,some x=>some (d.length≤1000000∧x.length≤1000000,aeV (ofS ⟨e,d,x⟩))|_,_=>none
   |_=>none
  ok:=by
   intro args p r hc hp
   split at hc
   ·split at hc
    ·rename_i hd hx
     cases hc
     exact PC.weak ((fun hp:_∧_=>rof_pc hp.1 hp.2) hp) ⟨LeA.refl _,slK_le hd,slK_le hx,trivial⟩
    ·cases hc
   ·cases hc
  fk:=fk48
theorem con48_f:con48.f=48:=rfl
theorem con48_c {e:ByteArray} {xd:AV} {xx:AV}:con48.c [.lit (.string e),xd,xx]=match slK .i64 xd,slK .i64 xx with|some d,some x=>some (d.length≤1000000∧x.length≤1000000,aeV (ofS ⟨e,d,x⟩))|_,_=>none:=rfl
theorem aeV_def {p:Arr×Int}:aeV p= .tup [arrV p.1,.lit (.int .i64 p.2)]:=rfl
theorem ofS_snd (a:Arr):(ofS a).2=ofE a:=by
  unfold ofS
  split
  ·rename_i h;exact h.symm
  ·rfl
noncomputable def E9:Env:=envOf (P:=Tryz.prog) zer (fun _=>false) (fun _=>false) [con48,con47] []
theorem E9_ok:EnvOk Tryz.prog E9:=envOk zer_ok
theorem valid_pc {a:Arr} (hd:a.d.length≤1000000) (hx:a.x.length≤1000000):PC Tryz.prog 45 [arrV a] (.lit (.bool (ofE a==0))):=by
  rw [←ofS_snd]
  refine pcO E9_ok (fun _=>[1,2,4]) Tryz.func45 (h:=fun KF=>?_)
  unfold E9
  repeat' (first
   |(with_reducible first|refine t_seq fun K=>?_|refine nx ?_|refine t_br (fun hc=>?_) fun hc=>?_)|exact kpd
   |((with_reducible first|refine ny ?_|refine t_kLF ?_ ?_|refine t_region fun K=>?_|refine t_cond fun A B=>?_|refine t_dw (h:=fun K=>?_));simp only [go_sem,geff,con48_f,con47_f,con47_c,slK_sl,arrV_def,aeV_def])
   |simp only [thenQ,blockQ,scopeQ,Nat.reduceEqDiff,reduceIte]|(with_reducible first|refine And.intro ?_ ?_|intro vr))
  all_goals try exact om
  refine end_ret rfl ?_
  simp only [fin,go_sem]
  exact LeA.refl _
theorem rvalid_pc {a:Arr} (hd:a.d.length≤1000000) (hx:a.x.length≤1000000):PC Tryz.prog 22 [arrV a] (.lit (.bool (ofE a==0))):=by
  rw [←ofS_snd]
  refine pcO E9_ok (fun _=>[1,2,4]) Tryz.func22 (h:=fun KF=>?_)
  unfold E9
  repeat' (first
   |(with_reducible first|refine t_seq fun K=>?_|refine nx ?_|refine t_br (fun hc=>?_) fun hc=>?_)|exact kpd
   |((with_reducible first|refine ny ?_|refine t_kLF ?_ ?_|refine t_region fun K=>?_|refine t_cond fun A B=>?_|refine t_dw (h:=fun K=>?_));simp only [go_sem,geff,con48_f,con47_f,con48_c,slK_sl,arrV_def,aeV_def])
   |simp only [thenQ,blockQ,scopeQ,Nat.reduceEqDiff,reduceIte]|(with_reducible first|refine And.intro ?_ ?_|intro vr))
  all_goals try exact om
  refine end_ret rfl ?_
  simp only [fin,go_sem]
  exact LeA.refl _
noncomputable def con45:PCon Tryz.prog where
  f:=45
  c:=fun
   |[xa]=>match arrOf xa with|some a=>some (a.d.length≤1000000∧a.x.length≤1000000,.lit (.bool (ofE a==0)))|_=>none
   |_=>none
  ok:=by
   intro args p r hc hp
   split at hc
   ·split at hc
    ·rename_i ha
     cases hc
     exact PC.weak ((fun hp:_∧_=>valid_pc hp.1 hp.2) hp) ⟨arrOf_le ha,trivial⟩
    ·cases hc
   ·cases hc
  fk:=fk45
theorem con45_f:con45.f=45:=rfl
theorem con45_c {xa:AV}:con45.c [xa]=match arrOf xa with|some a=>some (a.d.length≤1000000∧a.x.length≤1000000,.lit (.bool (ofE a==0)))|_=>none:=rfl
noncomputable def con22:PCon Tryz.prog where
  f:=22
  c:=fun
   |[xa]=>match arrOf xa with|some a=>some (a.d.length≤1000000∧a.x.length≤1000000,.lit (.bool (ofE a==0)))|_=>none
   |_=>none
  ok:=by
   intro args p r hc hp
   split at hc
   ·split at hc
    ·rename_i ha
     cases hc
     exact PC.weak ((fun hp:_∧_=>rvalid_pc hp.1 hp.2) hp) ⟨arrOf_le ha,trivial⟩
    ·cases hc
   ·cases hc
  fk:=fk22
theorem con22_f:con22.f=22:=rfl
theorem con22_c {xa:AV}:con22.c [xa]=match arrOf xa with|some a=>some (a.d.length≤1000000∧a.x.length≤1000000,.lit (.bool (ofE a==0)))|_=>none:=rfl
end Go.Proofs.YtcpjahmajkhchaaGreat

namespace Go.Proofs.YtcpjahmajkhchaaGreat.El
open Go.Proofs.YtcpjahmajkhchaaGreat
open Go Go.Fw
set_option maxRecDepth 20000
noncomputable def E0:Env:=envOf (P:=Tryz.prog) zer (fun _=>false) (fun _=>false) [] []
theorem E0_ok:EnvOk Tryz.prog E0:=envOk zer_ok
def el (n:Int):Prop:= -2147483648≤n∧n≤2147483647
def w32 (n:Int):Int:=IntKind.i32.wrap n
theorem w32_eq (n:Int):w32 n=(n+2147483648) % 4294967296 - 2147483648:=by
  unfold w32 IntKind.wrap
  have e1:IntKind.i32.bits=32:=rfl
  have e2:IntKind.i32.signed=true:=rfl
  simp only [e1,e2]
  simp
  try omega
theorem w32_el (n:Int):el (w32 n):=by rw [w32_eq];unfold el;omega
theorem w32_id {n:Int} (h:el n):w32 n=n:=by rw [w32_eq];unfold el at h;omega
theorem el_i64 {n:Int} (h:el n):inI64 n:=by unfold el at h;unfold inI64;omega
theorem wrap_w32 (n:Int):IntKind.i64.wrap (IntKind.i32.wrap n)=w32 n:=wrap_i64 (el_i64 (w32_el n))
theorem wrap_pc {f:FuncId} {n:Int} (hf:f=88∨f=37):PC Tryz.prog f [.lit (.int .i64 n)] (.lit (.int .i64 (w32 n))):=by
  rcases hf with rfl|rfl
  ·skip
   refine pcO E0_ok (fun _=>[0,2]) Tryz.func88 (h:=fun KF=>?_)
   unfold E0
   repeat' (first
    |(with_reducible first|refine t_seq fun K=>?_|refine nx ?_|refine t_br (fun hc=>?_) fun hc=>?_)|exact kpd
    |((with_reducible first|refine ny ?_|refine t_kLF ?_ ?_|refine t_region fun K=>?_|refine t_cond fun A B=>?_|refine t_dw (h:=fun K=>?_));simp only [go_sem,geff])
    |simp only [thenQ,blockQ,scopeQ,Nat.reduceEqDiff,reduceIte]|(with_reducible first|refine And.intro ?_ ?_|intro vr))
   refine end_ret rfl ?_
   simp only [fin,go_sem,wrap_w32]
   exact LeA.refl _
  ·skip
   refine pcO E0_ok (fun _=>[0,2]) Tryz.func37 (h:=fun KF=>?_)
   unfold E0
   repeat' (first
    |(with_reducible first|refine t_seq fun K=>?_|refine nx ?_|refine t_br (fun hc=>?_) fun hc=>?_)|exact kpd
    |((with_reducible first|refine ny ?_|refine t_kLF ?_ ?_|refine t_region fun K=>?_|refine t_cond fun A B=>?_|refine t_dw (h:=fun K=>?_));simp only [go_sem,geff])
    |simp only [thenQ,blockQ,scopeQ,Nat.reduceEqDiff,reduceIte]|(with_reducible first|refine And.intro ?_ ?_|intro vr))
   refine end_ret rfl ?_
   simp only [fin,go_sem,wrap_w32]
   exact LeA.refl _
noncomputable def wrapCon (f:FuncId) (h:f=88∨f=37):PCon Tryz.prog where
  f:=f
  c:=fun
   |[.lit (.int .i64 n)]=>some (True,.lit (.int .i64 (w32 n)))
   |_=>none
  ok:=by
   intro args p r hc hp
   split at hc
   ·cases hc;exact wrap_pc h
   ·cases hc
  fk:=by
   rcases h with rfl|rfl
   ·exact fk88
   ·exact fk37
noncomputable def con88:=wrapCon 88 (.inl rfl)
noncomputable def con37:=wrapCon 37 (.inr rfl)
theorem con88_f:con88.f=88:=rfl
theorem con37_f:con37.f=37:=rfl
theorem con88_c {n:Int}:con88.c [.lit (.int .i64 n)]=some (True,.lit (.int .i64 (w32 n))):=rfl
theorem con37_c {n:Int}:con37.c [.lit (.int .i64 n)]=some (True,.lit (.int .i64 (w32 n))):=rfl
def tru (b:Bool):Int:=if b=true then 1 else 0
theorem tru_pc {f:FuncId} {b:Bool} (hf:f=86∨f=114):PC Tryz.prog f [.lit (.bool b)] (.lit (.int .i64 (tru b))):=by
  rcases hf with rfl|rfl<;>cases b
  ·skip
   refine pcO E0_ok (fun _=>[0,2,3]) Tryz.func86 (h:=fun KF=>?_)
   unfold E0
   repeat' (first
    |(with_reducible first|refine t_seq fun K=>?_|refine nx ?_|refine t_br (fun hc=>?_) fun hc=>?_)|exact kpd
    |((with_reducible first|refine ny ?_|refine t_kLF ?_ ?_|refine t_region fun K=>?_|refine t_cond fun A B=>?_|refine t_dw (h:=fun K=>?_));simp only [go_sem,geff])
    |simp only [thenQ,blockQ,scopeQ,Nat.reduceEqDiff,reduceIte]|(with_reducible first|refine And.intro ?_ ?_|intro vr))
   refine end_ret rfl ?_
   simp only [fin,go_sem]
   exact LeA.refl _
  ·skip
   refine pcO E0_ok (fun _=>[0,2,3]) Tryz.func86 (h:=fun KF=>?_)
   unfold E0
   repeat' (first
    |(with_reducible first|refine t_seq fun K=>?_|refine nx ?_|refine t_br (fun hc=>?_) fun hc=>?_)|exact kpd
    |((with_reducible first|refine ny ?_|refine t_kLF ?_ ?_|refine t_region fun K=>?_|refine t_cond fun A B=>?_|refine t_dw (h:=fun K=>?_));simp only [go_sem,geff])
    |simp only [thenQ,blockQ,scopeQ,Nat.reduceEqDiff,reduceIte]|(with_reducible first|refine And.intro ?_ ?_|intro vr))
   refine end_ret rfl ?_
   simp only [fin,go_sem]
   exact LeA.refl _
  ·skip
   refine pcO E0_ok (fun _=>[0,2,3]) Tryz.func114 (h:=fun KF=>?_)
   unfold E0
   repeat' (first
    |(with_reducible first|refine t_seq fun K=>?_|refine nx ?_|refine t_br (fun hc=>?_) fun hc=>?_)|exact kpd
    |((with_reducible first|refine ny ?_|refine t_kLF ?_ ?_|refine t_region fun K=>?_|refine t_cond fun A B=>?_|refine t_dw (h:=fun K=>?_));simp only [go_sem,geff])
    |simp only [thenQ,blockQ,scopeQ,Nat.reduceEqDiff,reduceIte]|(with_reducible first|refine And.intro ?_ ?_|intro vr))
   refine end_ret rfl ?_
   simp only [fin,go_sem]
   exact LeA.refl _
  ·skip
   refine pcO E0_ok (fun _=>[0,2,3]) Tryz.func114 (h:=fun KF=>?_)
   unfold E0
   repeat' (first
    |(with_reducible first|refine t_seq fun K=>?_|refine nx ?_|refine t_br (fun hc=>?_) fun hc=>?_)|exact kpd
    |((with_reducible first|refine ny ?_|refine t_kLF ?_ ?_|refine t_region fun K=>?_|refine t_cond fun A B=>?_|refine t_dw (h:=fun K=>?_));simp only [go_sem,geff])
    |simp only [thenQ,blockQ,scopeQ,Nat.reduceEqDiff,reduceIte]|(with_reducible first|refine And.intro ?_ ?_|intro vr))
   refine end_ret rfl ?_
   simp only [fin,go_sem]
   exact LeA.refl _
noncomputable def truCon (f:FuncId) (h:f=86∨f=114):PCon Tryz.prog where
  f:=f
  c:=fun
   |[.lit (.bool b)]=>some (True,.lit (.int .i64 (tru b)))
   |_=>none
  ok:=by
   intro args p r hc hp
   split at hc
   ·cases hc;exact tru_pc h
   ·cases hc
  fk:=by
   rcases h with rfl|rfl
   ·exact fk86
   ·exact fk114
noncomputable def con86:=truCon 86 (.inl rfl)
noncomputable def con114:=truCon 114 (.inr rfl)
theorem con86_f:con86.f=86:=rfl
theorem con114_f:con114.f=114:=rfl
theorem con86_c {b:Bool}:con86.c [.lit (.bool b)]=some (True,.lit (.int .i64 (tru b))):=rfl
theorem con114_c {b:Bool}:con114.c [.lit (.bool b)]=some (True,.lit (.int .i64 (tru b))):=rfl
theorem tdiv_bd {a b:Int} (ha:el a) (hb:b≠0): -2147483648≤a.tdiv b∧a.tdiv b≤2147483648:=by
  unfold el at ha
  have:=Int.natAbs_tdiv_le_natAbs a b
  omega
def flo (a b:Int):Int:=if b=0 then 0 else if a.tmod b≠0∧decide (a<0)≠decide (b<0) then a.tdiv b - 1 else a.tdiv b
theorem flo_pc {f:FuncId} {a b:Int} (hf:f=89∨f=87) (ha:el a):PC Tryz.prog f [.lit (.int .i64 a),.lit (.int .i64 b)] (.lit (.int .i64 (flo a b))):=by
  unfold flo
  by_cases hb:b=0
  ·subst hb
   rcases hf with rfl|rfl
   ·skip
    refine pcO E0_ok (fun _=>[0,1,4,5,7,21]) Tryz.func89 (h:=fun KF=>?_)
    unfold E0
    repeat' (first
     |(with_reducible first|refine t_seq fun K=>?_|refine nx ?_|refine t_br (fun hc=>?_) fun hc=>?_)|exact kpd
     |((with_reducible first|refine ny ?_|refine t_kLF ?_ ?_|refine t_region fun K=>?_|refine t_cond fun A B=>?_|refine t_dw (h:=fun K=>?_));simp only [go_sem,geff])
     |simp only [thenQ,blockQ,scopeQ,Nat.reduceEqDiff,reduceIte]|(with_reducible first|refine And.intro ?_ ?_|intro vr))
    refine end_ret rfl ?_
    simp only [fin,go_sem]
    exact LeA.refl _
   ·skip
    refine pcO E0_ok (fun _=>[0,1,4,5,7,21]) Tryz.func87 (h:=fun KF=>?_)
    unfold E0
    repeat' (first
     |(with_reducible first|refine t_seq fun K=>?_|refine nx ?_|refine t_br (fun hc=>?_) fun hc=>?_)|exact kpd
     |((with_reducible first|refine ny ?_|refine t_kLF ?_ ?_|refine t_region fun K=>?_|refine t_cond fun A B=>?_|refine t_dw (h:=fun K=>?_));simp only [go_sem,geff])
     |simp only [thenQ,blockQ,scopeQ,Nat.reduceEqDiff,reduceIte]|(with_reducible first|refine And.intro ?_ ?_|intro vr))
    refine end_ret rfl ?_
    simp only [fin,go_sem]
    exact LeA.refl _
  have hd:=tdiv_bd ha hb
  have z:(b==0)=false:=by rw [beq_eq_false_iff_ne];exact hb
  rw [if_neg hb]
  by_cases h0:a.tmod b=0
  ·have z0:(a.tmod b !=0)=false:=by rw [bne_eq_false_iff_eq];exact h0
   rw [if_neg (fun h=>h.1 h0)]
   rcases hf with rfl|rfl
   ·skip
    refine pcO E0_ok (fun _=>[0,1,4,5,7,21]) Tryz.func89 (h:=fun KF=>?_)
    unfold E0
    repeat' (first
     |(with_reducible first|refine t_seq fun K=>?_|refine nx ?_|refine t_br (fun hc=>?_) fun hc=>?_)|exact kpd
     |((with_reducible first|refine ny ?_|refine t_kLF ?_ ?_|refine t_region fun K=>?_|refine t_cond fun A B=>?_|refine t_dw (h:=fun K=>?_));simp only [go_sem,geff,z,z0])
     |simp only [thenQ,blockQ,scopeQ,Nat.reduceEqDiff,reduceIte]|(with_reducible first|refine And.intro ?_ ?_|intro vr))
    all_goals try exact om
    refine end_ret rfl ?_
    simp only [fin,go_sem]
    exact LeA.refl _
   ·skip
    refine pcO E0_ok (fun _=>[0,1,4,5,7,21]) Tryz.func87 (h:=fun KF=>?_)
    unfold E0
    repeat' (first
     |(with_reducible first|refine t_seq fun K=>?_|refine nx ?_|refine t_br (fun hc=>?_) fun hc=>?_)|exact kpd
     |((with_reducible first|refine ny ?_|refine t_kLF ?_ ?_|refine t_region fun K=>?_|refine t_cond fun A B=>?_|refine t_dw (h:=fun K=>?_));simp only [go_sem,geff,z,z0])
     |simp only [thenQ,blockQ,scopeQ,Nat.reduceEqDiff,reduceIte]|(with_reducible first|refine And.intro ?_ ?_|intro vr))
    all_goals try exact om
    refine end_ret rfl ?_
    simp only [fin,go_sem]
    exact LeA.refl _
  have z0:(a.tmod b !=0)=true:=by rw [bne_iff_ne];exact h0
  by_cases h1:decide (a<0)=decide (b<0)
  ·have z1:(decide (a<0)==decide (b<0))=true:=by rw [beq_iff_eq];exact h1
   rw [if_neg (fun h=>h.2 h1)]
   rcases hf with rfl|rfl
   ·skip
    refine pcO E0_ok (fun _=>[0,1,4,5,7,21]) Tryz.func89 (h:=fun KF=>?_)
    unfold E0
    repeat' (first
     |(with_reducible first|refine t_seq fun K=>?_|refine nx ?_|refine t_br (fun hc=>?_) fun hc=>?_)|exact kpd
     |((with_reducible first|refine ny ?_|refine t_kLF ?_ ?_|refine t_region fun K=>?_|refine t_cond fun A B=>?_|refine t_dw (h:=fun K=>?_));simp only [go_sem,geff,z,z0,z1])
     |simp only [thenQ,blockQ,scopeQ,Nat.reduceEqDiff,reduceIte]|(with_reducible first|refine And.intro ?_ ?_|intro vr))
    all_goals try exact om
    refine end_ret rfl ?_
    simp only [fin,go_sem]
    exact LeA.refl _
   ·skip
    refine pcO E0_ok (fun _=>[0,1,4,5,7,21]) Tryz.func87 (h:=fun KF=>?_)
    unfold E0
    repeat' (first
     |(with_reducible first|refine t_seq fun K=>?_|refine nx ?_|refine t_br (fun hc=>?_) fun hc=>?_)|exact kpd
     |((with_reducible first|refine ny ?_|refine t_kLF ?_ ?_|refine t_region fun K=>?_|refine t_cond fun A B=>?_|refine t_dw (h:=fun K=>?_));simp only [go_sem,geff,z,z0,z1])
     |simp only [thenQ,blockQ,scopeQ,Nat.reduceEqDiff,reduceIte]|(with_reducible first|refine And.intro ?_ ?_|intro vr))
    all_goals try exact om
    refine end_ret rfl ?_
    simp only [fin,go_sem]
    exact LeA.refl _
  ·have z1:(decide (a<0)==decide (b<0))=false:=by rw [beq_eq_false_iff_ne];exact h1
   rw [if_pos ⟨h0,h1⟩]
   rcases hf with rfl|rfl
   ·skip
    refine pcO E0_ok (fun _=>[0,1,4,5,7,21]) Tryz.func89 (h:=fun KF=>?_)
    unfold E0
    repeat' (first
     |(with_reducible first|refine t_seq fun K=>?_|refine nx ?_|refine t_br (fun hc=>?_) fun hc=>?_)|exact kpd
     |((with_reducible first|refine ny ?_|refine t_kLF ?_ ?_|refine t_region fun K=>?_|refine t_cond fun A B=>?_|refine t_dw (h:=fun K=>?_));simp only [go_sem,geff,z,z0,z1])
     |simp only [thenQ,blockQ,scopeQ,Nat.reduceEqDiff,reduceIte]|(with_reducible first|refine And.intro ?_ ?_|intro vr))
    all_goals try exact om
    refine end_ret rfl ?_
    simp only [fin,go_sem]
    exact LeA.refl _
   ·skip
    refine pcO E0_ok (fun _=>[0,1,4,5,7,21]) Tryz.func87 (h:=fun KF=>?_)
    unfold E0
    repeat' (first
     |(with_reducible first|refine t_seq fun K=>?_|refine nx ?_|refine t_br (fun hc=>?_) fun hc=>?_)|exact kpd
     |((with_reducible first|refine ny ?_|refine t_kLF ?_ ?_|refine t_region fun K=>?_|refine t_cond fun A B=>?_|refine t_dw (h:=fun K=>?_));simp only [go_sem,geff,z,z0,z1])
     |simp only [thenQ,blockQ,scopeQ,Nat.reduceEqDiff,reduceIte]|(with_reducible first|refine And.intro ?_ ?_|intro vr))
    all_goals try exact om
    refine end_ret rfl ?_
    simp only [fin,go_sem]
    exact LeA.refl _
noncomputable def floCon (f:FuncId) (h:f=89∨f=87):PCon Tryz.prog where
  f:=f
  c:=fun
   |[.lit (.int .i64 a),.lit (.int .i64 b)]=>some (el a,.lit (.int .i64 (flo a b)))
   |_=>none
  ok:=by
   intro args p r hc hp
   split at hc
   ·cases hc;exact flo_pc h hp
   ·cases hc
  fk:=by
   rcases h with rfl|rfl
   ·exact fk89
   ·exact fk87
noncomputable def con89:=floCon 89 (.inl rfl)
noncomputable def con87:=floCon 87 (.inr rfl)
theorem con89_f:con89.f=89:=rfl
theorem con87_f:con87.f=87:=rfl
theorem con89_c {a b:Int}:con89.c [.lit (.int .i64 a),.lit (.int .i64 b)]=some (el a,.lit (.int .i64 (flo a b))):=rfl
theorem con87_c {a b:Int}:con87.c [.lit (.int .i64 a),.lit (.int .i64 b)]=some (el a,.lit (.int .i64 (flo a b))):=rfl
def sgn (a:Int):Int:=if a<0 then -1 else if a>0 then 1 else 0
theorem nan_pc {a:Int}:PC Tryz.prog 113 [.lit (.int .i64 a)] (.lit (.bool false)):=by
  refine pcO E0_ok (fun _=>[0,2]) Tryz.func113 (h:=fun KF=>?_)
  unfold E0
  repeat' (first
   |(with_reducible first|refine t_seq fun K=>?_|refine nx ?_|refine t_br (fun hc=>?_) fun hc=>?_)|exact kpd
   |((with_reducible first|refine ny ?_|refine t_kLF ?_ ?_|refine t_region fun K=>?_|refine t_cond fun A B=>?_|refine t_dw (h:=fun K=>?_));simp only [go_sem,geff,bne_self_eq_false])
   |simp only [thenQ,blockQ,scopeQ,Nat.reduceEqDiff,reduceIte]|(with_reducible first|refine And.intro ?_ ?_|intro vr))
  refine end_ret rfl ?_
  simp only [fin,go_sem,bne_self_eq_false]
  exact LeA.refl _
noncomputable def con113:PCon Tryz.prog where
  f:=113
  c:=fun
   |[.lit (.int .i64 _)]=>some (True,.lit (.bool false))
   |_=>none
  ok:=by
   intro args p r hc hp
   split at hc
   ·cases hc;exact nan_pc
   ·cases hc
  fk:=fk113
theorem con113_f:con113.f=113:=rfl
theorem con113_c {a:Int}:con113.c [.lit (.int .i64 a)]=some (True,.lit (.bool false)):=rfl
noncomputable def E1:Env:=envOf (P:=Tryz.prog) zer (fun _=>false) (fun _=>false) [con113] []
theorem E1_ok:EnvOk Tryz.prog E1:=envOk zer_ok
theorem cmp_pc {a:Int}:PC Tryz.prog 90 [.lit (.int .i64 a),.lit (.int .i64 0)] (.lit (.int .i64 (sgn a))):=by
  unfold sgn
  by_cases h1:a<0
  ·have z:decide (a<0)=true:=decide_eq_true h1
   rw [if_pos h1]
   refine pcO E1_ok (fun _=>[0,1,4,5,6,11,12,13,16,19]) Tryz.func90 (h:=fun KF=>?_)
   unfold E1
   repeat' (first
    |(with_reducible first|refine t_seq fun K=>?_|refine nx ?_|refine t_br (fun hc=>?_) fun hc=>?_)|exact kpd
    |((with_reducible first|refine ny ?_|refine t_kLF ?_ ?_|refine t_region fun K=>?_|refine t_cond fun A B=>?_|refine t_dw (h:=fun K=>?_));simp only [go_sem,geff,con113_f,con113_c,z])
    |simp only [thenQ,blockQ,scopeQ,Nat.reduceEqDiff,reduceIte]|(with_reducible first|refine And.intro ?_ ?_|intro vr))
   refine end_ret rfl ?_
   simp only [fin,go_sem]
   exact LeA.refl _
  have z:decide (a<0)=false:=decide_eq_false h1
  rw [if_neg h1]
  by_cases h2:a>0
  ·have z2:decide (a>0)=true:=decide_eq_true h2
   rw [if_pos h2]
   refine pcO E1_ok (fun _=>[0,1,4,5,6,11,12,13,16,19]) Tryz.func90 (h:=fun KF=>?_)
   unfold E1
   repeat' (first
    |(with_reducible first|refine t_seq fun K=>?_|refine nx ?_|refine t_br (fun hc=>?_) fun hc=>?_)|exact kpd
    |((with_reducible first|refine ny ?_|refine t_kLF ?_ ?_|refine t_region fun K=>?_|refine t_cond fun A B=>?_|refine t_dw (h:=fun K=>?_));simp only [go_sem,geff,con113_f,con113_c,z,z2])
    |simp only [thenQ,blockQ,scopeQ,Nat.reduceEqDiff,reduceIte]|(with_reducible first|refine And.intro ?_ ?_|intro vr))
   refine end_ret rfl ?_
   simp only [fin,go_sem]
   exact LeA.refl _
  ·have z2:decide (a>0)=false:=decide_eq_false h2
   rw [if_neg h2]
   refine pcO E1_ok (fun _=>[0,1,4,5,6,11,12,13,16,19]) Tryz.func90 (h:=fun KF=>?_)
   unfold E1
   repeat' (first
    |(with_reducible first|refine t_seq fun K=>?_|refine nx ?_|refine t_br (fun hc=>?_) fun hc=>?_)|exact kpd
    |((with_reducible first|refine ny ?_|refine t_kLF ?_ ?_|refine t_region fun K=>?_|refine t_cond fun A B=>?_|refine t_dw (h:=fun K=>?_));simp only [go_sem,geff,con113_f,con113_c,z,z2])
    |simp only [thenQ,blockQ,scopeQ,Nat.reduceEqDiff,reduceIte]|(with_reducible first|refine And.intro ?_ ?_|intro vr))
   refine end_ret rfl ?_
   simp only [fin,go_sem]
   exact LeA.refl _
noncomputable def con90:PCon Tryz.prog where
  f:=90
  c:=fun
   |[.lit (.int .i64 a),.lit (.int .i64 0)]=>some (True,.lit (.int .i64 (sgn a)))
   |_=>none
  ok:=by
   intro args p r hc hp
   split at hc
   ·cases hc;exact cmp_pc
   ·cases hc
  fk:=fk90
theorem con90_f:con90.f=90:=rfl
theorem con90_c {a:Int}:con90.c [.lit (.int .i64 a),.lit (.int .i64 0)]=some (True,.lit (.int .i64 (sgn a))):=rfl
def sInt:ByteArray:=⟨#[105,110,116]⟩
def sBool:ByteArray:=⟨#[98,111,111,108]⟩
def sA:ByteArray:=⟨#[65]⟩
def vld (s:ByteArray) (n:Int):Bool:=if eqS s sInt=true then decide (-2147483648≤n∧n≤2147483647) else if eqS s sBool=true then decide (n=0∨n=1) else false
theorem eqS_iff {a b:ByteArray}:eqS a b=true ↔ a=b:=by
  unfold eqS
  rw [beq_iff_eq]
  constructor
  ·intro h
   apply ByteArray.ext
   apply Array.ext'
   simpa using h
  ·intro h;rw [h]
theorem eqS_refl (b:ByteArray):eqS b b=true:=eqS_iff.2 rfl
theorem vld_pc {f:FuncId} {s:ByteArray} {n:Int} (hf:f=40∨f=38):PC Tryz.prog f [.lit (.string s),.lit (.int .i64 n)] (.lit (.bool (vld s n))):=by
  unfold vld sInt sBool
  by_cases h1:eqS s ⟨#[105,110,116]⟩=true
  ·have hs:s=⟨#[105,110,116]⟩:=eqS_iff.1 h1
   have h2:eqS s ⟨#[98,111,111,108]⟩=false:=by rw [hs];rfl
   rw [if_pos h1]
   by_cases h3:n≥ -2147483648
   ·have z3:decide (n≥ -2147483648)=true:=decide_eq_true h3
    have e:decide (-2147483648≤n∧n≤2147483647)=decide (n≤2147483647):=by simp;omega
    rw [e]
    rcases hf with rfl|rfl
    ·skip
     refine pcO E0_ok (fun _=>[0,1,4,5,6,14]) Tryz.func40 (h:=fun KF=>?_)
     unfold E0
     repeat' (first
      |(with_reducible first|refine t_seq fun K=>?_|refine nx ?_|refine t_br (fun hc=>?_) fun hc=>?_)|exact kpd
      |((with_reducible first|refine ny ?_|refine t_kLF ?_ ?_|refine t_region fun K=>?_|refine t_cond fun A B=>?_|refine t_dw (h:=fun K=>?_));simp only [go_sem,geff,h1,h2,z3])
      |simp only [thenQ,blockQ,scopeQ,Nat.reduceEqDiff,reduceIte]|(with_reducible first|refine And.intro ?_ ?_|intro vr))
     refine end_ret rfl ?_
     simp only [fin,go_sem]
     exact LeA.refl _
    ·skip
     refine pcO E0_ok (fun _=>[0,1,4,6]) Tryz.func38 (h:=fun KF=>?_)
     unfold E0
     repeat' (first
      |(with_reducible first|refine t_seq fun K=>?_|refine nx ?_|refine t_br (fun hc=>?_) fun hc=>?_)|exact kpd
      |((with_reducible first|refine ny ?_|refine t_kLF ?_ ?_|refine t_region fun K=>?_|refine t_cond fun A B=>?_|refine t_dw (h:=fun K=>?_));simp only [go_sem,geff,h1,h2,z3])
      |simp only [thenQ,blockQ,scopeQ,Nat.reduceEqDiff,reduceIte]|(with_reducible first|refine And.intro ?_ ?_|intro vr))
     refine end_ret rfl ?_
     simp only [fin,go_sem]
     exact LeA.refl _
   ·have z3:decide (n≥ -2147483648)=false:=decide_eq_false h3
    have e:decide (-2147483648≤n∧n≤2147483647)=false:=by simp;omega
    rw [e]
    rcases hf with rfl|rfl
    ·skip
     refine pcO E0_ok (fun _=>[0,1,4,5,6,14]) Tryz.func40 (h:=fun KF=>?_)
     unfold E0
     repeat' (first
      |(with_reducible first|refine t_seq fun K=>?_|refine nx ?_|refine t_br (fun hc=>?_) fun hc=>?_)|exact kpd
      |((with_reducible first|refine ny ?_|refine t_kLF ?_ ?_|refine t_region fun K=>?_|refine t_cond fun A B=>?_|refine t_dw (h:=fun K=>?_));simp only [go_sem,geff,h1,h2,z3])
      |simp only [thenQ,blockQ,scopeQ,Nat.reduceEqDiff,reduceIte]|(with_reducible first|refine And.intro ?_ ?_|intro vr))
     refine end_ret rfl ?_
     simp only [fin,go_sem]
     exact LeA.refl _
    ·skip
     refine pcO E0_ok (fun _=>[0,1,4,6]) Tryz.func38 (h:=fun KF=>?_)
     unfold E0
     repeat' (first
      |(with_reducible first|refine t_seq fun K=>?_|refine nx ?_|refine t_br (fun hc=>?_) fun hc=>?_)|exact kpd
      |((with_reducible first|refine ny ?_|refine t_kLF ?_ ?_|refine t_region fun K=>?_|refine t_cond fun A B=>?_|refine t_dw (h:=fun K=>?_));simp only [go_sem,geff,h1,h2,z3])
      |simp only [thenQ,blockQ,scopeQ,Nat.reduceEqDiff,reduceIte]|(with_reducible first|refine And.intro ?_ ?_|intro vr))
     refine end_ret rfl ?_
     simp only [fin,go_sem]
     exact LeA.refl _
  ·have h1':eqS s ⟨#[105,110,116]⟩=false:=by simpa using h1
   rw [if_neg h1]
   by_cases h2:eqS s ⟨#[98,111,111,108]⟩=true
   ·rw [if_pos h2]
    by_cases h3:n=0
    ·have z3:(n==0)=true:=by rw [beq_iff_eq];exact h3
     have e:decide (n=0∨n=1)=true:=decide_eq_true (.inl h3)
     rw [e]
     rcases hf with rfl|rfl
     ·skip
      refine pcO E0_ok (fun _=>[0,1,4,5,6,14]) Tryz.func40 (h:=fun KF=>?_)
      unfold E0
      repeat' (first
       |(with_reducible first|refine t_seq fun K=>?_|refine nx ?_|refine t_br (fun hc=>?_) fun hc=>?_)|exact kpd
       |((with_reducible first|refine ny ?_|refine t_kLF ?_ ?_|refine t_region fun K=>?_|refine t_cond fun A B=>?_|refine t_dw (h:=fun K=>?_));simp only [go_sem,geff,h1',h2,z3])
       |simp only [thenQ,blockQ,scopeQ,Nat.reduceEqDiff,reduceIte]|(with_reducible first|refine And.intro ?_ ?_|intro vr))
      refine end_ret rfl ?_
      simp only [fin,go_sem]
      exact LeA.refl _
     ·skip
      refine pcO E0_ok (fun _=>[0,1,4,6]) Tryz.func38 (h:=fun KF=>?_)
      unfold E0
      repeat' (first
       |(with_reducible first|refine t_seq fun K=>?_|refine nx ?_|refine t_br (fun hc=>?_) fun hc=>?_)|exact kpd
       |((with_reducible first|refine ny ?_|refine t_kLF ?_ ?_|refine t_region fun K=>?_|refine t_cond fun A B=>?_|refine t_dw (h:=fun K=>?_));simp only [go_sem,geff,h1',h2,z3])
       |simp only [thenQ,blockQ,scopeQ,Nat.reduceEqDiff,reduceIte]|(with_reducible first|refine And.intro ?_ ?_|intro vr))
      refine end_ret rfl ?_
      simp only [fin,go_sem]
      exact LeA.refl _
    ·have z3:(n==0)=false:=by rw [beq_eq_false_iff_ne];exact h3
     have e:decide (n=0∨n=1)=(n==1):=by
       by_cases h4:n=1
       ·subst h4;rfl
       ·rw [decide_eq_false (by omega)];symm;rw [beq_eq_false_iff_ne];exact h4
     rw [e]
     rcases hf with rfl|rfl
     ·skip
      refine pcO E0_ok (fun _=>[0,1,4,5,6,14]) Tryz.func40 (h:=fun KF=>?_)
      unfold E0
      repeat' (first
       |(with_reducible first|refine t_seq fun K=>?_|refine nx ?_|refine t_br (fun hc=>?_) fun hc=>?_)|exact kpd
       |((with_reducible first|refine ny ?_|refine t_kLF ?_ ?_|refine t_region fun K=>?_|refine t_cond fun A B=>?_|refine t_dw (h:=fun K=>?_));simp only [go_sem,geff,h1',h2,z3])
       |simp only [thenQ,blockQ,scopeQ,Nat.reduceEqDiff,reduceIte]|(with_reducible first|refine And.intro ?_ ?_|intro vr))
      refine end_ret rfl ?_
      simp only [fin,go_sem]
      exact LeA.refl _
     ·skip
      refine pcO E0_ok (fun _=>[0,1,4,6]) Tryz.func38 (h:=fun KF=>?_)
      unfold E0
      repeat' (first
       |(with_reducible first|refine t_seq fun K=>?_|refine nx ?_|refine t_br (fun hc=>?_) fun hc=>?_)|exact kpd
       |((with_reducible first|refine ny ?_|refine t_kLF ?_ ?_|refine t_region fun K=>?_|refine t_cond fun A B=>?_|refine t_dw (h:=fun K=>?_));simp only [go_sem,geff,h1',h2,z3])
       |simp only [thenQ,blockQ,scopeQ,Nat.reduceEqDiff,reduceIte]|(with_reducible first|refine And.intro ?_ ?_|intro vr))
      refine end_ret rfl ?_
      simp only [fin,go_sem]
      exact LeA.refl _
   ·have h2':eqS s ⟨#[98,111,111,108]⟩=false:=by simpa using h2
    rw [if_neg h2]
    rcases hf with rfl|rfl
    ·skip
     refine pcO E0_ok (fun _=>[0,1,4,5,6,14]) Tryz.func40 (h:=fun KF=>?_)
     unfold E0
     repeat' (first
      |(with_reducible first|refine t_seq fun K=>?_|refine nx ?_|refine t_br (fun hc=>?_) fun hc=>?_)|exact kpd
      |((with_reducible first|refine ny ?_|refine t_kLF ?_ ?_|refine t_region fun K=>?_|refine t_cond fun A B=>?_|refine t_dw (h:=fun K=>?_));simp only [go_sem,geff,h1',h2'])
      |simp only [thenQ,blockQ,scopeQ,Nat.reduceEqDiff,reduceIte]|(with_reducible first|refine And.intro ?_ ?_|intro vr))
     refine end_ret rfl ?_
     simp only [fin,go_sem]
     exact LeA.refl _
    ·skip
     refine pcO E0_ok (fun _=>[0,1,4,6]) Tryz.func38 (h:=fun KF=>?_)
     unfold E0
     repeat' (first
      |(with_reducible first|refine t_seq fun K=>?_|refine nx ?_|refine t_br (fun hc=>?_) fun hc=>?_)|exact kpd
      |((with_reducible first|refine ny ?_|refine t_kLF ?_ ?_|refine t_region fun K=>?_|refine t_cond fun A B=>?_|refine t_dw (h:=fun K=>?_));simp only [go_sem,geff,h1',h2'])
      |simp only [thenQ,blockQ,scopeQ,Nat.reduceEqDiff,reduceIte]|(with_reducible first|refine And.intro ?_ ?_|intro vr))
     refine end_ret rfl ?_
     simp only [fin,go_sem]
     exact LeA.refl _
noncomputable def vldCon (f:FuncId) (h:f=40∨f=38):PCon Tryz.prog where
  f:=f
  c:=fun
   |[.lit (.string s),.lit (.int .i64 n)]=>some (True,.lit (.bool (vld s n)))
   |_=>none
  ok:=by
   intro args p r hc hp
   split at hc
   ·cases hc;exact vld_pc h
   ·cases hc
  fk:=by
   rcases h with rfl|rfl
   ·exact fk40
   ·exact fk38
noncomputable def con40:=vldCon 40 (.inl rfl)
noncomputable def con38:=vldCon 38 (.inr rfl)
theorem con40_f:con40.f=40:=rfl
theorem con38_f:con38.f=38:=rfl
theorem con40_c {s:ByteArray} {n:Int}:con40.c [.lit (.string s),.lit (.int .i64 n)]=some (True,.lit (.bool (vld s n))):=rfl
theorem con38_c {s:ByteArray} {n:Int}:con38.c [.lit (.string s),.lit (.int .i64 n)]=some (True,.lit (.bool (vld s n))):=rfl
end Go.Proofs.YtcpjahmajkhchaaGreat.El

namespace Go.Proofs.YtcpjahmajkhchaaGreat.El
open Go.Proofs.YtcpjahmajkhchaaGreat
open Go Go.Fw
set_option maxRecDepth 20000
theorem q_0_0:eqS (⟨#[97,100,100]⟩:ByteArray) (⟨#[97,100,100]⟩:ByteArray)=true:=rfl
theorem q_0_1:eqS (⟨#[97,100,100]⟩:ByteArray) (⟨#[115,117,98]⟩:ByteArray)=false:=rfl
theorem q_0_2:eqS (⟨#[97,100,100]⟩:ByteArray) (⟨#[109,117,108]⟩:ByteArray)=false:=rfl
theorem q_0_3:eqS (⟨#[97,100,100]⟩:ByteArray) (⟨#[100,105,118]⟩:ByteArray)=false:=rfl
theorem q_0_4:eqS (⟨#[97,100,100]⟩:ByteArray) (⟨#[109,111,100]⟩:ByteArray)=false:=rfl
theorem q_0_5:eqS (⟨#[97,100,100]⟩:ByteArray) (⟨#[109,105,110]⟩:ByteArray)=false:=rfl
theorem q_0_6:eqS (⟨#[97,100,100]⟩:ByteArray) (⟨#[109,97,120]⟩:ByteArray)=false:=rfl
theorem q_0_7:eqS (⟨#[97,100,100]⟩:ByteArray) (⟨#[110,101,103]⟩:ByteArray)=false:=rfl
theorem q_0_8:eqS (⟨#[97,100,100]⟩:ByteArray) (⟨#[97,98,115]⟩:ByteArray)=false:=rfl
theorem q_0_9:eqS (⟨#[97,100,100]⟩:ByteArray) (⟨#[115,105,103,110]⟩:ByteArray)=false:=rfl
theorem q_0_10:eqS (⟨#[97,100,100]⟩:ByteArray) (⟨#[108,116]⟩:ByteArray)=false:=rfl
theorem q_0_11:eqS (⟨#[97,100,100]⟩:ByteArray) (⟨#[108,101]⟩:ByteArray)=false:=rfl
theorem q_0_12:eqS (⟨#[97,100,100]⟩:ByteArray) (⟨#[103,116]⟩:ByteArray)=false:=rfl
theorem q_0_13:eqS (⟨#[97,100,100]⟩:ByteArray) (⟨#[103,101]⟩:ByteArray)=false:=rfl
theorem q_0_14:eqS (⟨#[97,100,100]⟩:ByteArray) (⟨#[101,113]⟩:ByteArray)=false:=rfl
theorem q_0_15:eqS (⟨#[97,100,100]⟩:ByteArray) (⟨#[110,101]⟩:ByteArray)=false:=rfl
theorem q_0_16:eqS (⟨#[97,100,100]⟩:ByteArray) (⟨#[97,110,100]⟩:ByteArray)=false:=rfl
theorem q_0_17:eqS (⟨#[97,100,100]⟩:ByteArray) (⟨#[111,114]⟩:ByteArray)=false:=rfl
theorem q_0_18:eqS (⟨#[97,100,100]⟩:ByteArray) (⟨#[120,111,114]⟩:ByteArray)=false:=rfl
theorem q_0_19:eqS (⟨#[97,100,100]⟩:ByteArray) (⟨#[110,111,116]⟩:ByteArray)=false:=rfl
theorem q_0_20:eqS (⟨#[97,100,100]⟩:ByteArray) (⟨#[115,101,108,101,99,116]⟩:ByteArray)=false:=rfl
theorem q_0_21:eqS (⟨#[97,100,100]⟩:ByteArray) (⟨#[116,111,105,110,116]⟩:ByteArray)=false:=rfl
theorem q_0_22:eqS (⟨#[97,100,100]⟩:ByteArray) (⟨#[105,110,116]⟩:ByteArray)=false:=rfl
theorem q_0_23:eqS (⟨#[97,100,100]⟩:ByteArray) (⟨#[98,111,111,108]⟩:ByteArray)=false:=rfl
theorem q_0_24:eqS (⟨#[97,100,100]⟩:ByteArray) (⟨#[65]⟩:ByteArray)=false:=rfl
theorem q_0_25:eqS (⟨#[97,100,100]⟩:ByteArray) (⟨#[]⟩:ByteArray)=false:=rfl
theorem q_1_0:eqS (⟨#[115,117,98]⟩:ByteArray) (⟨#[97,100,100]⟩:ByteArray)=false:=rfl
theorem q_1_1:eqS (⟨#[115,117,98]⟩:ByteArray) (⟨#[115,117,98]⟩:ByteArray)=true:=rfl
theorem q_1_2:eqS (⟨#[115,117,98]⟩:ByteArray) (⟨#[109,117,108]⟩:ByteArray)=false:=rfl
theorem q_1_3:eqS (⟨#[115,117,98]⟩:ByteArray) (⟨#[100,105,118]⟩:ByteArray)=false:=rfl
theorem q_1_4:eqS (⟨#[115,117,98]⟩:ByteArray) (⟨#[109,111,100]⟩:ByteArray)=false:=rfl
theorem q_1_5:eqS (⟨#[115,117,98]⟩:ByteArray) (⟨#[109,105,110]⟩:ByteArray)=false:=rfl
theorem q_1_6:eqS (⟨#[115,117,98]⟩:ByteArray) (⟨#[109,97,120]⟩:ByteArray)=false:=rfl
theorem q_1_7:eqS (⟨#[115,117,98]⟩:ByteArray) (⟨#[110,101,103]⟩:ByteArray)=false:=rfl
theorem q_1_8:eqS (⟨#[115,117,98]⟩:ByteArray) (⟨#[97,98,115]⟩:ByteArray)=false:=rfl
theorem q_1_9:eqS (⟨#[115,117,98]⟩:ByteArray) (⟨#[115,105,103,110]⟩:ByteArray)=false:=rfl
theorem q_1_10:eqS (⟨#[115,117,98]⟩:ByteArray) (⟨#[108,116]⟩:ByteArray)=false:=rfl
theorem q_1_11:eqS (⟨#[115,117,98]⟩:ByteArray) (⟨#[108,101]⟩:ByteArray)=false:=rfl
theorem q_1_12:eqS (⟨#[115,117,98]⟩:ByteArray) (⟨#[103,116]⟩:ByteArray)=false:=rfl
theorem q_1_13:eqS (⟨#[115,117,98]⟩:ByteArray) (⟨#[103,101]⟩:ByteArray)=false:=rfl
theorem q_1_14:eqS (⟨#[115,117,98]⟩:ByteArray) (⟨#[101,113]⟩:ByteArray)=false:=rfl
theorem q_1_15:eqS (⟨#[115,117,98]⟩:ByteArray) (⟨#[110,101]⟩:ByteArray)=false:=rfl
theorem q_1_16:eqS (⟨#[115,117,98]⟩:ByteArray) (⟨#[97,110,100]⟩:ByteArray)=false:=rfl
theorem q_1_17:eqS (⟨#[115,117,98]⟩:ByteArray) (⟨#[111,114]⟩:ByteArray)=false:=rfl
theorem q_1_18:eqS (⟨#[115,117,98]⟩:ByteArray) (⟨#[120,111,114]⟩:ByteArray)=false:=rfl
theorem q_1_19:eqS (⟨#[115,117,98]⟩:ByteArray) (⟨#[110,111,116]⟩:ByteArray)=false:=rfl
theorem q_1_20:eqS (⟨#[115,117,98]⟩:ByteArray) (⟨#[115,101,108,101,99,116]⟩:ByteArray)=false:=rfl
theorem q_1_21:eqS (⟨#[115,117,98]⟩:ByteArray) (⟨#[116,111,105,110,116]⟩:ByteArray)=false:=rfl
theorem q_1_22:eqS (⟨#[115,117,98]⟩:ByteArray) (⟨#[105,110,116]⟩:ByteArray)=false:=rfl
theorem q_1_23:eqS (⟨#[115,117,98]⟩:ByteArray) (⟨#[98,111,111,108]⟩:ByteArray)=false:=rfl
theorem q_1_24:eqS (⟨#[115,117,98]⟩:ByteArray) (⟨#[65]⟩:ByteArray)=false:=rfl
theorem q_1_25:eqS (⟨#[115,117,98]⟩:ByteArray) (⟨#[]⟩:ByteArray)=false:=rfl
theorem q_2_0:eqS (⟨#[109,117,108]⟩:ByteArray) (⟨#[97,100,100]⟩:ByteArray)=false:=rfl
theorem q_2_1:eqS (⟨#[109,117,108]⟩:ByteArray) (⟨#[115,117,98]⟩:ByteArray)=false:=rfl
theorem q_2_2:eqS (⟨#[109,117,108]⟩:ByteArray) (⟨#[109,117,108]⟩:ByteArray)=true:=rfl
theorem q_2_3:eqS (⟨#[109,117,108]⟩:ByteArray) (⟨#[100,105,118]⟩:ByteArray)=false:=rfl
theorem q_2_4:eqS (⟨#[109,117,108]⟩:ByteArray) (⟨#[109,111,100]⟩:ByteArray)=false:=rfl
theorem q_2_5:eqS (⟨#[109,117,108]⟩:ByteArray) (⟨#[109,105,110]⟩:ByteArray)=false:=rfl
theorem q_2_6:eqS (⟨#[109,117,108]⟩:ByteArray) (⟨#[109,97,120]⟩:ByteArray)=false:=rfl
theorem q_2_7:eqS (⟨#[109,117,108]⟩:ByteArray) (⟨#[110,101,103]⟩:ByteArray)=false:=rfl
theorem q_2_8:eqS (⟨#[109,117,108]⟩:ByteArray) (⟨#[97,98,115]⟩:ByteArray)=false:=rfl
theorem q_2_9:eqS (⟨#[109,117,108]⟩:ByteArray) (⟨#[115,105,103,110]⟩:ByteArray)=false:=rfl
theorem q_2_10:eqS (⟨#[109,117,108]⟩:ByteArray) (⟨#[108,116]⟩:ByteArray)=false:=rfl
theorem q_2_11:eqS (⟨#[109,117,108]⟩:ByteArray) (⟨#[108,101]⟩:ByteArray)=false:=rfl
theorem q_2_12:eqS (⟨#[109,117,108]⟩:ByteArray) (⟨#[103,116]⟩:ByteArray)=false:=rfl
theorem q_2_13:eqS (⟨#[109,117,108]⟩:ByteArray) (⟨#[103,101]⟩:ByteArray)=false:=rfl
theorem q_2_14:eqS (⟨#[109,117,108]⟩:ByteArray) (⟨#[101,113]⟩:ByteArray)=false:=rfl
theorem q_2_15:eqS (⟨#[109,117,108]⟩:ByteArray) (⟨#[110,101]⟩:ByteArray)=false:=rfl
theorem q_2_16:eqS (⟨#[109,117,108]⟩:ByteArray) (⟨#[97,110,100]⟩:ByteArray)=false:=rfl
theorem q_2_17:eqS (⟨#[109,117,108]⟩:ByteArray) (⟨#[111,114]⟩:ByteArray)=false:=rfl
theorem q_2_18:eqS (⟨#[109,117,108]⟩:ByteArray) (⟨#[120,111,114]⟩:ByteArray)=false:=rfl
theorem q_2_19:eqS (⟨#[109,117,108]⟩:ByteArray) (⟨#[110,111,116]⟩:ByteArray)=false:=rfl
theorem q_2_20:eqS (⟨#[109,117,108]⟩:ByteArray) (⟨#[115,101,108,101,99,116]⟩:ByteArray)=false:=rfl
theorem q_2_21:eqS (⟨#[109,117,108]⟩:ByteArray) (⟨#[116,111,105,110,116]⟩:ByteArray)=false:=rfl
theorem q_2_22:eqS (⟨#[109,117,108]⟩:ByteArray) (⟨#[105,110,116]⟩:ByteArray)=false:=rfl
theorem q_2_23:eqS (⟨#[109,117,108]⟩:ByteArray) (⟨#[98,111,111,108]⟩:ByteArray)=false:=rfl
theorem q_2_24:eqS (⟨#[109,117,108]⟩:ByteArray) (⟨#[65]⟩:ByteArray)=false:=rfl
theorem q_2_25:eqS (⟨#[109,117,108]⟩:ByteArray) (⟨#[]⟩:ByteArray)=false:=rfl
theorem q_3_0:eqS (⟨#[100,105,118]⟩:ByteArray) (⟨#[97,100,100]⟩:ByteArray)=false:=rfl
theorem q_3_1:eqS (⟨#[100,105,118]⟩:ByteArray) (⟨#[115,117,98]⟩:ByteArray)=false:=rfl
theorem q_3_2:eqS (⟨#[100,105,118]⟩:ByteArray) (⟨#[109,117,108]⟩:ByteArray)=false:=rfl
theorem q_3_3:eqS (⟨#[100,105,118]⟩:ByteArray) (⟨#[100,105,118]⟩:ByteArray)=true:=rfl
theorem q_3_4:eqS (⟨#[100,105,118]⟩:ByteArray) (⟨#[109,111,100]⟩:ByteArray)=false:=rfl
theorem q_3_5:eqS (⟨#[100,105,118]⟩:ByteArray) (⟨#[109,105,110]⟩:ByteArray)=false:=rfl
theorem q_3_6:eqS (⟨#[100,105,118]⟩:ByteArray) (⟨#[109,97,120]⟩:ByteArray)=false:=rfl
theorem q_3_7:eqS (⟨#[100,105,118]⟩:ByteArray) (⟨#[110,101,103]⟩:ByteArray)=false:=rfl
theorem q_3_8:eqS (⟨#[100,105,118]⟩:ByteArray) (⟨#[97,98,115]⟩:ByteArray)=false:=rfl
theorem q_3_9:eqS (⟨#[100,105,118]⟩:ByteArray) (⟨#[115,105,103,110]⟩:ByteArray)=false:=rfl
theorem q_3_10:eqS (⟨#[100,105,118]⟩:ByteArray) (⟨#[108,116]⟩:ByteArray)=false:=rfl
theorem q_3_11:eqS (⟨#[100,105,118]⟩:ByteArray) (⟨#[108,101]⟩:ByteArray)=false:=rfl
theorem q_3_12:eqS (⟨#[100,105,118]⟩:ByteArray) (⟨#[103,116]⟩:ByteArray)=false:=rfl
theorem q_3_13:eqS (⟨#[100,105,118]⟩:ByteArray) (⟨#[103,101]⟩:ByteArray)=false:=rfl
theorem q_3_14:eqS (⟨#[100,105,118]⟩:ByteArray) (⟨#[101,113]⟩:ByteArray)=false:=rfl
theorem q_3_15:eqS (⟨#[100,105,118]⟩:ByteArray) (⟨#[110,101]⟩:ByteArray)=false:=rfl
theorem q_3_16:eqS (⟨#[100,105,118]⟩:ByteArray) (⟨#[97,110,100]⟩:ByteArray)=false:=rfl
theorem q_3_17:eqS (⟨#[100,105,118]⟩:ByteArray) (⟨#[111,114]⟩:ByteArray)=false:=rfl
theorem q_3_18:eqS (⟨#[100,105,118]⟩:ByteArray) (⟨#[120,111,114]⟩:ByteArray)=false:=rfl
theorem q_3_19:eqS (⟨#[100,105,118]⟩:ByteArray) (⟨#[110,111,116]⟩:ByteArray)=false:=rfl
theorem q_3_20:eqS (⟨#[100,105,118]⟩:ByteArray) (⟨#[115,101,108,101,99,116]⟩:ByteArray)=false:=rfl
theorem q_3_21:eqS (⟨#[100,105,118]⟩:ByteArray) (⟨#[116,111,105,110,116]⟩:ByteArray)=false:=rfl
theorem q_3_22:eqS (⟨#[100,105,118]⟩:ByteArray) (⟨#[105,110,116]⟩:ByteArray)=false:=rfl
theorem q_3_23:eqS (⟨#[100,105,118]⟩:ByteArray) (⟨#[98,111,111,108]⟩:ByteArray)=false:=rfl
theorem q_3_24:eqS (⟨#[100,105,118]⟩:ByteArray) (⟨#[65]⟩:ByteArray)=false:=rfl
theorem q_3_25:eqS (⟨#[100,105,118]⟩:ByteArray) (⟨#[]⟩:ByteArray)=false:=rfl
theorem q_4_0:eqS (⟨#[109,111,100]⟩:ByteArray) (⟨#[97,100,100]⟩:ByteArray)=false:=rfl
theorem q_4_1:eqS (⟨#[109,111,100]⟩:ByteArray) (⟨#[115,117,98]⟩:ByteArray)=false:=rfl
theorem q_4_2:eqS (⟨#[109,111,100]⟩:ByteArray) (⟨#[109,117,108]⟩:ByteArray)=false:=rfl
theorem q_4_3:eqS (⟨#[109,111,100]⟩:ByteArray) (⟨#[100,105,118]⟩:ByteArray)=false:=rfl
theorem q_4_4:eqS (⟨#[109,111,100]⟩:ByteArray) (⟨#[109,111,100]⟩:ByteArray)=true:=rfl
theorem q_4_5:eqS (⟨#[109,111,100]⟩:ByteArray) (⟨#[109,105,110]⟩:ByteArray)=false:=rfl
theorem q_4_6:eqS (⟨#[109,111,100]⟩:ByteArray) (⟨#[109,97,120]⟩:ByteArray)=false:=rfl
theorem q_4_7:eqS (⟨#[109,111,100]⟩:ByteArray) (⟨#[110,101,103]⟩:ByteArray)=false:=rfl
theorem q_4_8:eqS (⟨#[109,111,100]⟩:ByteArray) (⟨#[97,98,115]⟩:ByteArray)=false:=rfl
theorem q_4_9:eqS (⟨#[109,111,100]⟩:ByteArray) (⟨#[115,105,103,110]⟩:ByteArray)=false:=rfl
theorem q_4_10:eqS (⟨#[109,111,100]⟩:ByteArray) (⟨#[108,116]⟩:ByteArray)=false:=rfl
theorem q_4_11:eqS (⟨#[109,111,100]⟩:ByteArray) (⟨#[108,101]⟩:ByteArray)=false:=rfl
theorem q_4_12:eqS (⟨#[109,111,100]⟩:ByteArray) (⟨#[103,116]⟩:ByteArray)=false:=rfl
theorem q_4_13:eqS (⟨#[109,111,100]⟩:ByteArray) (⟨#[103,101]⟩:ByteArray)=false:=rfl
theorem q_4_14:eqS (⟨#[109,111,100]⟩:ByteArray) (⟨#[101,113]⟩:ByteArray)=false:=rfl
theorem q_4_15:eqS (⟨#[109,111,100]⟩:ByteArray) (⟨#[110,101]⟩:ByteArray)=false:=rfl
theorem q_4_16:eqS (⟨#[109,111,100]⟩:ByteArray) (⟨#[97,110,100]⟩:ByteArray)=false:=rfl
theorem q_4_17:eqS (⟨#[109,111,100]⟩:ByteArray) (⟨#[111,114]⟩:ByteArray)=false:=rfl
theorem q_4_18:eqS (⟨#[109,111,100]⟩:ByteArray) (⟨#[120,111,114]⟩:ByteArray)=false:=rfl
theorem q_4_19:eqS (⟨#[109,111,100]⟩:ByteArray) (⟨#[110,111,116]⟩:ByteArray)=false:=rfl
theorem q_4_20:eqS (⟨#[109,111,100]⟩:ByteArray) (⟨#[115,101,108,101,99,116]⟩:ByteArray)=false:=rfl
theorem q_4_21:eqS (⟨#[109,111,100]⟩:ByteArray) (⟨#[116,111,105,110,116]⟩:ByteArray)=false:=rfl
theorem q_4_22:eqS (⟨#[109,111,100]⟩:ByteArray) (⟨#[105,110,116]⟩:ByteArray)=false:=rfl
theorem q_4_23:eqS (⟨#[109,111,100]⟩:ByteArray) (⟨#[98,111,111,108]⟩:ByteArray)=false:=rfl
theorem q_4_24:eqS (⟨#[109,111,100]⟩:ByteArray) (⟨#[65]⟩:ByteArray)=false:=rfl
theorem q_4_25:eqS (⟨#[109,111,100]⟩:ByteArray) (⟨#[]⟩:ByteArray)=false:=rfl
theorem q_5_0:eqS (⟨#[109,105,110]⟩:ByteArray) (⟨#[97,100,100]⟩:ByteArray)=false:=rfl
theorem q_5_1:eqS (⟨#[109,105,110]⟩:ByteArray) (⟨#[115,117,98]⟩:ByteArray)=false:=rfl
theorem q_5_2:eqS (⟨#[109,105,110]⟩:ByteArray) (⟨#[109,117,108]⟩:ByteArray)=false:=rfl
theorem q_5_3:eqS (⟨#[109,105,110]⟩:ByteArray) (⟨#[100,105,118]⟩:ByteArray)=false:=rfl
theorem q_5_4:eqS (⟨#[109,105,110]⟩:ByteArray) (⟨#[109,111,100]⟩:ByteArray)=false:=rfl
theorem q_5_5:eqS (⟨#[109,105,110]⟩:ByteArray) (⟨#[109,105,110]⟩:ByteArray)=true:=rfl
theorem q_5_6:eqS (⟨#[109,105,110]⟩:ByteArray) (⟨#[109,97,120]⟩:ByteArray)=false:=rfl
theorem q_5_7:eqS (⟨#[109,105,110]⟩:ByteArray) (⟨#[110,101,103]⟩:ByteArray)=false:=rfl
theorem q_5_8:eqS (⟨#[109,105,110]⟩:ByteArray) (⟨#[97,98,115]⟩:ByteArray)=false:=rfl
theorem q_5_9:eqS (⟨#[109,105,110]⟩:ByteArray) (⟨#[115,105,103,110]⟩:ByteArray)=false:=rfl
theorem q_5_10:eqS (⟨#[109,105,110]⟩:ByteArray) (⟨#[108,116]⟩:ByteArray)=false:=rfl
theorem q_5_11:eqS (⟨#[109,105,110]⟩:ByteArray) (⟨#[108,101]⟩:ByteArray)=false:=rfl
theorem q_5_12:eqS (⟨#[109,105,110]⟩:ByteArray) (⟨#[103,116]⟩:ByteArray)=false:=rfl
theorem q_5_13:eqS (⟨#[109,105,110]⟩:ByteArray) (⟨#[103,101]⟩:ByteArray)=false:=rfl
theorem q_5_14:eqS (⟨#[109,105,110]⟩:ByteArray) (⟨#[101,113]⟩:ByteArray)=false:=rfl
theorem q_5_15:eqS (⟨#[109,105,110]⟩:ByteArray) (⟨#[110,101]⟩:ByteArray)=false:=rfl
theorem q_5_16:eqS (⟨#[109,105,110]⟩:ByteArray) (⟨#[97,110,100]⟩:ByteArray)=false:=rfl
theorem q_5_17:eqS (⟨#[109,105,110]⟩:ByteArray) (⟨#[111,114]⟩:ByteArray)=false:=rfl
theorem q_5_18:eqS (⟨#[109,105,110]⟩:ByteArray) (⟨#[120,111,114]⟩:ByteArray)=false:=rfl
theorem q_5_19:eqS (⟨#[109,105,110]⟩:ByteArray) (⟨#[110,111,116]⟩:ByteArray)=false:=rfl
theorem q_5_20:eqS (⟨#[109,105,110]⟩:ByteArray) (⟨#[115,101,108,101,99,116]⟩:ByteArray)=false:=rfl
theorem q_5_21:eqS (⟨#[109,105,110]⟩:ByteArray) (⟨#[116,111,105,110,116]⟩:ByteArray)=false:=rfl
theorem q_5_22:eqS (⟨#[109,105,110]⟩:ByteArray) (⟨#[105,110,116]⟩:ByteArray)=false:=rfl
theorem q_5_23:eqS (⟨#[109,105,110]⟩:ByteArray) (⟨#[98,111,111,108]⟩:ByteArray)=false:=rfl
theorem q_5_24:eqS (⟨#[109,105,110]⟩:ByteArray) (⟨#[65]⟩:ByteArray)=false:=rfl
theorem q_5_25:eqS (⟨#[109,105,110]⟩:ByteArray) (⟨#[]⟩:ByteArray)=false:=rfl
theorem q_6_0:eqS (⟨#[109,97,120]⟩:ByteArray) (⟨#[97,100,100]⟩:ByteArray)=false:=rfl
theorem q_6_1:eqS (⟨#[109,97,120]⟩:ByteArray) (⟨#[115,117,98]⟩:ByteArray)=false:=rfl
theorem q_6_2:eqS (⟨#[109,97,120]⟩:ByteArray) (⟨#[109,117,108]⟩:ByteArray)=false:=rfl
theorem q_6_3:eqS (⟨#[109,97,120]⟩:ByteArray) (⟨#[100,105,118]⟩:ByteArray)=false:=rfl
theorem q_6_4:eqS (⟨#[109,97,120]⟩:ByteArray) (⟨#[109,111,100]⟩:ByteArray)=false:=rfl
theorem q_6_5:eqS (⟨#[109,97,120]⟩:ByteArray) (⟨#[109,105,110]⟩:ByteArray)=false:=rfl
theorem q_6_6:eqS (⟨#[109,97,120]⟩:ByteArray) (⟨#[109,97,120]⟩:ByteArray)=true:=rfl
theorem q_6_7:eqS (⟨#[109,97,120]⟩:ByteArray) (⟨#[110,101,103]⟩:ByteArray)=false:=rfl
theorem q_6_8:eqS (⟨#[109,97,120]⟩:ByteArray) (⟨#[97,98,115]⟩:ByteArray)=false:=rfl
theorem q_6_9:eqS (⟨#[109,97,120]⟩:ByteArray) (⟨#[115,105,103,110]⟩:ByteArray)=false:=rfl
theorem q_6_10:eqS (⟨#[109,97,120]⟩:ByteArray) (⟨#[108,116]⟩:ByteArray)=false:=rfl
theorem q_6_11:eqS (⟨#[109,97,120]⟩:ByteArray) (⟨#[108,101]⟩:ByteArray)=false:=rfl
theorem q_6_12:eqS (⟨#[109,97,120]⟩:ByteArray) (⟨#[103,116]⟩:ByteArray)=false:=rfl
theorem q_6_13:eqS (⟨#[109,97,120]⟩:ByteArray) (⟨#[103,101]⟩:ByteArray)=false:=rfl
theorem q_6_14:eqS (⟨#[109,97,120]⟩:ByteArray) (⟨#[101,113]⟩:ByteArray)=false:=rfl
theorem q_6_15:eqS (⟨#[109,97,120]⟩:ByteArray) (⟨#[110,101]⟩:ByteArray)=false:=rfl
theorem q_6_16:eqS (⟨#[109,97,120]⟩:ByteArray) (⟨#[97,110,100]⟩:ByteArray)=false:=rfl
theorem q_6_17:eqS (⟨#[109,97,120]⟩:ByteArray) (⟨#[111,114]⟩:ByteArray)=false:=rfl
theorem q_6_18:eqS (⟨#[109,97,120]⟩:ByteArray) (⟨#[120,111,114]⟩:ByteArray)=false:=rfl
theorem q_6_19:eqS (⟨#[109,97,120]⟩:ByteArray) (⟨#[110,111,116]⟩:ByteArray)=false:=rfl
theorem q_6_20:eqS (⟨#[109,97,120]⟩:ByteArray) (⟨#[115,101,108,101,99,116]⟩:ByteArray)=false:=rfl
theorem q_6_21:eqS (⟨#[109,97,120]⟩:ByteArray) (⟨#[116,111,105,110,116]⟩:ByteArray)=false:=rfl
theorem q_6_22:eqS (⟨#[109,97,120]⟩:ByteArray) (⟨#[105,110,116]⟩:ByteArray)=false:=rfl
theorem q_6_23:eqS (⟨#[109,97,120]⟩:ByteArray) (⟨#[98,111,111,108]⟩:ByteArray)=false:=rfl
theorem q_6_24:eqS (⟨#[109,97,120]⟩:ByteArray) (⟨#[65]⟩:ByteArray)=false:=rfl
theorem q_6_25:eqS (⟨#[109,97,120]⟩:ByteArray) (⟨#[]⟩:ByteArray)=false:=rfl
theorem q_7_0:eqS (⟨#[110,101,103]⟩:ByteArray) (⟨#[97,100,100]⟩:ByteArray)=false:=rfl
theorem q_7_1:eqS (⟨#[110,101,103]⟩:ByteArray) (⟨#[115,117,98]⟩:ByteArray)=false:=rfl
theorem q_7_2:eqS (⟨#[110,101,103]⟩:ByteArray) (⟨#[109,117,108]⟩:ByteArray)=false:=rfl
theorem q_7_3:eqS (⟨#[110,101,103]⟩:ByteArray) (⟨#[100,105,118]⟩:ByteArray)=false:=rfl
theorem q_7_4:eqS (⟨#[110,101,103]⟩:ByteArray) (⟨#[109,111,100]⟩:ByteArray)=false:=rfl
theorem q_7_5:eqS (⟨#[110,101,103]⟩:ByteArray) (⟨#[109,105,110]⟩:ByteArray)=false:=rfl
theorem q_7_6:eqS (⟨#[110,101,103]⟩:ByteArray) (⟨#[109,97,120]⟩:ByteArray)=false:=rfl
theorem q_7_7:eqS (⟨#[110,101,103]⟩:ByteArray) (⟨#[110,101,103]⟩:ByteArray)=true:=rfl
theorem q_7_8:eqS (⟨#[110,101,103]⟩:ByteArray) (⟨#[97,98,115]⟩:ByteArray)=false:=rfl
theorem q_7_9:eqS (⟨#[110,101,103]⟩:ByteArray) (⟨#[115,105,103,110]⟩:ByteArray)=false:=rfl
theorem q_7_10:eqS (⟨#[110,101,103]⟩:ByteArray) (⟨#[108,116]⟩:ByteArray)=false:=rfl
theorem q_7_11:eqS (⟨#[110,101,103]⟩:ByteArray) (⟨#[108,101]⟩:ByteArray)=false:=rfl
theorem q_7_12:eqS (⟨#[110,101,103]⟩:ByteArray) (⟨#[103,116]⟩:ByteArray)=false:=rfl
theorem q_7_13:eqS (⟨#[110,101,103]⟩:ByteArray) (⟨#[103,101]⟩:ByteArray)=false:=rfl
theorem q_7_14:eqS (⟨#[110,101,103]⟩:ByteArray) (⟨#[101,113]⟩:ByteArray)=false:=rfl
theorem q_7_15:eqS (⟨#[110,101,103]⟩:ByteArray) (⟨#[110,101]⟩:ByteArray)=false:=rfl
theorem q_7_16:eqS (⟨#[110,101,103]⟩:ByteArray) (⟨#[97,110,100]⟩:ByteArray)=false:=rfl
theorem q_7_17:eqS (⟨#[110,101,103]⟩:ByteArray) (⟨#[111,114]⟩:ByteArray)=false:=rfl
theorem q_7_18:eqS (⟨#[110,101,103]⟩:ByteArray) (⟨#[120,111,114]⟩:ByteArray)=false:=rfl
theorem q_7_19:eqS (⟨#[110,101,103]⟩:ByteArray) (⟨#[110,111,116]⟩:ByteArray)=false:=rfl
theorem q_7_20:eqS (⟨#[110,101,103]⟩:ByteArray) (⟨#[115,101,108,101,99,116]⟩:ByteArray)=false:=rfl
theorem q_7_21:eqS (⟨#[110,101,103]⟩:ByteArray) (⟨#[116,111,105,110,116]⟩:ByteArray)=false:=rfl
theorem q_7_22:eqS (⟨#[110,101,103]⟩:ByteArray) (⟨#[105,110,116]⟩:ByteArray)=false:=rfl
theorem q_7_23:eqS (⟨#[110,101,103]⟩:ByteArray) (⟨#[98,111,111,108]⟩:ByteArray)=false:=rfl
theorem q_7_24:eqS (⟨#[110,101,103]⟩:ByteArray) (⟨#[65]⟩:ByteArray)=false:=rfl
theorem q_7_25:eqS (⟨#[110,101,103]⟩:ByteArray) (⟨#[]⟩:ByteArray)=false:=rfl
theorem q_8_0:eqS (⟨#[97,98,115]⟩:ByteArray) (⟨#[97,100,100]⟩:ByteArray)=false:=rfl
theorem q_8_1:eqS (⟨#[97,98,115]⟩:ByteArray) (⟨#[115,117,98]⟩:ByteArray)=false:=rfl
theorem q_8_2:eqS (⟨#[97,98,115]⟩:ByteArray) (⟨#[109,117,108]⟩:ByteArray)=false:=rfl
theorem q_8_3:eqS (⟨#[97,98,115]⟩:ByteArray) (⟨#[100,105,118]⟩:ByteArray)=false:=rfl
theorem q_8_4:eqS (⟨#[97,98,115]⟩:ByteArray) (⟨#[109,111,100]⟩:ByteArray)=false:=rfl
theorem q_8_5:eqS (⟨#[97,98,115]⟩:ByteArray) (⟨#[109,105,110]⟩:ByteArray)=false:=rfl
theorem q_8_6:eqS (⟨#[97,98,115]⟩:ByteArray) (⟨#[109,97,120]⟩:ByteArray)=false:=rfl
theorem q_8_7:eqS (⟨#[97,98,115]⟩:ByteArray) (⟨#[110,101,103]⟩:ByteArray)=false:=rfl
theorem q_8_8:eqS (⟨#[97,98,115]⟩:ByteArray) (⟨#[97,98,115]⟩:ByteArray)=true:=rfl
theorem q_8_9:eqS (⟨#[97,98,115]⟩:ByteArray) (⟨#[115,105,103,110]⟩:ByteArray)=false:=rfl
theorem q_8_10:eqS (⟨#[97,98,115]⟩:ByteArray) (⟨#[108,116]⟩:ByteArray)=false:=rfl
theorem q_8_11:eqS (⟨#[97,98,115]⟩:ByteArray) (⟨#[108,101]⟩:ByteArray)=false:=rfl
theorem q_8_12:eqS (⟨#[97,98,115]⟩:ByteArray) (⟨#[103,116]⟩:ByteArray)=false:=rfl
theorem q_8_13:eqS (⟨#[97,98,115]⟩:ByteArray) (⟨#[103,101]⟩:ByteArray)=false:=rfl
theorem q_8_14:eqS (⟨#[97,98,115]⟩:ByteArray) (⟨#[101,113]⟩:ByteArray)=false:=rfl
theorem q_8_15:eqS (⟨#[97,98,115]⟩:ByteArray) (⟨#[110,101]⟩:ByteArray)=false:=rfl
theorem q_8_16:eqS (⟨#[97,98,115]⟩:ByteArray) (⟨#[97,110,100]⟩:ByteArray)=false:=rfl
theorem q_8_17:eqS (⟨#[97,98,115]⟩:ByteArray) (⟨#[111,114]⟩:ByteArray)=false:=rfl
theorem q_8_18:eqS (⟨#[97,98,115]⟩:ByteArray) (⟨#[120,111,114]⟩:ByteArray)=false:=rfl
theorem q_8_19:eqS (⟨#[97,98,115]⟩:ByteArray) (⟨#[110,111,116]⟩:ByteArray)=false:=rfl
theorem q_8_20:eqS (⟨#[97,98,115]⟩:ByteArray) (⟨#[115,101,108,101,99,116]⟩:ByteArray)=false:=rfl
theorem q_8_21:eqS (⟨#[97,98,115]⟩:ByteArray) (⟨#[116,111,105,110,116]⟩:ByteArray)=false:=rfl
theorem q_8_22:eqS (⟨#[97,98,115]⟩:ByteArray) (⟨#[105,110,116]⟩:ByteArray)=false:=rfl
theorem q_8_23:eqS (⟨#[97,98,115]⟩:ByteArray) (⟨#[98,111,111,108]⟩:ByteArray)=false:=rfl
theorem q_8_24:eqS (⟨#[97,98,115]⟩:ByteArray) (⟨#[65]⟩:ByteArray)=false:=rfl
theorem q_8_25:eqS (⟨#[97,98,115]⟩:ByteArray) (⟨#[]⟩:ByteArray)=false:=rfl
theorem q_9_0:eqS (⟨#[115,105,103,110]⟩:ByteArray) (⟨#[97,100,100]⟩:ByteArray)=false:=rfl
theorem q_9_1:eqS (⟨#[115,105,103,110]⟩:ByteArray) (⟨#[115,117,98]⟩:ByteArray)=false:=rfl
theorem q_9_2:eqS (⟨#[115,105,103,110]⟩:ByteArray) (⟨#[109,117,108]⟩:ByteArray)=false:=rfl
theorem q_9_3:eqS (⟨#[115,105,103,110]⟩:ByteArray) (⟨#[100,105,118]⟩:ByteArray)=false:=rfl
theorem q_9_4:eqS (⟨#[115,105,103,110]⟩:ByteArray) (⟨#[109,111,100]⟩:ByteArray)=false:=rfl
theorem q_9_5:eqS (⟨#[115,105,103,110]⟩:ByteArray) (⟨#[109,105,110]⟩:ByteArray)=false:=rfl
theorem q_9_6:eqS (⟨#[115,105,103,110]⟩:ByteArray) (⟨#[109,97,120]⟩:ByteArray)=false:=rfl
theorem q_9_7:eqS (⟨#[115,105,103,110]⟩:ByteArray) (⟨#[110,101,103]⟩:ByteArray)=false:=rfl
theorem q_9_8:eqS (⟨#[115,105,103,110]⟩:ByteArray) (⟨#[97,98,115]⟩:ByteArray)=false:=rfl
theorem q_9_9:eqS (⟨#[115,105,103,110]⟩:ByteArray) (⟨#[115,105,103,110]⟩:ByteArray)=true:=rfl
theorem q_9_10:eqS (⟨#[115,105,103,110]⟩:ByteArray) (⟨#[108,116]⟩:ByteArray)=false:=rfl
theorem q_9_11:eqS (⟨#[115,105,103,110]⟩:ByteArray) (⟨#[108,101]⟩:ByteArray)=false:=rfl
theorem q_9_12:eqS (⟨#[115,105,103,110]⟩:ByteArray) (⟨#[103,116]⟩:ByteArray)=false:=rfl
theorem q_9_13:eqS (⟨#[115,105,103,110]⟩:ByteArray) (⟨#[103,101]⟩:ByteArray)=false:=rfl
theorem q_9_14:eqS (⟨#[115,105,103,110]⟩:ByteArray) (⟨#[101,113]⟩:ByteArray)=false:=rfl
theorem q_9_15:eqS (⟨#[115,105,103,110]⟩:ByteArray) (⟨#[110,101]⟩:ByteArray)=false:=rfl
theorem q_9_16:eqS (⟨#[115,105,103,110]⟩:ByteArray) (⟨#[97,110,100]⟩:ByteArray)=false:=rfl
theorem q_9_17:eqS (⟨#[115,105,103,110]⟩:ByteArray) (⟨#[111,114]⟩:ByteArray)=false:=rfl
theorem q_9_18:eqS (⟨#[115,105,103,110]⟩:ByteArray) (⟨#[120,111,114]⟩:ByteArray)=false:=rfl
theorem q_9_19:eqS (⟨#[115,105,103,110]⟩:ByteArray) (⟨#[110,111,116]⟩:ByteArray)=false:=rfl
theorem q_9_20:eqS (⟨#[115,105,103,110]⟩:ByteArray) (⟨#[115,101,108,101,99,116]⟩:ByteArray)=false:=rfl
theorem q_9_21:eqS (⟨#[115,105,103,110]⟩:ByteArray) (⟨#[116,111,105,110,116]⟩:ByteArray)=false:=rfl
theorem q_9_22:eqS (⟨#[115,105,103,110]⟩:ByteArray) (⟨#[105,110,116]⟩:ByteArray)=false:=rfl
theorem q_9_23:eqS (⟨#[115,105,103,110]⟩:ByteArray) (⟨#[98,111,111,108]⟩:ByteArray)=false:=rfl
theorem q_9_24:eqS (⟨#[115,105,103,110]⟩:ByteArray) (⟨#[65]⟩:ByteArray)=false:=rfl
theorem q_9_25:eqS (⟨#[115,105,103,110]⟩:ByteArray) (⟨#[]⟩:ByteArray)=false:=rfl
theorem q_10_0:eqS (⟨#[108,116]⟩:ByteArray) (⟨#[97,100,100]⟩:ByteArray)=false:=rfl
theorem q_10_1:eqS (⟨#[108,116]⟩:ByteArray) (⟨#[115,117,98]⟩:ByteArray)=false:=rfl
theorem q_10_2:eqS (⟨#[108,116]⟩:ByteArray) (⟨#[109,117,108]⟩:ByteArray)=false:=rfl
theorem q_10_3:eqS (⟨#[108,116]⟩:ByteArray) (⟨#[100,105,118]⟩:ByteArray)=false:=rfl
theorem q_10_4:eqS (⟨#[108,116]⟩:ByteArray) (⟨#[109,111,100]⟩:ByteArray)=false:=rfl
theorem q_10_5:eqS (⟨#[108,116]⟩:ByteArray) (⟨#[109,105,110]⟩:ByteArray)=false:=rfl
theorem q_10_6:eqS (⟨#[108,116]⟩:ByteArray) (⟨#[109,97,120]⟩:ByteArray)=false:=rfl
theorem q_10_7:eqS (⟨#[108,116]⟩:ByteArray) (⟨#[110,101,103]⟩:ByteArray)=false:=rfl
theorem q_10_8:eqS (⟨#[108,116]⟩:ByteArray) (⟨#[97,98,115]⟩:ByteArray)=false:=rfl
theorem q_10_9:eqS (⟨#[108,116]⟩:ByteArray) (⟨#[115,105,103,110]⟩:ByteArray)=false:=rfl
theorem q_10_10:eqS (⟨#[108,116]⟩:ByteArray) (⟨#[108,116]⟩:ByteArray)=true:=rfl
theorem q_10_11:eqS (⟨#[108,116]⟩:ByteArray) (⟨#[108,101]⟩:ByteArray)=false:=rfl
theorem q_10_12:eqS (⟨#[108,116]⟩:ByteArray) (⟨#[103,116]⟩:ByteArray)=false:=rfl
theorem q_10_13:eqS (⟨#[108,116]⟩:ByteArray) (⟨#[103,101]⟩:ByteArray)=false:=rfl
theorem q_10_14:eqS (⟨#[108,116]⟩:ByteArray) (⟨#[101,113]⟩:ByteArray)=false:=rfl
theorem q_10_15:eqS (⟨#[108,116]⟩:ByteArray) (⟨#[110,101]⟩:ByteArray)=false:=rfl
theorem q_10_16:eqS (⟨#[108,116]⟩:ByteArray) (⟨#[97,110,100]⟩:ByteArray)=false:=rfl
theorem q_10_17:eqS (⟨#[108,116]⟩:ByteArray) (⟨#[111,114]⟩:ByteArray)=false:=rfl
theorem q_10_18:eqS (⟨#[108,116]⟩:ByteArray) (⟨#[120,111,114]⟩:ByteArray)=false:=rfl
theorem q_10_19:eqS (⟨#[108,116]⟩:ByteArray) (⟨#[110,111,116]⟩:ByteArray)=false:=rfl
theorem q_10_20:eqS (⟨#[108,116]⟩:ByteArray) (⟨#[115,101,108,101,99,116]⟩:ByteArray)=false:=rfl
theorem q_10_21:eqS (⟨#[108,116]⟩:ByteArray) (⟨#[116,111,105,110,116]⟩:ByteArray)=false:=rfl
theorem q_10_22:eqS (⟨#[108,116]⟩:ByteArray) (⟨#[105,110,116]⟩:ByteArray)=false:=rfl
theorem q_10_23:eqS (⟨#[108,116]⟩:ByteArray) (⟨#[98,111,111,108]⟩:ByteArray)=false:=rfl
theorem q_10_24:eqS (⟨#[108,116]⟩:ByteArray) (⟨#[65]⟩:ByteArray)=false:=rfl
theorem q_10_25:eqS (⟨#[108,116]⟩:ByteArray) (⟨#[]⟩:ByteArray)=false:=rfl
theorem q_11_0:eqS (⟨#[108,101]⟩:ByteArray) (⟨#[97,100,100]⟩:ByteArray)=false:=rfl
theorem q_11_1:eqS (⟨#[108,101]⟩:ByteArray) (⟨#[115,117,98]⟩:ByteArray)=false:=rfl
theorem q_11_2:eqS (⟨#[108,101]⟩:ByteArray) (⟨#[109,117,108]⟩:ByteArray)=false:=rfl
theorem q_11_3:eqS (⟨#[108,101]⟩:ByteArray) (⟨#[100,105,118]⟩:ByteArray)=false:=rfl
theorem q_11_4:eqS (⟨#[108,101]⟩:ByteArray) (⟨#[109,111,100]⟩:ByteArray)=false:=rfl
theorem q_11_5:eqS (⟨#[108,101]⟩:ByteArray) (⟨#[109,105,110]⟩:ByteArray)=false:=rfl
theorem q_11_6:eqS (⟨#[108,101]⟩:ByteArray) (⟨#[109,97,120]⟩:ByteArray)=false:=rfl
theorem q_11_7:eqS (⟨#[108,101]⟩:ByteArray) (⟨#[110,101,103]⟩:ByteArray)=false:=rfl
theorem q_11_8:eqS (⟨#[108,101]⟩:ByteArray) (⟨#[97,98,115]⟩:ByteArray)=false:=rfl
theorem q_11_9:eqS (⟨#[108,101]⟩:ByteArray) (⟨#[115,105,103,110]⟩:ByteArray)=false:=rfl
theorem q_11_10:eqS (⟨#[108,101]⟩:ByteArray) (⟨#[108,116]⟩:ByteArray)=false:=rfl
theorem q_11_11:eqS (⟨#[108,101]⟩:ByteArray) (⟨#[108,101]⟩:ByteArray)=true:=rfl
theorem q_11_12:eqS (⟨#[108,101]⟩:ByteArray) (⟨#[103,116]⟩:ByteArray)=false:=rfl
theorem q_11_13:eqS (⟨#[108,101]⟩:ByteArray) (⟨#[103,101]⟩:ByteArray)=false:=rfl
theorem q_11_14:eqS (⟨#[108,101]⟩:ByteArray) (⟨#[101,113]⟩:ByteArray)=false:=rfl
theorem q_11_15:eqS (⟨#[108,101]⟩:ByteArray) (⟨#[110,101]⟩:ByteArray)=false:=rfl
theorem q_11_16:eqS (⟨#[108,101]⟩:ByteArray) (⟨#[97,110,100]⟩:ByteArray)=false:=rfl
theorem q_11_17:eqS (⟨#[108,101]⟩:ByteArray) (⟨#[111,114]⟩:ByteArray)=false:=rfl
theorem q_11_18:eqS (⟨#[108,101]⟩:ByteArray) (⟨#[120,111,114]⟩:ByteArray)=false:=rfl
theorem q_11_19:eqS (⟨#[108,101]⟩:ByteArray) (⟨#[110,111,116]⟩:ByteArray)=false:=rfl
theorem q_11_20:eqS (⟨#[108,101]⟩:ByteArray) (⟨#[115,101,108,101,99,116]⟩:ByteArray)=false:=rfl
theorem q_11_21:eqS (⟨#[108,101]⟩:ByteArray) (⟨#[116,111,105,110,116]⟩:ByteArray)=false:=rfl
theorem q_11_22:eqS (⟨#[108,101]⟩:ByteArray) (⟨#[105,110,116]⟩:ByteArray)=false:=rfl
theorem q_11_23:eqS (⟨#[108,101]⟩:ByteArray) (⟨#[98,111,111,108]⟩:ByteArray)=false:=rfl
theorem q_11_24:eqS (⟨#[108,101]⟩:ByteArray) (⟨#[65]⟩:ByteArray)=false:=rfl
theorem q_11_25:eqS (⟨#[108,101]⟩:ByteArray) (⟨#[]⟩:ByteArray)=false:=rfl
theorem q_12_0:eqS (⟨#[103,116]⟩:ByteArray) (⟨#[97,100,100]⟩:ByteArray)=false:=rfl
theorem q_12_1:eqS (⟨#[103,116]⟩:ByteArray) (⟨#[115,117,98]⟩:ByteArray)=false:=rfl
theorem q_12_2:eqS (⟨#[103,116]⟩:ByteArray) (⟨#[109,117,108]⟩:ByteArray)=false:=rfl
theorem q_12_3:eqS (⟨#[103,116]⟩:ByteArray) (⟨#[100,105,118]⟩:ByteArray)=false:=rfl
theorem q_12_4:eqS (⟨#[103,116]⟩:ByteArray) (⟨#[109,111,100]⟩:ByteArray)=false:=rfl
theorem q_12_5:eqS (⟨#[103,116]⟩:ByteArray) (⟨#[109,105,110]⟩:ByteArray)=false:=rfl
theorem q_12_6:eqS (⟨#[103,116]⟩:ByteArray) (⟨#[109,97,120]⟩:ByteArray)=false:=rfl
theorem q_12_7:eqS (⟨#[103,116]⟩:ByteArray) (⟨#[110,101,103]⟩:ByteArray)=false:=rfl
theorem q_12_8:eqS (⟨#[103,116]⟩:ByteArray) (⟨#[97,98,115]⟩:ByteArray)=false:=rfl
theorem q_12_9:eqS (⟨#[103,116]⟩:ByteArray) (⟨#[115,105,103,110]⟩:ByteArray)=false:=rfl
theorem q_12_10:eqS (⟨#[103,116]⟩:ByteArray) (⟨#[108,116]⟩:ByteArray)=false:=rfl
theorem q_12_11:eqS (⟨#[103,116]⟩:ByteArray) (⟨#[108,101]⟩:ByteArray)=false:=rfl
theorem q_12_12:eqS (⟨#[103,116]⟩:ByteArray) (⟨#[103,116]⟩:ByteArray)=true:=rfl
theorem q_12_13:eqS (⟨#[103,116]⟩:ByteArray) (⟨#[103,101]⟩:ByteArray)=false:=rfl
theorem q_12_14:eqS (⟨#[103,116]⟩:ByteArray) (⟨#[101,113]⟩:ByteArray)=false:=rfl
theorem q_12_15:eqS (⟨#[103,116]⟩:ByteArray) (⟨#[110,101]⟩:ByteArray)=false:=rfl
theorem q_12_16:eqS (⟨#[103,116]⟩:ByteArray) (⟨#[97,110,100]⟩:ByteArray)=false:=rfl
theorem q_12_17:eqS (⟨#[103,116]⟩:ByteArray) (⟨#[111,114]⟩:ByteArray)=false:=rfl
theorem q_12_18:eqS (⟨#[103,116]⟩:ByteArray) (⟨#[120,111,114]⟩:ByteArray)=false:=rfl
theorem q_12_19:eqS (⟨#[103,116]⟩:ByteArray) (⟨#[110,111,116]⟩:ByteArray)=false:=rfl
theorem q_12_20:eqS (⟨#[103,116]⟩:ByteArray) (⟨#[115,101,108,101,99,116]⟩:ByteArray)=false:=rfl
theorem q_12_21:eqS (⟨#[103,116]⟩:ByteArray) (⟨#[116,111,105,110,116]⟩:ByteArray)=false:=rfl
theorem q_12_22:eqS (⟨#[103,116]⟩:ByteArray) (⟨#[105,110,116]⟩:ByteArray)=false:=rfl
theorem q_12_23:eqS (⟨#[103,116]⟩:ByteArray) (⟨#[98,111,111,108]⟩:ByteArray)=false:=rfl
theorem q_12_24:eqS (⟨#[103,116]⟩:ByteArray) (⟨#[65]⟩:ByteArray)=false:=rfl
theorem q_12_25:eqS (⟨#[103,116]⟩:ByteArray) (⟨#[]⟩:ByteArray)=false:=rfl
theorem q_13_0:eqS (⟨#[103,101]⟩:ByteArray) (⟨#[97,100,100]⟩:ByteArray)=false:=rfl
theorem q_13_1:eqS (⟨#[103,101]⟩:ByteArray) (⟨#[115,117,98]⟩:ByteArray)=false:=rfl
theorem q_13_2:eqS (⟨#[103,101]⟩:ByteArray) (⟨#[109,117,108]⟩:ByteArray)=false:=rfl
theorem q_13_3:eqS (⟨#[103,101]⟩:ByteArray) (⟨#[100,105,118]⟩:ByteArray)=false:=rfl
theorem q_13_4:eqS (⟨#[103,101]⟩:ByteArray) (⟨#[109,111,100]⟩:ByteArray)=false:=rfl
theorem q_13_5:eqS (⟨#[103,101]⟩:ByteArray) (⟨#[109,105,110]⟩:ByteArray)=false:=rfl
theorem q_13_6:eqS (⟨#[103,101]⟩:ByteArray) (⟨#[109,97,120]⟩:ByteArray)=false:=rfl
theorem q_13_7:eqS (⟨#[103,101]⟩:ByteArray) (⟨#[110,101,103]⟩:ByteArray)=false:=rfl
theorem q_13_8:eqS (⟨#[103,101]⟩:ByteArray) (⟨#[97,98,115]⟩:ByteArray)=false:=rfl
theorem q_13_9:eqS (⟨#[103,101]⟩:ByteArray) (⟨#[115,105,103,110]⟩:ByteArray)=false:=rfl
theorem q_13_10:eqS (⟨#[103,101]⟩:ByteArray) (⟨#[108,116]⟩:ByteArray)=false:=rfl
theorem q_13_11:eqS (⟨#[103,101]⟩:ByteArray) (⟨#[108,101]⟩:ByteArray)=false:=rfl
theorem q_13_12:eqS (⟨#[103,101]⟩:ByteArray) (⟨#[103,116]⟩:ByteArray)=false:=rfl
theorem q_13_13:eqS (⟨#[103,101]⟩:ByteArray) (⟨#[103,101]⟩:ByteArray)=true:=rfl
theorem q_13_14:eqS (⟨#[103,101]⟩:ByteArray) (⟨#[101,113]⟩:ByteArray)=false:=rfl
theorem q_13_15:eqS (⟨#[103,101]⟩:ByteArray) (⟨#[110,101]⟩:ByteArray)=false:=rfl
theorem q_13_16:eqS (⟨#[103,101]⟩:ByteArray) (⟨#[97,110,100]⟩:ByteArray)=false:=rfl
theorem q_13_17:eqS (⟨#[103,101]⟩:ByteArray) (⟨#[111,114]⟩:ByteArray)=false:=rfl
theorem q_13_18:eqS (⟨#[103,101]⟩:ByteArray) (⟨#[120,111,114]⟩:ByteArray)=false:=rfl
theorem q_13_19:eqS (⟨#[103,101]⟩:ByteArray) (⟨#[110,111,116]⟩:ByteArray)=false:=rfl
theorem q_13_20:eqS (⟨#[103,101]⟩:ByteArray) (⟨#[115,101,108,101,99,116]⟩:ByteArray)=false:=rfl
theorem q_13_21:eqS (⟨#[103,101]⟩:ByteArray) (⟨#[116,111,105,110,116]⟩:ByteArray)=false:=rfl
theorem q_13_22:eqS (⟨#[103,101]⟩:ByteArray) (⟨#[105,110,116]⟩:ByteArray)=false:=rfl
theorem q_13_23:eqS (⟨#[103,101]⟩:ByteArray) (⟨#[98,111,111,108]⟩:ByteArray)=false:=rfl
theorem q_13_24:eqS (⟨#[103,101]⟩:ByteArray) (⟨#[65]⟩:ByteArray)=false:=rfl
theorem q_13_25:eqS (⟨#[103,101]⟩:ByteArray) (⟨#[]⟩:ByteArray)=false:=rfl
theorem q_14_0:eqS (⟨#[101,113]⟩:ByteArray) (⟨#[97,100,100]⟩:ByteArray)=false:=rfl
theorem q_14_1:eqS (⟨#[101,113]⟩:ByteArray) (⟨#[115,117,98]⟩:ByteArray)=false:=rfl
theorem q_14_2:eqS (⟨#[101,113]⟩:ByteArray) (⟨#[109,117,108]⟩:ByteArray)=false:=rfl
theorem q_14_3:eqS (⟨#[101,113]⟩:ByteArray) (⟨#[100,105,118]⟩:ByteArray)=false:=rfl
theorem q_14_4:eqS (⟨#[101,113]⟩:ByteArray) (⟨#[109,111,100]⟩:ByteArray)=false:=rfl
theorem q_14_5:eqS (⟨#[101,113]⟩:ByteArray) (⟨#[109,105,110]⟩:ByteArray)=false:=rfl
theorem q_14_6:eqS (⟨#[101,113]⟩:ByteArray) (⟨#[109,97,120]⟩:ByteArray)=false:=rfl
theorem q_14_7:eqS (⟨#[101,113]⟩:ByteArray) (⟨#[110,101,103]⟩:ByteArray)=false:=rfl
theorem q_14_8:eqS (⟨#[101,113]⟩:ByteArray) (⟨#[97,98,115]⟩:ByteArray)=false:=rfl
theorem q_14_9:eqS (⟨#[101,113]⟩:ByteArray) (⟨#[115,105,103,110]⟩:ByteArray)=false:=rfl
theorem q_14_10:eqS (⟨#[101,113]⟩:ByteArray) (⟨#[108,116]⟩:ByteArray)=false:=rfl
theorem q_14_11:eqS (⟨#[101,113]⟩:ByteArray) (⟨#[108,101]⟩:ByteArray)=false:=rfl
theorem q_14_12:eqS (⟨#[101,113]⟩:ByteArray) (⟨#[103,116]⟩:ByteArray)=false:=rfl
theorem q_14_13:eqS (⟨#[101,113]⟩:ByteArray) (⟨#[103,101]⟩:ByteArray)=false:=rfl
theorem q_14_14:eqS (⟨#[101,113]⟩:ByteArray) (⟨#[101,113]⟩:ByteArray)=true:=rfl
theorem q_14_15:eqS (⟨#[101,113]⟩:ByteArray) (⟨#[110,101]⟩:ByteArray)=false:=rfl
theorem q_14_16:eqS (⟨#[101,113]⟩:ByteArray) (⟨#[97,110,100]⟩:ByteArray)=false:=rfl
theorem q_14_17:eqS (⟨#[101,113]⟩:ByteArray) (⟨#[111,114]⟩:ByteArray)=false:=rfl
theorem q_14_18:eqS (⟨#[101,113]⟩:ByteArray) (⟨#[120,111,114]⟩:ByteArray)=false:=rfl
theorem q_14_19:eqS (⟨#[101,113]⟩:ByteArray) (⟨#[110,111,116]⟩:ByteArray)=false:=rfl
theorem q_14_20:eqS (⟨#[101,113]⟩:ByteArray) (⟨#[115,101,108,101,99,116]⟩:ByteArray)=false:=rfl
theorem q_14_21:eqS (⟨#[101,113]⟩:ByteArray) (⟨#[116,111,105,110,116]⟩:ByteArray)=false:=rfl
theorem q_14_22:eqS (⟨#[101,113]⟩:ByteArray) (⟨#[105,110,116]⟩:ByteArray)=false:=rfl
theorem q_14_23:eqS (⟨#[101,113]⟩:ByteArray) (⟨#[98,111,111,108]⟩:ByteArray)=false:=rfl
theorem q_14_24:eqS (⟨#[101,113]⟩:ByteArray) (⟨#[65]⟩:ByteArray)=false:=rfl
theorem q_14_25:eqS (⟨#[101,113]⟩:ByteArray) (⟨#[]⟩:ByteArray)=false:=rfl
theorem q_15_0:eqS (⟨#[110,101]⟩:ByteArray) (⟨#[97,100,100]⟩:ByteArray)=false:=rfl
theorem q_15_1:eqS (⟨#[110,101]⟩:ByteArray) (⟨#[115,117,98]⟩:ByteArray)=false:=rfl
theorem q_15_2:eqS (⟨#[110,101]⟩:ByteArray) (⟨#[109,117,108]⟩:ByteArray)=false:=rfl
theorem q_15_3:eqS (⟨#[110,101]⟩:ByteArray) (⟨#[100,105,118]⟩:ByteArray)=false:=rfl
theorem q_15_4:eqS (⟨#[110,101]⟩:ByteArray) (⟨#[109,111,100]⟩:ByteArray)=false:=rfl
theorem q_15_5:eqS (⟨#[110,101]⟩:ByteArray) (⟨#[109,105,110]⟩:ByteArray)=false:=rfl
theorem q_15_6:eqS (⟨#[110,101]⟩:ByteArray) (⟨#[109,97,120]⟩:ByteArray)=false:=rfl
theorem q_15_7:eqS (⟨#[110,101]⟩:ByteArray) (⟨#[110,101,103]⟩:ByteArray)=false:=rfl
theorem q_15_8:eqS (⟨#[110,101]⟩:ByteArray) (⟨#[97,98,115]⟩:ByteArray)=false:=rfl
theorem q_15_9:eqS (⟨#[110,101]⟩:ByteArray) (⟨#[115,105,103,110]⟩:ByteArray)=false:=rfl
theorem q_15_10:eqS (⟨#[110,101]⟩:ByteArray) (⟨#[108,116]⟩:ByteArray)=false:=rfl
theorem q_15_11:eqS (⟨#[110,101]⟩:ByteArray) (⟨#[108,101]⟩:ByteArray)=false:=rfl
theorem q_15_12:eqS (⟨#[110,101]⟩:ByteArray) (⟨#[103,116]⟩:ByteArray)=false:=rfl
theorem q_15_13:eqS (⟨#[110,101]⟩:ByteArray) (⟨#[103,101]⟩:ByteArray)=false:=rfl
theorem q_15_14:eqS (⟨#[110,101]⟩:ByteArray) (⟨#[101,113]⟩:ByteArray)=false:=rfl
theorem q_15_15:eqS (⟨#[110,101]⟩:ByteArray) (⟨#[110,101]⟩:ByteArray)=true:=rfl
theorem q_15_16:eqS (⟨#[110,101]⟩:ByteArray) (⟨#[97,110,100]⟩:ByteArray)=false:=rfl
theorem q_15_17:eqS (⟨#[110,101]⟩:ByteArray) (⟨#[111,114]⟩:ByteArray)=false:=rfl
theorem q_15_18:eqS (⟨#[110,101]⟩:ByteArray) (⟨#[120,111,114]⟩:ByteArray)=false:=rfl
theorem q_15_19:eqS (⟨#[110,101]⟩:ByteArray) (⟨#[110,111,116]⟩:ByteArray)=false:=rfl
theorem q_15_20:eqS (⟨#[110,101]⟩:ByteArray) (⟨#[115,101,108,101,99,116]⟩:ByteArray)=false:=rfl
theorem q_15_21:eqS (⟨#[110,101]⟩:ByteArray) (⟨#[116,111,105,110,116]⟩:ByteArray)=false:=rfl
theorem q_15_22:eqS (⟨#[110,101]⟩:ByteArray) (⟨#[105,110,116]⟩:ByteArray)=false:=rfl
theorem q_15_23:eqS (⟨#[110,101]⟩:ByteArray) (⟨#[98,111,111,108]⟩:ByteArray)=false:=rfl
theorem q_15_24:eqS (⟨#[110,101]⟩:ByteArray) (⟨#[65]⟩:ByteArray)=false:=rfl
theorem q_15_25:eqS (⟨#[110,101]⟩:ByteArray) (⟨#[]⟩:ByteArray)=false:=rfl
theorem q_16_0:eqS (⟨#[97,110,100]⟩:ByteArray) (⟨#[97,100,100]⟩:ByteArray)=false:=rfl
theorem q_16_1:eqS (⟨#[97,110,100]⟩:ByteArray) (⟨#[115,117,98]⟩:ByteArray)=false:=rfl
theorem q_16_2:eqS (⟨#[97,110,100]⟩:ByteArray) (⟨#[109,117,108]⟩:ByteArray)=false:=rfl
theorem q_16_3:eqS (⟨#[97,110,100]⟩:ByteArray) (⟨#[100,105,118]⟩:ByteArray)=false:=rfl
theorem q_16_4:eqS (⟨#[97,110,100]⟩:ByteArray) (⟨#[109,111,100]⟩:ByteArray)=false:=rfl
theorem q_16_5:eqS (⟨#[97,110,100]⟩:ByteArray) (⟨#[109,105,110]⟩:ByteArray)=false:=rfl
theorem q_16_6:eqS (⟨#[97,110,100]⟩:ByteArray) (⟨#[109,97,120]⟩:ByteArray)=false:=rfl
theorem q_16_7:eqS (⟨#[97,110,100]⟩:ByteArray) (⟨#[110,101,103]⟩:ByteArray)=false:=rfl
theorem q_16_8:eqS (⟨#[97,110,100]⟩:ByteArray) (⟨#[97,98,115]⟩:ByteArray)=false:=rfl
theorem q_16_9:eqS (⟨#[97,110,100]⟩:ByteArray) (⟨#[115,105,103,110]⟩:ByteArray)=false:=rfl
theorem q_16_10:eqS (⟨#[97,110,100]⟩:ByteArray) (⟨#[108,116]⟩:ByteArray)=false:=rfl
theorem q_16_11:eqS (⟨#[97,110,100]⟩:ByteArray) (⟨#[108,101]⟩:ByteArray)=false:=rfl
theorem q_16_12:eqS (⟨#[97,110,100]⟩:ByteArray) (⟨#[103,116]⟩:ByteArray)=false:=rfl
theorem q_16_13:eqS (⟨#[97,110,100]⟩:ByteArray) (⟨#[103,101]⟩:ByteArray)=false:=rfl
theorem q_16_14:eqS (⟨#[97,110,100]⟩:ByteArray) (⟨#[101,113]⟩:ByteArray)=false:=rfl
theorem q_16_15:eqS (⟨#[97,110,100]⟩:ByteArray) (⟨#[110,101]⟩:ByteArray)=false:=rfl
theorem q_16_16:eqS (⟨#[97,110,100]⟩:ByteArray) (⟨#[97,110,100]⟩:ByteArray)=true:=rfl
theorem q_16_17:eqS (⟨#[97,110,100]⟩:ByteArray) (⟨#[111,114]⟩:ByteArray)=false:=rfl
theorem q_16_18:eqS (⟨#[97,110,100]⟩:ByteArray) (⟨#[120,111,114]⟩:ByteArray)=false:=rfl
theorem q_16_19:eqS (⟨#[97,110,100]⟩:ByteArray) (⟨#[110,111,116]⟩:ByteArray)=false:=rfl
theorem q_16_20:eqS (⟨#[97,110,100]⟩:ByteArray) (⟨#[115,101,108,101,99,116]⟩:ByteArray)=false:=rfl
theorem q_16_21:eqS (⟨#[97,110,100]⟩:ByteArray) (⟨#[116,111,105,110,116]⟩:ByteArray)=false:=rfl
theorem q_16_22:eqS (⟨#[97,110,100]⟩:ByteArray) (⟨#[105,110,116]⟩:ByteArray)=false:=rfl
theorem q_16_23:eqS (⟨#[97,110,100]⟩:ByteArray) (⟨#[98,111,111,108]⟩:ByteArray)=false:=rfl
theorem q_16_24:eqS (⟨#[97,110,100]⟩:ByteArray) (⟨#[65]⟩:ByteArray)=false:=rfl
theorem q_16_25:eqS (⟨#[97,110,100]⟩:ByteArray) (⟨#[]⟩:ByteArray)=false:=rfl
theorem q_17_0:eqS (⟨#[111,114]⟩:ByteArray) (⟨#[97,100,100]⟩:ByteArray)=false:=rfl
theorem q_17_1:eqS (⟨#[111,114]⟩:ByteArray) (⟨#[115,117,98]⟩:ByteArray)=false:=rfl
theorem q_17_2:eqS (⟨#[111,114]⟩:ByteArray) (⟨#[109,117,108]⟩:ByteArray)=false:=rfl
theorem q_17_3:eqS (⟨#[111,114]⟩:ByteArray) (⟨#[100,105,118]⟩:ByteArray)=false:=rfl
theorem q_17_4:eqS (⟨#[111,114]⟩:ByteArray) (⟨#[109,111,100]⟩:ByteArray)=false:=rfl
theorem q_17_5:eqS (⟨#[111,114]⟩:ByteArray) (⟨#[109,105,110]⟩:ByteArray)=false:=rfl
theorem q_17_6:eqS (⟨#[111,114]⟩:ByteArray) (⟨#[109,97,120]⟩:ByteArray)=false:=rfl
theorem q_17_7:eqS (⟨#[111,114]⟩:ByteArray) (⟨#[110,101,103]⟩:ByteArray)=false:=rfl
theorem q_17_8:eqS (⟨#[111,114]⟩:ByteArray) (⟨#[97,98,115]⟩:ByteArray)=false:=rfl
theorem q_17_9:eqS (⟨#[111,114]⟩:ByteArray) (⟨#[115,105,103,110]⟩:ByteArray)=false:=rfl
theorem q_17_10:eqS (⟨#[111,114]⟩:ByteArray) (⟨#[108,116]⟩:ByteArray)=false:=rfl
theorem q_17_11:eqS (⟨#[111,114]⟩:ByteArray) (⟨#[108,101]⟩:ByteArray)=false:=rfl
theorem q_17_12:eqS (⟨#[111,114]⟩:ByteArray) (⟨#[103,116]⟩:ByteArray)=false:=rfl
theorem q_17_13:eqS (⟨#[111,114]⟩:ByteArray) (⟨#[103,101]⟩:ByteArray)=false:=rfl
theorem q_17_14:eqS (⟨#[111,114]⟩:ByteArray) (⟨#[101,113]⟩:ByteArray)=false:=rfl
theorem q_17_15:eqS (⟨#[111,114]⟩:ByteArray) (⟨#[110,101]⟩:ByteArray)=false:=rfl
theorem q_17_16:eqS (⟨#[111,114]⟩:ByteArray) (⟨#[97,110,100]⟩:ByteArray)=false:=rfl
theorem q_17_17:eqS (⟨#[111,114]⟩:ByteArray) (⟨#[111,114]⟩:ByteArray)=true:=rfl
theorem q_17_18:eqS (⟨#[111,114]⟩:ByteArray) (⟨#[120,111,114]⟩:ByteArray)=false:=rfl
theorem q_17_19:eqS (⟨#[111,114]⟩:ByteArray) (⟨#[110,111,116]⟩:ByteArray)=false:=rfl
theorem q_17_20:eqS (⟨#[111,114]⟩:ByteArray) (⟨#[115,101,108,101,99,116]⟩:ByteArray)=false:=rfl
theorem q_17_21:eqS (⟨#[111,114]⟩:ByteArray) (⟨#[116,111,105,110,116]⟩:ByteArray)=false:=rfl
theorem q_17_22:eqS (⟨#[111,114]⟩:ByteArray) (⟨#[105,110,116]⟩:ByteArray)=false:=rfl
theorem q_17_23:eqS (⟨#[111,114]⟩:ByteArray) (⟨#[98,111,111,108]⟩:ByteArray)=false:=rfl
theorem q_17_24:eqS (⟨#[111,114]⟩:ByteArray) (⟨#[65]⟩:ByteArray)=false:=rfl
theorem q_17_25:eqS (⟨#[111,114]⟩:ByteArray) (⟨#[]⟩:ByteArray)=false:=rfl
theorem q_18_0:eqS (⟨#[120,111,114]⟩:ByteArray) (⟨#[97,100,100]⟩:ByteArray)=false:=rfl
theorem q_18_1:eqS (⟨#[120,111,114]⟩:ByteArray) (⟨#[115,117,98]⟩:ByteArray)=false:=rfl
theorem q_18_2:eqS (⟨#[120,111,114]⟩:ByteArray) (⟨#[109,117,108]⟩:ByteArray)=false:=rfl
theorem q_18_3:eqS (⟨#[120,111,114]⟩:ByteArray) (⟨#[100,105,118]⟩:ByteArray)=false:=rfl
theorem q_18_4:eqS (⟨#[120,111,114]⟩:ByteArray) (⟨#[109,111,100]⟩:ByteArray)=false:=rfl
theorem q_18_5:eqS (⟨#[120,111,114]⟩:ByteArray) (⟨#[109,105,110]⟩:ByteArray)=false:=rfl
theorem q_18_6:eqS (⟨#[120,111,114]⟩:ByteArray) (⟨#[109,97,120]⟩:ByteArray)=false:=rfl
theorem q_18_7:eqS (⟨#[120,111,114]⟩:ByteArray) (⟨#[110,101,103]⟩:ByteArray)=false:=rfl
theorem q_18_8:eqS (⟨#[120,111,114]⟩:ByteArray) (⟨#[97,98,115]⟩:ByteArray)=false:=rfl
theorem q_18_9:eqS (⟨#[120,111,114]⟩:ByteArray) (⟨#[115,105,103,110]⟩:ByteArray)=false:=rfl
theorem q_18_10:eqS (⟨#[120,111,114]⟩:ByteArray) (⟨#[108,116]⟩:ByteArray)=false:=rfl
theorem q_18_11:eqS (⟨#[120,111,114]⟩:ByteArray) (⟨#[108,101]⟩:ByteArray)=false:=rfl
theorem q_18_12:eqS (⟨#[120,111,114]⟩:ByteArray) (⟨#[103,116]⟩:ByteArray)=false:=rfl
theorem q_18_13:eqS (⟨#[120,111,114]⟩:ByteArray) (⟨#[103,101]⟩:ByteArray)=false:=rfl
theorem q_18_14:eqS (⟨#[120,111,114]⟩:ByteArray) (⟨#[101,113]⟩:ByteArray)=false:=rfl
theorem q_18_15:eqS (⟨#[120,111,114]⟩:ByteArray) (⟨#[110,101]⟩:ByteArray)=false:=rfl
theorem q_18_16:eqS (⟨#[120,111,114]⟩:ByteArray) (⟨#[97,110,100]⟩:ByteArray)=false:=rfl
theorem q_18_17:eqS (⟨#[120,111,114]⟩:ByteArray) (⟨#[111,114]⟩:ByteArray)=false:=rfl
theorem q_18_18:eqS (⟨#[120,111,114]⟩:ByteArray) (⟨#[120,111,114]⟩:ByteArray)=true:=rfl
theorem q_18_19:eqS (⟨#[120,111,114]⟩:ByteArray) (⟨#[110,111,116]⟩:ByteArray)=false:=rfl
theorem q_18_20:eqS (⟨#[120,111,114]⟩:ByteArray) (⟨#[115,101,108,101,99,116]⟩:ByteArray)=false:=rfl
theorem q_18_21:eqS (⟨#[120,111,114]⟩:ByteArray) (⟨#[116,111,105,110,116]⟩:ByteArray)=false:=rfl
theorem q_18_22:eqS (⟨#[120,111,114]⟩:ByteArray) (⟨#[105,110,116]⟩:ByteArray)=false:=rfl
theorem q_18_23:eqS (⟨#[120,111,114]⟩:ByteArray) (⟨#[98,111,111,108]⟩:ByteArray)=false:=rfl
theorem q_18_24:eqS (⟨#[120,111,114]⟩:ByteArray) (⟨#[65]⟩:ByteArray)=false:=rfl
theorem q_18_25:eqS (⟨#[120,111,114]⟩:ByteArray) (⟨#[]⟩:ByteArray)=false:=rfl
theorem q_19_0:eqS (⟨#[110,111,116]⟩:ByteArray) (⟨#[97,100,100]⟩:ByteArray)=false:=rfl
theorem q_19_1:eqS (⟨#[110,111,116]⟩:ByteArray) (⟨#[115,117,98]⟩:ByteArray)=false:=rfl
theorem q_19_2:eqS (⟨#[110,111,116]⟩:ByteArray) (⟨#[109,117,108]⟩:ByteArray)=false:=rfl
theorem q_19_3:eqS (⟨#[110,111,116]⟩:ByteArray) (⟨#[100,105,118]⟩:ByteArray)=false:=rfl
theorem q_19_4:eqS (⟨#[110,111,116]⟩:ByteArray) (⟨#[109,111,100]⟩:ByteArray)=false:=rfl
theorem q_19_5:eqS (⟨#[110,111,116]⟩:ByteArray) (⟨#[109,105,110]⟩:ByteArray)=false:=rfl
theorem q_19_6:eqS (⟨#[110,111,116]⟩:ByteArray) (⟨#[109,97,120]⟩:ByteArray)=false:=rfl
theorem q_19_7:eqS (⟨#[110,111,116]⟩:ByteArray) (⟨#[110,101,103]⟩:ByteArray)=false:=rfl
theorem q_19_8:eqS (⟨#[110,111,116]⟩:ByteArray) (⟨#[97,98,115]⟩:ByteArray)=false:=rfl
theorem q_19_9:eqS (⟨#[110,111,116]⟩:ByteArray) (⟨#[115,105,103,110]⟩:ByteArray)=false:=rfl
theorem q_19_10:eqS (⟨#[110,111,116]⟩:ByteArray) (⟨#[108,116]⟩:ByteArray)=false:=rfl
theorem q_19_11:eqS (⟨#[110,111,116]⟩:ByteArray) (⟨#[108,101]⟩:ByteArray)=false:=rfl
theorem q_19_12:eqS (⟨#[110,111,116]⟩:ByteArray) (⟨#[103,116]⟩:ByteArray)=false:=rfl
theorem q_19_13:eqS (⟨#[110,111,116]⟩:ByteArray) (⟨#[103,101]⟩:ByteArray)=false:=rfl
theorem q_19_14:eqS (⟨#[110,111,116]⟩:ByteArray) (⟨#[101,113]⟩:ByteArray)=false:=rfl
theorem q_19_15:eqS (⟨#[110,111,116]⟩:ByteArray) (⟨#[110,101]⟩:ByteArray)=false:=rfl
theorem q_19_16:eqS (⟨#[110,111,116]⟩:ByteArray) (⟨#[97,110,100]⟩:ByteArray)=false:=rfl
theorem q_19_17:eqS (⟨#[110,111,116]⟩:ByteArray) (⟨#[111,114]⟩:ByteArray)=false:=rfl
theorem q_19_18:eqS (⟨#[110,111,116]⟩:ByteArray) (⟨#[120,111,114]⟩:ByteArray)=false:=rfl
theorem q_19_19:eqS (⟨#[110,111,116]⟩:ByteArray) (⟨#[110,111,116]⟩:ByteArray)=true:=rfl
theorem q_19_20:eqS (⟨#[110,111,116]⟩:ByteArray) (⟨#[115,101,108,101,99,116]⟩:ByteArray)=false:=rfl
theorem q_19_21:eqS (⟨#[110,111,116]⟩:ByteArray) (⟨#[116,111,105,110,116]⟩:ByteArray)=false:=rfl
theorem q_19_22:eqS (⟨#[110,111,116]⟩:ByteArray) (⟨#[105,110,116]⟩:ByteArray)=false:=rfl
theorem q_19_23:eqS (⟨#[110,111,116]⟩:ByteArray) (⟨#[98,111,111,108]⟩:ByteArray)=false:=rfl
theorem q_19_24:eqS (⟨#[110,111,116]⟩:ByteArray) (⟨#[65]⟩:ByteArray)=false:=rfl
theorem q_19_25:eqS (⟨#[110,111,116]⟩:ByteArray) (⟨#[]⟩:ByteArray)=false:=rfl
theorem q_20_0:eqS (⟨#[115,101,108,101,99,116]⟩:ByteArray) (⟨#[97,100,100]⟩:ByteArray)=false:=rfl
theorem q_20_1:eqS (⟨#[115,101,108,101,99,116]⟩:ByteArray) (⟨#[115,117,98]⟩:ByteArray)=false:=rfl
theorem q_20_2:eqS (⟨#[115,101,108,101,99,116]⟩:ByteArray) (⟨#[109,117,108]⟩:ByteArray)=false:=rfl
theorem q_20_3:eqS (⟨#[115,101,108,101,99,116]⟩:ByteArray) (⟨#[100,105,118]⟩:ByteArray)=false:=rfl
theorem q_20_4:eqS (⟨#[115,101,108,101,99,116]⟩:ByteArray) (⟨#[109,111,100]⟩:ByteArray)=false:=rfl
theorem q_20_5:eqS (⟨#[115,101,108,101,99,116]⟩:ByteArray) (⟨#[109,105,110]⟩:ByteArray)=false:=rfl
theorem q_20_6:eqS (⟨#[115,101,108,101,99,116]⟩:ByteArray) (⟨#[109,97,120]⟩:ByteArray)=false:=rfl
theorem q_20_7:eqS (⟨#[115,101,108,101,99,116]⟩:ByteArray) (⟨#[110,101,103]⟩:ByteArray)=false:=rfl
theorem q_20_8:eqS (⟨#[115,101,108,101,99,116]⟩:ByteArray) (⟨#[97,98,115]⟩:ByteArray)=false:=rfl
theorem q_20_9:eqS (⟨#[115,101,108,101,99,116]⟩:ByteArray) (⟨#[115,105,103,110]⟩:ByteArray)=false:=rfl
theorem q_20_10:eqS (⟨#[115,101,108,101,99,116]⟩:ByteArray) (⟨#[108,116]⟩:ByteArray)=false:=rfl
theorem q_20_11:eqS (⟨#[115,101,108,101,99,116]⟩:ByteArray) (⟨#[108,101]⟩:ByteArray)=false:=rfl
theorem q_20_12:eqS (⟨#[115,101,108,101,99,116]⟩:ByteArray) (⟨#[103,116]⟩:ByteArray)=false:=rfl
theorem q_20_13:eqS (⟨#[115,101,108,101,99,116]⟩:ByteArray) (⟨#[103,101]⟩:ByteArray)=false:=rfl
theorem q_20_14:eqS (⟨#[115,101,108,101,99,116]⟩:ByteArray) (⟨#[101,113]⟩:ByteArray)=false:=rfl
theorem q_20_15:eqS (⟨#[115,101,108,101,99,116]⟩:ByteArray) (⟨#[110,101]⟩:ByteArray)=false:=rfl
theorem q_20_16:eqS (⟨#[115,101,108,101,99,116]⟩:ByteArray) (⟨#[97,110,100]⟩:ByteArray)=false:=rfl
theorem q_20_17:eqS (⟨#[115,101,108,101,99,116]⟩:ByteArray) (⟨#[111,114]⟩:ByteArray)=false:=rfl
theorem q_20_18:eqS (⟨#[115,101,108,101,99,116]⟩:ByteArray) (⟨#[120,111,114]⟩:ByteArray)=false:=rfl
theorem q_20_19:eqS (⟨#[115,101,108,101,99,116]⟩:ByteArray) (⟨#[110,111,116]⟩:ByteArray)=false:=rfl
theorem q_20_20:eqS (⟨#[115,101,108,101,99,116]⟩:ByteArray) (⟨#[115,101,108,101,99,116]⟩:ByteArray)=true:=rfl
theorem q_20_21:eqS (⟨#[115,101,108,101,99,116]⟩:ByteArray) (⟨#[116,111,105,110,116]⟩:ByteArray)=false:=rfl
theorem q_20_22:eqS (⟨#[115,101,108,101,99,116]⟩:ByteArray) (⟨#[105,110,116]⟩:ByteArray)=false:=rfl
theorem q_20_23:eqS (⟨#[115,101,108,101,99,116]⟩:ByteArray) (⟨#[98,111,111,108]⟩:ByteArray)=false:=rfl
theorem q_20_24:eqS (⟨#[115,101,108,101,99,116]⟩:ByteArray) (⟨#[65]⟩:ByteArray)=false:=rfl
theorem q_20_25:eqS (⟨#[115,101,108,101,99,116]⟩:ByteArray) (⟨#[]⟩:ByteArray)=false:=rfl
theorem q_21_0:eqS (⟨#[116,111,105,110,116]⟩:ByteArray) (⟨#[97,100,100]⟩:ByteArray)=false:=rfl
theorem q_21_1:eqS (⟨#[116,111,105,110,116]⟩:ByteArray) (⟨#[115,117,98]⟩:ByteArray)=false:=rfl
theorem q_21_2:eqS (⟨#[116,111,105,110,116]⟩:ByteArray) (⟨#[109,117,108]⟩:ByteArray)=false:=rfl
theorem q_21_3:eqS (⟨#[116,111,105,110,116]⟩:ByteArray) (⟨#[100,105,118]⟩:ByteArray)=false:=rfl
theorem q_21_4:eqS (⟨#[116,111,105,110,116]⟩:ByteArray) (⟨#[109,111,100]⟩:ByteArray)=false:=rfl
theorem q_21_5:eqS (⟨#[116,111,105,110,116]⟩:ByteArray) (⟨#[109,105,110]⟩:ByteArray)=false:=rfl
theorem q_21_6:eqS (⟨#[116,111,105,110,116]⟩:ByteArray) (⟨#[109,97,120]⟩:ByteArray)=false:=rfl
theorem q_21_7:eqS (⟨#[116,111,105,110,116]⟩:ByteArray) (⟨#[110,101,103]⟩:ByteArray)=false:=rfl
theorem q_21_8:eqS (⟨#[116,111,105,110,116]⟩:ByteArray) (⟨#[97,98,115]⟩:ByteArray)=false:=rfl
theorem q_21_9:eqS (⟨#[116,111,105,110,116]⟩:ByteArray) (⟨#[115,105,103,110]⟩:ByteArray)=false:=rfl
theorem q_21_10:eqS (⟨#[116,111,105,110,116]⟩:ByteArray) (⟨#[108,116]⟩:ByteArray)=false:=rfl
theorem q_21_11:eqS (⟨#[116,111,105,110,116]⟩:ByteArray) (⟨#[108,101]⟩:ByteArray)=false:=rfl
theorem q_21_12:eqS (⟨#[116,111,105,110,116]⟩:ByteArray) (⟨#[103,116]⟩:ByteArray)=false:=rfl
theorem q_21_13:eqS (⟨#[116,111,105,110,116]⟩:ByteArray) (⟨#[103,101]⟩:ByteArray)=false:=rfl
theorem q_21_14:eqS (⟨#[116,111,105,110,116]⟩:ByteArray) (⟨#[101,113]⟩:ByteArray)=false:=rfl
theorem q_21_15:eqS (⟨#[116,111,105,110,116]⟩:ByteArray) (⟨#[110,101]⟩:ByteArray)=false:=rfl
theorem q_21_16:eqS (⟨#[116,111,105,110,116]⟩:ByteArray) (⟨#[97,110,100]⟩:ByteArray)=false:=rfl
theorem q_21_17:eqS (⟨#[116,111,105,110,116]⟩:ByteArray) (⟨#[111,114]⟩:ByteArray)=false:=rfl
theorem q_21_18:eqS (⟨#[116,111,105,110,116]⟩:ByteArray) (⟨#[120,111,114]⟩:ByteArray)=false:=rfl
theorem q_21_19:eqS (⟨#[116,111,105,110,116]⟩:ByteArray) (⟨#[110,111,116]⟩:ByteArray)=false:=rfl
theorem q_21_20:eqS (⟨#[116,111,105,110,116]⟩:ByteArray) (⟨#[115,101,108,101,99,116]⟩:ByteArray)=false:=rfl
theorem q_21_21:eqS (⟨#[116,111,105,110,116]⟩:ByteArray) (⟨#[116,111,105,110,116]⟩:ByteArray)=true:=rfl
theorem q_21_22:eqS (⟨#[116,111,105,110,116]⟩:ByteArray) (⟨#[105,110,116]⟩:ByteArray)=false:=rfl
theorem q_21_23:eqS (⟨#[116,111,105,110,116]⟩:ByteArray) (⟨#[98,111,111,108]⟩:ByteArray)=false:=rfl
theorem q_21_24:eqS (⟨#[116,111,105,110,116]⟩:ByteArray) (⟨#[65]⟩:ByteArray)=false:=rfl
theorem q_21_25:eqS (⟨#[116,111,105,110,116]⟩:ByteArray) (⟨#[]⟩:ByteArray)=false:=rfl
theorem q_22_0:eqS (⟨#[105,110,116]⟩:ByteArray) (⟨#[97,100,100]⟩:ByteArray)=false:=rfl
theorem q_22_1:eqS (⟨#[105,110,116]⟩:ByteArray) (⟨#[115,117,98]⟩:ByteArray)=false:=rfl
theorem q_22_2:eqS (⟨#[105,110,116]⟩:ByteArray) (⟨#[109,117,108]⟩:ByteArray)=false:=rfl
theorem q_22_3:eqS (⟨#[105,110,116]⟩:ByteArray) (⟨#[100,105,118]⟩:ByteArray)=false:=rfl
theorem q_22_4:eqS (⟨#[105,110,116]⟩:ByteArray) (⟨#[109,111,100]⟩:ByteArray)=false:=rfl
theorem q_22_5:eqS (⟨#[105,110,116]⟩:ByteArray) (⟨#[109,105,110]⟩:ByteArray)=false:=rfl
theorem q_22_6:eqS (⟨#[105,110,116]⟩:ByteArray) (⟨#[109,97,120]⟩:ByteArray)=false:=rfl
theorem q_22_7:eqS (⟨#[105,110,116]⟩:ByteArray) (⟨#[110,101,103]⟩:ByteArray)=false:=rfl
theorem q_22_8:eqS (⟨#[105,110,116]⟩:ByteArray) (⟨#[97,98,115]⟩:ByteArray)=false:=rfl
theorem q_22_9:eqS (⟨#[105,110,116]⟩:ByteArray) (⟨#[115,105,103,110]⟩:ByteArray)=false:=rfl
theorem q_22_10:eqS (⟨#[105,110,116]⟩:ByteArray) (⟨#[108,116]⟩:ByteArray)=false:=rfl
theorem q_22_11:eqS (⟨#[105,110,116]⟩:ByteArray) (⟨#[108,101]⟩:ByteArray)=false:=rfl
theorem q_22_12:eqS (⟨#[105,110,116]⟩:ByteArray) (⟨#[103,116]⟩:ByteArray)=false:=rfl
theorem q_22_13:eqS (⟨#[105,110,116]⟩:ByteArray) (⟨#[103,101]⟩:ByteArray)=false:=rfl
theorem q_22_14:eqS (⟨#[105,110,116]⟩:ByteArray) (⟨#[101,113]⟩:ByteArray)=false:=rfl
theorem q_22_15:eqS (⟨#[105,110,116]⟩:ByteArray) (⟨#[110,101]⟩:ByteArray)=false:=rfl
theorem q_22_16:eqS (⟨#[105,110,116]⟩:ByteArray) (⟨#[97,110,100]⟩:ByteArray)=false:=rfl
theorem q_22_17:eqS (⟨#[105,110,116]⟩:ByteArray) (⟨#[111,114]⟩:ByteArray)=false:=rfl
theorem q_22_18:eqS (⟨#[105,110,116]⟩:ByteArray) (⟨#[120,111,114]⟩:ByteArray)=false:=rfl
theorem q_22_19:eqS (⟨#[105,110,116]⟩:ByteArray) (⟨#[110,111,116]⟩:ByteArray)=false:=rfl
theorem q_22_20:eqS (⟨#[105,110,116]⟩:ByteArray) (⟨#[115,101,108,101,99,116]⟩:ByteArray)=false:=rfl
theorem q_22_21:eqS (⟨#[105,110,116]⟩:ByteArray) (⟨#[116,111,105,110,116]⟩:ByteArray)=false:=rfl
theorem q_22_22:eqS (⟨#[105,110,116]⟩:ByteArray) (⟨#[105,110,116]⟩:ByteArray)=true:=rfl
theorem q_22_23:eqS (⟨#[105,110,116]⟩:ByteArray) (⟨#[98,111,111,108]⟩:ByteArray)=false:=rfl
theorem q_22_24:eqS (⟨#[105,110,116]⟩:ByteArray) (⟨#[65]⟩:ByteArray)=false:=rfl
theorem q_22_25:eqS (⟨#[105,110,116]⟩:ByteArray) (⟨#[]⟩:ByteArray)=false:=rfl
theorem q_23_0:eqS (⟨#[98,111,111,108]⟩:ByteArray) (⟨#[97,100,100]⟩:ByteArray)=false:=rfl
theorem q_23_1:eqS (⟨#[98,111,111,108]⟩:ByteArray) (⟨#[115,117,98]⟩:ByteArray)=false:=rfl
theorem q_23_2:eqS (⟨#[98,111,111,108]⟩:ByteArray) (⟨#[109,117,108]⟩:ByteArray)=false:=rfl
theorem q_23_3:eqS (⟨#[98,111,111,108]⟩:ByteArray) (⟨#[100,105,118]⟩:ByteArray)=false:=rfl
theorem q_23_4:eqS (⟨#[98,111,111,108]⟩:ByteArray) (⟨#[109,111,100]⟩:ByteArray)=false:=rfl
theorem q_23_5:eqS (⟨#[98,111,111,108]⟩:ByteArray) (⟨#[109,105,110]⟩:ByteArray)=false:=rfl
theorem q_23_6:eqS (⟨#[98,111,111,108]⟩:ByteArray) (⟨#[109,97,120]⟩:ByteArray)=false:=rfl
theorem q_23_7:eqS (⟨#[98,111,111,108]⟩:ByteArray) (⟨#[110,101,103]⟩:ByteArray)=false:=rfl
theorem q_23_8:eqS (⟨#[98,111,111,108]⟩:ByteArray) (⟨#[97,98,115]⟩:ByteArray)=false:=rfl
theorem q_23_9:eqS (⟨#[98,111,111,108]⟩:ByteArray) (⟨#[115,105,103,110]⟩:ByteArray)=false:=rfl
theorem q_23_10:eqS (⟨#[98,111,111,108]⟩:ByteArray) (⟨#[108,116]⟩:ByteArray)=false:=rfl
theorem q_23_11:eqS (⟨#[98,111,111,108]⟩:ByteArray) (⟨#[108,101]⟩:ByteArray)=false:=rfl
theorem q_23_12:eqS (⟨#[98,111,111,108]⟩:ByteArray) (⟨#[103,116]⟩:ByteArray)=false:=rfl
theorem q_23_13:eqS (⟨#[98,111,111,108]⟩:ByteArray) (⟨#[103,101]⟩:ByteArray)=false:=rfl
theorem q_23_14:eqS (⟨#[98,111,111,108]⟩:ByteArray) (⟨#[101,113]⟩:ByteArray)=false:=rfl
theorem q_23_15:eqS (⟨#[98,111,111,108]⟩:ByteArray) (⟨#[110,101]⟩:ByteArray)=false:=rfl
theorem q_23_16:eqS (⟨#[98,111,111,108]⟩:ByteArray) (⟨#[97,110,100]⟩:ByteArray)=false:=rfl
theorem q_23_17:eqS (⟨#[98,111,111,108]⟩:ByteArray) (⟨#[111,114]⟩:ByteArray)=false:=rfl
theorem q_23_18:eqS (⟨#[98,111,111,108]⟩:ByteArray) (⟨#[120,111,114]⟩:ByteArray)=false:=rfl
theorem q_23_19:eqS (⟨#[98,111,111,108]⟩:ByteArray) (⟨#[110,111,116]⟩:ByteArray)=false:=rfl
theorem q_23_20:eqS (⟨#[98,111,111,108]⟩:ByteArray) (⟨#[115,101,108,101,99,116]⟩:ByteArray)=false:=rfl
theorem q_23_21:eqS (⟨#[98,111,111,108]⟩:ByteArray) (⟨#[116,111,105,110,116]⟩:ByteArray)=false:=rfl
theorem q_23_22:eqS (⟨#[98,111,111,108]⟩:ByteArray) (⟨#[105,110,116]⟩:ByteArray)=false:=rfl
theorem q_23_23:eqS (⟨#[98,111,111,108]⟩:ByteArray) (⟨#[98,111,111,108]⟩:ByteArray)=true:=rfl
theorem q_23_24:eqS (⟨#[98,111,111,108]⟩:ByteArray) (⟨#[65]⟩:ByteArray)=false:=rfl
theorem q_23_25:eqS (⟨#[98,111,111,108]⟩:ByteArray) (⟨#[]⟩:ByteArray)=false:=rfl
theorem q_24_0:eqS (⟨#[65]⟩:ByteArray) (⟨#[97,100,100]⟩:ByteArray)=false:=rfl
theorem q_24_1:eqS (⟨#[65]⟩:ByteArray) (⟨#[115,117,98]⟩:ByteArray)=false:=rfl
theorem q_24_2:eqS (⟨#[65]⟩:ByteArray) (⟨#[109,117,108]⟩:ByteArray)=false:=rfl
theorem q_24_3:eqS (⟨#[65]⟩:ByteArray) (⟨#[100,105,118]⟩:ByteArray)=false:=rfl
theorem q_24_4:eqS (⟨#[65]⟩:ByteArray) (⟨#[109,111,100]⟩:ByteArray)=false:=rfl
theorem q_24_5:eqS (⟨#[65]⟩:ByteArray) (⟨#[109,105,110]⟩:ByteArray)=false:=rfl
theorem q_24_6:eqS (⟨#[65]⟩:ByteArray) (⟨#[109,97,120]⟩:ByteArray)=false:=rfl
theorem q_24_7:eqS (⟨#[65]⟩:ByteArray) (⟨#[110,101,103]⟩:ByteArray)=false:=rfl
theorem q_24_8:eqS (⟨#[65]⟩:ByteArray) (⟨#[97,98,115]⟩:ByteArray)=false:=rfl
theorem q_24_9:eqS (⟨#[65]⟩:ByteArray) (⟨#[115,105,103,110]⟩:ByteArray)=false:=rfl
theorem q_24_10:eqS (⟨#[65]⟩:ByteArray) (⟨#[108,116]⟩:ByteArray)=false:=rfl
theorem q_24_11:eqS (⟨#[65]⟩:ByteArray) (⟨#[108,101]⟩:ByteArray)=false:=rfl
theorem q_24_12:eqS (⟨#[65]⟩:ByteArray) (⟨#[103,116]⟩:ByteArray)=false:=rfl
theorem q_24_13:eqS (⟨#[65]⟩:ByteArray) (⟨#[103,101]⟩:ByteArray)=false:=rfl
theorem q_24_14:eqS (⟨#[65]⟩:ByteArray) (⟨#[101,113]⟩:ByteArray)=false:=rfl
theorem q_24_15:eqS (⟨#[65]⟩:ByteArray) (⟨#[110,101]⟩:ByteArray)=false:=rfl
theorem q_24_16:eqS (⟨#[65]⟩:ByteArray) (⟨#[97,110,100]⟩:ByteArray)=false:=rfl
theorem q_24_17:eqS (⟨#[65]⟩:ByteArray) (⟨#[111,114]⟩:ByteArray)=false:=rfl
theorem q_24_18:eqS (⟨#[65]⟩:ByteArray) (⟨#[120,111,114]⟩:ByteArray)=false:=rfl
theorem q_24_19:eqS (⟨#[65]⟩:ByteArray) (⟨#[110,111,116]⟩:ByteArray)=false:=rfl
theorem q_24_20:eqS (⟨#[65]⟩:ByteArray) (⟨#[115,101,108,101,99,116]⟩:ByteArray)=false:=rfl
theorem q_24_21:eqS (⟨#[65]⟩:ByteArray) (⟨#[116,111,105,110,116]⟩:ByteArray)=false:=rfl
theorem q_24_22:eqS (⟨#[65]⟩:ByteArray) (⟨#[105,110,116]⟩:ByteArray)=false:=rfl
theorem q_24_23:eqS (⟨#[65]⟩:ByteArray) (⟨#[98,111,111,108]⟩:ByteArray)=false:=rfl
theorem q_24_24:eqS (⟨#[65]⟩:ByteArray) (⟨#[65]⟩:ByteArray)=true:=rfl
theorem q_24_25:eqS (⟨#[65]⟩:ByteArray) (⟨#[]⟩:ByteArray)=false:=rfl
theorem q_25_0:eqS (⟨#[]⟩:ByteArray) (⟨#[97,100,100]⟩:ByteArray)=false:=rfl
theorem q_25_1:eqS (⟨#[]⟩:ByteArray) (⟨#[115,117,98]⟩:ByteArray)=false:=rfl
theorem q_25_2:eqS (⟨#[]⟩:ByteArray) (⟨#[109,117,108]⟩:ByteArray)=false:=rfl
theorem q_25_3:eqS (⟨#[]⟩:ByteArray) (⟨#[100,105,118]⟩:ByteArray)=false:=rfl
theorem q_25_4:eqS (⟨#[]⟩:ByteArray) (⟨#[109,111,100]⟩:ByteArray)=false:=rfl
theorem q_25_5:eqS (⟨#[]⟩:ByteArray) (⟨#[109,105,110]⟩:ByteArray)=false:=rfl
theorem q_25_6:eqS (⟨#[]⟩:ByteArray) (⟨#[109,97,120]⟩:ByteArray)=false:=rfl
theorem q_25_7:eqS (⟨#[]⟩:ByteArray) (⟨#[110,101,103]⟩:ByteArray)=false:=rfl
theorem q_25_8:eqS (⟨#[]⟩:ByteArray) (⟨#[97,98,115]⟩:ByteArray)=false:=rfl
theorem q_25_9:eqS (⟨#[]⟩:ByteArray) (⟨#[115,105,103,110]⟩:ByteArray)=false:=rfl
theorem q_25_10:eqS (⟨#[]⟩:ByteArray) (⟨#[108,116]⟩:ByteArray)=false:=rfl
theorem q_25_11:eqS (⟨#[]⟩:ByteArray) (⟨#[108,101]⟩:ByteArray)=false:=rfl
theorem q_25_12:eqS (⟨#[]⟩:ByteArray) (⟨#[103,116]⟩:ByteArray)=false:=rfl
theorem q_25_13:eqS (⟨#[]⟩:ByteArray) (⟨#[103,101]⟩:ByteArray)=false:=rfl
theorem q_25_14:eqS (⟨#[]⟩:ByteArray) (⟨#[101,113]⟩:ByteArray)=false:=rfl
theorem q_25_15:eqS (⟨#[]⟩:ByteArray) (⟨#[110,101]⟩:ByteArray)=false:=rfl
theorem q_25_16:eqS (⟨#[]⟩:ByteArray) (⟨#[97,110,100]⟩:ByteArray)=false:=rfl
theorem q_25_17:eqS (⟨#[]⟩:ByteArray) (⟨#[111,114]⟩:ByteArray)=false:=rfl
theorem q_25_18:eqS (⟨#[]⟩:ByteArray) (⟨#[120,111,114]⟩:ByteArray)=false:=rfl
theorem q_25_19:eqS (⟨#[]⟩:ByteArray) (⟨#[110,111,116]⟩:ByteArray)=false:=rfl
theorem q_25_20:eqS (⟨#[]⟩:ByteArray) (⟨#[115,101,108,101,99,116]⟩:ByteArray)=false:=rfl
theorem q_25_21:eqS (⟨#[]⟩:ByteArray) (⟨#[116,111,105,110,116]⟩:ByteArray)=false:=rfl
theorem q_25_22:eqS (⟨#[]⟩:ByteArray) (⟨#[105,110,116]⟩:ByteArray)=false:=rfl
theorem q_25_23:eqS (⟨#[]⟩:ByteArray) (⟨#[98,111,111,108]⟩:ByteArray)=false:=rfl
theorem q_25_24:eqS (⟨#[]⟩:ByteArray) (⟨#[65]⟩:ByteArray)=false:=rfl
theorem q_25_25:eqS (⟨#[]⟩:ByteArray) (⟨#[]⟩:ByteArray)=true:=rfl
attribute [go_sem] q_0_0 q_0_1 q_0_2 q_0_3 q_0_4 q_0_5 q_0_6 q_0_7 q_0_8 q_0_9 q_0_10 q_0_11 q_0_12 q_0_13 q_0_14 q_0_15 q_0_16 q_0_17 q_0_18 q_0_19 q_0_20 q_0_21 q_0_22 q_0_23 q_0_24 q_0_25 q_1_0 q_1_1 q_1_2 q_1_3 q_1_4 q_1_5 q_1_6 q_1_7 q_1_8 q_1_9 q_1_10 q_1_11 q_1_12 q_1_13 q_1_14 q_1_15 q_1_16 q_1_17 q_1_18 q_1_19 q_1_20 q_1_21 q_1_22 q_1_23 q_1_24 q_1_25 q_2_0 q_2_1 q_2_2 q_2_3 q_2_4 q_2_5 q_2_6 q_2_7 q_2_8 q_2_9 q_2_10 q_2_11 q_2_12 q_2_13 q_2_14 q_2_15 q_2_16 q_2_17 q_2_18 q_2_19 q_2_20 q_2_21 q_2_22 q_2_23 q_2_24 q_2_25 q_3_0 q_3_1 q_3_2 q_3_3 q_3_4 q_3_5 q_3_6 q_3_7 q_3_8 q_3_9 q_3_10 q_3_11 q_3_12 q_3_13 q_3_14 q_3_15 q_3_16 q_3_17 q_3_18 q_3_19 q_3_20 q_3_21 q_3_22 q_3_23 q_3_24 q_3_25 q_4_0 q_4_1 q_4_2 q_4_3 q_4_4 q_4_5 q_4_6 q_4_7 q_4_8 q_4_9 q_4_10 q_4_11 q_4_12 q_4_13 q_4_14 q_4_15 q_4_16 q_4_17 q_4_18 q_4_19 q_4_20 q_4_21 q_4_22 q_4_23 q_4_24 q_4_25 q_5_0 q_5_1 q_5_2 q_5_3 q_5_4 q_5_5 q_5_6 q_5_7 q_5_8 q_5_9 q_5_10 q_5_11 q_5_12 q_5_13 q_5_14 q_5_15 q_5_16 q_5_17 q_5_18 q_5_19 q_5_20 q_5_21 q_5_22 q_5_23 q_5_24 q_5_25 q_6_0 q_6_1 q_6_2 q_6_3 q_6_4 q_6_5 q_6_6 q_6_7 q_6_8 q_6_9 q_6_10 q_6_11 q_6_12 q_6_13 q_6_14 q_6_15 q_6_16 q_6_17 q_6_18 q_6_19 q_6_20 q_6_21 q_6_22 q_6_23 q_6_24 q_6_25 q_7_0 q_7_1 q_7_2 q_7_3 q_7_4 q_7_5 q_7_6 q_7_7 q_7_8 q_7_9 q_7_10 q_7_11 q_7_12 q_7_13 q_7_14 q_7_15 q_7_16 q_7_17 q_7_18 q_7_19 q_7_20 q_7_21 q_7_22 q_7_23 q_7_24 q_7_25 q_8_0 q_8_1 q_8_2 q_8_3 q_8_4 q_8_5 q_8_6 q_8_7 q_8_8 q_8_9 q_8_10 q_8_11 q_8_12 q_8_13 q_8_14 q_8_15 q_8_16 q_8_17 q_8_18 q_8_19 q_8_20 q_8_21 q_8_22 q_8_23 q_8_24 q_8_25 q_9_0 q_9_1 q_9_2 q_9_3 q_9_4 q_9_5 q_9_6 q_9_7 q_9_8 q_9_9 q_9_10 q_9_11 q_9_12 q_9_13 q_9_14 q_9_15 q_9_16 q_9_17 q_9_18 q_9_19 q_9_20 q_9_21 q_9_22 q_9_23 q_9_24 q_9_25 q_10_0 q_10_1 q_10_2 q_10_3 q_10_4 q_10_5 q_10_6 q_10_7 q_10_8 q_10_9 q_10_10 q_10_11 q_10_12 q_10_13 q_10_14 q_10_15 q_10_16 q_10_17 q_10_18 q_10_19 q_10_20 q_10_21 q_10_22 q_10_23 q_10_24 q_10_25 q_11_0 q_11_1 q_11_2 q_11_3 q_11_4 q_11_5 q_11_6 q_11_7 q_11_8 q_11_9 q_11_10 q_11_11 q_11_12 q_11_13 q_11_14 q_11_15 q_11_16 q_11_17 q_11_18 q_11_19 q_11_20 q_11_21 q_11_22 q_11_23 q_11_24 q_11_25 q_12_0 q_12_1 q_12_2 q_12_3 q_12_4 q_12_5 q_12_6 q_12_7 q_12_8 q_12_9 q_12_10 q_12_11 q_12_12 q_12_13 q_12_14 q_12_15 q_12_16 q_12_17 q_12_18 q_12_19 q_12_20 q_12_21 q_12_22 q_12_23 q_12_24 q_12_25 q_13_0 q_13_1 q_13_2 q_13_3 q_13_4 q_13_5 q_13_6 q_13_7 q_13_8 q_13_9 q_13_10 q_13_11 q_13_12 q_13_13 q_13_14 q_13_15 q_13_16 q_13_17 q_13_18 q_13_19 q_13_20 q_13_21 q_13_22 q_13_23 q_13_24 q_13_25 q_14_0 q_14_1 q_14_2 q_14_3 q_14_4 q_14_5 q_14_6 q_14_7 q_14_8 q_14_9 q_14_10 q_14_11 q_14_12 q_14_13 q_14_14 q_14_15 q_14_16 q_14_17 q_14_18 q_14_19 q_14_20 q_14_21 q_14_22 q_14_23 q_14_24 q_14_25 q_15_0 q_15_1 q_15_2 q_15_3 q_15_4 q_15_5 q_15_6 q_15_7 q_15_8 q_15_9 q_15_10 q_15_11 q_15_12 q_15_13 q_15_14 q_15_15 q_15_16 q_15_17 q_15_18 q_15_19 q_15_20 q_15_21 q_15_22 q_15_23 q_15_24 q_15_25 q_16_0 q_16_1 q_16_2 q_16_3 q_16_4 q_16_5 q_16_6 q_16_7 q_16_8 q_16_9 q_16_10 q_16_11 q_16_12 q_16_13 q_16_14 q_16_15 q_16_16 q_16_17 q_16_18 q_16_19 q_16_20 q_16_21 q_16_22 q_16_23 q_16_24 q_16_25 q_17_0 q_17_1 q_17_2 q_17_3 q_17_4 q_17_5 q_17_6 q_17_7 q_17_8 q_17_9 q_17_10 q_17_11 q_17_12 q_17_13 q_17_14 q_17_15 q_17_16 q_17_17 q_17_18 q_17_19 q_17_20 q_17_21 q_17_22 q_17_23 q_17_24 q_17_25 q_18_0 q_18_1 q_18_2 q_18_3 q_18_4 q_18_5 q_18_6 q_18_7 q_18_8 q_18_9 q_18_10 q_18_11 q_18_12 q_18_13 q_18_14 q_18_15 q_18_16 q_18_17 q_18_18 q_18_19 q_18_20 q_18_21 q_18_22 q_18_23 q_18_24 q_18_25 q_19_0 q_19_1 q_19_2 q_19_3 q_19_4 q_19_5 q_19_6 q_19_7 q_19_8 q_19_9 q_19_10 q_19_11 q_19_12 q_19_13 q_19_14 q_19_15 q_19_16 q_19_17 q_19_18 q_19_19 q_19_20 q_19_21 q_19_22 q_19_23 q_19_24 q_19_25 q_20_0 q_20_1 q_20_2 q_20_3 q_20_4 q_20_5 q_20_6 q_20_7 q_20_8 q_20_9 q_20_10 q_20_11 q_20_12 q_20_13 q_20_14 q_20_15 q_20_16 q_20_17 q_20_18 q_20_19 q_20_20 q_20_21 q_20_22 q_20_23 q_20_24 q_20_25 q_21_0 q_21_1 q_21_2 q_21_3 q_21_4 q_21_5 q_21_6 q_21_7 q_21_8 q_21_9 q_21_10 q_21_11 q_21_12 q_21_13 q_21_14 q_21_15 q_21_16 q_21_17 q_21_18 q_21_19 q_21_20 q_21_21 q_21_22 q_21_23 q_21_24 q_21_25 q_22_0 q_22_1 q_22_2 q_22_3 q_22_4 q_22_5 q_22_6 q_22_7 q_22_8 q_22_9 q_22_10 q_22_11 q_22_12 q_22_13 q_22_14 q_22_15 q_22_16 q_22_17 q_22_18 q_22_19 q_22_20 q_22_21 q_22_22 q_22_23 q_22_24 q_22_25 q_23_0 q_23_1 q_23_2 q_23_3 q_23_4 q_23_5 q_23_6 q_23_7 q_23_8 q_23_9 q_23_10 q_23_11 q_23_12 q_23_13 q_23_14 q_23_15 q_23_16 q_23_17 q_23_18 q_23_19 q_23_20 q_23_21 q_23_22 q_23_23 q_23_24 q_23_25 q_24_0 q_24_1 q_24_2 q_24_3 q_24_4 q_24_5 q_24_6 q_24_7 q_24_8 q_24_9 q_24_10 q_24_11 q_24_12 q_24_13 q_24_14 q_24_15 q_24_16 q_24_17 q_24_18 q_24_19 q_24_20 q_24_21 q_24_22 q_24_23 q_24_24 q_24_25 q_25_0 q_25_1 q_25_2 q_25_3 q_25_4 q_25_5 q_25_6 q_25_7 q_25_8 q_25_9 q_25_10 q_25_11 q_25_12 q_25_13 q_25_14 q_25_15 q_25_16 q_25_17 q_25_18 q_25_19 q_25_20 q_25_21 q_25_22 q_25_23 q_25_24 q_25_25
structure Rw where
  op:ByteArray
  ps:List ByteArray
  rs:ByteArray
instance:Inhabited Rw:=⟨⟨⟨#[]⟩,[],⟨#[]⟩⟩⟩
def rowsL:List Rw:=[⟨(⟨#[97,100,100]⟩:ByteArray),[(⟨#[105,110,116]⟩:ByteArray),(⟨#[105,110,116]⟩:ByteArray)],(⟨#[105,110,116]⟩:ByteArray)⟩,⟨(⟨#[115,117,98]⟩:ByteArray),[(⟨#[105,110,116]⟩:ByteArray),(⟨#[105,110,116]⟩:ByteArray)],(⟨#[105,110,116]⟩:ByteArray)⟩,⟨(⟨#[109,117,108]⟩:ByteArray),[(⟨#[105,110,116]⟩:ByteArray),(⟨#[105,110,116]⟩:ByteArray)],(⟨#[105,110,116]⟩:ByteArray)⟩,⟨(⟨#[100,105,118]⟩:ByteArray),[(⟨#[105,110,116]⟩:ByteArray),(⟨#[105,110,116]⟩:ByteArray)],(⟨#[105,110,116]⟩:ByteArray)⟩,⟨(⟨#[109,111,100]⟩:ByteArray),[(⟨#[105,110,116]⟩:ByteArray),(⟨#[105,110,116]⟩:ByteArray)],(⟨#[105,110,116]⟩:ByteArray)⟩,⟨(⟨#[109,105,110]⟩:ByteArray),[(⟨#[105,110,116]⟩:ByteArray),(⟨#[105,110,116]⟩:ByteArray)],(⟨#[105,110,116]⟩:ByteArray)⟩,⟨(⟨#[109,97,120]⟩:ByteArray),[(⟨#[105,110,116]⟩:ByteArray),(⟨#[105,110,116]⟩:ByteArray)],(⟨#[105,110,116]⟩:ByteArray)⟩,⟨(⟨#[110,101,103]⟩:ByteArray),[(⟨#[105,110,116]⟩:ByteArray)],(⟨#[105,110,116]⟩:ByteArray)⟩,⟨(⟨#[97,98,115]⟩:ByteArray),[(⟨#[105,110,116]⟩:ByteArray)],(⟨#[105,110,116]⟩:ByteArray)⟩,⟨(⟨#[115,105,103,110]⟩:ByteArray),[(⟨#[105,110,116]⟩:ByteArray)],(⟨#[105,110,116]⟩:ByteArray)⟩,⟨(⟨#[108,116]⟩:ByteArray),[(⟨#[105,110,116]⟩:ByteArray),(⟨#[105,110,116]⟩:ByteArray)],(⟨#[98,111,111,108]⟩:ByteArray)⟩,⟨(⟨#[108,101]⟩:ByteArray),[(⟨#[105,110,116]⟩:ByteArray),(⟨#[105,110,116]⟩:ByteArray)],(⟨#[98,111,111,108]⟩:ByteArray)⟩,⟨(⟨#[103,116]⟩:ByteArray),[(⟨#[105,110,116]⟩:ByteArray),(⟨#[105,110,116]⟩:ByteArray)],(⟨#[98,111,111,108]⟩:ByteArray)⟩,⟨(⟨#[103,101]⟩:ByteArray),[(⟨#[105,110,116]⟩:ByteArray),(⟨#[105,110,116]⟩:ByteArray)],(⟨#[98,111,111,108]⟩:ByteArray)⟩,⟨(⟨#[101,113]⟩:ByteArray),[(⟨#[65]⟩:ByteArray),(⟨#[65]⟩:ByteArray)],(⟨#[98,111,111,108]⟩:ByteArray)⟩,⟨(⟨#[110,101]⟩:ByteArray),[(⟨#[65]⟩:ByteArray),(⟨#[65]⟩:ByteArray)],(⟨#[98,111,111,108]⟩:ByteArray)⟩,⟨(⟨#[97,110,100]⟩:ByteArray),[(⟨#[98,111,111,108]⟩:ByteArray),(⟨#[98,111,111,108]⟩:ByteArray)],(⟨#[98,111,111,108]⟩:ByteArray)⟩,⟨(⟨#[111,114]⟩:ByteArray),[(⟨#[98,111,111,108]⟩:ByteArray),(⟨#[98,111,111,108]⟩:ByteArray)],(⟨#[98,111,111,108]⟩:ByteArray)⟩,⟨(⟨#[120,111,114]⟩:ByteArray),[(⟨#[98,111,111,108]⟩:ByteArray),(⟨#[98,111,111,108]⟩:ByteArray)],(⟨#[98,111,111,108]⟩:ByteArray)⟩,⟨(⟨#[110,111,116]⟩:ByteArray),[(⟨#[98,111,111,108]⟩:ByteArray)],(⟨#[98,111,111,108]⟩:ByteArray)⟩,⟨(⟨#[115,101,108,101,99,116]⟩:ByteArray),[(⟨#[98,111,111,108]⟩:ByteArray),(⟨#[65]⟩:ByteArray),(⟨#[65]⟩:ByteArray)],(⟨#[65]⟩:ByteArray)⟩,⟨(⟨#[116,111,105,110,116]⟩:ByteArray),[(⟨#[98,111,111,108]⟩:ByteArray)],(⟨#[105,110,116]⟩:ByteArray)⟩]
def rowC (r:Rw):List AV:=[.lit (.string r.op),.sl true 1 (strs r.ps),.lit (.string r.rs)]
def rowCells:List AV:=rowsL.flatMap rowC
theorem rowCells_len:rowCells.length=66:=rfl
set_option maxHeartbeats 4000000 in
theorem rows_pc:PC Tryz.prog 84 [] (.agg rowCells):=by
  refine pcO E0_ok (fun _=>[0,1,2,3,4]) Tryz.func84 (h:=fun KF=>?_)
  unfold E0
  repeat' (first
   |(with_reducible first|refine t_seq fun K=>?_|refine nx ?_|refine t_br (fun hc=>?_) fun hc=>?_)|exact kpd
   |((with_reducible first|refine ny ?_|refine t_kLF ?_ ?_|refine t_region fun K=>?_|refine t_cond fun A B=>?_|refine t_dw (h:=fun K=>?_));simp only [go_sem,geff])
   |simp only [thenQ,blockQ,scopeQ,Nat.reduceEqDiff,reduceIte]|(with_reducible first|refine And.intro ?_ ?_|intro vr))
  all_goals try exact om
  refine end_ret rfl ?_
  simp only [fin,go_sem]
  exact LeA.refl _
end Go.Proofs.YtcpjahmajkhchaaGreat.El
