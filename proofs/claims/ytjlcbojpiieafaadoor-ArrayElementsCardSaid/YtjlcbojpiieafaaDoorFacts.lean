/- Closed facts on the types of this seat's program, made by program (facts.py). -/
import Derived.Test.YtjlcbojpiieafaaDoorRows
import Derived.Test.YtjlcbojpiieafaaDoorFwB

set_option linter.all false

namespace Go.Proofs.YtjlcbojpiieafaaDoor
open Go Go.Fw

theorem u2 : Tryd.prog.underlying 2 = some (.int .i64) := by kernel_rfl
theorem sz2 : szT Tryd.prog 2 = 1 := by kernel_rfl
theorem by2 : byT Tryd.prog 2 = 8 := by kernel_rfl
theorem ag2 : aggT Tryd.prog 2 = some false := by kernel_rfl
theorem so2 : structOk Tryd.prog 2 = false := by kernel_rfl
theorem iz2 : (zeroT Tryd.prog 2).isSome = true := by kernel_rfl
theorem zk2 : zOk Tryd.prog 2 = true := by kernel_rfl
theorem iu2 : (Tryd.prog.underlying 2).isSome = true := by kernel_rfl
theorem u3 : Tryd.prog.underlying 3 = some (.int .i64) := by kernel_rfl
theorem sz3 : szT Tryd.prog 3 = 1 := by kernel_rfl
theorem by3 : byT Tryd.prog 3 = 8 := by kernel_rfl
theorem ag3 : aggT Tryd.prog 3 = some false := by kernel_rfl
theorem so3 : structOk Tryd.prog 3 = false := by kernel_rfl
theorem iz3 : (zeroT Tryd.prog 3).isSome = true := by kernel_rfl
theorem zk3 : zOk Tryd.prog 3 = true := by kernel_rfl
theorem iu3 : (Tryd.prog.underlying 3).isSome = true := by kernel_rfl
theorem u4 : Tryd.prog.underlying 4 = some .bool := by kernel_rfl
theorem sz4 : szT Tryd.prog 4 = 1 := by kernel_rfl
theorem by4 : byT Tryd.prog 4 = 1 := by kernel_rfl
theorem ag4 : aggT Tryd.prog 4 = some false := by kernel_rfl
theorem so4 : structOk Tryd.prog 4 = false := by kernel_rfl
theorem iz4 : (zeroT Tryd.prog 4).isSome = true := by kernel_rfl
theorem zk4 : zOk Tryd.prog 4 = true := by kernel_rfl
theorem iu4 : (Tryd.prog.underlying 4).isSome = true := by kernel_rfl
theorem u5 : Tryd.prog.underlying 5 = some (.int .u8) := by kernel_rfl
theorem sz5 : szT Tryd.prog 5 = 1 := by kernel_rfl
theorem by5 : byT Tryd.prog 5 = 1 := by kernel_rfl
theorem ag5 : aggT Tryd.prog 5 = some false := by kernel_rfl
theorem so5 : structOk Tryd.prog 5 = false := by kernel_rfl
theorem iz5 : (zeroT Tryd.prog 5).isSome = true := by kernel_rfl
theorem zk5 : zOk Tryd.prog 5 = true := by kernel_rfl
theorem iu5 : (Tryd.prog.underlying 5).isSome = true := by kernel_rfl
theorem u6 : Tryd.prog.underlying 6 = some (.int .u8) := by kernel_rfl
theorem sz6 : szT Tryd.prog 6 = 1 := by kernel_rfl
theorem by6 : byT Tryd.prog 6 = 1 := by kernel_rfl
theorem ag6 : aggT Tryd.prog 6 = some false := by kernel_rfl
theorem so6 : structOk Tryd.prog 6 = false := by kernel_rfl
theorem iz6 : (zeroT Tryd.prog 6).isSome = true := by kernel_rfl
theorem zk6 : zOk Tryd.prog 6 = true := by kernel_rfl
theorem iu6 : (Tryd.prog.underlying 6).isSome = true := by kernel_rfl
theorem sz7 : szT Tryd.prog 7 = 4 := by kernel_rfl
theorem by7 : byT Tryd.prog 7 = 24 := by kernel_rfl
theorem ag7 : aggT Tryd.prog 7 = some true := by kernel_rfl
theorem so7 : structOk Tryd.prog 7 = true := by kernel_rfl
theorem fl7_0 : fieldT Tryd.prog 7 0 = some (2, 0) := by kernel_rfl
theorem fl7_1 : fieldT Tryd.prog 7 1 = some (3, 1) := by kernel_rfl
theorem fl7_2 : fieldT Tryd.prog 7 2 = some (4, 2) := by kernel_rfl
theorem fl7_3 : fieldT Tryd.prog 7 3 = some (6, 3) := by kernel_rfl
theorem iz7 : (zeroT Tryd.prog 7).isSome = true := by kernel_rfl
theorem zk7 : zOk Tryd.prog 7 = true := by kernel_rfl
theorem iu7 : (Tryd.prog.underlying 7).isSome = true := by kernel_rfl
theorem sz8 : szT Tryd.prog 8 = 4 := by kernel_rfl
theorem by8 : byT Tryd.prog 8 = 24 := by kernel_rfl
theorem ag8 : aggT Tryd.prog 8 = some true := by kernel_rfl
theorem so8 : structOk Tryd.prog 8 = true := by kernel_rfl
theorem fl8_0 : fieldT Tryd.prog 8 0 = some (2, 0) := by kernel_rfl
theorem fl8_1 : fieldT Tryd.prog 8 1 = some (3, 1) := by kernel_rfl
theorem fl8_2 : fieldT Tryd.prog 8 2 = some (4, 2) := by kernel_rfl
theorem fl8_3 : fieldT Tryd.prog 8 3 = some (6, 3) := by kernel_rfl
theorem iz8 : (zeroT Tryd.prog 8).isSome = true := by kernel_rfl
theorem zk8 : zOk Tryd.prog 8 = true := by kernel_rfl
theorem iu8 : (Tryd.prog.underlying 8).isSome = true := by kernel_rfl
theorem u9 : Tryd.prog.underlying 9 = some .string := by kernel_rfl
theorem sz9 : szT Tryd.prog 9 = 1 := by kernel_rfl
theorem by9 : byT Tryd.prog 9 = 16 := by kernel_rfl
theorem ag9 : aggT Tryd.prog 9 = some false := by kernel_rfl
theorem so9 : structOk Tryd.prog 9 = false := by kernel_rfl
theorem iz9 : (zeroT Tryd.prog 9).isSome = true := by kernel_rfl
theorem zk9 : zOk Tryd.prog 9 = true := by kernel_rfl
theorem iu9 : (Tryd.prog.underlying 9).isSome = true := by kernel_rfl
theorem u10 : Tryd.prog.underlying 10 = some .string := by kernel_rfl
theorem sz10 : szT Tryd.prog 10 = 1 := by kernel_rfl
theorem by10 : byT Tryd.prog 10 = 16 := by kernel_rfl
theorem ag10 : aggT Tryd.prog 10 = some false := by kernel_rfl
theorem so10 : structOk Tryd.prog 10 = false := by kernel_rfl
theorem iz10 : (zeroT Tryd.prog 10).isSome = true := by kernel_rfl
theorem zk10 : zOk Tryd.prog 10 = true := by kernel_rfl
theorem iu10 : (Tryd.prog.underlying 10).isSome = true := by kernel_rfl
theorem u11 : Tryd.prog.underlying 11 = some .string := by kernel_rfl
theorem sz11 : szT Tryd.prog 11 = 1 := by kernel_rfl
theorem by11 : byT Tryd.prog 11 = 16 := by kernel_rfl
theorem ag11 : aggT Tryd.prog 11 = some false := by kernel_rfl
theorem so11 : structOk Tryd.prog 11 = false := by kernel_rfl
theorem iz11 : (zeroT Tryd.prog 11).isSome = true := by kernel_rfl
theorem zk11 : zOk Tryd.prog 11 = true := by kernel_rfl
theorem iu11 : (Tryd.prog.underlying 11).isSome = true := by kernel_rfl
theorem u12 : Tryd.prog.underlying 12 = some (.int .u64) := by kernel_rfl
theorem sz12 : szT Tryd.prog 12 = 1 := by kernel_rfl
theorem by12 : byT Tryd.prog 12 = 8 := by kernel_rfl
theorem ag12 : aggT Tryd.prog 12 = some false := by kernel_rfl
theorem so12 : structOk Tryd.prog 12 = false := by kernel_rfl
theorem iz12 : (zeroT Tryd.prog 12).isSome = true := by kernel_rfl
theorem zk12 : zOk Tryd.prog 12 = true := by kernel_rfl
theorem iu12 : (Tryd.prog.underlying 12).isSome = true := by kernel_rfl
theorem sz13 : szT Tryd.prog 13 = 2 := by kernel_rfl
theorem by13 : byT Tryd.prog 13 = 24 := by kernel_rfl
theorem ag13 : aggT Tryd.prog 13 = some true := by kernel_rfl
theorem so13 : structOk Tryd.prog 13 = true := by kernel_rfl
theorem fl13_0 : fieldT Tryd.prog 13 0 = some (9, 0) := by kernel_rfl
theorem fl13_1 : fieldT Tryd.prog 13 1 = some (12, 1) := by kernel_rfl
theorem iz13 : (zeroT Tryd.prog 13).isSome = true := by kernel_rfl
theorem zk13 : zOk Tryd.prog 13 = true := by kernel_rfl
theorem iu13 : (Tryd.prog.underlying 13).isSome = true := by kernel_rfl
theorem sz14 : szT Tryd.prog 14 = 2 := by kernel_rfl
theorem by14 : byT Tryd.prog 14 = 24 := by kernel_rfl
theorem ag14 : aggT Tryd.prog 14 = some true := by kernel_rfl
theorem so14 : structOk Tryd.prog 14 = true := by kernel_rfl
theorem fl14_0 : fieldT Tryd.prog 14 0 = some (9, 0) := by kernel_rfl
theorem fl14_1 : fieldT Tryd.prog 14 1 = some (12, 1) := by kernel_rfl
theorem iz14 : (zeroT Tryd.prog 14).isSome = true := by kernel_rfl
theorem zk14 : zOk Tryd.prog 14 = true := by kernel_rfl
theorem iu14 : (Tryd.prog.underlying 14).isSome = true := by kernel_rfl
theorem u15 : Tryd.prog.underlying 15 = some (.pointer 80) := by kernel_rfl
theorem sz15 : szT Tryd.prog 15 = 1 := by kernel_rfl
theorem by15 : byT Tryd.prog 15 = 8 := by kernel_rfl
theorem ag15 : aggT Tryd.prog 15 = some false := by kernel_rfl
theorem so15 : structOk Tryd.prog 15 = false := by kernel_rfl
theorem iz15 : (zeroT Tryd.prog 15).isSome = true := by kernel_rfl
theorem zk15 : zOk Tryd.prog 15 = true := by kernel_rfl
theorem iu15 : (Tryd.prog.underlying 15).isSome = true := by kernel_rfl
theorem u16 : Tryd.prog.underlying 16 = some (.pointer 83) := by kernel_rfl
theorem sz16 : szT Tryd.prog 16 = 1 := by kernel_rfl
theorem by16 : byT Tryd.prog 16 = 8 := by kernel_rfl
theorem ag16 : aggT Tryd.prog 16 = some false := by kernel_rfl
theorem so16 : structOk Tryd.prog 16 = false := by kernel_rfl
theorem iz16 : (zeroT Tryd.prog 16).isSome = true := by kernel_rfl
theorem zk16 : zOk Tryd.prog 16 = true := by kernel_rfl
theorem iu16 : (Tryd.prog.underlying 16).isSome = true := by kernel_rfl
theorem u17 : Tryd.prog.underlying 17 = some (.pointer 92) := by kernel_rfl
theorem sz17 : szT Tryd.prog 17 = 1 := by kernel_rfl
theorem by17 : byT Tryd.prog 17 = 8 := by kernel_rfl
theorem ag17 : aggT Tryd.prog 17 = some false := by kernel_rfl
theorem so17 : structOk Tryd.prog 17 = false := by kernel_rfl
theorem iz17 : (zeroT Tryd.prog 17).isSome = true := by kernel_rfl
theorem zk17 : zOk Tryd.prog 17 = true := by kernel_rfl
theorem iu17 : (Tryd.prog.underlying 17).isSome = true := by kernel_rfl
theorem sz18 : szT Tryd.prog 18 = 1 := by kernel_rfl
theorem by18 : byT Tryd.prog 18 = 8 := by kernel_rfl
theorem ag18 : aggT Tryd.prog 18 = some true := by kernel_rfl
theorem so18 : structOk Tryd.prog 18 = true := by kernel_rfl
theorem fl18_0 : fieldT Tryd.prog 18 0 = some (17, 0) := by kernel_rfl
theorem iz18 : (zeroT Tryd.prog 18).isSome = true := by kernel_rfl
theorem zk18 : zOk Tryd.prog 18 = true := by kernel_rfl
theorem iu18 : (Tryd.prog.underlying 18).isSome = true := by kernel_rfl
theorem sz19 : szT Tryd.prog 19 = 1 := by kernel_rfl
theorem by19 : byT Tryd.prog 19 = 8 := by kernel_rfl
theorem ag19 : aggT Tryd.prog 19 = some true := by kernel_rfl
theorem so19 : structOk Tryd.prog 19 = true := by kernel_rfl
theorem fl19_0 : fieldT Tryd.prog 19 0 = some (17, 0) := by kernel_rfl
theorem iz19 : (zeroT Tryd.prog 19).isSome = true := by kernel_rfl
theorem zk19 : zOk Tryd.prog 19 = true := by kernel_rfl
theorem iu19 : (Tryd.prog.underlying 19).isSome = true := by kernel_rfl
theorem u21 : Tryd.prog.underlying 21 = some (.int .i32) := by kernel_rfl
theorem sz21 : szT Tryd.prog 21 = 1 := by kernel_rfl
theorem by21 : byT Tryd.prog 21 = 4 := by kernel_rfl
theorem ag21 : aggT Tryd.prog 21 = some false := by kernel_rfl
theorem so21 : structOk Tryd.prog 21 = false := by kernel_rfl
theorem iz21 : (zeroT Tryd.prog 21).isSome = true := by kernel_rfl
theorem zk21 : zOk Tryd.prog 21 = true := by kernel_rfl
theorem iu21 : (Tryd.prog.underlying 21).isSome = true := by kernel_rfl
theorem u22 : Tryd.prog.underlying 22 = some (.slice 3) := by kernel_rfl
theorem sz22 : szT Tryd.prog 22 = 1 := by kernel_rfl
theorem by22 : byT Tryd.prog 22 = 24 := by kernel_rfl
theorem ag22 : aggT Tryd.prog 22 = some false := by kernel_rfl
theorem so22 : structOk Tryd.prog 22 = false := by kernel_rfl
theorem iz22 : (zeroT Tryd.prog 22).isSome = true := by kernel_rfl
theorem zk22 : zOk Tryd.prog 22 = true := by kernel_rfl
theorem iu22 : (Tryd.prog.underlying 22).isSome = true := by kernel_rfl
theorem ap22 : appT Tryd.prog #[22, 22] = some 3 := by kernel_rfl
theorem u24 : Tryd.prog.underlying 24 = some (.int .i64) := by kernel_rfl
theorem sz24 : szT Tryd.prog 24 = 1 := by kernel_rfl
theorem by24 : byT Tryd.prog 24 = 8 := by kernel_rfl
theorem ag24 : aggT Tryd.prog 24 = some false := by kernel_rfl
theorem so24 : structOk Tryd.prog 24 = false := by kernel_rfl
theorem iz24 : (zeroT Tryd.prog 24).isSome = true := by kernel_rfl
theorem zk24 : zOk Tryd.prog 24 = true := by kernel_rfl
theorem iu24 : (Tryd.prog.underlying 24).isSome = true := by kernel_rfl
theorem u32 : Tryd.prog.underlying 32 = some (.int .u16) := by kernel_rfl
theorem sz32 : szT Tryd.prog 32 = 1 := by kernel_rfl
theorem by32 : byT Tryd.prog 32 = 2 := by kernel_rfl
theorem ag32 : aggT Tryd.prog 32 = some false := by kernel_rfl
theorem so32 : structOk Tryd.prog 32 = false := by kernel_rfl
theorem iz32 : (zeroT Tryd.prog 32).isSome = true := by kernel_rfl
theorem zk32 : zOk Tryd.prog 32 = true := by kernel_rfl
theorem iu32 : (Tryd.prog.underlying 32).isSome = true := by kernel_rfl
theorem sz34 : szT Tryd.prog 34 = 3 := by kernel_rfl
theorem by34 : byT Tryd.prog 34 = 64 := by kernel_rfl
theorem ag34 : aggT Tryd.prog 34 = some true := by kernel_rfl
theorem so34 : structOk Tryd.prog 34 = true := by kernel_rfl
theorem fl34_0 : fieldT Tryd.prog 34 0 = some (9, 0) := by kernel_rfl
theorem fl34_1 : fieldT Tryd.prog 34 1 = some (22, 1) := by kernel_rfl
theorem fl34_2 : fieldT Tryd.prog 34 2 = some (22, 2) := by kernel_rfl
theorem iz34 : (zeroT Tryd.prog 34).isSome = true := by kernel_rfl
theorem zk34 : zOk Tryd.prog 34 = true := by kernel_rfl
theorem iu34 : (Tryd.prog.underlying 34).isSome = true := by kernel_rfl
theorem sz35 : szT Tryd.prog 35 = 3 := by kernel_rfl
theorem by35 : byT Tryd.prog 35 = 64 := by kernel_rfl
theorem ag35 : aggT Tryd.prog 35 = some true := by kernel_rfl
theorem so35 : structOk Tryd.prog 35 = true := by kernel_rfl
theorem fl35_0 : fieldT Tryd.prog 35 0 = some (9, 0) := by kernel_rfl
theorem fl35_1 : fieldT Tryd.prog 35 1 = some (22, 1) := by kernel_rfl
theorem fl35_2 : fieldT Tryd.prog 35 2 = some (22, 2) := by kernel_rfl
theorem iz35 : (zeroT Tryd.prog 35).isSome = true := by kernel_rfl
theorem zk35 : zOk Tryd.prog 35 = true := by kernel_rfl
theorem iu35 : (Tryd.prog.underlying 35).isSome = true := by kernel_rfl
theorem u45 : Tryd.prog.underlying 45 = some (.array 2 32) := by kernel_rfl
theorem sz45 : szT Tryd.prog 45 = 2 := by kernel_rfl
theorem by45 : byT Tryd.prog 45 = 4 := by kernel_rfl
theorem ag45 : aggT Tryd.prog 45 = some true := by kernel_rfl
theorem so45 : structOk Tryd.prog 45 = false := by kernel_rfl
theorem iz45 : (zeroT Tryd.prog 45).isSome = true := by kernel_rfl
theorem zk45 : zOk Tryd.prog 45 = true := by kernel_rfl
theorem iu45 : (Tryd.prog.underlying 45).isSome = true := by kernel_rfl
theorem u53 : Tryd.prog.underlying 53 = some (.slice 5) := by kernel_rfl
theorem sz53 : szT Tryd.prog 53 = 1 := by kernel_rfl
theorem by53 : byT Tryd.prog 53 = 24 := by kernel_rfl
theorem ag53 : aggT Tryd.prog 53 = some false := by kernel_rfl
theorem so53 : structOk Tryd.prog 53 = false := by kernel_rfl
theorem iz53 : (zeroT Tryd.prog 53).isSome = true := by kernel_rfl
theorem zk53 : zOk Tryd.prog 53 = true := by kernel_rfl
theorem iu53 : (Tryd.prog.underlying 53).isSome = true := by kernel_rfl
theorem ap53 : appT Tryd.prog #[53, 53] = some 5 := by kernel_rfl
theorem aps53 : appT Tryd.prog #[53, 9] = some 5 := by kernel_rfl
theorem u60 : Tryd.prog.underlying 60 = some (.int .u64) := by kernel_rfl
theorem sz60 : szT Tryd.prog 60 = 1 := by kernel_rfl
theorem by60 : byT Tryd.prog 60 = 8 := by kernel_rfl
theorem ag60 : aggT Tryd.prog 60 = some false := by kernel_rfl
theorem so60 : structOk Tryd.prog 60 = false := by kernel_rfl
theorem iz60 : (zeroT Tryd.prog 60).isSome = true := by kernel_rfl
theorem zk60 : zOk Tryd.prog 60 = true := by kernel_rfl
theorem iu60 : (Tryd.prog.underlying 60).isSome = true := by kernel_rfl
theorem u63 : Tryd.prog.underlying 63 = some (.array 24 5) := by kernel_rfl
theorem sz63 : szT Tryd.prog 63 = 24 := by kernel_rfl
theorem by63 : byT Tryd.prog 63 = 24 := by kernel_rfl
theorem ag63 : aggT Tryd.prog 63 = some true := by kernel_rfl
theorem so63 : structOk Tryd.prog 63 = false := by kernel_rfl
theorem iz63 : (zeroT Tryd.prog 63).isSome = true := by kernel_rfl
theorem zk63 : zOk Tryd.prog 63 = true := by kernel_rfl
theorem iu63 : (Tryd.prog.underlying 63).isSome = true := by kernel_rfl
theorem u70 : Tryd.prog.underlying 70 = some (.array 20 60) := by kernel_rfl
theorem sz70 : szT Tryd.prog 70 = 20 := by kernel_rfl
theorem by70 : byT Tryd.prog 70 = 160 := by kernel_rfl
theorem ag70 : aggT Tryd.prog 70 = some true := by kernel_rfl
theorem so70 : structOk Tryd.prog 70 = false := by kernel_rfl
theorem iz70 : (zeroT Tryd.prog 70).isSome = true := by kernel_rfl
theorem zk70 : zOk Tryd.prog 70 = true := by kernel_rfl
theorem iu70 : (Tryd.prog.underlying 70).isSome = true := by kernel_rfl
theorem u71 : Tryd.prog.underlying 71 = some (.int .u32) := by kernel_rfl
theorem sz71 : szT Tryd.prog 71 = 1 := by kernel_rfl
theorem by71 : byT Tryd.prog 71 = 4 := by kernel_rfl
theorem ag71 : aggT Tryd.prog 71 = some false := by kernel_rfl
theorem so71 : structOk Tryd.prog 71 = false := by kernel_rfl
theorem iz71 : (zeroT Tryd.prog 71).isSome = true := by kernel_rfl
theorem zk71 : zOk Tryd.prog 71 = true := by kernel_rfl
theorem iu71 : (Tryd.prog.underlying 71).isSome = true := by kernel_rfl
theorem u72 : Tryd.prog.underlying 72 = some (.array 65 5) := by kernel_rfl
theorem sz72 : szT Tryd.prog 72 = 65 := by kernel_rfl
theorem by72 : byT Tryd.prog 72 = 65 := by kernel_rfl
theorem ag72 : aggT Tryd.prog 72 = some true := by kernel_rfl
theorem so72 : structOk Tryd.prog 72 = false := by kernel_rfl
theorem iz72 : (zeroT Tryd.prog 72).isSome = true := by kernel_rfl
theorem zk72 : zOk Tryd.prog 72 = true := by kernel_rfl
theorem iu72 : (Tryd.prog.underlying 72).isSome = true := by kernel_rfl
theorem u73 : Tryd.prog.underlying 73 = some (.int .u64) := by kernel_rfl
theorem sz73 : szT Tryd.prog 73 = 1 := by kernel_rfl
theorem by73 : byT Tryd.prog 73 = 8 := by kernel_rfl
theorem ag73 : aggT Tryd.prog 73 = some false := by kernel_rfl
theorem so73 : structOk Tryd.prog 73 = false := by kernel_rfl
theorem iz73 : (zeroT Tryd.prog 73).isSome = true := by kernel_rfl
theorem zk73 : zOk Tryd.prog 73 = true := by kernel_rfl
theorem iu73 : (Tryd.prog.underlying 73).isSome = true := by kernel_rfl
theorem u76 : Tryd.prog.underlying 76 = some (.array 32 5) := by kernel_rfl
theorem sz76 : szT Tryd.prog 76 = 32 := by kernel_rfl
theorem by76 : byT Tryd.prog 76 = 32 := by kernel_rfl
theorem ag76 : aggT Tryd.prog 76 = some true := by kernel_rfl
theorem so76 : structOk Tryd.prog 76 = false := by kernel_rfl
theorem iz76 : (zeroT Tryd.prog 76).isSome = true := by kernel_rfl
theorem zk76 : zOk Tryd.prog 76 = true := by kernel_rfl
theorem iu76 : (Tryd.prog.underlying 76).isSome = true := by kernel_rfl
theorem u77 : Tryd.prog.underlying 77 = some (.array 64 5) := by kernel_rfl
theorem sz77 : szT Tryd.prog 77 = 64 := by kernel_rfl
theorem by77 : byT Tryd.prog 77 = 64 := by kernel_rfl
theorem ag77 : aggT Tryd.prog 77 = some true := by kernel_rfl
theorem so77 : structOk Tryd.prog 77 = false := by kernel_rfl
theorem iz77 : (zeroT Tryd.prog 77).isSome = true := by kernel_rfl
theorem zk77 : zOk Tryd.prog 77 = true := by kernel_rfl
theorem iu77 : (Tryd.prog.underlying 77).isSome = true := by kernel_rfl
theorem sz79 : szT Tryd.prog 79 = 4 := by kernel_rfl
theorem by79 : byT Tryd.prog 79 = 40 := by kernel_rfl
theorem ag79 : aggT Tryd.prog 79 = some true := by kernel_rfl
theorem so79 : structOk Tryd.prog 79 = true := by kernel_rfl
theorem fl79_0 : fieldT Tryd.prog 79 0 = some (17, 0) := by kernel_rfl
theorem fl79_1 : fieldT Tryd.prog 79 1 = some (17, 1) := by kernel_rfl
theorem fl79_2 : fieldT Tryd.prog 79 2 = some (17, 2) := by kernel_rfl
theorem fl79_3 : fieldT Tryd.prog 79 3 = some (9, 3) := by kernel_rfl
theorem iz79 : (zeroT Tryd.prog 79).isSome = true := by kernel_rfl
theorem zk79 : zOk Tryd.prog 79 = true := by kernel_rfl
theorem iu79 : (Tryd.prog.underlying 79).isSome = true := by kernel_rfl
theorem sz80 : szT Tryd.prog 80 = 4 := by kernel_rfl
theorem by80 : byT Tryd.prog 80 = 40 := by kernel_rfl
theorem ag80 : aggT Tryd.prog 80 = some true := by kernel_rfl
theorem so80 : structOk Tryd.prog 80 = true := by kernel_rfl
theorem fl80_0 : fieldT Tryd.prog 80 0 = some (17, 0) := by kernel_rfl
theorem fl80_1 : fieldT Tryd.prog 80 1 = some (17, 1) := by kernel_rfl
theorem fl80_2 : fieldT Tryd.prog 80 2 = some (17, 2) := by kernel_rfl
theorem fl80_3 : fieldT Tryd.prog 80 3 = some (9, 3) := by kernel_rfl
theorem iz80 : (zeroT Tryd.prog 80).isSome = true := by kernel_rfl
theorem zk80 : zOk Tryd.prog 80 = true := by kernel_rfl
theorem iu80 : (Tryd.prog.underlying 80).isSome = true := by kernel_rfl
theorem u81 : Tryd.prog.underlying 81 = some (.array 0 16) := by kernel_rfl
theorem sz81 : szT Tryd.prog 81 = 0 := by kernel_rfl
theorem by81 : byT Tryd.prog 81 = 0 := by kernel_rfl
theorem ag81 : aggT Tryd.prog 81 = some true := by kernel_rfl
theorem so81 : structOk Tryd.prog 81 = false := by kernel_rfl
theorem iz81 : (zeroT Tryd.prog 81).isSome = true := by kernel_rfl
theorem zk81 : zOk Tryd.prog 81 = true := by kernel_rfl
theorem iu81 : (Tryd.prog.underlying 81).isSome = true := by kernel_rfl
theorem sz82 : szT Tryd.prog 82 = 0 := by kernel_rfl
theorem by82 : byT Tryd.prog 82 = 0 := by kernel_rfl
theorem ag82 : aggT Tryd.prog 82 = some true := by kernel_rfl
theorem so82 : structOk Tryd.prog 82 = true := by kernel_rfl
theorem fl82_0 : fieldT Tryd.prog 82 0 = some (81, 0) := by kernel_rfl
theorem iz82 : (zeroT Tryd.prog 82).isSome = true := by kernel_rfl
theorem zk82 : zOk Tryd.prog 82 = true := by kernel_rfl
theorem iu82 : (Tryd.prog.underlying 82).isSome = true := by kernel_rfl
theorem sz83 : szT Tryd.prog 83 = 0 := by kernel_rfl
theorem by83 : byT Tryd.prog 83 = 0 := by kernel_rfl
theorem ag83 : aggT Tryd.prog 83 = some true := by kernel_rfl
theorem so83 : structOk Tryd.prog 83 = true := by kernel_rfl
theorem fl83_0 : fieldT Tryd.prog 83 0 = some (81, 0) := by kernel_rfl
theorem iz83 : (zeroT Tryd.prog 83).isSome = true := by kernel_rfl
theorem zk83 : zOk Tryd.prog 83 = true := by kernel_rfl
theorem iu83 : (Tryd.prog.underlying 83).isSome = true := by kernel_rfl
theorem u85 : Tryd.prog.underlying 85 = some (.int .u8) := by kernel_rfl
theorem sz85 : szT Tryd.prog 85 = 1 := by kernel_rfl
theorem by85 : byT Tryd.prog 85 = 1 := by kernel_rfl
theorem ag85 : aggT Tryd.prog 85 = some false := by kernel_rfl
theorem so85 : structOk Tryd.prog 85 = false := by kernel_rfl
theorem iz85 : (zeroT Tryd.prog 85).isSome = true := by kernel_rfl
theorem zk85 : zOk Tryd.prog 85 = true := by kernel_rfl
theorem iu85 : (Tryd.prog.underlying 85).isSome = true := by kernel_rfl
theorem u86 : Tryd.prog.underlying 86 = some (.int .u8) := by kernel_rfl
theorem sz86 : szT Tryd.prog 86 = 1 := by kernel_rfl
theorem by86 : byT Tryd.prog 86 = 1 := by kernel_rfl
theorem ag86 : aggT Tryd.prog 86 = some false := by kernel_rfl
theorem so86 : structOk Tryd.prog 86 = false := by kernel_rfl
theorem iz86 : (zeroT Tryd.prog 86).isSome = true := by kernel_rfl
theorem zk86 : zOk Tryd.prog 86 = true := by kernel_rfl
theorem iu86 : (Tryd.prog.underlying 86).isSome = true := by kernel_rfl
theorem u88 : Tryd.prog.underlying 88 = some (.pointer 5) := by kernel_rfl
theorem sz88 : szT Tryd.prog 88 = 1 := by kernel_rfl
theorem by88 : byT Tryd.prog 88 = 8 := by kernel_rfl
theorem ag88 : aggT Tryd.prog 88 = some false := by kernel_rfl
theorem so88 : structOk Tryd.prog 88 = false := by kernel_rfl
theorem iz88 : (zeroT Tryd.prog 88).isSome = true := by kernel_rfl
theorem zk88 : zOk Tryd.prog 88 = true := by kernel_rfl
theorem iu88 : (Tryd.prog.underlying 88).isSome = true := by kernel_rfl
theorem u89 : Tryd.prog.underlying 89 = some (.int .i32) := by kernel_rfl
theorem sz89 : szT Tryd.prog 89 = 1 := by kernel_rfl
theorem by89 : byT Tryd.prog 89 = 4 := by kernel_rfl
theorem ag89 : aggT Tryd.prog 89 = some false := by kernel_rfl
theorem so89 : structOk Tryd.prog 89 = false := by kernel_rfl
theorem iz89 : (zeroT Tryd.prog 89).isSome = true := by kernel_rfl
theorem zk89 : zOk Tryd.prog 89 = true := by kernel_rfl
theorem iu89 : (Tryd.prog.underlying 89).isSome = true := by kernel_rfl
theorem u90 : Tryd.prog.underlying 90 = some (.int .i32) := by kernel_rfl
theorem sz90 : szT Tryd.prog 90 = 1 := by kernel_rfl
theorem by90 : byT Tryd.prog 90 = 4 := by kernel_rfl
theorem ag90 : aggT Tryd.prog 90 = some false := by kernel_rfl
theorem so90 : structOk Tryd.prog 90 = false := by kernel_rfl
theorem iz90 : (zeroT Tryd.prog 90).isSome = true := by kernel_rfl
theorem zk90 : zOk Tryd.prog 90 = true := by kernel_rfl
theorem iu90 : (Tryd.prog.underlying 90).isSome = true := by kernel_rfl
theorem sz91 : szT Tryd.prog 91 = 11 := by kernel_rfl
theorem by91 : byT Tryd.prog 91 = 48 := by kernel_rfl
theorem ag91 : aggT Tryd.prog 91 = some true := by kernel_rfl
theorem so91 : structOk Tryd.prog 91 = true := by kernel_rfl
theorem fl91_0 : fieldT Tryd.prog 91 0 = some (12, 0) := by kernel_rfl
theorem fl91_1 : fieldT Tryd.prog 91 1 = some (12, 1) := by kernel_rfl
theorem fl91_2 : fieldT Tryd.prog 91 2 = some (71, 2) := by kernel_rfl
theorem fl91_3 : fieldT Tryd.prog 91 3 = some (85, 3) := by kernel_rfl
theorem fl91_4 : fieldT Tryd.prog 91 4 = some (5, 4) := by kernel_rfl
theorem fl91_5 : fieldT Tryd.prog 91 5 = some (5, 5) := by kernel_rfl
theorem fl91_6 : fieldT Tryd.prog 91 6 = some (86, 6) := by kernel_rfl
theorem fl91_7 : fieldT Tryd.prog 91 7 = some (87, 7) := by kernel_rfl
theorem fl91_8 : fieldT Tryd.prog 91 8 = some (88, 8) := by kernel_rfl
theorem fl91_9 : fieldT Tryd.prog 91 9 = some (89, 9) := by kernel_rfl
theorem fl91_10 : fieldT Tryd.prog 91 10 = some (90, 10) := by kernel_rfl
theorem iz91 : (zeroT Tryd.prog 91).isSome = true := by kernel_rfl
theorem zk91 : zOk Tryd.prog 91 = true := by kernel_rfl
theorem iu91 : (Tryd.prog.underlying 91).isSome = true := by kernel_rfl
theorem sz92 : szT Tryd.prog 92 = 11 := by kernel_rfl
theorem by92 : byT Tryd.prog 92 = 48 := by kernel_rfl
theorem ag92 : aggT Tryd.prog 92 = some true := by kernel_rfl
theorem so92 : structOk Tryd.prog 92 = true := by kernel_rfl
theorem fl92_0 : fieldT Tryd.prog 92 0 = some (12, 0) := by kernel_rfl
theorem fl92_1 : fieldT Tryd.prog 92 1 = some (12, 1) := by kernel_rfl
theorem fl92_2 : fieldT Tryd.prog 92 2 = some (71, 2) := by kernel_rfl
theorem fl92_3 : fieldT Tryd.prog 92 3 = some (85, 3) := by kernel_rfl
theorem fl92_4 : fieldT Tryd.prog 92 4 = some (5, 4) := by kernel_rfl
theorem fl92_5 : fieldT Tryd.prog 92 5 = some (5, 5) := by kernel_rfl
theorem fl92_6 : fieldT Tryd.prog 92 6 = some (86, 6) := by kernel_rfl
theorem fl92_7 : fieldT Tryd.prog 92 7 = some (87, 7) := by kernel_rfl
theorem fl92_8 : fieldT Tryd.prog 92 8 = some (88, 8) := by kernel_rfl
theorem fl92_9 : fieldT Tryd.prog 92 9 = some (89, 9) := by kernel_rfl
theorem fl92_10 : fieldT Tryd.prog 92 10 = some (90, 10) := by kernel_rfl
theorem iz92 : (zeroT Tryd.prog 92).isSome = true := by kernel_rfl
theorem zk92 : zOk Tryd.prog 92 = true := by kernel_rfl
theorem iu92 : (Tryd.prog.underlying 92).isSome = true := by kernel_rfl
def zerL : List (Nat × AV) := [(2, .lit (.int .i64 0)),
  (3, .lit (.int .i64 0)),
  (4, .lit (.bool false)),
  (5, .lit (.int .u8 0)),
  (6, .lit (.int .u8 0)),
  (7, .agg [.lit (.int .i64 0), .lit (.int .i64 0), .lit (.bool false), .lit (.int .u8 0)]),
  (8, .agg [.lit (.int .i64 0), .lit (.int .i64 0), .lit (.bool false), .lit (.int .u8 0)]),
  (9, .lit (.string ByteArray.empty)),
  (10, .lit (.string ByteArray.empty)),
  (11, .lit (.string ByteArray.empty)),
  (12, .lit (.int .u64 0)),
  (13, .agg [.lit (.string ByteArray.empty), .lit (.int .u64 0)]),
  (14, .agg [.lit (.string ByteArray.empty), .lit (.int .u64 0)]),
  (15, .lit (.pointer none)),
  (16, .lit (.pointer none)),
  (17, .lit (.pointer none)),
  (18, .agg [.lit (.pointer none)]),
  (19, .agg [.lit (.pointer none)]),
  (21, .lit (.int .i32 0)),
  (22, .sl true 1 []),
  (24, .lit (.int .i64 0)),
  (32, .lit (.int .u16 0)),
  (34, .agg [.lit (.string ByteArray.empty), .sl true 1 [], .sl true 1 []]),
  (35, .agg [.lit (.string ByteArray.empty), .sl true 1 [], .sl true 1 []]),
  (45, .agg [.lit (.int .u16 0), .lit (.int .u16 0)]),
  (53, .sl true 1 []),
  (60, .lit (.int .u64 0)),
  (63, .agg [.lit (.int .u8 0), .lit (.int .u8 0), .lit (.int .u8 0), .lit (.int .u8 0), .lit (.int .u8 0), .lit (.int .u8 0), .lit (.int .u8 0), .lit (.int .u8 0), .lit (.int .u8 0), .lit (.int .u8 0), .lit (.int .u8 0), .lit (.int .u8 0), .lit (.int .u8 0), .lit (.int .u8 0), .lit (.int .u8 0), .lit (.int .u8 0), .lit (.int .u8 0), .lit (.int .u8 0), .lit (.int .u8 0), .lit (.int .u8 0), .lit (.int .u8 0), .lit (.int .u8 0), .lit (.int .u8 0), .lit (.int .u8 0)]),
  (70, .agg [.lit (.int .u64 0), .lit (.int .u64 0), .lit (.int .u64 0), .lit (.int .u64 0), .lit (.int .u64 0), .lit (.int .u64 0), .lit (.int .u64 0), .lit (.int .u64 0), .lit (.int .u64 0), .lit (.int .u64 0), .lit (.int .u64 0), .lit (.int .u64 0), .lit (.int .u64 0), .lit (.int .u64 0), .lit (.int .u64 0), .lit (.int .u64 0), .lit (.int .u64 0), .lit (.int .u64 0), .lit (.int .u64 0), .lit (.int .u64 0)]),
  (71, .lit (.int .u32 0)),
  (72, .agg [.lit (.int .u8 0), .lit (.int .u8 0), .lit (.int .u8 0), .lit (.int .u8 0), .lit (.int .u8 0), .lit (.int .u8 0), .lit (.int .u8 0), .lit (.int .u8 0), .lit (.int .u8 0), .lit (.int .u8 0), .lit (.int .u8 0), .lit (.int .u8 0), .lit (.int .u8 0), .lit (.int .u8 0), .lit (.int .u8 0), .lit (.int .u8 0), .lit (.int .u8 0), .lit (.int .u8 0), .lit (.int .u8 0), .lit (.int .u8 0), .lit (.int .u8 0), .lit (.int .u8 0), .lit (.int .u8 0), .lit (.int .u8 0), .lit (.int .u8 0), .lit (.int .u8 0), .lit (.int .u8 0), .lit (.int .u8 0), .lit (.int .u8 0), .lit (.int .u8 0), .lit (.int .u8 0), .lit (.int .u8 0), .lit (.int .u8 0), .lit (.int .u8 0), .lit (.int .u8 0), .lit (.int .u8 0), .lit (.int .u8 0), .lit (.int .u8 0), .lit (.int .u8 0), .lit (.int .u8 0), .lit (.int .u8 0), .lit (.int .u8 0), .lit (.int .u8 0), .lit (.int .u8 0), .lit (.int .u8 0), .lit (.int .u8 0), .lit (.int .u8 0), .lit (.int .u8 0), .lit (.int .u8 0), .lit (.int .u8 0), .lit (.int .u8 0), .lit (.int .u8 0), .lit (.int .u8 0), .lit (.int .u8 0), .lit (.int .u8 0), .lit (.int .u8 0), .lit (.int .u8 0), .lit (.int .u8 0), .lit (.int .u8 0), .lit (.int .u8 0), .lit (.int .u8 0), .lit (.int .u8 0), .lit (.int .u8 0), .lit (.int .u8 0), .lit (.int .u8 0)]),
  (73, .lit (.int .u64 0)),
  (76, .agg [.lit (.int .u8 0), .lit (.int .u8 0), .lit (.int .u8 0), .lit (.int .u8 0), .lit (.int .u8 0), .lit (.int .u8 0), .lit (.int .u8 0), .lit (.int .u8 0), .lit (.int .u8 0), .lit (.int .u8 0), .lit (.int .u8 0), .lit (.int .u8 0), .lit (.int .u8 0), .lit (.int .u8 0), .lit (.int .u8 0), .lit (.int .u8 0), .lit (.int .u8 0), .lit (.int .u8 0), .lit (.int .u8 0), .lit (.int .u8 0), .lit (.int .u8 0), .lit (.int .u8 0), .lit (.int .u8 0), .lit (.int .u8 0), .lit (.int .u8 0), .lit (.int .u8 0), .lit (.int .u8 0), .lit (.int .u8 0), .lit (.int .u8 0), .lit (.int .u8 0), .lit (.int .u8 0), .lit (.int .u8 0)]),
  (77, .agg [.lit (.int .u8 0), .lit (.int .u8 0), .lit (.int .u8 0), .lit (.int .u8 0), .lit (.int .u8 0), .lit (.int .u8 0), .lit (.int .u8 0), .lit (.int .u8 0), .lit (.int .u8 0), .lit (.int .u8 0), .lit (.int .u8 0), .lit (.int .u8 0), .lit (.int .u8 0), .lit (.int .u8 0), .lit (.int .u8 0), .lit (.int .u8 0), .lit (.int .u8 0), .lit (.int .u8 0), .lit (.int .u8 0), .lit (.int .u8 0), .lit (.int .u8 0), .lit (.int .u8 0), .lit (.int .u8 0), .lit (.int .u8 0), .lit (.int .u8 0), .lit (.int .u8 0), .lit (.int .u8 0), .lit (.int .u8 0), .lit (.int .u8 0), .lit (.int .u8 0), .lit (.int .u8 0), .lit (.int .u8 0), .lit (.int .u8 0), .lit (.int .u8 0), .lit (.int .u8 0), .lit (.int .u8 0), .lit (.int .u8 0), .lit (.int .u8 0), .lit (.int .u8 0), .lit (.int .u8 0), .lit (.int .u8 0), .lit (.int .u8 0), .lit (.int .u8 0), .lit (.int .u8 0), .lit (.int .u8 0), .lit (.int .u8 0), .lit (.int .u8 0), .lit (.int .u8 0), .lit (.int .u8 0), .lit (.int .u8 0), .lit (.int .u8 0), .lit (.int .u8 0), .lit (.int .u8 0), .lit (.int .u8 0), .lit (.int .u8 0), .lit (.int .u8 0), .lit (.int .u8 0), .lit (.int .u8 0), .lit (.int .u8 0), .lit (.int .u8 0), .lit (.int .u8 0), .lit (.int .u8 0), .lit (.int .u8 0), .lit (.int .u8 0)]),
  (79, .agg [.lit (.pointer none), .lit (.pointer none), .lit (.pointer none), .lit (.string ByteArray.empty)]),
  (80, .agg [.lit (.pointer none), .lit (.pointer none), .lit (.pointer none), .lit (.string ByteArray.empty)]),
  (85, .lit (.int .u8 0)),
  (86, .lit (.int .u8 0)),
  (88, .lit (.pointer none)),
  (89, .lit (.int .i32 0)),
  (90, .lit (.int .i32 0)),
  (91, .agg [.lit (.int .u64 0), .lit (.int .u64 0), .lit (.int .u32 0), .lit (.int .u8 0), .lit (.int .u8 0), .lit (.int .u8 0), .lit (.int .u8 0), .lit .nilFunc, .lit (.pointer none), .lit (.int .i32 0), .lit (.int .i32 0)]),
  (92, .agg [.lit (.int .u64 0), .lit (.int .u64 0), .lit (.int .u32 0), .lit (.int .u8 0), .lit (.int .u8 0), .lit (.int .u8 0), .lit (.int .u8 0), .lit .nilFunc, .lit (.pointer none), .lit (.int .i32 0), .lit (.int .i32 0)])]
def zer (t : TypeId) : AV := lookZ zerL t
theorem zr2 : ZerOk Tryd.prog (2, .lit (.int .i64 0)) := fun v h => by
  rw [show zeroT Tryd.prog 2 = some (.int .i64 0) from by kernel_rfl] at h; cases h; exact .lit _
theorem zv2 : zer 2 = .lit (.int .i64 0) := rfl
theorem zr3 : ZerOk Tryd.prog (3, .lit (.int .i64 0)) := fun v h => by
  rw [show zeroT Tryd.prog 3 = some (.int .i64 0) from by kernel_rfl] at h; cases h; exact .lit _
theorem zv3 : zer 3 = .lit (.int .i64 0) := rfl
theorem zr4 : ZerOk Tryd.prog (4, .lit (.bool false)) := fun v h => by
  rw [show zeroT Tryd.prog 4 = some (.bool false) from by kernel_rfl] at h; cases h; exact .lit _
theorem zv4 : zer 4 = .lit (.bool false) := rfl
theorem zr5 : ZerOk Tryd.prog (5, .lit (.int .u8 0)) := fun v h => by
  rw [show zeroT Tryd.prog 5 = some (.int .u8 0) from by kernel_rfl] at h; cases h; exact .lit _
theorem zv5 : zer 5 = .lit (.int .u8 0) := rfl
theorem zr6 : ZerOk Tryd.prog (6, .lit (.int .u8 0)) := fun v h => by
  rw [show zeroT Tryd.prog 6 = some (.int .u8 0) from by kernel_rfl] at h; cases h; exact .lit _
theorem zv6 : zer 6 = .lit (.int .u8 0) := rfl
theorem zr7 : ZerOk Tryd.prog (7, .agg [.lit (.int .i64 0), .lit (.int .i64 0), .lit (.bool false), .lit (.int .u8 0)]) := fun v h => by
  rw [show zeroT Tryd.prog 7 = some (.agg #[(.int .i64 0), (.int .i64 0), (.bool false), (.int .u8 0)]) from by kernel_rfl] at h; cases h
  exact zr_agg _ _ (zl_cons (.lit _) rfl (zl_cons (.lit _) rfl (zl_cons (.lit _) rfl (zl_cons (.lit _) rfl (zl_nil)))))
theorem zv7 : zer 7 = .agg [.lit (.int .i64 0), .lit (.int .i64 0), .lit (.bool false), .lit (.int .u8 0)] := rfl
theorem zr8 : ZerOk Tryd.prog (8, .agg [.lit (.int .i64 0), .lit (.int .i64 0), .lit (.bool false), .lit (.int .u8 0)]) := fun v h => by
  rw [show zeroT Tryd.prog 8 = some (.agg #[(.int .i64 0), (.int .i64 0), (.bool false), (.int .u8 0)]) from by kernel_rfl] at h; cases h
  exact zr_agg _ _ (zl_cons (.lit _) rfl (zl_cons (.lit _) rfl (zl_cons (.lit _) rfl (zl_cons (.lit _) rfl (zl_nil)))))
theorem zv8 : zer 8 = .agg [.lit (.int .i64 0), .lit (.int .i64 0), .lit (.bool false), .lit (.int .u8 0)] := rfl
theorem zr9 : ZerOk Tryd.prog (9, .lit (.string ByteArray.empty)) := fun v h => by
  rw [show zeroT Tryd.prog 9 = some (.string ByteArray.empty) from by kernel_rfl] at h; cases h; exact .lit _
theorem zv9 : zer 9 = .lit (.string ByteArray.empty) := rfl
theorem zr10 : ZerOk Tryd.prog (10, .lit (.string ByteArray.empty)) := fun v h => by
  rw [show zeroT Tryd.prog 10 = some (.string ByteArray.empty) from by kernel_rfl] at h; cases h; exact .lit _
theorem zv10 : zer 10 = .lit (.string ByteArray.empty) := rfl
theorem zr11 : ZerOk Tryd.prog (11, .lit (.string ByteArray.empty)) := fun v h => by
  rw [show zeroT Tryd.prog 11 = some (.string ByteArray.empty) from by kernel_rfl] at h; cases h; exact .lit _
theorem zv11 : zer 11 = .lit (.string ByteArray.empty) := rfl
theorem zr12 : ZerOk Tryd.prog (12, .lit (.int .u64 0)) := fun v h => by
  rw [show zeroT Tryd.prog 12 = some (.int .u64 0) from by kernel_rfl] at h; cases h; exact .lit _
theorem zv12 : zer 12 = .lit (.int .u64 0) := rfl
theorem zr13 : ZerOk Tryd.prog (13, .agg [.lit (.string ByteArray.empty), .lit (.int .u64 0)]) := fun v h => by
  rw [show zeroT Tryd.prog 13 = some (.agg #[(.string ByteArray.empty), (.int .u64 0)]) from by kernel_rfl] at h; cases h
  exact zr_agg _ _ (zl_cons (.lit _) rfl (zl_cons (.lit _) rfl (zl_nil)))
theorem zv13 : zer 13 = .agg [.lit (.string ByteArray.empty), .lit (.int .u64 0)] := rfl
theorem zr14 : ZerOk Tryd.prog (14, .agg [.lit (.string ByteArray.empty), .lit (.int .u64 0)]) := fun v h => by
  rw [show zeroT Tryd.prog 14 = some (.agg #[(.string ByteArray.empty), (.int .u64 0)]) from by kernel_rfl] at h; cases h
  exact zr_agg _ _ (zl_cons (.lit _) rfl (zl_cons (.lit _) rfl (zl_nil)))
theorem zv14 : zer 14 = .agg [.lit (.string ByteArray.empty), .lit (.int .u64 0)] := rfl
theorem zr15 : ZerOk Tryd.prog (15, .lit (.pointer none)) := fun v h => by
  rw [show zeroT Tryd.prog 15 = some (.pointer none) from by kernel_rfl] at h; cases h; exact .lit _
theorem zv15 : zer 15 = .lit (.pointer none) := rfl
theorem zr16 : ZerOk Tryd.prog (16, .lit (.pointer none)) := fun v h => by
  rw [show zeroT Tryd.prog 16 = some (.pointer none) from by kernel_rfl] at h; cases h; exact .lit _
theorem zv16 : zer 16 = .lit (.pointer none) := rfl
theorem zr17 : ZerOk Tryd.prog (17, .lit (.pointer none)) := fun v h => by
  rw [show zeroT Tryd.prog 17 = some (.pointer none) from by kernel_rfl] at h; cases h; exact .lit _
theorem zv17 : zer 17 = .lit (.pointer none) := rfl
theorem zr18 : ZerOk Tryd.prog (18, .agg [.lit (.pointer none)]) := fun v h => by
  rw [show zeroT Tryd.prog 18 = some (.agg #[(.pointer none)]) from by kernel_rfl] at h; cases h
  exact zr_agg _ _ (zl_cons (.lit _) rfl (zl_nil))
theorem zv18 : zer 18 = .agg [.lit (.pointer none)] := rfl
theorem zr19 : ZerOk Tryd.prog (19, .agg [.lit (.pointer none)]) := fun v h => by
  rw [show zeroT Tryd.prog 19 = some (.agg #[(.pointer none)]) from by kernel_rfl] at h; cases h
  exact zr_agg _ _ (zl_cons (.lit _) rfl (zl_nil))
theorem zv19 : zer 19 = .agg [.lit (.pointer none)] := rfl
theorem zr21 : ZerOk Tryd.prog (21, .lit (.int .i32 0)) := fun v h => by
  rw [show zeroT Tryd.prog 21 = some (.int .i32 0) from by kernel_rfl] at h; cases h; exact .lit _
theorem zv21 : zer 21 = .lit (.int .i32 0) := rfl
theorem zr22 : ZerOk Tryd.prog (22, .sl true 1 []) := fun v h => by
  rw [show zeroT Tryd.prog 22 = some (.slice none 0 0) from by kernel_rfl] at h; cases h; exact .nil _ _ _
theorem zv22 : zer 22 = .sl true 1 [] := rfl
theorem zr24 : ZerOk Tryd.prog (24, .lit (.int .i64 0)) := fun v h => by
  rw [show zeroT Tryd.prog 24 = some (.int .i64 0) from by kernel_rfl] at h; cases h; exact .lit _
theorem zv24 : zer 24 = .lit (.int .i64 0) := rfl
theorem zr32 : ZerOk Tryd.prog (32, .lit (.int .u16 0)) := fun v h => by
  rw [show zeroT Tryd.prog 32 = some (.int .u16 0) from by kernel_rfl] at h; cases h; exact .lit _
theorem zv32 : zer 32 = .lit (.int .u16 0) := rfl
theorem zr34 : ZerOk Tryd.prog (34, .agg [.lit (.string ByteArray.empty), .sl true 1 [], .sl true 1 []]) := fun v h => by
  rw [show zeroT Tryd.prog 34 = some (.agg #[(.string ByteArray.empty), (.slice none 0 0), (.slice none 0 0)]) from by kernel_rfl] at h; cases h
  exact zr_agg _ _ (zl_cons (.lit _) rfl (zl_cons (.nil _ _ _) rfl (zl_cons (.nil _ _ _) rfl (zl_nil))))
theorem zv34 : zer 34 = .agg [.lit (.string ByteArray.empty), .sl true 1 [], .sl true 1 []] := rfl
theorem zr35 : ZerOk Tryd.prog (35, .agg [.lit (.string ByteArray.empty), .sl true 1 [], .sl true 1 []]) := fun v h => by
  rw [show zeroT Tryd.prog 35 = some (.agg #[(.string ByteArray.empty), (.slice none 0 0), (.slice none 0 0)]) from by kernel_rfl] at h; cases h
  exact zr_agg _ _ (zl_cons (.lit _) rfl (zl_cons (.nil _ _ _) rfl (zl_cons (.nil _ _ _) rfl (zl_nil))))
theorem zv35 : zer 35 = .agg [.lit (.string ByteArray.empty), .sl true 1 [], .sl true 1 []] := rfl
theorem zr45 : ZerOk Tryd.prog (45, .agg [.lit (.int .u16 0), .lit (.int .u16 0)]) := fun v h => by
  rw [show zeroT Tryd.prog 45 = some (.agg #[(.int .u16 0), (.int .u16 0)]) from by kernel_rfl] at h; cases h
  exact zr_agg _ _ (zl_cons (.lit _) rfl (zl_cons (.lit _) rfl (zl_nil)))
theorem zv45 : zer 45 = .agg [.lit (.int .u16 0), .lit (.int .u16 0)] := rfl
theorem zr53 : ZerOk Tryd.prog (53, .sl true 1 []) := fun v h => by
  rw [show zeroT Tryd.prog 53 = some (.slice none 0 0) from by kernel_rfl] at h; cases h; exact .nil _ _ _
theorem zv53 : zer 53 = .sl true 1 [] := rfl
theorem zr60 : ZerOk Tryd.prog (60, .lit (.int .u64 0)) := fun v h => by
  rw [show zeroT Tryd.prog 60 = some (.int .u64 0) from by kernel_rfl] at h; cases h; exact .lit _
theorem zv60 : zer 60 = .lit (.int .u64 0) := rfl
theorem zr63 : ZerOk Tryd.prog (63, .agg [.lit (.int .u8 0), .lit (.int .u8 0), .lit (.int .u8 0), .lit (.int .u8 0), .lit (.int .u8 0), .lit (.int .u8 0), .lit (.int .u8 0), .lit (.int .u8 0), .lit (.int .u8 0), .lit (.int .u8 0), .lit (.int .u8 0), .lit (.int .u8 0), .lit (.int .u8 0), .lit (.int .u8 0), .lit (.int .u8 0), .lit (.int .u8 0), .lit (.int .u8 0), .lit (.int .u8 0), .lit (.int .u8 0), .lit (.int .u8 0), .lit (.int .u8 0), .lit (.int .u8 0), .lit (.int .u8 0), .lit (.int .u8 0)]) := fun v h => by
  rw [show zeroT Tryd.prog 63 = some (.agg #[(.int .u8 0), (.int .u8 0), (.int .u8 0), (.int .u8 0), (.int .u8 0), (.int .u8 0), (.int .u8 0), (.int .u8 0), (.int .u8 0), (.int .u8 0), (.int .u8 0), (.int .u8 0), (.int .u8 0), (.int .u8 0), (.int .u8 0), (.int .u8 0), (.int .u8 0), (.int .u8 0), (.int .u8 0), (.int .u8 0), (.int .u8 0), (.int .u8 0), (.int .u8 0), (.int .u8 0)]) from by kernel_rfl] at h; cases h
  exact zr_agg _ _ (zl_cons (.lit _) rfl (zl_cons (.lit _) rfl (zl_cons (.lit _) rfl (zl_cons (.lit _) rfl (zl_cons (.lit _) rfl (zl_cons (.lit _) rfl (zl_cons (.lit _) rfl (zl_cons (.lit _) rfl (zl_cons (.lit _) rfl (zl_cons (.lit _) rfl (zl_cons (.lit _) rfl (zl_cons (.lit _) rfl (zl_cons (.lit _) rfl (zl_cons (.lit _) rfl (zl_cons (.lit _) rfl (zl_cons (.lit _) rfl (zl_cons (.lit _) rfl (zl_cons (.lit _) rfl (zl_cons (.lit _) rfl (zl_cons (.lit _) rfl (zl_cons (.lit _) rfl (zl_cons (.lit _) rfl (zl_cons (.lit _) rfl (zl_cons (.lit _) rfl (zl_nil)))))))))))))))))))))))))
theorem zv63 : zer 63 = .agg [.lit (.int .u8 0), .lit (.int .u8 0), .lit (.int .u8 0), .lit (.int .u8 0), .lit (.int .u8 0), .lit (.int .u8 0), .lit (.int .u8 0), .lit (.int .u8 0), .lit (.int .u8 0), .lit (.int .u8 0), .lit (.int .u8 0), .lit (.int .u8 0), .lit (.int .u8 0), .lit (.int .u8 0), .lit (.int .u8 0), .lit (.int .u8 0), .lit (.int .u8 0), .lit (.int .u8 0), .lit (.int .u8 0), .lit (.int .u8 0), .lit (.int .u8 0), .lit (.int .u8 0), .lit (.int .u8 0), .lit (.int .u8 0)] := rfl
theorem zr70 : ZerOk Tryd.prog (70, .agg [.lit (.int .u64 0), .lit (.int .u64 0), .lit (.int .u64 0), .lit (.int .u64 0), .lit (.int .u64 0), .lit (.int .u64 0), .lit (.int .u64 0), .lit (.int .u64 0), .lit (.int .u64 0), .lit (.int .u64 0), .lit (.int .u64 0), .lit (.int .u64 0), .lit (.int .u64 0), .lit (.int .u64 0), .lit (.int .u64 0), .lit (.int .u64 0), .lit (.int .u64 0), .lit (.int .u64 0), .lit (.int .u64 0), .lit (.int .u64 0)]) := fun v h => by
  rw [show zeroT Tryd.prog 70 = some (.agg #[(.int .u64 0), (.int .u64 0), (.int .u64 0), (.int .u64 0), (.int .u64 0), (.int .u64 0), (.int .u64 0), (.int .u64 0), (.int .u64 0), (.int .u64 0), (.int .u64 0), (.int .u64 0), (.int .u64 0), (.int .u64 0), (.int .u64 0), (.int .u64 0), (.int .u64 0), (.int .u64 0), (.int .u64 0), (.int .u64 0)]) from by kernel_rfl] at h; cases h
  exact zr_agg _ _ (zl_cons (.lit _) rfl (zl_cons (.lit _) rfl (zl_cons (.lit _) rfl (zl_cons (.lit _) rfl (zl_cons (.lit _) rfl (zl_cons (.lit _) rfl (zl_cons (.lit _) rfl (zl_cons (.lit _) rfl (zl_cons (.lit _) rfl (zl_cons (.lit _) rfl (zl_cons (.lit _) rfl (zl_cons (.lit _) rfl (zl_cons (.lit _) rfl (zl_cons (.lit _) rfl (zl_cons (.lit _) rfl (zl_cons (.lit _) rfl (zl_cons (.lit _) rfl (zl_cons (.lit _) rfl (zl_cons (.lit _) rfl (zl_cons (.lit _) rfl (zl_nil)))))))))))))))))))))
theorem zv70 : zer 70 = .agg [.lit (.int .u64 0), .lit (.int .u64 0), .lit (.int .u64 0), .lit (.int .u64 0), .lit (.int .u64 0), .lit (.int .u64 0), .lit (.int .u64 0), .lit (.int .u64 0), .lit (.int .u64 0), .lit (.int .u64 0), .lit (.int .u64 0), .lit (.int .u64 0), .lit (.int .u64 0), .lit (.int .u64 0), .lit (.int .u64 0), .lit (.int .u64 0), .lit (.int .u64 0), .lit (.int .u64 0), .lit (.int .u64 0), .lit (.int .u64 0)] := rfl
theorem zr71 : ZerOk Tryd.prog (71, .lit (.int .u32 0)) := fun v h => by
  rw [show zeroT Tryd.prog 71 = some (.int .u32 0) from by kernel_rfl] at h; cases h; exact .lit _
theorem zv71 : zer 71 = .lit (.int .u32 0) := rfl
theorem zr72 : ZerOk Tryd.prog (72, .agg [.lit (.int .u8 0), .lit (.int .u8 0), .lit (.int .u8 0), .lit (.int .u8 0), .lit (.int .u8 0), .lit (.int .u8 0), .lit (.int .u8 0), .lit (.int .u8 0), .lit (.int .u8 0), .lit (.int .u8 0), .lit (.int .u8 0), .lit (.int .u8 0), .lit (.int .u8 0), .lit (.int .u8 0), .lit (.int .u8 0), .lit (.int .u8 0), .lit (.int .u8 0), .lit (.int .u8 0), .lit (.int .u8 0), .lit (.int .u8 0), .lit (.int .u8 0), .lit (.int .u8 0), .lit (.int .u8 0), .lit (.int .u8 0), .lit (.int .u8 0), .lit (.int .u8 0), .lit (.int .u8 0), .lit (.int .u8 0), .lit (.int .u8 0), .lit (.int .u8 0), .lit (.int .u8 0), .lit (.int .u8 0), .lit (.int .u8 0), .lit (.int .u8 0), .lit (.int .u8 0), .lit (.int .u8 0), .lit (.int .u8 0), .lit (.int .u8 0), .lit (.int .u8 0), .lit (.int .u8 0), .lit (.int .u8 0), .lit (.int .u8 0), .lit (.int .u8 0), .lit (.int .u8 0), .lit (.int .u8 0), .lit (.int .u8 0), .lit (.int .u8 0), .lit (.int .u8 0), .lit (.int .u8 0), .lit (.int .u8 0), .lit (.int .u8 0), .lit (.int .u8 0), .lit (.int .u8 0), .lit (.int .u8 0), .lit (.int .u8 0), .lit (.int .u8 0), .lit (.int .u8 0), .lit (.int .u8 0), .lit (.int .u8 0), .lit (.int .u8 0), .lit (.int .u8 0), .lit (.int .u8 0), .lit (.int .u8 0), .lit (.int .u8 0), .lit (.int .u8 0)]) := fun v h => by
  rw [show zeroT Tryd.prog 72 = some (.agg #[(.int .u8 0), (.int .u8 0), (.int .u8 0), (.int .u8 0), (.int .u8 0), (.int .u8 0), (.int .u8 0), (.int .u8 0), (.int .u8 0), (.int .u8 0), (.int .u8 0), (.int .u8 0), (.int .u8 0), (.int .u8 0), (.int .u8 0), (.int .u8 0), (.int .u8 0), (.int .u8 0), (.int .u8 0), (.int .u8 0), (.int .u8 0), (.int .u8 0), (.int .u8 0), (.int .u8 0), (.int .u8 0), (.int .u8 0), (.int .u8 0), (.int .u8 0), (.int .u8 0), (.int .u8 0), (.int .u8 0), (.int .u8 0), (.int .u8 0), (.int .u8 0), (.int .u8 0), (.int .u8 0), (.int .u8 0), (.int .u8 0), (.int .u8 0), (.int .u8 0), (.int .u8 0), (.int .u8 0), (.int .u8 0), (.int .u8 0), (.int .u8 0), (.int .u8 0), (.int .u8 0), (.int .u8 0), (.int .u8 0), (.int .u8 0), (.int .u8 0), (.int .u8 0), (.int .u8 0), (.int .u8 0), (.int .u8 0), (.int .u8 0), (.int .u8 0), (.int .u8 0), (.int .u8 0), (.int .u8 0), (.int .u8 0), (.int .u8 0), (.int .u8 0), (.int .u8 0), (.int .u8 0)]) from by kernel_rfl] at h; cases h
  exact zr_agg _ _ (zl_cons (.lit _) rfl (zl_cons (.lit _) rfl (zl_cons (.lit _) rfl (zl_cons (.lit _) rfl (zl_cons (.lit _) rfl (zl_cons (.lit _) rfl (zl_cons (.lit _) rfl (zl_cons (.lit _) rfl (zl_cons (.lit _) rfl (zl_cons (.lit _) rfl (zl_cons (.lit _) rfl (zl_cons (.lit _) rfl (zl_cons (.lit _) rfl (zl_cons (.lit _) rfl (zl_cons (.lit _) rfl (zl_cons (.lit _) rfl (zl_cons (.lit _) rfl (zl_cons (.lit _) rfl (zl_cons (.lit _) rfl (zl_cons (.lit _) rfl (zl_cons (.lit _) rfl (zl_cons (.lit _) rfl (zl_cons (.lit _) rfl (zl_cons (.lit _) rfl (zl_cons (.lit _) rfl (zl_cons (.lit _) rfl (zl_cons (.lit _) rfl (zl_cons (.lit _) rfl (zl_cons (.lit _) rfl (zl_cons (.lit _) rfl (zl_cons (.lit _) rfl (zl_cons (.lit _) rfl (zl_cons (.lit _) rfl (zl_cons (.lit _) rfl (zl_cons (.lit _) rfl (zl_cons (.lit _) rfl (zl_cons (.lit _) rfl (zl_cons (.lit _) rfl (zl_cons (.lit _) rfl (zl_cons (.lit _) rfl (zl_cons (.lit _) rfl (zl_cons (.lit _) rfl (zl_cons (.lit _) rfl (zl_cons (.lit _) rfl (zl_cons (.lit _) rfl (zl_cons (.lit _) rfl (zl_cons (.lit _) rfl (zl_cons (.lit _) rfl (zl_cons (.lit _) rfl (zl_cons (.lit _) rfl (zl_cons (.lit _) rfl (zl_cons (.lit _) rfl (zl_cons (.lit _) rfl (zl_cons (.lit _) rfl (zl_cons (.lit _) rfl (zl_cons (.lit _) rfl (zl_cons (.lit _) rfl (zl_cons (.lit _) rfl (zl_cons (.lit _) rfl (zl_cons (.lit _) rfl (zl_cons (.lit _) rfl (zl_cons (.lit _) rfl (zl_cons (.lit _) rfl (zl_cons (.lit _) rfl (zl_cons (.lit _) rfl (zl_nil))))))))))))))))))))))))))))))))))))))))))))))))))))))))))))))))))
theorem zv72 : zer 72 = .agg [.lit (.int .u8 0), .lit (.int .u8 0), .lit (.int .u8 0), .lit (.int .u8 0), .lit (.int .u8 0), .lit (.int .u8 0), .lit (.int .u8 0), .lit (.int .u8 0), .lit (.int .u8 0), .lit (.int .u8 0), .lit (.int .u8 0), .lit (.int .u8 0), .lit (.int .u8 0), .lit (.int .u8 0), .lit (.int .u8 0), .lit (.int .u8 0), .lit (.int .u8 0), .lit (.int .u8 0), .lit (.int .u8 0), .lit (.int .u8 0), .lit (.int .u8 0), .lit (.int .u8 0), .lit (.int .u8 0), .lit (.int .u8 0), .lit (.int .u8 0), .lit (.int .u8 0), .lit (.int .u8 0), .lit (.int .u8 0), .lit (.int .u8 0), .lit (.int .u8 0), .lit (.int .u8 0), .lit (.int .u8 0), .lit (.int .u8 0), .lit (.int .u8 0), .lit (.int .u8 0), .lit (.int .u8 0), .lit (.int .u8 0), .lit (.int .u8 0), .lit (.int .u8 0), .lit (.int .u8 0), .lit (.int .u8 0), .lit (.int .u8 0), .lit (.int .u8 0), .lit (.int .u8 0), .lit (.int .u8 0), .lit (.int .u8 0), .lit (.int .u8 0), .lit (.int .u8 0), .lit (.int .u8 0), .lit (.int .u8 0), .lit (.int .u8 0), .lit (.int .u8 0), .lit (.int .u8 0), .lit (.int .u8 0), .lit (.int .u8 0), .lit (.int .u8 0), .lit (.int .u8 0), .lit (.int .u8 0), .lit (.int .u8 0), .lit (.int .u8 0), .lit (.int .u8 0), .lit (.int .u8 0), .lit (.int .u8 0), .lit (.int .u8 0), .lit (.int .u8 0)] := rfl
theorem zr73 : ZerOk Tryd.prog (73, .lit (.int .u64 0)) := fun v h => by
  rw [show zeroT Tryd.prog 73 = some (.int .u64 0) from by kernel_rfl] at h; cases h; exact .lit _
theorem zv73 : zer 73 = .lit (.int .u64 0) := rfl
theorem zr76 : ZerOk Tryd.prog (76, .agg [.lit (.int .u8 0), .lit (.int .u8 0), .lit (.int .u8 0), .lit (.int .u8 0), .lit (.int .u8 0), .lit (.int .u8 0), .lit (.int .u8 0), .lit (.int .u8 0), .lit (.int .u8 0), .lit (.int .u8 0), .lit (.int .u8 0), .lit (.int .u8 0), .lit (.int .u8 0), .lit (.int .u8 0), .lit (.int .u8 0), .lit (.int .u8 0), .lit (.int .u8 0), .lit (.int .u8 0), .lit (.int .u8 0), .lit (.int .u8 0), .lit (.int .u8 0), .lit (.int .u8 0), .lit (.int .u8 0), .lit (.int .u8 0), .lit (.int .u8 0), .lit (.int .u8 0), .lit (.int .u8 0), .lit (.int .u8 0), .lit (.int .u8 0), .lit (.int .u8 0), .lit (.int .u8 0), .lit (.int .u8 0)]) := fun v h => by
  rw [show zeroT Tryd.prog 76 = some (.agg #[(.int .u8 0), (.int .u8 0), (.int .u8 0), (.int .u8 0), (.int .u8 0), (.int .u8 0), (.int .u8 0), (.int .u8 0), (.int .u8 0), (.int .u8 0), (.int .u8 0), (.int .u8 0), (.int .u8 0), (.int .u8 0), (.int .u8 0), (.int .u8 0), (.int .u8 0), (.int .u8 0), (.int .u8 0), (.int .u8 0), (.int .u8 0), (.int .u8 0), (.int .u8 0), (.int .u8 0), (.int .u8 0), (.int .u8 0), (.int .u8 0), (.int .u8 0), (.int .u8 0), (.int .u8 0), (.int .u8 0), (.int .u8 0)]) from by kernel_rfl] at h; cases h
  exact zr_agg _ _ (zl_cons (.lit _) rfl (zl_cons (.lit _) rfl (zl_cons (.lit _) rfl (zl_cons (.lit _) rfl (zl_cons (.lit _) rfl (zl_cons (.lit _) rfl (zl_cons (.lit _) rfl (zl_cons (.lit _) rfl (zl_cons (.lit _) rfl (zl_cons (.lit _) rfl (zl_cons (.lit _) rfl (zl_cons (.lit _) rfl (zl_cons (.lit _) rfl (zl_cons (.lit _) rfl (zl_cons (.lit _) rfl (zl_cons (.lit _) rfl (zl_cons (.lit _) rfl (zl_cons (.lit _) rfl (zl_cons (.lit _) rfl (zl_cons (.lit _) rfl (zl_cons (.lit _) rfl (zl_cons (.lit _) rfl (zl_cons (.lit _) rfl (zl_cons (.lit _) rfl (zl_cons (.lit _) rfl (zl_cons (.lit _) rfl (zl_cons (.lit _) rfl (zl_cons (.lit _) rfl (zl_cons (.lit _) rfl (zl_cons (.lit _) rfl (zl_cons (.lit _) rfl (zl_cons (.lit _) rfl (zl_nil)))))))))))))))))))))))))))))))))
theorem zv76 : zer 76 = .agg [.lit (.int .u8 0), .lit (.int .u8 0), .lit (.int .u8 0), .lit (.int .u8 0), .lit (.int .u8 0), .lit (.int .u8 0), .lit (.int .u8 0), .lit (.int .u8 0), .lit (.int .u8 0), .lit (.int .u8 0), .lit (.int .u8 0), .lit (.int .u8 0), .lit (.int .u8 0), .lit (.int .u8 0), .lit (.int .u8 0), .lit (.int .u8 0), .lit (.int .u8 0), .lit (.int .u8 0), .lit (.int .u8 0), .lit (.int .u8 0), .lit (.int .u8 0), .lit (.int .u8 0), .lit (.int .u8 0), .lit (.int .u8 0), .lit (.int .u8 0), .lit (.int .u8 0), .lit (.int .u8 0), .lit (.int .u8 0), .lit (.int .u8 0), .lit (.int .u8 0), .lit (.int .u8 0), .lit (.int .u8 0)] := rfl
theorem zr77 : ZerOk Tryd.prog (77, .agg [.lit (.int .u8 0), .lit (.int .u8 0), .lit (.int .u8 0), .lit (.int .u8 0), .lit (.int .u8 0), .lit (.int .u8 0), .lit (.int .u8 0), .lit (.int .u8 0), .lit (.int .u8 0), .lit (.int .u8 0), .lit (.int .u8 0), .lit (.int .u8 0), .lit (.int .u8 0), .lit (.int .u8 0), .lit (.int .u8 0), .lit (.int .u8 0), .lit (.int .u8 0), .lit (.int .u8 0), .lit (.int .u8 0), .lit (.int .u8 0), .lit (.int .u8 0), .lit (.int .u8 0), .lit (.int .u8 0), .lit (.int .u8 0), .lit (.int .u8 0), .lit (.int .u8 0), .lit (.int .u8 0), .lit (.int .u8 0), .lit (.int .u8 0), .lit (.int .u8 0), .lit (.int .u8 0), .lit (.int .u8 0), .lit (.int .u8 0), .lit (.int .u8 0), .lit (.int .u8 0), .lit (.int .u8 0), .lit (.int .u8 0), .lit (.int .u8 0), .lit (.int .u8 0), .lit (.int .u8 0), .lit (.int .u8 0), .lit (.int .u8 0), .lit (.int .u8 0), .lit (.int .u8 0), .lit (.int .u8 0), .lit (.int .u8 0), .lit (.int .u8 0), .lit (.int .u8 0), .lit (.int .u8 0), .lit (.int .u8 0), .lit (.int .u8 0), .lit (.int .u8 0), .lit (.int .u8 0), .lit (.int .u8 0), .lit (.int .u8 0), .lit (.int .u8 0), .lit (.int .u8 0), .lit (.int .u8 0), .lit (.int .u8 0), .lit (.int .u8 0), .lit (.int .u8 0), .lit (.int .u8 0), .lit (.int .u8 0), .lit (.int .u8 0)]) := fun v h => by
  rw [show zeroT Tryd.prog 77 = some (.agg #[(.int .u8 0), (.int .u8 0), (.int .u8 0), (.int .u8 0), (.int .u8 0), (.int .u8 0), (.int .u8 0), (.int .u8 0), (.int .u8 0), (.int .u8 0), (.int .u8 0), (.int .u8 0), (.int .u8 0), (.int .u8 0), (.int .u8 0), (.int .u8 0), (.int .u8 0), (.int .u8 0), (.int .u8 0), (.int .u8 0), (.int .u8 0), (.int .u8 0), (.int .u8 0), (.int .u8 0), (.int .u8 0), (.int .u8 0), (.int .u8 0), (.int .u8 0), (.int .u8 0), (.int .u8 0), (.int .u8 0), (.int .u8 0), (.int .u8 0), (.int .u8 0), (.int .u8 0), (.int .u8 0), (.int .u8 0), (.int .u8 0), (.int .u8 0), (.int .u8 0), (.int .u8 0), (.int .u8 0), (.int .u8 0), (.int .u8 0), (.int .u8 0), (.int .u8 0), (.int .u8 0), (.int .u8 0), (.int .u8 0), (.int .u8 0), (.int .u8 0), (.int .u8 0), (.int .u8 0), (.int .u8 0), (.int .u8 0), (.int .u8 0), (.int .u8 0), (.int .u8 0), (.int .u8 0), (.int .u8 0), (.int .u8 0), (.int .u8 0), (.int .u8 0), (.int .u8 0)]) from by kernel_rfl] at h; cases h
  exact zr_agg _ _ (zl_cons (.lit _) rfl (zl_cons (.lit _) rfl (zl_cons (.lit _) rfl (zl_cons (.lit _) rfl (zl_cons (.lit _) rfl (zl_cons (.lit _) rfl (zl_cons (.lit _) rfl (zl_cons (.lit _) rfl (zl_cons (.lit _) rfl (zl_cons (.lit _) rfl (zl_cons (.lit _) rfl (zl_cons (.lit _) rfl (zl_cons (.lit _) rfl (zl_cons (.lit _) rfl (zl_cons (.lit _) rfl (zl_cons (.lit _) rfl (zl_cons (.lit _) rfl (zl_cons (.lit _) rfl (zl_cons (.lit _) rfl (zl_cons (.lit _) rfl (zl_cons (.lit _) rfl (zl_cons (.lit _) rfl (zl_cons (.lit _) rfl (zl_cons (.lit _) rfl (zl_cons (.lit _) rfl (zl_cons (.lit _) rfl (zl_cons (.lit _) rfl (zl_cons (.lit _) rfl (zl_cons (.lit _) rfl (zl_cons (.lit _) rfl (zl_cons (.lit _) rfl (zl_cons (.lit _) rfl (zl_cons (.lit _) rfl (zl_cons (.lit _) rfl (zl_cons (.lit _) rfl (zl_cons (.lit _) rfl (zl_cons (.lit _) rfl (zl_cons (.lit _) rfl (zl_cons (.lit _) rfl (zl_cons (.lit _) rfl (zl_cons (.lit _) rfl (zl_cons (.lit _) rfl (zl_cons (.lit _) rfl (zl_cons (.lit _) rfl (zl_cons (.lit _) rfl (zl_cons (.lit _) rfl (zl_cons (.lit _) rfl (zl_cons (.lit _) rfl (zl_cons (.lit _) rfl (zl_cons (.lit _) rfl (zl_cons (.lit _) rfl (zl_cons (.lit _) rfl (zl_cons (.lit _) rfl (zl_cons (.lit _) rfl (zl_cons (.lit _) rfl (zl_cons (.lit _) rfl (zl_cons (.lit _) rfl (zl_cons (.lit _) rfl (zl_cons (.lit _) rfl (zl_cons (.lit _) rfl (zl_cons (.lit _) rfl (zl_cons (.lit _) rfl (zl_cons (.lit _) rfl (zl_cons (.lit _) rfl (zl_nil)))))))))))))))))))))))))))))))))))))))))))))))))))))))))))))))))
theorem zv77 : zer 77 = .agg [.lit (.int .u8 0), .lit (.int .u8 0), .lit (.int .u8 0), .lit (.int .u8 0), .lit (.int .u8 0), .lit (.int .u8 0), .lit (.int .u8 0), .lit (.int .u8 0), .lit (.int .u8 0), .lit (.int .u8 0), .lit (.int .u8 0), .lit (.int .u8 0), .lit (.int .u8 0), .lit (.int .u8 0), .lit (.int .u8 0), .lit (.int .u8 0), .lit (.int .u8 0), .lit (.int .u8 0), .lit (.int .u8 0), .lit (.int .u8 0), .lit (.int .u8 0), .lit (.int .u8 0), .lit (.int .u8 0), .lit (.int .u8 0), .lit (.int .u8 0), .lit (.int .u8 0), .lit (.int .u8 0), .lit (.int .u8 0), .lit (.int .u8 0), .lit (.int .u8 0), .lit (.int .u8 0), .lit (.int .u8 0), .lit (.int .u8 0), .lit (.int .u8 0), .lit (.int .u8 0), .lit (.int .u8 0), .lit (.int .u8 0), .lit (.int .u8 0), .lit (.int .u8 0), .lit (.int .u8 0), .lit (.int .u8 0), .lit (.int .u8 0), .lit (.int .u8 0), .lit (.int .u8 0), .lit (.int .u8 0), .lit (.int .u8 0), .lit (.int .u8 0), .lit (.int .u8 0), .lit (.int .u8 0), .lit (.int .u8 0), .lit (.int .u8 0), .lit (.int .u8 0), .lit (.int .u8 0), .lit (.int .u8 0), .lit (.int .u8 0), .lit (.int .u8 0), .lit (.int .u8 0), .lit (.int .u8 0), .lit (.int .u8 0), .lit (.int .u8 0), .lit (.int .u8 0), .lit (.int .u8 0), .lit (.int .u8 0), .lit (.int .u8 0)] := rfl
theorem zr79 : ZerOk Tryd.prog (79, .agg [.lit (.pointer none), .lit (.pointer none), .lit (.pointer none), .lit (.string ByteArray.empty)]) := fun v h => by
  rw [show zeroT Tryd.prog 79 = some (.agg #[(.pointer none), (.pointer none), (.pointer none), (.string ByteArray.empty)]) from by kernel_rfl] at h; cases h
  exact zr_agg _ _ (zl_cons (.lit _) rfl (zl_cons (.lit _) rfl (zl_cons (.lit _) rfl (zl_cons (.lit _) rfl (zl_nil)))))
theorem zv79 : zer 79 = .agg [.lit (.pointer none), .lit (.pointer none), .lit (.pointer none), .lit (.string ByteArray.empty)] := rfl
theorem zr80 : ZerOk Tryd.prog (80, .agg [.lit (.pointer none), .lit (.pointer none), .lit (.pointer none), .lit (.string ByteArray.empty)]) := fun v h => by
  rw [show zeroT Tryd.prog 80 = some (.agg #[(.pointer none), (.pointer none), (.pointer none), (.string ByteArray.empty)]) from by kernel_rfl] at h; cases h
  exact zr_agg _ _ (zl_cons (.lit _) rfl (zl_cons (.lit _) rfl (zl_cons (.lit _) rfl (zl_cons (.lit _) rfl (zl_nil)))))
theorem zv80 : zer 80 = .agg [.lit (.pointer none), .lit (.pointer none), .lit (.pointer none), .lit (.string ByteArray.empty)] := rfl
theorem zr85 : ZerOk Tryd.prog (85, .lit (.int .u8 0)) := fun v h => by
  rw [show zeroT Tryd.prog 85 = some (.int .u8 0) from by kernel_rfl] at h; cases h; exact .lit _
theorem zv85 : zer 85 = .lit (.int .u8 0) := rfl
theorem zr86 : ZerOk Tryd.prog (86, .lit (.int .u8 0)) := fun v h => by
  rw [show zeroT Tryd.prog 86 = some (.int .u8 0) from by kernel_rfl] at h; cases h; exact .lit _
theorem zv86 : zer 86 = .lit (.int .u8 0) := rfl
theorem zr88 : ZerOk Tryd.prog (88, .lit (.pointer none)) := fun v h => by
  rw [show zeroT Tryd.prog 88 = some (.pointer none) from by kernel_rfl] at h; cases h; exact .lit _
theorem zv88 : zer 88 = .lit (.pointer none) := rfl
theorem zr89 : ZerOk Tryd.prog (89, .lit (.int .i32 0)) := fun v h => by
  rw [show zeroT Tryd.prog 89 = some (.int .i32 0) from by kernel_rfl] at h; cases h; exact .lit _
theorem zv89 : zer 89 = .lit (.int .i32 0) := rfl
theorem zr90 : ZerOk Tryd.prog (90, .lit (.int .i32 0)) := fun v h => by
  rw [show zeroT Tryd.prog 90 = some (.int .i32 0) from by kernel_rfl] at h; cases h; exact .lit _
theorem zv90 : zer 90 = .lit (.int .i32 0) := rfl
theorem zr91 : ZerOk Tryd.prog (91, .agg [.lit (.int .u64 0), .lit (.int .u64 0), .lit (.int .u32 0), .lit (.int .u8 0), .lit (.int .u8 0), .lit (.int .u8 0), .lit (.int .u8 0), .lit .nilFunc, .lit (.pointer none), .lit (.int .i32 0), .lit (.int .i32 0)]) := fun v h => by
  rw [show zeroT Tryd.prog 91 = some (.agg #[(.int .u64 0), (.int .u64 0), (.int .u32 0), (.int .u8 0), (.int .u8 0), (.int .u8 0), (.int .u8 0), .nilFunc, (.pointer none), (.int .i32 0), (.int .i32 0)]) from by kernel_rfl] at h; cases h
  exact zr_agg _ _ (zl_cons (.lit _) rfl (zl_cons (.lit _) rfl (zl_cons (.lit _) rfl (zl_cons (.lit _) rfl (zl_cons (.lit _) rfl (zl_cons (.lit _) rfl (zl_cons (.lit _) rfl (zl_cons (.lit _) rfl (zl_cons (.lit _) rfl (zl_cons (.lit _) rfl (zl_cons (.lit _) rfl (zl_nil))))))))))))
theorem zv91 : zer 91 = .agg [.lit (.int .u64 0), .lit (.int .u64 0), .lit (.int .u32 0), .lit (.int .u8 0), .lit (.int .u8 0), .lit (.int .u8 0), .lit (.int .u8 0), .lit .nilFunc, .lit (.pointer none), .lit (.int .i32 0), .lit (.int .i32 0)] := rfl
theorem zr92 : ZerOk Tryd.prog (92, .agg [.lit (.int .u64 0), .lit (.int .u64 0), .lit (.int .u32 0), .lit (.int .u8 0), .lit (.int .u8 0), .lit (.int .u8 0), .lit (.int .u8 0), .lit .nilFunc, .lit (.pointer none), .lit (.int .i32 0), .lit (.int .i32 0)]) := fun v h => by
  rw [show zeroT Tryd.prog 92 = some (.agg #[(.int .u64 0), (.int .u64 0), (.int .u32 0), (.int .u8 0), (.int .u8 0), (.int .u8 0), (.int .u8 0), .nilFunc, (.pointer none), (.int .i32 0), (.int .i32 0)]) from by kernel_rfl] at h; cases h
  exact zr_agg _ _ (zl_cons (.lit _) rfl (zl_cons (.lit _) rfl (zl_cons (.lit _) rfl (zl_cons (.lit _) rfl (zl_cons (.lit _) rfl (zl_cons (.lit _) rfl (zl_cons (.lit _) rfl (zl_cons (.lit _) rfl (zl_cons (.lit _) rfl (zl_cons (.lit _) rfl (zl_cons (.lit _) rfl (zl_nil))))))))))))
theorem zv92 : zer 92 = .agg [.lit (.int .u64 0), .lit (.int .u64 0), .lit (.int .u32 0), .lit (.int .u8 0), .lit (.int .u8 0), .lit (.int .u8 0), .lit (.int .u8 0), .lit .nilFunc, .lit (.pointer none), .lit (.int .i32 0), .lit (.int .i32 0)] := rfl
theorem zer_ok : ∀ t v, zeroT Tryd.prog t = some v → RC (fun _ _ => none) (zer t) v := zer_sound zerL (zs_cons zr2 (zs_cons zr3 (zs_cons zr4 (zs_cons zr5 (zs_cons zr6 (zs_cons zr7 (zs_cons zr8 (zs_cons zr9 (zs_cons zr10 (zs_cons zr11 (zs_cons zr12 (zs_cons zr13 (zs_cons zr14 (zs_cons zr15 (zs_cons zr16 (zs_cons zr17 (zs_cons zr18 (zs_cons zr19 (zs_cons zr21 (zs_cons zr22 (zs_cons zr24 (zs_cons zr32 (zs_cons zr34 (zs_cons zr35 (zs_cons zr45 (zs_cons zr53 (zs_cons zr60 (zs_cons zr63 (zs_cons zr70 (zs_cons zr71 (zs_cons zr72 (zs_cons zr73 (zs_cons zr76 (zs_cons zr77 (zs_cons zr79 (zs_cons zr80 (zs_cons zr85 (zs_cons zr86 (zs_cons zr88 (zs_cons zr89 (zs_cons zr90 (zs_cons zr91 (zs_cons zr92 (zs_nil))))))))))))))))))))))))))))))))))))))))))))
theorem mixed : Tryd.prog.follows .mixedOrders = true := by kernel_rfl
theorem fk3 : fok Tryd.prog 3 = true := by kernel_rfl -- framewise/framewiselaw18.ArrayPlaces
theorem fk4 : fok Tryd.prog 4 = true := by kernel_rfl -- framewise/framewiselaw18.ArrayOrder
theorem fk5 : fok Tryd.prog 5 = true := by kernel_rfl -- framewise/framewiselaw18.ArrayOf
theorem fk6 : fok Tryd.prog 6 = true := by kernel_rfl -- framewise/framewiselaw18.ArrayElements
theorem fk7 : fok Tryd.prog 7 = true := by kernel_rfl -- framewise/framewiselaw18.ArraySet
theorem fk8 : fok Tryd.prog 8 = true := by kernel_rfl -- framewise/framewiselaw18.awake
theorem fk9 : fok Tryd.prog 9 = true := by kernel_rfl -- framewise/array.Size
theorem fk10 : fok Tryd.prog 10 = true := by kernel_rfl -- framewise/framewiseref18.Size
theorem fk11 : fok Tryd.prog 11 = true := by kernel_rfl -- framewise/array.Offset
theorem fk12 : fok Tryd.prog 12 = true := by kernel_rfl -- framewise/framewiseref18.Offset
theorem fk13 : fok Tryd.prog 13 = true := by kernel_rfl -- framewise/array.Index
theorem fk14 : fok Tryd.prog 14 = true := by kernel_rfl -- framewise/framewiseref18.Index
theorem fk15 : fok Tryd.prog 15 = true := by kernel_rfl -- framewise/framewiseref17.SameInts
theorem fk16 : fok Tryd.prog 16 = true := by kernel_rfl -- framewise/framewiseref18.Few
theorem fk17 : fok Tryd.prog 17 = true := by kernel_rfl -- framewise/array.Of
theorem fk18 : fok Tryd.prog 18 = true := by kernel_rfl -- framewise/framewiseref18.Of
theorem fk19 : fok Tryd.prog 19 = true := by kernel_rfl -- framewise/array.Zeros
theorem fk20 : fok Tryd.prog 20 = true := by kernel_rfl -- framewise/framewiseref18.Zeros
theorem fk21 : fok Tryd.prog 21 = true := by kernel_rfl -- framewise/framewiseref18.Equal
theorem fk22 : fok Tryd.prog 22 = true := by kernel_rfl -- framewise/array.Valid
theorem fk23 : fok Tryd.prog 23 = true := by kernel_rfl -- framewise/framewiseref18.Valid
theorem fk24 : fok Tryd.prog 24 = true := by kernel_rfl -- framewise/array.Equal
theorem fk25 : fok Tryd.prog 25 = true := by kernel_rfl -- framewise/array.At
theorem fk26 : fok Tryd.prog 26 = true := by kernel_rfl -- framewise/framewiseref18.At
theorem fk27 : fok Tryd.prog 27 = true := by kernel_rfl -- framewise/array.Set
theorem fk28 : fok Tryd.prog 28 = true := by kernel_rfl -- framewise/framewiseref18.Set
theorem fk29 : fok Tryd.prog 29 = true := by kernel_rfl -- framewise/framewiseref17.Valid
theorem fk30 : fok Tryd.prog 30 = true := by kernel_rfl -- framewise/array.Print
theorem fk31 : fok Tryd.prog 31 = true := by kernel_rfl -- slices.Contains[[]int,int]
theorem fk32 : fok Tryd.prog 32 = true := by kernel_rfl -- framewise/array.elements
theorem fk33 : fok Tryd.prog 33 = true := by kernel_rfl -- slices.Clone[[]int,int]
theorem fk34 : fok Tryd.prog 34 = true := by kernel_rfl -- framewise/framewiseref18.Copy
theorem fk35 : fok Tryd.prog 35 = true := by kernel_rfl -- slices.Equal[[]int,int]
theorem fk36 : fok Tryd.prog 36 = true := by kernel_rfl -- framewise/array.place
theorem fk37 : fok Tryd.prog 37 = true := by kernel_rfl -- framewise/element.Valid
theorem fk38 : fok Tryd.prog 38 = true := by kernel_rfl -- framewise/array.Print$1
theorem fk39 : fok Tryd.prog 39 = true := by kernel_rfl -- strconv.AppendInt
theorem fk40 : fok Tryd.prog 40 = true := by kernel_rfl -- slices.Index[[]int,int]
theorem fk41 : fok Tryd.prog 41 = true := by kernel_rfl -- slices.ContainsFunc[[]int,int]
theorem fk42 : fok Tryd.prog 42 = true := by kernel_rfl -- framewise/array.elements$1
theorem fk44 : fok Tryd.prog 44 = true := by kernel_rfl -- slices.IndexFunc[[]int,int]
theorem fk51 : fok Tryd.prog 51 = true := by kernel_rfl -- math/bits.Len64
theorem fk54 : fok Tryd.prog 54 = true := by kernel_rfl -- math/bits.TrailingZeros
theorem fk55 : fok Tryd.prog 55 = true := by kernel_rfl -- math/bits.TrailingZeros32
theorem fk56 : fok Tryd.prog 56 = true := by kernel_rfl -- math/bits.TrailingZeros64
attribute [go_sem] u2 sz2 by2 ag2 so2 iz2 zk2 iu2 u3 sz3 by3 ag3 so3 iz3 zk3 iu3 u4 sz4 by4 ag4 so4 iz4 zk4 iu4 u5 sz5 by5 ag5 so5 iz5 zk5 iu5 u6 sz6 by6 ag6 so6 iz6 zk6 iu6 sz7 by7 ag7 so7 fl7_0 fl7_1 fl7_2 fl7_3 iz7 zk7 iu7 sz8 by8 ag8 so8 fl8_0 fl8_1 fl8_2 fl8_3 iz8 zk8 iu8 u9 sz9 by9 ag9 so9 iz9 zk9 iu9 u10 sz10 by10 ag10 so10 iz10 zk10 iu10 u11 sz11 by11 ag11 so11 iz11 zk11 iu11 u12 sz12 by12 ag12 so12 iz12 zk12 iu12 sz13 by13 ag13 so13 fl13_0 fl13_1 iz13 zk13 iu13 sz14 by14 ag14 so14 fl14_0 fl14_1 iz14 zk14 iu14 u15 sz15 by15 ag15 so15 iz15 zk15 iu15 u16 sz16 by16 ag16 so16 iz16 zk16 iu16 u17 sz17 by17 ag17 so17 iz17 zk17 iu17 sz18 by18 ag18 so18 fl18_0 iz18 zk18 iu18 sz19 by19 ag19 so19 fl19_0 iz19 zk19 iu19 u21 sz21 by21 ag21 so21 iz21 zk21 iu21 u22 sz22 by22 ag22 so22 iz22 zk22 iu22 ap22 u24 sz24 by24 ag24 so24 iz24 zk24 iu24 u32 sz32 by32 ag32 so32 iz32 zk32 iu32 sz34 by34 ag34 so34 fl34_0 fl34_1 fl34_2 iz34 zk34 iu34 sz35 by35 ag35 so35 fl35_0 fl35_1 fl35_2 iz35 zk35 iu35 u45 sz45 by45 ag45 so45 iz45 zk45 iu45 u53 sz53 by53 ag53 so53 iz53 zk53 iu53 ap53 aps53 u60 sz60 by60 ag60 so60 iz60 zk60 iu60 u63 sz63 by63 ag63 so63 iz63 zk63 iu63 u70 sz70 by70 ag70 so70 iz70 zk70 iu70 u71 sz71 by71 ag71 so71 iz71 zk71 iu71 u72 sz72 by72 ag72 so72 iz72 zk72 iu72 u73 sz73 by73 ag73 so73 iz73 zk73 iu73 u76 sz76 by76 ag76 so76 iz76 zk76 iu76 u77 sz77 by77 ag77 so77 iz77 zk77 iu77 sz79 by79 ag79 so79 fl79_0 fl79_1 fl79_2 fl79_3 iz79 zk79 iu79 sz80 by80 ag80 so80 fl80_0 fl80_1 fl80_2 fl80_3 iz80 zk80 iu80 u81 sz81 by81 ag81 so81 iz81 zk81 iu81 sz82 by82 ag82 so82 fl82_0 iz82 zk82 iu82 sz83 by83 ag83 so83 fl83_0 iz83 zk83 iu83 u85 sz85 by85 ag85 so85 iz85 zk85 iu85 u86 sz86 by86 ag86 so86 iz86 zk86 iu86 u88 sz88 by88 ag88 so88 iz88 zk88 iu88 u89 sz89 by89 ag89 so89 iz89 zk89 iu89 u90 sz90 by90 ag90 so90 iz90 zk90 iu90 sz91 by91 ag91 so91 fl91_0 fl91_1 fl91_2 fl91_3 fl91_4 fl91_5 fl91_6 fl91_7 fl91_8 fl91_9 fl91_10 iz91 zk91 iu91 sz92 by92 ag92 so92 fl92_0 fl92_1 fl92_2 fl92_3 fl92_4 fl92_5 fl92_6 fl92_7 fl92_8 fl92_9 fl92_10 iz92 zk92 iu92 zv2 zv3 zv4 zv5 zv6 zv7 zv8 zv9 zv10 zv11 zv12 zv13 zv14 zv15 zv16 zv17 zv18 zv19 zv21 zv22 zv24 zv32 zv34 zv35 zv45 zv53 zv60 zv63 zv70 zv71 zv72 zv73 zv76 zv77 zv79 zv80 zv85 zv86 zv88 zv89 zv90 zv91 zv92
end Go.Proofs.YtjlcbojpiieafaaDoor
