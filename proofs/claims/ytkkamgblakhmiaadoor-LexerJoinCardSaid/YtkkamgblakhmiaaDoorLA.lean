/- Closed facts on the types of this seat's program, made by program (facts.py). -/
import Derived.Test.YtkkamgblakhmiaaDoorRows
import Derived.Test.YtkkamgblakhmiaaDoorFwB
import Derived.Lib.Bytealg

set_option linter.all false

namespace Go.Proofs.YtkkamgblakhmiaaDoor
open Go Go.Fw

theorem u2 : Tryd.prog.underlying 2 = some (.int .i64) := by kernel_rfl
theorem sz2 : szT Tryd.prog 2 = 1 := by kernel_rfl
theorem by2 : byT Tryd.prog 2 = 8 := by kernel_rfl
theorem ag2 : aggT Tryd.prog 2 = some false := by kernel_rfl
theorem so2 : structOk Tryd.prog 2 = false := by kernel_rfl
theorem iz2 : (zeroT Tryd.prog 2).isSome = true := by kernel_rfl
theorem zk2 : zOk Tryd.prog 2 = true := by kernel_rfl
theorem iu2 : (Tryd.prog.underlying 2).isSome = true := by kernel_rfl
theorem u3 : Tryd.prog.underlying 3 = some (.int .i64) := by kernel_rfl
theorem sz3 : szT Tryd.prog 3 = 1 := by kernel_rfl
theorem by3 : byT Tryd.prog 3 = 8 := by kernel_rfl
theorem ag3 : aggT Tryd.prog 3 = some false := by kernel_rfl
theorem so3 : structOk Tryd.prog 3 = false := by kernel_rfl
theorem iz3 : (zeroT Tryd.prog 3).isSome = true := by kernel_rfl
theorem zk3 : zOk Tryd.prog 3 = true := by kernel_rfl
theorem iu3 : (Tryd.prog.underlying 3).isSome = true := by kernel_rfl
theorem u4 : Tryd.prog.underlying 4 = some .bool := by kernel_rfl
theorem sz4 : szT Tryd.prog 4 = 1 := by kernel_rfl
theorem by4 : byT Tryd.prog 4 = 1 := by kernel_rfl
theorem ag4 : aggT Tryd.prog 4 = some false := by kernel_rfl
theorem so4 : structOk Tryd.prog 4 = false := by kernel_rfl
theorem iz4 : (zeroT Tryd.prog 4).isSome = true := by kernel_rfl
theorem zk4 : zOk Tryd.prog 4 = true := by kernel_rfl
theorem iu4 : (Tryd.prog.underlying 4).isSome = true := by kernel_rfl
theorem u5 : Tryd.prog.underlying 5 = some (.int .u8) := by kernel_rfl
theorem sz5 : szT Tryd.prog 5 = 1 := by kernel_rfl
theorem by5 : byT Tryd.prog 5 = 1 := by kernel_rfl
theorem ag5 : aggT Tryd.prog 5 = some false := by kernel_rfl
theorem so5 : structOk Tryd.prog 5 = false := by kernel_rfl
theorem iz5 : (zeroT Tryd.prog 5).isSome = true := by kernel_rfl
theorem zk5 : zOk Tryd.prog 5 = true := by kernel_rfl
theorem iu5 : (Tryd.prog.underlying 5).isSome = true := by kernel_rfl
theorem u6 : Tryd.prog.underlying 6 = some (.int .u8) := by kernel_rfl
theorem sz6 : szT Tryd.prog 6 = 1 := by kernel_rfl
theorem by6 : byT Tryd.prog 6 = 1 := by kernel_rfl
theorem ag6 : aggT Tryd.prog 6 = some false := by kernel_rfl
theorem so6 : structOk Tryd.prog 6 = false := by kernel_rfl
theorem iz6 : (zeroT Tryd.prog 6).isSome = true := by kernel_rfl
theorem zk6 : zOk Tryd.prog 6 = true := by kernel_rfl
theorem iu6 : (Tryd.prog.underlying 6).isSome = true := by kernel_rfl
theorem sz7 : szT Tryd.prog 7 = 4 := by kernel_rfl
theorem by7 : byT Tryd.prog 7 = 24 := by kernel_rfl
theorem ag7 : aggT Tryd.prog 7 = some true := by kernel_rfl
theorem so7 : structOk Tryd.prog 7 = true := by kernel_rfl
theorem fl7_0 : fieldT Tryd.prog 7 0 = some (2, 0) := by kernel_rfl
theorem fl7_1 : fieldT Tryd.prog 7 1 = some (3, 1) := by kernel_rfl
theorem fl7_2 : fieldT Tryd.prog 7 2 = some (4, 2) := by kernel_rfl
theorem fl7_3 : fieldT Tryd.prog 7 3 = some (6, 3) := by kernel_rfl
theorem se7 : seqK Tryd.prog 7 = some [0, 0, 2, 0] := by kernel_rfl
theorem iz7 : (zeroT Tryd.prog 7).isSome = true := by kernel_rfl
theorem zk7 : zOk Tryd.prog 7 = true := by kernel_rfl
theorem iu7 : (Tryd.prog.underlying 7).isSome = true := by kernel_rfl
theorem sz8 : szT Tryd.prog 8 = 4 := by kernel_rfl
theorem by8 : byT Tryd.prog 8 = 24 := by kernel_rfl
theorem ag8 : aggT Tryd.prog 8 = some true := by kernel_rfl
theorem so8 : structOk Tryd.prog 8 = true := by kernel_rfl
theorem fl8_0 : fieldT Tryd.prog 8 0 = some (2, 0) := by kernel_rfl
theorem fl8_1 : fieldT Tryd.prog 8 1 = some (3, 1) := by kernel_rfl
theorem fl8_2 : fieldT Tryd.prog 8 2 = some (4, 2) := by kernel_rfl
theorem fl8_3 : fieldT Tryd.prog 8 3 = some (6, 3) := by kernel_rfl
theorem se8 : seqK Tryd.prog 8 = some [0, 0, 2, 0] := by kernel_rfl
theorem iz8 : (zeroT Tryd.prog 8).isSome = true := by kernel_rfl
theorem zk8 : zOk Tryd.prog 8 = true := by kernel_rfl
theorem iu8 : (Tryd.prog.underlying 8).isSome = true := by kernel_rfl
theorem u9 : Tryd.prog.underlying 9 = some .string := by kernel_rfl
theorem sz9 : szT Tryd.prog 9 = 1 := by kernel_rfl
theorem by9 : byT Tryd.prog 9 = 16 := by kernel_rfl
theorem ag9 : aggT Tryd.prog 9 = some false := by kernel_rfl
theorem so9 : structOk Tryd.prog 9 = false := by kernel_rfl
theorem iz9 : (zeroT Tryd.prog 9).isSome = true := by kernel_rfl
theorem zk9 : zOk Tryd.prog 9 = true := by kernel_rfl
theorem iu9 : (Tryd.prog.underlying 9).isSome = true := by kernel_rfl
theorem u10 : Tryd.prog.underlying 10 = some .string := by kernel_rfl
theorem sz10 : szT Tryd.prog 10 = 1 := by kernel_rfl
theorem by10 : byT Tryd.prog 10 = 16 := by kernel_rfl
theorem ag10 : aggT Tryd.prog 10 = some false := by kernel_rfl
theorem so10 : structOk Tryd.prog 10 = false := by kernel_rfl
theorem iz10 : (zeroT Tryd.prog 10).isSome = true := by kernel_rfl
theorem zk10 : zOk Tryd.prog 10 = true := by kernel_rfl
theorem iu10 : (Tryd.prog.underlying 10).isSome = true := by kernel_rfl
theorem u11 : Tryd.prog.underlying 11 = some .string := by kernel_rfl
theorem sz11 : szT Tryd.prog 11 = 1 := by kernel_rfl
theorem by11 : byT Tryd.prog 11 = 16 := by kernel_rfl
theorem ag11 : aggT Tryd.prog 11 = some false := by kernel_rfl
theorem so11 : structOk Tryd.prog 11 = false := by kernel_rfl
theorem iz11 : (zeroT Tryd.prog 11).isSome = true := by kernel_rfl
theorem zk11 : zOk Tryd.prog 11 = true := by kernel_rfl
theorem iu11 : (Tryd.prog.underlying 11).isSome = true := by kernel_rfl
theorem u12 : Tryd.prog.underlying 12 = some (.int .u64) := by kernel_rfl
theorem sz12 : szT Tryd.prog 12 = 1 := by kernel_rfl
theorem by12 : byT Tryd.prog 12 = 8 := by kernel_rfl
theorem ag12 : aggT Tryd.prog 12 = some false := by kernel_rfl
theorem so12 : structOk Tryd.prog 12 = false := by kernel_rfl
theorem iz12 : (zeroT Tryd.prog 12).isSome = true := by kernel_rfl
theorem zk12 : zOk Tryd.prog 12 = true := by kernel_rfl
theorem iu12 : (Tryd.prog.underlying 12).isSome = true := by kernel_rfl
theorem sz13 : szT Tryd.prog 13 = 2 := by kernel_rfl
theorem by13 : byT Tryd.prog 13 = 24 := by kernel_rfl
theorem ag13 : aggT Tryd.prog 13 = some true := by kernel_rfl
theorem so13 : structOk Tryd.prog 13 = true := by kernel_rfl
theorem fl13_0 : fieldT Tryd.prog 13 0 = some (9, 0) := by kernel_rfl
theorem fl13_1 : fieldT Tryd.prog 13 1 = some (12, 1) := by kernel_rfl
theorem iz13 : (zeroT Tryd.prog 13).isSome = true := by kernel_rfl
theorem zk13 : zOk Tryd.prog 13 = true := by kernel_rfl
theorem iu13 : (Tryd.prog.underlying 13).isSome = true := by kernel_rfl
theorem sz14 : szT Tryd.prog 14 = 2 := by kernel_rfl
theorem by14 : byT Tryd.prog 14 = 24 := by kernel_rfl
theorem ag14 : aggT Tryd.prog 14 = some true := by kernel_rfl
theorem so14 : structOk Tryd.prog 14 = true := by kernel_rfl
theorem fl14_0 : fieldT Tryd.prog 14 0 = some (9, 0) := by kernel_rfl
theorem fl14_1 : fieldT Tryd.prog 14 1 = some (12, 1) := by kernel_rfl
theorem iz14 : (zeroT Tryd.prog 14).isSome = true := by kernel_rfl
theorem zk14 : zOk Tryd.prog 14 = true := by kernel_rfl
theorem iu14 : (Tryd.prog.underlying 14).isSome = true := by kernel_rfl
theorem u15 : Tryd.prog.underlying 15 = some (.pointer 115) := by kernel_rfl
theorem sz15 : szT Tryd.prog 15 = 1 := by kernel_rfl
theorem by15 : byT Tryd.prog 15 = 8 := by kernel_rfl
theorem ag15 : aggT Tryd.prog 15 = some false := by kernel_rfl
theorem so15 : structOk Tryd.prog 15 = false := by kernel_rfl
theorem iz15 : (zeroT Tryd.prog 15).isSome = true := by kernel_rfl
theorem zk15 : zOk Tryd.prog 15 = true := by kernel_rfl
theorem iu15 : (Tryd.prog.underlying 15).isSome = true := by kernel_rfl
theorem u16 : Tryd.prog.underlying 16 = some (.pointer 118) := by kernel_rfl
theorem sz16 : szT Tryd.prog 16 = 1 := by kernel_rfl
theorem by16 : byT Tryd.prog 16 = 8 := by kernel_rfl
theorem ag16 : aggT Tryd.prog 16 = some false := by kernel_rfl
theorem so16 : structOk Tryd.prog 16 = false := by kernel_rfl
theorem iz16 : (zeroT Tryd.prog 16).isSome = true := by kernel_rfl
theorem zk16 : zOk Tryd.prog 16 = true := by kernel_rfl
theorem iu16 : (Tryd.prog.underlying 16).isSome = true := by kernel_rfl
theorem u17 : Tryd.prog.underlying 17 = some (.pointer 126) := by kernel_rfl
theorem sz17 : szT Tryd.prog 17 = 1 := by kernel_rfl
theorem by17 : byT Tryd.prog 17 = 8 := by kernel_rfl
theorem ag17 : aggT Tryd.prog 17 = some false := by kernel_rfl
theorem so17 : structOk Tryd.prog 17 = false := by kernel_rfl
theorem iz17 : (zeroT Tryd.prog 17).isSome = true := by kernel_rfl
theorem zk17 : zOk Tryd.prog 17 = true := by kernel_rfl
theorem iu17 : (Tryd.prog.underlying 17).isSome = true := by kernel_rfl
theorem sz18 : szT Tryd.prog 18 = 1 := by kernel_rfl
theorem by18 : byT Tryd.prog 18 = 8 := by kernel_rfl
theorem ag18 : aggT Tryd.prog 18 = some true := by kernel_rfl
theorem so18 : structOk Tryd.prog 18 = true := by kernel_rfl
theorem fl18_0 : fieldT Tryd.prog 18 0 = some (17, 0) := by kernel_rfl
theorem iz18 : (zeroT Tryd.prog 18).isSome = true := by kernel_rfl
theorem zk18 : zOk Tryd.prog 18 = true := by kernel_rfl
theorem iu18 : (Tryd.prog.underlying 18).isSome = true := by kernel_rfl
theorem sz19 : szT Tryd.prog 19 = 1 := by kernel_rfl
theorem by19 : byT Tryd.prog 19 = 8 := by kernel_rfl
theorem ag19 : aggT Tryd.prog 19 = some true := by kernel_rfl
theorem so19 : structOk Tryd.prog 19 = true := by kernel_rfl
theorem fl19_0 : fieldT Tryd.prog 19 0 = some (17, 0) := by kernel_rfl
theorem iz19 : (zeroT Tryd.prog 19).isSome = true := by kernel_rfl
theorem zk19 : zOk Tryd.prog 19 = true := by kernel_rfl
theorem iu19 : (Tryd.prog.underlying 19).isSome = true := by kernel_rfl
theorem u21 : Tryd.prog.underlying 21 = some (.int .i32) := by kernel_rfl
theorem sz21 : szT Tryd.prog 21 = 1 := by kernel_rfl
theorem by21 : byT Tryd.prog 21 = 4 := by kernel_rfl
theorem ag21 : aggT Tryd.prog 21 = some false := by kernel_rfl
theorem so21 : structOk Tryd.prog 21 = false := by kernel_rfl
theorem iz21 : (zeroT Tryd.prog 21).isSome = true := by kernel_rfl
theorem zk21 : zOk Tryd.prog 21 = true := by kernel_rfl
theorem iu21 : (Tryd.prog.underlying 21).isSome = true := by kernel_rfl
theorem u23 : Tryd.prog.underlying 23 = some (.slice 36) := by kernel_rfl
theorem sz23 : szT Tryd.prog 23 = 1 := by kernel_rfl
theorem by23 : byT Tryd.prog 23 = 24 := by kernel_rfl
theorem ag23 : aggT Tryd.prog 23 = some false := by kernel_rfl
theorem so23 : structOk Tryd.prog 23 = false := by kernel_rfl
theorem iz23 : (zeroT Tryd.prog 23).isSome = true := by kernel_rfl
theorem zk23 : zOk Tryd.prog 23 = true := by kernel_rfl
theorem iu23 : (Tryd.prog.underlying 23).isSome = true := by kernel_rfl
theorem ap23 : appT Tryd.prog #[23, 23] = some 36 := by kernel_rfl
theorem u24 : Tryd.prog.underlying 24 = some (.int .i64) := by kernel_rfl
theorem sz24 : szT Tryd.prog 24 = 1 := by kernel_rfl
theorem by24 : byT Tryd.prog 24 = 8 := by kernel_rfl
theorem ag24 : aggT Tryd.prog 24 = some false := by kernel_rfl
theorem so24 : structOk Tryd.prog 24 = false := by kernel_rfl
theorem iz24 : (zeroT Tryd.prog 24).isSome = true := by kernel_rfl
theorem zk24 : zOk Tryd.prog 24 = true := by kernel_rfl
theorem iu24 : (Tryd.prog.underlying 24).isSome = true := by kernel_rfl
theorem u27 : Tryd.prog.underlying 27 = some (.slice 41) := by kernel_rfl
theorem sz27 : szT Tryd.prog 27 = 1 := by kernel_rfl
theorem by27 : byT Tryd.prog 27 = 24 := by kernel_rfl
theorem ag27 : aggT Tryd.prog 27 = some false := by kernel_rfl
theorem so27 : structOk Tryd.prog 27 = false := by kernel_rfl
theorem iz27 : (zeroT Tryd.prog 27).isSome = true := by kernel_rfl
theorem zk27 : zOk Tryd.prog 27 = true := by kernel_rfl
theorem iu27 : (Tryd.prog.underlying 27).isSome = true := by kernel_rfl
theorem ap27 : appT Tryd.prog #[27, 27] = some 41 := by kernel_rfl
theorem u33 : Tryd.prog.underlying 33 = some (.int .u16) := by kernel_rfl
theorem sz33 : szT Tryd.prog 33 = 1 := by kernel_rfl
theorem by33 : byT Tryd.prog 33 = 2 := by kernel_rfl
theorem ag33 : aggT Tryd.prog 33 = some false := by kernel_rfl
theorem so33 : structOk Tryd.prog 33 = false := by kernel_rfl
theorem iz33 : (zeroT Tryd.prog 33).isSome = true := by kernel_rfl
theorem zk33 : zOk Tryd.prog 33 = true := by kernel_rfl
theorem iu33 : (Tryd.prog.underlying 33).isSome = true := by kernel_rfl
theorem sz35 : szT Tryd.prog 35 = 4 := by kernel_rfl
theorem by35 : byT Tryd.prog 35 = 40 := by kernel_rfl
theorem ag35 : aggT Tryd.prog 35 = some true := by kernel_rfl
theorem so35 : structOk Tryd.prog 35 = true := by kernel_rfl
theorem fl35_0 : fieldT Tryd.prog 35 0 = some (3, 0) := by kernel_rfl
theorem fl35_1 : fieldT Tryd.prog 35 1 = some (9, 1) := by kernel_rfl
theorem fl35_2 : fieldT Tryd.prog 35 2 = some (3, 2) := by kernel_rfl
theorem fl35_3 : fieldT Tryd.prog 35 3 = some (3, 3) := by kernel_rfl
theorem se35 : seqK Tryd.prog 35 = some [0, 1, 0, 0] := by kernel_rfl
theorem iz35 : (zeroT Tryd.prog 35).isSome = true := by kernel_rfl
theorem zk35 : zOk Tryd.prog 35 = true := by kernel_rfl
theorem iu35 : (Tryd.prog.underlying 35).isSome = true := by kernel_rfl
theorem sz36 : szT Tryd.prog 36 = 4 := by kernel_rfl
theorem by36 : byT Tryd.prog 36 = 40 := by kernel_rfl
theorem ag36 : aggT Tryd.prog 36 = some true := by kernel_rfl
theorem so36 : structOk Tryd.prog 36 = true := by kernel_rfl
theorem fl36_0 : fieldT Tryd.prog 36 0 = some (3, 0) := by kernel_rfl
theorem fl36_1 : fieldT Tryd.prog 36 1 = some (9, 1) := by kernel_rfl
theorem fl36_2 : fieldT Tryd.prog 36 2 = some (3, 2) := by kernel_rfl
theorem fl36_3 : fieldT Tryd.prog 36 3 = some (3, 3) := by kernel_rfl
theorem se36 : seqK Tryd.prog 36 = some [0, 1, 0, 0] := by kernel_rfl
theorem iz36 : (zeroT Tryd.prog 36).isSome = true := by kernel_rfl
theorem zk36 : zOk Tryd.prog 36 = true := by kernel_rfl
theorem iu36 : (Tryd.prog.underlying 36).isSome = true := by kernel_rfl
theorem sz41 : szT Tryd.prog 41 = 4 := by kernel_rfl
theorem by41 : byT Tryd.prog 41 = 40 := by kernel_rfl
theorem ag41 : aggT Tryd.prog 41 = some true := by kernel_rfl
theorem so41 : structOk Tryd.prog 41 = true := by kernel_rfl
theorem fl41_0 : fieldT Tryd.prog 41 0 = some (3, 0) := by kernel_rfl
theorem fl41_1 : fieldT Tryd.prog 41 1 = some (9, 1) := by kernel_rfl
theorem fl41_2 : fieldT Tryd.prog 41 2 = some (3, 2) := by kernel_rfl
theorem fl41_3 : fieldT Tryd.prog 41 3 = some (3, 3) := by kernel_rfl
theorem se41 : seqK Tryd.prog 41 = some [0, 1, 0, 0] := by kernel_rfl
theorem iz41 : (zeroT Tryd.prog 41).isSome = true := by kernel_rfl
theorem zk41 : zOk Tryd.prog 41 = true := by kernel_rfl
theorem iu41 : (Tryd.prog.underlying 41).isSome = true := by kernel_rfl
theorem u62 : Tryd.prog.underlying 62 = some (.slice 9) := by kernel_rfl
theorem sz62 : szT Tryd.prog 62 = 1 := by kernel_rfl
theorem by62 : byT Tryd.prog 62 = 24 := by kernel_rfl
theorem ag62 : aggT Tryd.prog 62 = some false := by kernel_rfl
theorem so62 : structOk Tryd.prog 62 = false := by kernel_rfl
theorem iz62 : (zeroT Tryd.prog 62).isSome = true := by kernel_rfl
theorem zk62 : zOk Tryd.prog 62 = true := by kernel_rfl
theorem iu62 : (Tryd.prog.underlying 62).isSome = true := by kernel_rfl
theorem ap62 : appT Tryd.prog #[62, 62] = some 9 := by kernel_rfl
theorem u64 : Tryd.prog.underlying 64 = some (.pointer 67) := by kernel_rfl
theorem sz64 : szT Tryd.prog 64 = 1 := by kernel_rfl
theorem by64 : byT Tryd.prog 64 = 8 := by kernel_rfl
theorem ag64 : aggT Tryd.prog 64 = some false := by kernel_rfl
theorem so64 : structOk Tryd.prog 64 = false := by kernel_rfl
theorem iz64 : (zeroT Tryd.prog 64).isSome = true := by kernel_rfl
theorem zk64 : zOk Tryd.prog 64 = true := by kernel_rfl
theorem iu64 : (Tryd.prog.underlying 64).isSome = true := by kernel_rfl
theorem u65 : Tryd.prog.underlying 65 = some (.slice 5) := by kernel_rfl
theorem sz65 : szT Tryd.prog 65 = 1 := by kernel_rfl
theorem by65 : byT Tryd.prog 65 = 24 := by kernel_rfl
theorem ag65 : aggT Tryd.prog 65 = some false := by kernel_rfl
theorem so65 : structOk Tryd.prog 65 = false := by kernel_rfl
theorem iz65 : (zeroT Tryd.prog 65).isSome = true := by kernel_rfl
theorem zk65 : zOk Tryd.prog 65 = true := by kernel_rfl
theorem iu65 : (Tryd.prog.underlying 65).isSome = true := by kernel_rfl
theorem ap65 : appT Tryd.prog #[65, 65] = some 5 := by kernel_rfl
theorem aps65 : appT Tryd.prog #[65, 9] = some 5 := by kernel_rfl
theorem sz66 : szT Tryd.prog 66 = 2 := by kernel_rfl
theorem by66 : byT Tryd.prog 66 = 32 := by kernel_rfl
theorem ag66 : aggT Tryd.prog 66 = some true := by kernel_rfl
theorem so66 : structOk Tryd.prog 66 = true := by kernel_rfl
theorem fl66_0 : fieldT Tryd.prog 66 0 = some (64, 0) := by kernel_rfl
theorem fl66_1 : fieldT Tryd.prog 66 1 = some (65, 1) := by kernel_rfl
theorem iz66 : (zeroT Tryd.prog 66).isSome = true := by kernel_rfl
theorem zk66 : zOk Tryd.prog 66 = true := by kernel_rfl
theorem iu66 : (Tryd.prog.underlying 66).isSome = true := by kernel_rfl
theorem sz67 : szT Tryd.prog 67 = 2 := by kernel_rfl
theorem by67 : byT Tryd.prog 67 = 32 := by kernel_rfl
theorem ag67 : aggT Tryd.prog 67 = some true := by kernel_rfl
theorem so67 : structOk Tryd.prog 67 = true := by kernel_rfl
theorem fl67_0 : fieldT Tryd.prog 67 0 = some (64, 0) := by kernel_rfl
theorem fl67_1 : fieldT Tryd.prog 67 1 = some (65, 1) := by kernel_rfl
theorem iz67 : (zeroT Tryd.prog 67).isSome = true := by kernel_rfl
theorem zk67 : zOk Tryd.prog 67 = true := by kernel_rfl
theorem iu67 : (Tryd.prog.underlying 67).isSome = true := by kernel_rfl
theorem u71 : Tryd.prog.underlying 71 = some (.array 28 9) := by kernel_rfl
theorem sz71 : szT Tryd.prog 71 = 28 := by kernel_rfl
theorem by71 : byT Tryd.prog 71 = 448 := by kernel_rfl
theorem ag71 : aggT Tryd.prog 71 = some true := by kernel_rfl
theorem so71 : structOk Tryd.prog 71 = false := by kernel_rfl
theorem iz71 : (zeroT Tryd.prog 71).isSome = true := by kernel_rfl
theorem zk71 : zOk Tryd.prog 71 = true := by kernel_rfl
theorem iu71 : (Tryd.prog.underlying 71).isSome = true := by kernel_rfl
theorem u75 : Tryd.prog.underlying 75 = some (.pointer 5) := by kernel_rfl
theorem sz75 : szT Tryd.prog 75 = 1 := by kernel_rfl
theorem by75 : byT Tryd.prog 75 = 8 := by kernel_rfl
theorem ag75 : aggT Tryd.prog 75 = some false := by kernel_rfl
theorem so75 : structOk Tryd.prog 75 = false := by kernel_rfl
theorem iz75 : (zeroT Tryd.prog 75).isSome = true := by kernel_rfl
theorem zk75 : zOk Tryd.prog 75 = true := by kernel_rfl
theorem iu75 : (Tryd.prog.underlying 75).isSome = true := by kernel_rfl
theorem u76 : Tryd.prog.underlying 76 = some (.int .i64) := by kernel_rfl
theorem sz76 : szT Tryd.prog 76 = 1 := by kernel_rfl
theorem by76 : byT Tryd.prog 76 = 8 := by kernel_rfl
theorem ag76 : aggT Tryd.prog 76 = some false := by kernel_rfl
theorem so76 : structOk Tryd.prog 76 = false := by kernel_rfl
theorem iz76 : (zeroT Tryd.prog 76).isSome = true := by kernel_rfl
theorem zk76 : zOk Tryd.prog 76 = true := by kernel_rfl
theorem iu76 : (Tryd.prog.underlying 76).isSome = true := by kernel_rfl
theorem u79 : Tryd.prog.underlying 79 = some (.pointer 90) := by kernel_rfl
theorem sz79 : szT Tryd.prog 79 = 1 := by kernel_rfl
theorem by79 : byT Tryd.prog 79 = 8 := by kernel_rfl
theorem ag79 : aggT Tryd.prog 79 = some false := by kernel_rfl
theorem so79 : structOk Tryd.prog 79 = false := by kernel_rfl
theorem iz79 : (zeroT Tryd.prog 79).isSome = true := by kernel_rfl
theorem zk79 : zOk Tryd.prog 79 = true := by kernel_rfl
theorem iu79 : (Tryd.prog.underlying 79).isSome = true := by kernel_rfl
theorem u85 : Tryd.prog.underlying 85 = some (.int .u64) := by kernel_rfl
theorem sz85 : szT Tryd.prog 85 = 1 := by kernel_rfl
theorem by85 : byT Tryd.prog 85 = 8 := by kernel_rfl
theorem ag85 : aggT Tryd.prog 85 = some false := by kernel_rfl
theorem so85 : structOk Tryd.prog 85 = false := by kernel_rfl
theorem iz85 : (zeroT Tryd.prog 85).isSome = true := by kernel_rfl
theorem zk85 : zOk Tryd.prog 85 = true := by kernel_rfl
theorem iu85 : (Tryd.prog.underlying 85).isSome = true := by kernel_rfl
theorem u86 : Tryd.prog.underlying 86 = some (.int .u64) := by kernel_rfl
theorem sz86 : szT Tryd.prog 86 = 1 := by kernel_rfl
theorem by86 : byT Tryd.prog 86 = 8 := by kernel_rfl
theorem ag86 : aggT Tryd.prog 86 = some false := by kernel_rfl
theorem so86 : structOk Tryd.prog 86 = false := by kernel_rfl
theorem iz86 : (zeroT Tryd.prog 86).isSome = true := by kernel_rfl
theorem zk86 : zOk Tryd.prog 86 = true := by kernel_rfl
theorem iu86 : (Tryd.prog.underlying 86).isSome = true := by kernel_rfl
theorem sz89 : szT Tryd.prog 89 = 3 := by kernel_rfl
theorem by89 : byT Tryd.prog 89 = 48 := by kernel_rfl
theorem ag89 : aggT Tryd.prog 89 = some true := by kernel_rfl
theorem so89 : structOk Tryd.prog 89 = true := by kernel_rfl
theorem fl89_0 : fieldT Tryd.prog 89 0 = some (9, 0) := by kernel_rfl
theorem fl89_1 : fieldT Tryd.prog 89 1 = some (9, 1) := by kernel_rfl
theorem fl89_2 : fieldT Tryd.prog 89 2 = some (56, 2) := by kernel_rfl
theorem iz89 : (zeroT Tryd.prog 89).isSome = true := by kernel_rfl
theorem zk89 : zOk Tryd.prog 89 = true := by kernel_rfl
theorem iu89 : (Tryd.prog.underlying 89).isSome = true := by kernel_rfl
theorem sz90 : szT Tryd.prog 90 = 3 := by kernel_rfl
theorem by90 : byT Tryd.prog 90 = 48 := by kernel_rfl
theorem ag90 : aggT Tryd.prog 90 = some true := by kernel_rfl
theorem so90 : structOk Tryd.prog 90 = true := by kernel_rfl
theorem fl90_0 : fieldT Tryd.prog 90 0 = some (9, 0) := by kernel_rfl
theorem fl90_1 : fieldT Tryd.prog 90 1 = some (9, 1) := by kernel_rfl
theorem fl90_2 : fieldT Tryd.prog 90 2 = some (56, 2) := by kernel_rfl
theorem iz90 : (zeroT Tryd.prog 90).isSome = true := by kernel_rfl
theorem zk90 : zOk Tryd.prog 90 = true := by kernel_rfl
theorem iu90 : (Tryd.prog.underlying 90).isSome = true := by kernel_rfl
theorem u93 : Tryd.prog.underlying 93 = some (.int .u32) := by kernel_rfl
theorem sz93 : szT Tryd.prog 93 = 1 := by kernel_rfl
theorem by93 : byT Tryd.prog 93 = 4 := by kernel_rfl
theorem ag93 : aggT Tryd.prog 93 = some false := by kernel_rfl
theorem so93 : structOk Tryd.prog 93 = false := by kernel_rfl
theorem iz93 : (zeroT Tryd.prog 93).isSome = true := by kernel_rfl
theorem zk93 : zOk Tryd.prog 93 = true := by kernel_rfl
theorem iu93 : (Tryd.prog.underlying 93).isSome = true := by kernel_rfl
theorem u97 : Tryd.prog.underlying 97 = some (.pointer 99) := by kernel_rfl
theorem sz97 : szT Tryd.prog 97 = 1 := by kernel_rfl
theorem by97 : byT Tryd.prog 97 = 8 := by kernel_rfl
theorem ag97 : aggT Tryd.prog 97 = some false := by kernel_rfl
theorem so97 : structOk Tryd.prog 97 = false := by kernel_rfl
theorem iz97 : (zeroT Tryd.prog 97).isSome = true := by kernel_rfl
theorem zk97 : zOk Tryd.prog 97 = true := by kernel_rfl
theorem iu97 : (Tryd.prog.underlying 97).isSome = true := by kernel_rfl
theorem sz98 : szT Tryd.prog 98 = 1 := by kernel_rfl
theorem by98 : byT Tryd.prog 98 = 16 := by kernel_rfl
theorem ag98 : aggT Tryd.prog 98 = some true := by kernel_rfl
theorem so98 : structOk Tryd.prog 98 = true := by kernel_rfl
theorem fl98_0 : fieldT Tryd.prog 98 0 = some (9, 0) := by kernel_rfl
theorem se98 : seqK Tryd.prog 98 = some [1] := by kernel_rfl
theorem iz98 : (zeroT Tryd.prog 98).isSome = true := by kernel_rfl
theorem zk98 : zOk Tryd.prog 98 = true := by kernel_rfl
theorem iu98 : (Tryd.prog.underlying 98).isSome = true := by kernel_rfl
theorem sz99 : szT Tryd.prog 99 = 1 := by kernel_rfl
theorem by99 : byT Tryd.prog 99 = 16 := by kernel_rfl
theorem ag99 : aggT Tryd.prog 99 = some true := by kernel_rfl
theorem so99 : structOk Tryd.prog 99 = true := by kernel_rfl
theorem fl99_0 : fieldT Tryd.prog 99 0 = some (9, 0) := by kernel_rfl
theorem se99 : seqK Tryd.prog 99 = some [1] := by kernel_rfl
theorem iz99 : (zeroT Tryd.prog 99).isSome = true := by kernel_rfl
theorem zk99 : zOk Tryd.prog 99 = true := by kernel_rfl
theorem iu99 : (Tryd.prog.underlying 99).isSome = true := by kernel_rfl
theorem u101 : Tryd.prog.underlying 101 = some (.array 24 5) := by kernel_rfl
theorem sz101 : szT Tryd.prog 101 = 24 := by kernel_rfl
theorem by101 : byT Tryd.prog 101 = 24 := by kernel_rfl
theorem ag101 : aggT Tryd.prog 101 = some true := by kernel_rfl
theorem so101 : structOk Tryd.prog 101 = false := by kernel_rfl
theorem iz101 : (zeroT Tryd.prog 101).isSome = true := by kernel_rfl
theorem zk101 : zOk Tryd.prog 101 = true := by kernel_rfl
theorem iu101 : (Tryd.prog.underlying 101).isSome = true := by kernel_rfl
theorem u107 : Tryd.prog.underlying 107 = some (.array 20 86) := by kernel_rfl
theorem sz107 : szT Tryd.prog 107 = 20 := by kernel_rfl
theorem by107 : byT Tryd.prog 107 = 160 := by kernel_rfl
theorem ag107 : aggT Tryd.prog 107 = some true := by kernel_rfl
theorem so107 : structOk Tryd.prog 107 = false := by kernel_rfl
theorem iz107 : (zeroT Tryd.prog 107).isSome = true := by kernel_rfl
theorem zk107 : zOk Tryd.prog 107 = true := by kernel_rfl
theorem iu107 : (Tryd.prog.underlying 107).isSome = true := by kernel_rfl
theorem u108 : Tryd.prog.underlying 108 = some (.array 65 5) := by kernel_rfl
theorem sz108 : szT Tryd.prog 108 = 65 := by kernel_rfl
theorem by108 : byT Tryd.prog 108 = 65 := by kernel_rfl
theorem ag108 : aggT Tryd.prog 108 = some true := by kernel_rfl
theorem so108 : structOk Tryd.prog 108 = false := by kernel_rfl
theorem iz108 : (zeroT Tryd.prog 108).isSome = true := by kernel_rfl
theorem zk108 : zOk Tryd.prog 108 = true := by kernel_rfl
theorem iu108 : (Tryd.prog.underlying 108).isSome = true := by kernel_rfl
theorem u112 : Tryd.prog.underlying 112 = some (.array 32 5) := by kernel_rfl
theorem sz112 : szT Tryd.prog 112 = 32 := by kernel_rfl
theorem by112 : byT Tryd.prog 112 = 32 := by kernel_rfl
theorem ag112 : aggT Tryd.prog 112 = some true := by kernel_rfl
theorem so112 : structOk Tryd.prog 112 = false := by kernel_rfl
theorem iz112 : (zeroT Tryd.prog 112).isSome = true := by kernel_rfl
theorem zk112 : zOk Tryd.prog 112 = true := by kernel_rfl
theorem iu112 : (Tryd.prog.underlying 112).isSome = true := by kernel_rfl
theorem u113 : Tryd.prog.underlying 113 = some (.array 64 5) := by kernel_rfl
theorem sz113 : szT Tryd.prog 113 = 64 := by kernel_rfl
theorem by113 : byT Tryd.prog 113 = 64 := by kernel_rfl
theorem ag113 : aggT Tryd.prog 113 = some true := by kernel_rfl
theorem so113 : structOk Tryd.prog 113 = false := by kernel_rfl
theorem iz113 : (zeroT Tryd.prog 113).isSome = true := by kernel_rfl
theorem zk113 : zOk Tryd.prog 113 = true := by kernel_rfl
theorem iu113 : (Tryd.prog.underlying 113).isSome = true := by kernel_rfl
theorem sz114 : szT Tryd.prog 114 = 4 := by kernel_rfl
theorem by114 : byT Tryd.prog 114 = 40 := by kernel_rfl
theorem ag114 : aggT Tryd.prog 114 = some true := by kernel_rfl
theorem so114 : structOk Tryd.prog 114 = true := by kernel_rfl
theorem fl114_0 : fieldT Tryd.prog 114 0 = some (17, 0) := by kernel_rfl
theorem fl114_1 : fieldT Tryd.prog 114 1 = some (17, 1) := by kernel_rfl
theorem fl114_2 : fieldT Tryd.prog 114 2 = some (17, 2) := by kernel_rfl
theorem fl114_3 : fieldT Tryd.prog 114 3 = some (9, 3) := by kernel_rfl
theorem iz114 : (zeroT Tryd.prog 114).isSome = true := by kernel_rfl
theorem zk114 : zOk Tryd.prog 114 = true := by kernel_rfl
theorem iu114 : (Tryd.prog.underlying 114).isSome = true := by kernel_rfl
theorem sz115 : szT Tryd.prog 115 = 4 := by kernel_rfl
theorem by115 : byT Tryd.prog 115 = 40 := by kernel_rfl
theorem ag115 : aggT Tryd.prog 115 = some true := by kernel_rfl
theorem so115 : structOk Tryd.prog 115 = true := by kernel_rfl
theorem fl115_0 : fieldT Tryd.prog 115 0 = some (17, 0) := by kernel_rfl
theorem fl115_1 : fieldT Tryd.prog 115 1 = some (17, 1) := by kernel_rfl
theorem fl115_2 : fieldT Tryd.prog 115 2 = some (17, 2) := by kernel_rfl
theorem fl115_3 : fieldT Tryd.prog 115 3 = some (9, 3) := by kernel_rfl
theorem iz115 : (zeroT Tryd.prog 115).isSome = true := by kernel_rfl
theorem zk115 : zOk Tryd.prog 115 = true := by kernel_rfl
theorem iu115 : (Tryd.prog.underlying 115).isSome = true := by kernel_rfl
theorem u116 : Tryd.prog.underlying 116 = some (.array 0 16) := by kernel_rfl
theorem sz116 : szT Tryd.prog 116 = 0 := by kernel_rfl
theorem by116 : byT Tryd.prog 116 = 0 := by kernel_rfl
theorem ag116 : aggT Tryd.prog 116 = some true := by kernel_rfl
theorem so116 : structOk Tryd.prog 116 = false := by kernel_rfl
theorem iz116 : (zeroT Tryd.prog 116).isSome = true := by kernel_rfl
theorem zk116 : zOk Tryd.prog 116 = true := by kernel_rfl
theorem iu116 : (Tryd.prog.underlying 116).isSome = true := by kernel_rfl
theorem sz117 : szT Tryd.prog 117 = 0 := by kernel_rfl
theorem by117 : byT Tryd.prog 117 = 0 := by kernel_rfl
theorem ag117 : aggT Tryd.prog 117 = some true := by kernel_rfl
theorem so117 : structOk Tryd.prog 117 = true := by kernel_rfl
theorem fl117_0 : fieldT Tryd.prog 117 0 = some (116, 0) := by kernel_rfl
theorem iz117 : (zeroT Tryd.prog 117).isSome = true := by kernel_rfl
theorem zk117 : zOk Tryd.prog 117 = true := by kernel_rfl
theorem iu117 : (Tryd.prog.underlying 117).isSome = true := by kernel_rfl
theorem sz118 : szT Tryd.prog 118 = 0 := by kernel_rfl
theorem by118 : byT Tryd.prog 118 = 0 := by kernel_rfl
theorem ag118 : aggT Tryd.prog 118 = some true := by kernel_rfl
theorem so118 : structOk Tryd.prog 118 = true := by kernel_rfl
theorem fl118_0 : fieldT Tryd.prog 118 0 = some (116, 0) := by kernel_rfl
theorem iz118 : (zeroT Tryd.prog 118).isSome = true := by kernel_rfl
theorem zk118 : zOk Tryd.prog 118 = true := by kernel_rfl
theorem iu118 : (Tryd.prog.underlying 118).isSome = true := by kernel_rfl
theorem u120 : Tryd.prog.underlying 120 = some (.int .u8) := by kernel_rfl
theorem sz120 : szT Tryd.prog 120 = 1 := by kernel_rfl
theorem by120 : byT Tryd.prog 120 = 1 := by kernel_rfl
theorem ag120 : aggT Tryd.prog 120 = some false := by kernel_rfl
theorem so120 : structOk Tryd.prog 120 = false := by kernel_rfl
theorem iz120 : (zeroT Tryd.prog 120).isSome = true := by kernel_rfl
theorem zk120 : zOk Tryd.prog 120 = true := by kernel_rfl
theorem iu120 : (Tryd.prog.underlying 120).isSome = true := by kernel_rfl
theorem u121 : Tryd.prog.underlying 121 = some (.int .u8) := by kernel_rfl
theorem sz121 : szT Tryd.prog 121 = 1 := by kernel_rfl
theorem by121 : byT Tryd.prog 121 = 1 := by kernel_rfl
theorem ag121 : aggT Tryd.prog 121 = some false := by kernel_rfl
theorem so121 : structOk Tryd.prog 121 = false := by kernel_rfl
theorem iz121 : (zeroT Tryd.prog 121).isSome = true := by kernel_rfl
theorem zk121 : zOk Tryd.prog 121 = true := by kernel_rfl
theorem iu121 : (Tryd.prog.underlying 121).isSome = true := by kernel_rfl
theorem u123 : Tryd.prog.underlying 123 = some (.int .i32) := by kernel_rfl
theorem sz123 : szT Tryd.prog 123 = 1 := by kernel_rfl
theorem by123 : byT Tryd.prog 123 = 4 := by kernel_rfl
theorem ag123 : aggT Tryd.prog 123 = some false := by kernel_rfl
theorem so123 : structOk Tryd.prog 123 = false := by kernel_rfl
theorem iz123 : (zeroT Tryd.prog 123).isSome = true := by kernel_rfl
theorem zk123 : zOk Tryd.prog 123 = true := by kernel_rfl
theorem iu123 : (Tryd.prog.underlying 123).isSome = true := by kernel_rfl
theorem u124 : Tryd.prog.underlying 124 = some (.int .i32) := by kernel_rfl
theorem sz124 : szT Tryd.prog 124 = 1 := by kernel_rfl
theorem by124 : byT Tryd.prog 124 = 4 := by kernel_rfl
theorem ag124 : aggT Tryd.prog 124 = some false := by kernel_rfl
theorem so124 : structOk Tryd.prog 124 = false := by kernel_rfl
theorem iz124 : (zeroT Tryd.prog 124).isSome = true := by kernel_rfl
theorem zk124 : zOk Tryd.prog 124 = true := by kernel_rfl
theorem iu124 : (Tryd.prog.underlying 124).isSome = true := by kernel_rfl
theorem sz125 : szT Tryd.prog 125 = 11 := by kernel_rfl
theorem by125 : byT Tryd.prog 125 = 48 := by kernel_rfl
theorem ag125 : aggT Tryd.prog 125 = some true := by kernel_rfl
theorem so125 : structOk Tryd.prog 125 = true := by kernel_rfl
theorem fl125_0 : fieldT Tryd.prog 125 0 = some (12, 0) := by kernel_rfl
theorem fl125_1 : fieldT Tryd.prog 125 1 = some (12, 1) := by kernel_rfl
theorem fl125_2 : fieldT Tryd.prog 125 2 = some (93, 2) := by kernel_rfl
theorem fl125_3 : fieldT Tryd.prog 125 3 = some (120, 3) := by kernel_rfl
theorem fl125_4 : fieldT Tryd.prog 125 4 = some (5, 4) := by kernel_rfl
theorem fl125_5 : fieldT Tryd.prog 125 5 = some (5, 5) := by kernel_rfl
theorem fl125_6 : fieldT Tryd.prog 125 6 = some (121, 6) := by kernel_rfl
theorem fl125_7 : fieldT Tryd.prog 125 7 = some (122, 7) := by kernel_rfl
theorem fl125_8 : fieldT Tryd.prog 125 8 = some (75, 8) := by kernel_rfl
theorem fl125_9 : fieldT Tryd.prog 125 9 = some (123, 9) := by kernel_rfl
theorem fl125_10 : fieldT Tryd.prog 125 10 = some (124, 10) := by kernel_rfl
theorem iz125 : (zeroT Tryd.prog 125).isSome = true := by kernel_rfl
theorem zk125 : zOk Tryd.prog 125 = true := by kernel_rfl
theorem iu125 : (Tryd.prog.underlying 125).isSome = true := by kernel_rfl
theorem sz126 : szT Tryd.prog 126 = 11 := by kernel_rfl
theorem by126 : byT Tryd.prog 126 = 48 := by kernel_rfl
theorem ag126 : aggT Tryd.prog 126 = some true := by kernel_rfl
theorem so126 : structOk Tryd.prog 126 = true := by kernel_rfl
theorem fl126_0 : fieldT Tryd.prog 126 0 = some (12, 0) := by kernel_rfl
theorem fl126_1 : fieldT Tryd.prog 126 1 = some (12, 1) := by kernel_rfl
theorem fl126_2 : fieldT Tryd.prog 126 2 = some (93, 2) := by kernel_rfl
theorem fl126_3 : fieldT Tryd.prog 126 3 = some (120, 3) := by kernel_rfl
theorem fl126_4 : fieldT Tryd.prog 126 4 = some (5, 4) := by kernel_rfl
theorem fl126_5 : fieldT Tryd.prog 126 5 = some (5, 5) := by kernel_rfl
theorem fl126_6 : fieldT Tryd.prog 126 6 = some (121, 6) := by kernel_rfl
theorem fl126_7 : fieldT Tryd.prog 126 7 = some (122, 7) := by kernel_rfl
theorem fl126_8 : fieldT Tryd.prog 126 8 = some (75, 8) := by kernel_rfl
theorem fl126_9 : fieldT Tryd.prog 126 9 = some (123, 9) := by kernel_rfl
theorem fl126_10 : fieldT Tryd.prog 126 10 = some (124, 10) := by kernel_rfl
theorem iz126 : (zeroT Tryd.prog 126).isSome = true := by kernel_rfl
theorem zk126 : zOk Tryd.prog 126 = true := by kernel_rfl
theorem iu126 : (Tryd.prog.underlying 126).isSome = true := by kernel_rfl
theorem if20 : isIfT Tryd.prog 20 = true := by kernel_rfl
theorem if55 : isIfT Tryd.prog 55 = true := by kernel_rfl
theorem if56 : isIfT Tryd.prog 56 = true := by kernel_rfl
def zerL : List (Nat × AV) := [(2, .lit (.int .i64 0)),
  (3, .lit (.int .i64 0)),
  (4, .lit (.bool false)),
  (5, .lit (.int .u8 0)),
  (6, .lit (.int .u8 0)),
  (7, .agg [.lit (.int .i64 0), .lit (.int .i64 0), .lit (.bool false), .lit (.int .u8 0)]),
  (8, .agg [.lit (.int .i64 0), .lit (.int .i64 0), .lit (.bool false), .lit (.int .u8 0)]),
  (9, .lit (.string ByteArray.empty)),
  (10, .lit (.string ByteArray.empty)),
  (11, .lit (.string ByteArray.empty)),
  (12, .lit (.int .u64 0)),
  (13, .agg [.lit (.string ByteArray.empty), .lit (.int .u64 0)]),
  (14, .agg [.lit (.string ByteArray.empty), .lit (.int .u64 0)]),
  (15, .lit (.pointer none)),
  (16, .lit (.pointer none)),
  (17, .lit (.pointer none)),
  (18, .agg [.lit (.pointer none)]),
  (19, .agg [.lit (.pointer none)]),
  (21, .lit (.int .i32 0)),
  (23, .sl true 4 []),
  (24, .lit (.int .i64 0)),
  (27, .sl true 4 []),
  (33, .lit (.int .u16 0)),
  (35, .agg [.lit (.int .i64 0), .lit (.string ByteArray.empty), .lit (.int .i64 0), .lit (.int .i64 0)]),
  (36, .agg [.lit (.int .i64 0), .lit (.string ByteArray.empty), .lit (.int .i64 0), .lit (.int .i64 0)]),
  (41, .agg [.lit (.int .i64 0), .lit (.string ByteArray.empty), .lit (.int .i64 0), .lit (.int .i64 0)]),
  (62, .sl true 1 []),
  (64, .lit (.pointer none)),
  (65, .sl true 1 []),
  (66, .agg [.lit (.pointer none), .sl true 1 []]),
  (67, .agg [.lit (.pointer none), .sl true 1 []]),
  (71, .agg [.lit (.string ByteArray.empty), .lit (.string ByteArray.empty), .lit (.string ByteArray.empty), .lit (.string ByteArray.empty), .lit (.string ByteArray.empty), .lit (.string ByteArray.empty), .lit (.string ByteArray.empty), .lit (.string ByteArray.empty), .lit (.string ByteArray.empty), .lit (.string ByteArray.empty), .lit (.string ByteArray.empty), .lit (.string ByteArray.empty), .lit (.string ByteArray.empty), .lit (.string ByteArray.empty), .lit (.string ByteArray.empty), .lit (.string ByteArray.empty), .lit (.string ByteArray.empty), .lit (.string ByteArray.empty), .lit (.string ByteArray.empty), .lit (.string ByteArray.empty), .lit (.string ByteArray.empty), .lit (.string ByteArray.empty), .lit (.string ByteArray.empty), .lit (.string ByteArray.empty), .lit (.string ByteArray.empty), .lit (.string ByteArray.empty), .lit (.string ByteArray.empty), .lit (.string ByteArray.empty)]),
  (75, .lit (.pointer none)),
  (76, .lit (.int .i64 0)),
  (79, .lit (.pointer none)),
  (85, .lit (.int .u64 0)),
  (86, .lit (.int .u64 0)),
  (89, .agg [.lit (.string ByteArray.empty), .lit (.string ByteArray.empty), .lit .nilIface]),
  (90, .agg [.lit (.string ByteArray.empty), .lit (.string ByteArray.empty), .lit .nilIface]),
  (93, .lit (.int .u32 0)),
  (97, .lit (.pointer none)),
  (98, .agg [.lit (.string ByteArray.empty)]),
  (99, .agg [.lit (.string ByteArray.empty)]),
  (101, .agg [.lit (.int .u8 0), .lit (.int .u8 0), .lit (.int .u8 0), .lit (.int .u8 0), .lit (.int .u8 0), .lit (.int .u8 0), .lit (.int .u8 0), .lit (.int .u8 0), .lit (.int .u8 0), .lit (.int .u8 0), .lit (.int .u8 0), .lit (.int .u8 0), .lit (.int .u8 0), .lit (.int .u8 0), .lit (.int .u8 0), .lit (.int .u8 0), .lit (.int .u8 0), .lit (.int .u8 0), .lit (.int .u8 0), .lit (.int .u8 0), .lit (.int .u8 0), .lit (.int .u8 0), .lit (.int .u8 0), .lit (.int .u8 0)]),
  (107, .agg [.lit (.int .u64 0), .lit (.int .u64 0), .lit (.int .u64 0), .lit (.int .u64 0), .lit (.int .u64 0), .lit (.int .u64 0), .lit (.int .u64 0), .lit (.int .u64 0), .lit (.int .u64 0), .lit (.int .u64 0), .lit (.int .u64 0), .lit (.int .u64 0), .lit (.int .u64 0), .lit (.int .u64 0), .lit (.int .u64 0), .lit (.int .u64 0), .lit (.int .u64 0), .lit (.int .u64 0), .lit (.int .u64 0), .lit (.int .u64 0)]),
  (108, .agg [.lit (.int .u8 0), .lit (.int .u8 0), .lit (.int .u8 0), .lit (.int .u8 0), .lit (.int .u8 0), .lit (.int .u8 0), .lit (.int .u8 0), .lit (.int .u8 0), .lit (.int .u8 0), .lit (.int .u8 0), .lit (.int .u8 0), .lit (.int .u8 0), .lit (.int .u8 0), .lit (.int .u8 0), .lit (.int .u8 0), .lit (.int .u8 0), .lit (.int .u8 0), .lit (.int .u8 0), .lit (.int .u8 0), .lit (.int .u8 0), .lit (.int .u8 0), .lit (.int .u8 0), .lit (.int .u8 0), .lit (.int .u8 0), .lit (.int .u8 0), .lit (.int .u8 0), .lit (.int .u8 0), .lit (.int .u8 0), .lit (.int .u8 0), .lit (.int .u8 0), .lit (.int .u8 0), .lit (.int .u8 0), .lit (.int .u8 0), .lit (.int .u8 0), .lit (.int .u8 0), .lit (.int .u8 0), .lit (.int .u8 0), .lit (.int .u8 0), .lit (.int .u8 0), .lit (.int .u8 0), .lit (.int .u8 0), .lit (.int .u8 0), .lit (.int .u8 0), .lit (.int .u8 0), .lit (.int .u8 0), .lit (.int .u8 0), .lit (.int .u8 0), .lit (.int .u8 0), .lit (.int .u8 0), .lit (.int .u8 0), .lit (.int .u8 0), .lit (.int .u8 0), .lit (.int .u8 0), .lit (.int .u8 0), .lit (.int .u8 0), .lit (.int .u8 0), .lit (.int .u8 0), .lit (.int .u8 0), .lit (.int .u8 0), .lit (.int .u8 0), .lit (.int .u8 0), .lit (.int .u8 0), .lit (.int .u8 0), .lit (.int .u8 0), .lit (.int .u8 0)]),
  (112, .agg [.lit (.int .u8 0), .lit (.int .u8 0), .lit (.int .u8 0), .lit (.int .u8 0), .lit (.int .u8 0), .lit (.int .u8 0), .lit (.int .u8 0), .lit (.int .u8 0), .lit (.int .u8 0), .lit (.int .u8 0), .lit (.int .u8 0), .lit (.int .u8 0), .lit (.int .u8 0), .lit (.int .u8 0), .lit (.int .u8 0), .lit (.int .u8 0), .lit (.int .u8 0), .lit (.int .u8 0), .lit (.int .u8 0), .lit (.int .u8 0), .lit (.int .u8 0), .lit (.int .u8 0), .lit (.int .u8 0), .lit (.int .u8 0), .lit (.int .u8 0), .lit (.int .u8 0), .lit (.int .u8 0), .lit (.int .u8 0), .lit (.int .u8 0), .lit (.int .u8 0), .lit (.int .u8 0), .lit (.int .u8 0)]),
  (113, .agg [.lit (.int .u8 0), .lit (.int .u8 0), .lit (.int .u8 0), .lit (.int .u8 0), .lit (.int .u8 0), .lit (.int .u8 0), .lit (.int .u8 0), .lit (.int .u8 0), .lit (.int .u8 0), .lit (.int .u8 0), .lit (.int .u8 0), .lit (.int .u8 0), .lit (.int .u8 0), .lit (.int .u8 0), .lit (.int .u8 0), .lit (.int .u8 0), .lit (.int .u8 0), .lit (.int .u8 0), .lit (.int .u8 0), .lit (.int .u8 0), .lit (.int .u8 0), .lit (.int .u8 0), .lit (.int .u8 0), .lit (.int .u8 0), .lit (.int .u8 0), .lit (.int .u8 0), .lit (.int .u8 0), .lit (.int .u8 0), .lit (.int .u8 0), .lit (.int .u8 0), .lit (.int .u8 0), .lit (.int .u8 0), .lit (.int .u8 0), .lit (.int .u8 0), .lit (.int .u8 0), .lit (.int .u8 0), .lit (.int .u8 0), .lit (.int .u8 0), .lit (.int .u8 0), .lit (.int .u8 0), .lit (.int .u8 0), .lit (.int .u8 0), .lit (.int .u8 0), .lit (.int .u8 0), .lit (.int .u8 0), .lit (.int .u8 0), .lit (.int .u8 0), .lit (.int .u8 0), .lit (.int .u8 0), .lit (.int .u8 0), .lit (.int .u8 0), .lit (.int .u8 0), .lit (.int .u8 0), .lit (.int .u8 0), .lit (.int .u8 0), .lit (.int .u8 0), .lit (.int .u8 0), .lit (.int .u8 0), .lit (.int .u8 0), .lit (.int .u8 0), .lit (.int .u8 0), .lit (.int .u8 0), .lit (.int .u8 0), .lit (.int .u8 0)]),
  (114, .agg [.lit (.pointer none), .lit (.pointer none), .lit (.pointer none), .lit (.string ByteArray.empty)]),
  (115, .agg [.lit (.pointer none), .lit (.pointer none), .lit (.pointer none), .lit (.string ByteArray.empty)]),
  (120, .lit (.int .u8 0)),
  (121, .lit (.int .u8 0)),
  (123, .lit (.int .i32 0)),
  (124, .lit (.int .i32 0)),
  (125, .agg [.lit (.int .u64 0), .lit (.int .u64 0), .lit (.int .u32 0), .lit (.int .u8 0), .lit (.int .u8 0), .lit (.int .u8 0), .lit (.int .u8 0), .lit .nilFunc, .lit (.pointer none), .lit (.int .i32 0), .lit (.int .i32 0)]),
  (126, .agg [.lit (.int .u64 0), .lit (.int .u64 0), .lit (.int .u32 0), .lit (.int .u8 0), .lit (.int .u8 0), .lit (.int .u8 0), .lit (.int .u8 0), .lit .nilFunc, .lit (.pointer none), .lit (.int .i32 0), .lit (.int .i32 0)])]
def zer (t : TypeId) : AV := lookZ zerL t
theorem zr2 : ZerOk Tryd.prog (2, .lit (.int .i64 0)) := fun v h => by
  rw [show zeroT Tryd.prog 2 = some (.int .i64 0) from by kernel_rfl] at h; cases h; exact .lit _
theorem zv2 : zer 2 = .lit (.int .i64 0) := rfl
theorem zr3 : ZerOk Tryd.prog (3, .lit (.int .i64 0)) := fun v h => by
  rw [show zeroT Tryd.prog 3 = some (.int .i64 0) from by kernel_rfl] at h; cases h; exact .lit _
theorem zv3 : zer 3 = .lit (.int .i64 0) := rfl
theorem zr4 : ZerOk Tryd.prog (4, .lit (.bool false)) := fun v h => by
  rw [show zeroT Tryd.prog 4 = some (.bool false) from by kernel_rfl] at h; cases h; exact .lit _
theorem zv4 : zer 4 = .lit (.bool false) := rfl
theorem zr5 : ZerOk Tryd.prog (5, .lit (.int .u8 0)) := fun v h => by
  rw [show zeroT Tryd.prog 5 = some (.int .u8 0) from by kernel_rfl] at h; cases h; exact .lit _
theorem zv5 : zer 5 = .lit (.int .u8 0) := rfl
theorem zr6 : ZerOk Tryd.prog (6, .lit (.int .u8 0)) := fun v h => by
  rw [show zeroT Tryd.prog 6 = some (.int .u8 0) from by kernel_rfl] at h; cases h; exact .lit _
theorem zv6 : zer 6 = .lit (.int .u8 0) := rfl
theorem zr7 : ZerOk Tryd.prog (7, .agg [.lit (.int .i64 0), .lit (.int .i64 0), .lit (.bool false), .lit (.int .u8 0)]) := fun v h => by
  rw [show zeroT Tryd.prog 7 = some (.agg #[(.int .i64 0), (.int .i64 0), (.bool false), (.int .u8 0)]) from by kernel_rfl] at h; cases h
  exact zr_agg _ _ (zl_cons (.lit _) rfl (zl_cons (.lit _) rfl (zl_cons (.lit _) rfl (zl_cons (.lit _) rfl (zl_nil)))))
theorem zv7 : zer 7 = .agg [.lit (.int .i64 0), .lit (.int .i64 0), .lit (.bool false), .lit (.int .u8 0)] := rfl
theorem zr8 : ZerOk Tryd.prog (8, .agg [.lit (.int .i64 0), .lit (.int .i64 0), .lit (.bool false), .lit (.int .u8 0)]) := fun v h => by
  rw [show zeroT Tryd.prog 8 = some (.agg #[(.int .i64 0), (.int .i64 0), (.bool false), (.int .u8 0)]) from by kernel_rfl] at h; cases h
  exact zr_agg _ _ (zl_cons (.lit _) rfl (zl_cons (.lit _) rfl (zl_cons (.lit _) rfl (zl_cons (.lit _) rfl (zl_nil)))))
theorem zv8 : zer 8 = .agg [.lit (.int .i64 0), .lit (.int .i64 0), .lit (.bool false), .lit (.int .u8 0)] := rfl
theorem zr9 : ZerOk Tryd.prog (9, .lit (.string ByteArray.empty)) := fun v h => by
  rw [show zeroT Tryd.prog 9 = some (.string ByteArray.empty) from by kernel_rfl] at h; cases h; exact .lit _
theorem zv9 : zer 9 = .lit (.string ByteArray.empty) := rfl
theorem zr10 : ZerOk Tryd.prog (10, .lit (.string ByteArray.empty)) := fun v h => by
  rw [show zeroT Tryd.prog 10 = some (.string ByteArray.empty) from by kernel_rfl] at h; cases h; exact .lit _
theorem zv10 : zer 10 = .lit (.string ByteArray.empty) := rfl
theorem zr11 : ZerOk Tryd.prog (11, .lit (.string ByteArray.empty)) := fun v h => by
  rw [show zeroT Tryd.prog 11 = some (.string ByteArray.empty) from by kernel_rfl] at h; cases h; exact .lit _
theorem zv11 : zer 11 = .lit (.string ByteArray.empty) := rfl
theorem zr12 : ZerOk Tryd.prog (12, .lit (.int .u64 0)) := fun v h => by
  rw [show zeroT Tryd.prog 12 = some (.int .u64 0) from by kernel_rfl] at h; cases h; exact .lit _
theorem zv12 : zer 12 = .lit (.int .u64 0) := rfl
theorem zr13 : ZerOk Tryd.prog (13, .agg [.lit (.string ByteArray.empty), .lit (.int .u64 0)]) := fun v h => by
  rw [show zeroT Tryd.prog 13 = some (.agg #[(.string ByteArray.empty), (.int .u64 0)]) from by kernel_rfl] at h; cases h
  exact zr_agg _ _ (zl_cons (.lit _) rfl (zl_cons (.lit _) rfl (zl_nil)))
theorem zv13 : zer 13 = .agg [.lit (.string ByteArray.empty), .lit (.int .u64 0)] := rfl
theorem zr14 : ZerOk Tryd.prog (14, .agg [.lit (.string ByteArray.empty), .lit (.int .u64 0)]) := fun v h => by
  rw [show zeroT Tryd.prog 14 = some (.agg #[(.string ByteArray.empty), (.int .u64 0)]) from by kernel_rfl] at h; cases h
  exact zr_agg _ _ (zl_cons (.lit _) rfl (zl_cons (.lit _) rfl (zl_nil)))
theorem zv14 : zer 14 = .agg [.lit (.string ByteArray.empty), .lit (.int .u64 0)] := rfl
theorem zr15 : ZerOk Tryd.prog (15, .lit (.pointer none)) := fun v h => by
  rw [show zeroT Tryd.prog 15 = some (.pointer none) from by kernel_rfl] at h; cases h; exact .lit _
theorem zv15 : zer 15 = .lit (.pointer none) := rfl
theorem zr16 : ZerOk Tryd.prog (16, .lit (.pointer none)) := fun v h => by
  rw [show zeroT Tryd.prog 16 = some (.pointer none) from by kernel_rfl] at h; cases h; exact .lit _
theorem zv16 : zer 16 = .lit (.pointer none) := rfl
theorem zr17 : ZerOk Tryd.prog (17, .lit (.pointer none)) := fun v h => by
  rw [show zeroT Tryd.prog 17 = some (.pointer none) from by kernel_rfl] at h; cases h; exact .lit _
theorem zv17 : zer 17 = .lit (.pointer none) := rfl
theorem zr18 : ZerOk Tryd.prog (18, .agg [.lit (.pointer none)]) := fun v h => by
  rw [show zeroT Tryd.prog 18 = some (.agg #[(.pointer none)]) from by kernel_rfl] at h; cases h
  exact zr_agg _ _ (zl_cons (.lit _) rfl (zl_nil))
theorem zv18 : zer 18 = .agg [.lit (.pointer none)] := rfl
theorem zr19 : ZerOk Tryd.prog (19, .agg [.lit (.pointer none)]) := fun v h => by
  rw [show zeroT Tryd.prog 19 = some (.agg #[(.pointer none)]) from by kernel_rfl] at h; cases h
  exact zr_agg _ _ (zl_cons (.lit _) rfl (zl_nil))
theorem zv19 : zer 19 = .agg [.lit (.pointer none)] := rfl
theorem zr21 : ZerOk Tryd.prog (21, .lit (.int .i32 0)) := fun v h => by
  rw [show zeroT Tryd.prog 21 = some (.int .i32 0) from by kernel_rfl] at h; cases h; exact .lit _
theorem zv21 : zer 21 = .lit (.int .i32 0) := rfl
theorem zr23 : ZerOk Tryd.prog (23, .sl true 4 []) := fun v h => by
  rw [show zeroT Tryd.prog 23 = some (.slice none 0 0) from by kernel_rfl] at h; cases h; exact .nil _ _ _
theorem zv23 : zer 23 = .sl true 4 [] := rfl
theorem zr24 : ZerOk Tryd.prog (24, .lit (.int .i64 0)) := fun v h => by
  rw [show zeroT Tryd.prog 24 = some (.int .i64 0) from by kernel_rfl] at h; cases h; exact .lit _
theorem zv24 : zer 24 = .lit (.int .i64 0) := rfl
theorem zr27 : ZerOk Tryd.prog (27, .sl true 4 []) := fun v h => by
  rw [show zeroT Tryd.prog 27 = some (.slice none 0 0) from by kernel_rfl] at h; cases h; exact .nil _ _ _
theorem zv27 : zer 27 = .sl true 4 [] := rfl
theorem zr33 : ZerOk Tryd.prog (33, .lit (.int .u16 0)) := fun v h => by
  rw [show zeroT Tryd.prog 33 = some (.int .u16 0) from by kernel_rfl] at h; cases h; exact .lit _
theorem zv33 : zer 33 = .lit (.int .u16 0) := rfl
theorem zr35 : ZerOk Tryd.prog (35, .agg [.lit (.int .i64 0), .lit (.string ByteArray.empty), .lit (.int .i64 0), .lit (.int .i64 0)]) := fun v h => by
  rw [show zeroT Tryd.prog 35 = some (.agg #[(.int .i64 0), (.string ByteArray.empty), (.int .i64 0), (.int .i64 0)]) from by kernel_rfl] at h; cases h
  exact zr_agg _ _ (zl_cons (.lit _) rfl (zl_cons (.lit _) rfl (zl_cons (.lit _) rfl (zl_cons (.lit _) rfl (zl_nil)))))
theorem zv35 : zer 35 = .agg [.lit (.int .i64 0), .lit (.string ByteArray.empty), .lit (.int .i64 0), .lit (.int .i64 0)] := rfl
theorem zr36 : ZerOk Tryd.prog (36, .agg [.lit (.int .i64 0), .lit (.string ByteArray.empty), .lit (.int .i64 0), .lit (.int .i64 0)]) := fun v h => by
  rw [show zeroT Tryd.prog 36 = some (.agg #[(.int .i64 0), (.string ByteArray.empty), (.int .i64 0), (.int .i64 0)]) from by kernel_rfl] at h; cases h
  exact zr_agg _ _ (zl_cons (.lit _) rfl (zl_cons (.lit _) rfl (zl_cons (.lit _) rfl (zl_cons (.lit _) rfl (zl_nil)))))
theorem zv36 : zer 36 = .agg [.lit (.int .i64 0), .lit (.string ByteArray.empty), .lit (.int .i64 0), .lit (.int .i64 0)] := rfl
theorem zr41 : ZerOk Tryd.prog (41, .agg [.lit (.int .i64 0), .lit (.string ByteArray.empty), .lit (.int .i64 0), .lit (.int .i64 0)]) := fun v h => by
  rw [show zeroT Tryd.prog 41 = some (.agg #[(.int .i64 0), (.string ByteArray.empty), (.int .i64 0), (.int .i64 0)]) from by kernel_rfl] at h; cases h
  exact zr_agg _ _ (zl_cons (.lit _) rfl (zl_cons (.lit _) rfl (zl_cons (.lit _) rfl (zl_cons (.lit _) rfl (zl_nil)))))
theorem zv41 : zer 41 = .agg [.lit (.int .i64 0), .lit (.string ByteArray.empty), .lit (.int .i64 0), .lit (.int .i64 0)] := rfl
theorem zr62 : ZerOk Tryd.prog (62, .sl true 1 []) := fun v h => by
  rw [show zeroT Tryd.prog 62 = some (.slice none 0 0) from by kernel_rfl] at h; cases h; exact .nil _ _ _
theorem zv62 : zer 62 = .sl true 1 [] := rfl
theorem zr64 : ZerOk Tryd.prog (64, .lit (.pointer none)) := fun v h => by
  rw [show zeroT Tryd.prog 64 = some (.pointer none) from by kernel_rfl] at h; cases h; exact .lit _
theorem zv64 : zer 64 = .lit (.pointer none) := rfl
theorem zr65 : ZerOk Tryd.prog (65, .sl true 1 []) := fun v h => by
  rw [show zeroT Tryd.prog 65 = some (.slice none 0 0) from by kernel_rfl] at h; cases h; exact .nil _ _ _
theorem zv65 : zer 65 = .sl true 1 [] := rfl
theorem zr66 : ZerOk Tryd.prog (66, .agg [.lit (.pointer none), .sl true 1 []]) := fun v h => by
  rw [show zeroT Tryd.prog 66 = some (.agg #[(.pointer none), (.slice none 0 0)]) from by kernel_rfl] at h; cases h
  exact zr_agg _ _ (zl_cons (.lit _) rfl (zl_cons (.nil _ _ _) rfl (zl_nil)))
theorem zv66 : zer 66 = .agg [.lit (.pointer none), .sl true 1 []] := rfl
theorem zr67 : ZerOk Tryd.prog (67, .agg [.lit (.pointer none), .sl true 1 []]) := fun v h => by
  rw [show zeroT Tryd.prog 67 = some (.agg #[(.pointer none), (.slice none 0 0)]) from by kernel_rfl] at h; cases h
  exact zr_agg _ _ (zl_cons (.lit _) rfl (zl_cons (.nil _ _ _) rfl (zl_nil)))
theorem zv67 : zer 67 = .agg [.lit (.pointer none), .sl true 1 []] := rfl
theorem zr71 : ZerOk Tryd.prog (71, .agg [.lit (.string ByteArray.empty), .lit (.string ByteArray.empty), .lit (.string ByteArray.empty), .lit (.string ByteArray.empty), .lit (.string ByteArray.empty), .lit (.string ByteArray.empty), .lit (.string ByteArray.empty), .lit (.string ByteArray.empty), .lit (.string ByteArray.empty), .lit (.string ByteArray.empty), .lit (.string ByteArray.empty), .lit (.string ByteArray.empty), .lit (.string ByteArray.empty), .lit (.string ByteArray.empty), .lit (.string ByteArray.empty), .lit (.string ByteArray.empty), .lit (.string ByteArray.empty), .lit (.string ByteArray.empty), .lit (.string ByteArray.empty), .lit (.string ByteArray.empty), .lit (.string ByteArray.empty), .lit (.string ByteArray.empty), .lit (.string ByteArray.empty), .lit (.string ByteArray.empty), .lit (.string ByteArray.empty), .lit (.string ByteArray.empty), .lit (.string ByteArray.empty), .lit (.string ByteArray.empty)]) := fun v h => by
  rw [show zeroT Tryd.prog 71 = some (.agg #[(.string ByteArray.empty), (.string ByteArray.empty), (.string ByteArray.empty), (.string ByteArray.empty), (.string ByteArray.empty), (.string ByteArray.empty), (.string ByteArray.empty), (.string ByteArray.empty), (.string ByteArray.empty), (.string ByteArray.empty), (.string ByteArray.empty), (.string ByteArray.empty), (.string ByteArray.empty), (.string ByteArray.empty), (.string ByteArray.empty), (.string ByteArray.empty), (.string ByteArray.empty), (.string ByteArray.empty), (.string ByteArray.empty), (.string ByteArray.empty), (.string ByteArray.empty), (.string ByteArray.empty), (.string ByteArray.empty), (.string ByteArray.empty), (.string ByteArray.empty), (.string ByteArray.empty), (.string ByteArray.empty), (.string ByteArray.empty)]) from by kernel_rfl] at h; cases h
  exact zr_agg _ _ (zl_cons (.lit _) rfl (zl_cons (.lit _) rfl (zl_cons (.lit _) rfl (zl_cons (.lit _) rfl (zl_cons (.lit _) rfl (zl_cons (.lit _) rfl (zl_cons (.lit _) rfl (zl_cons (.lit _) rfl (zl_cons (.lit _) rfl (zl_cons (.lit _) rfl (zl_cons (.lit _) rfl (zl_cons (.lit _) rfl (zl_cons (.lit _) rfl (zl_cons (.lit _) rfl (zl_cons (.lit _) rfl (zl_cons (.lit _) rfl (zl_cons (.lit _) rfl (zl_cons (.lit _) rfl (zl_cons (.lit _) rfl (zl_cons (.lit _) rfl (zl_cons (.lit _) rfl (zl_cons (.lit _) rfl (zl_cons (.lit _) rfl (zl_cons (.lit _) rfl (zl_cons (.lit _) rfl (zl_cons (.lit _) rfl (zl_cons (.lit _) rfl (zl_cons (.lit _) rfl (zl_nil)))))))))))))))))))))))))))))
theorem zv71 : zer 71 = .agg [.lit (.string ByteArray.empty), .lit (.string ByteArray.empty), .lit (.string ByteArray.empty), .lit (.string ByteArray.empty), .lit (.string ByteArray.empty), .lit (.string ByteArray.empty), .lit (.string ByteArray.empty), .lit (.string ByteArray.empty), .lit (.string ByteArray.empty), .lit (.string ByteArray.empty), .lit (.string ByteArray.empty), .lit (.string ByteArray.empty), .lit (.string ByteArray.empty), .lit (.string ByteArray.empty), .lit (.string ByteArray.empty), .lit (.string ByteArray.empty), .lit (.string ByteArray.empty), .lit (.string ByteArray.empty), .lit (.string ByteArray.empty), .lit (.string ByteArray.empty), .lit (.string ByteArray.empty), .lit (.string ByteArray.empty), .lit (.string ByteArray.empty), .lit (.string ByteArray.empty), .lit (.string ByteArray.empty), .lit (.string ByteArray.empty), .lit (.string ByteArray.empty), .lit (.string ByteArray.empty)] := rfl
theorem zr75 : ZerOk Tryd.prog (75, .lit (.pointer none)) := fun v h => by
  rw [show zeroT Tryd.prog 75 = some (.pointer none) from by kernel_rfl] at h; cases h; exact .lit _
theorem zv75 : zer 75 = .lit (.pointer none) := rfl
theorem zr76 : ZerOk Tryd.prog (76, .lit (.int .i64 0)) := fun v h => by
  rw [show zeroT Tryd.prog 76 = some (.int .i64 0) from by kernel_rfl] at h; cases h; exact .lit _
theorem zv76 : zer 76 = .lit (.int .i64 0) := rfl
theorem zr79 : ZerOk Tryd.prog (79, .lit (.pointer none)) := fun v h => by
  rw [show zeroT Tryd.prog 79 = some (.pointer none) from by kernel_rfl] at h; cases h; exact .lit _
theorem zv79 : zer 79 = .lit (.pointer none) := rfl
theorem zr85 : ZerOk Tryd.prog (85, .lit (.int .u64 0)) := fun v h => by
  rw [show zeroT Tryd.prog 85 = some (.int .u64 0) from by kernel_rfl] at h; cases h; exact .lit _
theorem zv85 : zer 85 = .lit (.int .u64 0) := rfl
theorem zr86 : ZerOk Tryd.prog (86, .lit (.int .u64 0)) := fun v h => by
  rw [show zeroT Tryd.prog 86 = some (.int .u64 0) from by kernel_rfl] at h; cases h; exact .lit _
theorem zv86 : zer 86 = .lit (.int .u64 0) := rfl
theorem zr89 : ZerOk Tryd.prog (89, .agg [.lit (.string ByteArray.empty), .lit (.string ByteArray.empty), .lit .nilIface]) := fun v h => by
  rw [show zeroT Tryd.prog 89 = some (.agg #[(.string ByteArray.empty), (.string ByteArray.empty), .nilIface]) from by kernel_rfl] at h; cases h
  exact zr_agg _ _ (zl_cons (.lit _) rfl (zl_cons (.lit _) rfl (zl_cons (.lit _) rfl (zl_nil))))
theorem zv89 : zer 89 = .agg [.lit (.string ByteArray.empty), .lit (.string ByteArray.empty), .lit .nilIface] := rfl
theorem zr90 : ZerOk Tryd.prog (90, .agg [.lit (.string ByteArray.empty), .lit (.string ByteArray.empty), .lit .nilIface]) := fun v h => by
  rw [show zeroT Tryd.prog 90 = some (.agg #[(.string ByteArray.empty), (.string ByteArray.empty), .nilIface]) from by kernel_rfl] at h; cases h
  exact zr_agg _ _ (zl_cons (.lit _) rfl (zl_cons (.lit _) rfl (zl_cons (.lit _) rfl (zl_nil))))
theorem zv90 : zer 90 = .agg [.lit (.string ByteArray.empty), .lit (.string ByteArray.empty), .lit .nilIface] := rfl
theorem zr93 : ZerOk Tryd.prog (93, .lit (.int .u32 0)) := fun v h => by
  rw [show zeroT Tryd.prog 93 = some (.int .u32 0) from by kernel_rfl] at h; cases h; exact .lit _
theorem zv93 : zer 93 = .lit (.int .u32 0) := rfl
theorem zr97 : ZerOk Tryd.prog (97, .lit (.pointer none)) := fun v h => by
  rw [show zeroT Tryd.prog 97 = some (.pointer none) from by kernel_rfl] at h; cases h; exact .lit _
theorem zv97 : zer 97 = .lit (.pointer none) := rfl
theorem zr98 : ZerOk Tryd.prog (98, .agg [.lit (.string ByteArray.empty)]) := fun v h => by
  rw [show zeroT Tryd.prog 98 = some (.agg #[(.string ByteArray.empty)]) from by kernel_rfl] at h; cases h
  exact zr_agg _ _ (zl_cons (.lit _) rfl (zl_nil))
theorem zv98 : zer 98 = .agg [.lit (.string ByteArray.empty)] := rfl
theorem zr99 : ZerOk Tryd.prog (99, .agg [.lit (.string ByteArray.empty)]) := fun v h => by
  rw [show zeroT Tryd.prog 99 = some (.agg #[(.string ByteArray.empty)]) from by kernel_rfl] at h; cases h
  exact zr_agg _ _ (zl_cons (.lit _) rfl (zl_nil))
theorem zv99 : zer 99 = .agg [.lit (.string ByteArray.empty)] := rfl
theorem zr101 : ZerOk Tryd.prog (101, .agg [.lit (.int .u8 0), .lit (.int .u8 0), .lit (.int .u8 0), .lit (.int .u8 0), .lit (.int .u8 0), .lit (.int .u8 0), .lit (.int .u8 0), .lit (.int .u8 0), .lit (.int .u8 0), .lit (.int .u8 0), .lit (.int .u8 0), .lit (.int .u8 0), .lit (.int .u8 0), .lit (.int .u8 0), .lit (.int .u8 0), .lit (.int .u8 0), .lit (.int .u8 0), .lit (.int .u8 0), .lit (.int .u8 0), .lit (.int .u8 0), .lit (.int .u8 0), .lit (.int .u8 0), .lit (.int .u8 0), .lit (.int .u8 0)]) := fun v h => by
  rw [show zeroT Tryd.prog 101 = some (.agg #[(.int .u8 0), (.int .u8 0), (.int .u8 0), (.int .u8 0), (.int .u8 0), (.int .u8 0), (.int .u8 0), (.int .u8 0), (.int .u8 0), (.int .u8 0), (.int .u8 0), (.int .u8 0), (.int .u8 0), (.int .u8 0), (.int .u8 0), (.int .u8 0), (.int .u8 0), (.int .u8 0), (.int .u8 0), (.int .u8 0), (.int .u8 0), (.int .u8 0), (.int .u8 0), (.int .u8 0)]) from by kernel_rfl] at h; cases h
  exact zr_agg _ _ (zl_cons (.lit _) rfl (zl_cons (.lit _) rfl (zl_cons (.lit _) rfl (zl_cons (.lit _) rfl (zl_cons (.lit _) rfl (zl_cons (.lit _) rfl (zl_cons (.lit _) rfl (zl_cons (.lit _) rfl (zl_cons (.lit _) rfl (zl_cons (.lit _) rfl (zl_cons (.lit _) rfl (zl_cons (.lit _) rfl (zl_cons (.lit _) rfl (zl_cons (.lit _) rfl (zl_cons (.lit _) rfl (zl_cons (.lit _) rfl (zl_cons (.lit _) rfl (zl_cons (.lit _) rfl (zl_cons (.lit _) rfl (zl_cons (.lit _) rfl (zl_cons (.lit _) rfl (zl_cons (.lit _) rfl (zl_cons (.lit _) rfl (zl_cons (.lit _) rfl (zl_nil)))))))))))))))))))))))))
theorem zv101 : zer 101 = .agg [.lit (.int .u8 0), .lit (.int .u8 0), .lit (.int .u8 0), .lit (.int .u8 0), .lit (.int .u8 0), .lit (.int .u8 0), .lit (.int .u8 0), .lit (.int .u8 0), .lit (.int .u8 0), .lit (.int .u8 0), .lit (.int .u8 0), .lit (.int .u8 0), .lit (.int .u8 0), .lit (.int .u8 0), .lit (.int .u8 0), .lit (.int .u8 0), .lit (.int .u8 0), .lit (.int .u8 0), .lit (.int .u8 0), .lit (.int .u8 0), .lit (.int .u8 0), .lit (.int .u8 0), .lit (.int .u8 0), .lit (.int .u8 0)] := rfl
theorem zr107 : ZerOk Tryd.prog (107, .agg [.lit (.int .u64 0), .lit (.int .u64 0), .lit (.int .u64 0), .lit (.int .u64 0), .lit (.int .u64 0), .lit (.int .u64 0), .lit (.int .u64 0), .lit (.int .u64 0), .lit (.int .u64 0), .lit (.int .u64 0), .lit (.int .u64 0), .lit (.int .u64 0), .lit (.int .u64 0), .lit (.int .u64 0), .lit (.int .u64 0), .lit (.int .u64 0), .lit (.int .u64 0), .lit (.int .u64 0), .lit (.int .u64 0), .lit (.int .u64 0)]) := fun v h => by
  rw [show zeroT Tryd.prog 107 = some (.agg #[(.int .u64 0), (.int .u64 0), (.int .u64 0), (.int .u64 0), (.int .u64 0), (.int .u64 0), (.int .u64 0), (.int .u64 0), (.int .u64 0), (.int .u64 0), (.int .u64 0), (.int .u64 0), (.int .u64 0), (.int .u64 0), (.int .u64 0), (.int .u64 0), (.int .u64 0), (.int .u64 0), (.int .u64 0), (.int .u64 0)]) from by kernel_rfl] at h; cases h
  exact zr_agg _ _ (zl_cons (.lit _) rfl (zl_cons (.lit _) rfl (zl_cons (.lit _) rfl (zl_cons (.lit _) rfl (zl_cons (.lit _) rfl (zl_cons (.lit _) rfl (zl_cons (.lit _) rfl (zl_cons (.lit _) rfl (zl_cons (.lit _) rfl (zl_cons (.lit _) rfl (zl_cons (.lit _) rfl (zl_cons (.lit _) rfl (zl_cons (.lit _) rfl (zl_cons (.lit _) rfl (zl_cons (.lit _) rfl (zl_cons (.lit _) rfl (zl_cons (.lit _) rfl (zl_cons (.lit _) rfl (zl_cons (.lit _) rfl (zl_cons (.lit _) rfl (zl_nil)))))))))))))))))))))
theorem zv107 : zer 107 = .agg [.lit (.int .u64 0), .lit (.int .u64 0), .lit (.int .u64 0), .lit (.int .u64 0), .lit (.int .u64 0), .lit (.int .u64 0), .lit (.int .u64 0), .lit (.int .u64 0), .lit (.int .u64 0), .lit (.int .u64 0), .lit (.int .u64 0), .lit (.int .u64 0), .lit (.int .u64 0), .lit (.int .u64 0), .lit (.int .u64 0), .lit (.int .u64 0), .lit (.int .u64 0), .lit (.int .u64 0), .lit (.int .u64 0), .lit (.int .u64 0)] := rfl
theorem zr108 : ZerOk Tryd.prog (108, .agg [.lit (.int .u8 0), .lit (.int .u8 0), .lit (.int .u8 0), .lit (.int .u8 0), .lit (.int .u8 0), .lit (.int .u8 0), .lit (.int .u8 0), .lit (.int .u8 0), .lit (.int .u8 0), .lit (.int .u8 0), .lit (.int .u8 0), .lit (.int .u8 0), .lit (.int .u8 0), .lit (.int .u8 0), .lit (.int .u8 0), .lit (.int .u8 0), .lit (.int .u8 0), .lit (.int .u8 0), .lit (.int .u8 0), .lit (.int .u8 0), .lit (.int .u8 0), .lit (.int .u8 0), .lit (.int .u8 0), .lit (.int .u8 0), .lit (.int .u8 0), .lit (.int .u8 0), .lit (.int .u8 0), .lit (.int .u8 0), .lit (.int .u8 0), .lit (.int .u8 0), .lit (.int .u8 0), .lit (.int .u8 0), .lit (.int .u8 0), .lit (.int .u8 0), .lit (.int .u8 0), .lit (.int .u8 0), .lit (.int .u8 0), .lit (.int .u8 0), .lit (.int .u8 0), .lit (.int .u8 0), .lit (.int .u8 0), .lit (.int .u8 0), .lit (.int .u8 0), .lit (.int .u8 0), .lit (.int .u8 0), .lit (.int .u8 0), .lit (.int .u8 0), .lit (.int .u8 0), .lit (.int .u8 0), .lit (.int .u8 0), .lit (.int .u8 0), .lit (.int .u8 0), .lit (.int .u8 0), .lit (.int .u8 0), .lit (.int .u8 0), .lit (.int .u8 0), .lit (.int .u8 0), .lit (.int .u8 0), .lit (.int .u8 0), .lit (.int .u8 0), .lit (.int .u8 0), .lit (.int .u8 0), .lit (.int .u8 0), .lit (.int .u8 0), .lit (.int .u8 0)]) := fun v h => by
  rw [show zeroT Tryd.prog 108 = some (.agg #[(.int .u8 0), (.int .u8 0), (.int .u8 0), (.int .u8 0), (.int .u8 0), (.int .u8 0), (.int .u8 0), (.int .u8 0), (.int .u8 0), (.int .u8 0), (.int .u8 0), (.int .u8 0), (.int .u8 0), (.int .u8 0), (.int .u8 0), (.int .u8 0), (.int .u8 0), (.int .u8 0), (.int .u8 0), (.int .u8 0), (.int .u8 0), (.int .u8 0), (.int .u8 0), (.int .u8 0), (.int .u8 0), (.int .u8 0), (.int .u8 0), (.int .u8 0), (.int .u8 0), (.int .u8 0), (.int .u8 0), (.int .u8 0), (.int .u8 0), (.int .u8 0), (.int .u8 0), (.int .u8 0), (.int .u8 0), (.int .u8 0), (.int .u8 0), (.int .u8 0), (.int .u8 0), (.int .u8 0), (.int .u8 0), (.int .u8 0), (.int .u8 0), (.int .u8 0), (.int .u8 0), (.int .u8 0), (.int .u8 0), (.int .u8 0), (.int .u8 0), (.int .u8 0), (.int .u8 0), (.int .u8 0), (.int .u8 0), (.int .u8 0), (.int .u8 0), (.int .u8 0), (.int .u8 0), (.int .u8 0), (.int .u8 0), (.int .u8 0), (.int .u8 0), (.int .u8 0), (.int .u8 0)]) from by kernel_rfl] at h; cases h
  exact zr_agg _ _ (zl_cons (.lit _) rfl (zl_cons (.lit _) rfl (zl_cons (.lit _) rfl (zl_cons (.lit _) rfl (zl_cons (.lit _) rfl (zl_cons (.lit _) rfl (zl_cons (.lit _) rfl (zl_cons (.lit _) rfl (zl_cons (.lit _) rfl (zl_cons (.lit _) rfl (zl_cons (.lit _) rfl (zl_cons (.lit _) rfl (zl_cons (.lit _) rfl (zl_cons (.lit _) rfl (zl_cons (.lit _) rfl (zl_cons (.lit _) rfl (zl_cons (.lit _) rfl (zl_cons (.lit _) rfl (zl_cons (.lit _) rfl (zl_cons (.lit _) rfl (zl_cons (.lit _) rfl (zl_cons (.lit _) rfl (zl_cons (.lit _) rfl (zl_cons (.lit _) rfl (zl_cons (.lit _) rfl (zl_cons (.lit _) rfl (zl_cons (.lit _) rfl (zl_cons (.lit _) rfl (zl_cons (.lit _) rfl (zl_cons (.lit _) rfl (zl_cons (.lit _) rfl (zl_cons (.lit _) rfl (zl_cons (.lit _) rfl (zl_cons (.lit _) rfl (zl_cons (.lit _) rfl (zl_cons (.lit _) rfl (zl_cons (.lit _) rfl (zl_cons (.lit _) rfl (zl_cons (.lit _) rfl (zl_cons (.lit _) rfl (zl_cons (.lit _) rfl (zl_cons (.lit _) rfl (zl_cons (.lit _) rfl (zl_cons (.lit _) rfl (zl_cons (.lit _) rfl (zl_cons (.lit _) rfl (zl_cons (.lit _) rfl (zl_cons (.lit _) rfl (zl_cons (.lit _) rfl (zl_cons (.lit _) rfl (zl_cons (.lit _) rfl (zl_cons (.lit _) rfl (zl_cons (.lit _) rfl (zl_cons (.lit _) rfl (zl_cons (.lit _) rfl (zl_cons (.lit _) rfl (zl_cons (.lit _) rfl (zl_cons (.lit _) rfl (zl_cons (.lit _) rfl (zl_cons (.lit _) rfl (zl_cons (.lit _) rfl (zl_cons (.lit _) rfl (zl_cons (.lit _) rfl (zl_cons (.lit _) rfl (zl_cons (.lit _) rfl (zl_nil))))))))))))))))))))))))))))))))))))))))))))))))))))))))))))))))))
theorem zv108 : zer 108 = .agg [.lit (.int .u8 0), .lit (.int .u8 0), .lit (.int .u8 0), .lit (.int .u8 0), .lit (.int .u8 0), .lit (.int .u8 0), .lit (.int .u8 0), .lit (.int .u8 0), .lit (.int .u8 0), .lit (.int .u8 0), .lit (.int .u8 0), .lit (.int .u8 0), .lit (.int .u8 0), .lit (.int .u8 0), .lit (.int .u8 0), .lit (.int .u8 0), .lit (.int .u8 0), .lit (.int .u8 0), .lit (.int .u8 0), .lit (.int .u8 0), .lit (.int .u8 0), .lit (.int .u8 0), .lit (.int .u8 0), .lit (.int .u8 0), .lit (.int .u8 0), .lit (.int .u8 0), .lit (.int .u8 0), .lit (.int .u8 0), .lit (.int .u8 0), .lit (.int .u8 0), .lit (.int .u8 0), .lit (.int .u8 0), .lit (.int .u8 0), .lit (.int .u8 0), .lit (.int .u8 0), .lit (.int .u8 0), .lit (.int .u8 0), .lit (.int .u8 0), .lit (.int .u8 0), .lit (.int .u8 0), .lit (.int .u8 0), .lit (.int .u8 0), .lit (.int .u8 0), .lit (.int .u8 0), .lit (.int .u8 0), .lit (.int .u8 0), .lit (.int .u8 0), .lit (.int .u8 0), .lit (.int .u8 0), .lit (.int .u8 0), .lit (.int .u8 0), .lit (.int .u8 0), .lit (.int .u8 0), .lit (.int .u8 0), .lit (.int .u8 0), .lit (.int .u8 0), .lit (.int .u8 0), .lit (.int .u8 0), .lit (.int .u8 0), .lit (.int .u8 0), .lit (.int .u8 0), .lit (.int .u8 0), .lit (.int .u8 0), .lit (.int .u8 0), .lit (.int .u8 0)] := rfl
theorem zr112 : ZerOk Tryd.prog (112, .agg [.lit (.int .u8 0), .lit (.int .u8 0), .lit (.int .u8 0), .lit (.int .u8 0), .lit (.int .u8 0), .lit (.int .u8 0), .lit (.int .u8 0), .lit (.int .u8 0), .lit (.int .u8 0), .lit (.int .u8 0), .lit (.int .u8 0), .lit (.int .u8 0), .lit (.int .u8 0), .lit (.int .u8 0), .lit (.int .u8 0), .lit (.int .u8 0), .lit (.int .u8 0), .lit (.int .u8 0), .lit (.int .u8 0), .lit (.int .u8 0), .lit (.int .u8 0), .lit (.int .u8 0), .lit (.int .u8 0), .lit (.int .u8 0), .lit (.int .u8 0), .lit (.int .u8 0), .lit (.int .u8 0), .lit (.int .u8 0), .lit (.int .u8 0), .lit (.int .u8 0), .lit (.int .u8 0), .lit (.int .u8 0)]) := fun v h => by
  rw [show zeroT Tryd.prog 112 = some (.agg #[(.int .u8 0), (.int .u8 0), (.int .u8 0), (.int .u8 0), (.int .u8 0), (.int .u8 0), (.int .u8 0), (.int .u8 0), (.int .u8 0), (.int .u8 0), (.int .u8 0), (.int .u8 0), (.int .u8 0), (.int .u8 0), (.int .u8 0), (.int .u8 0), (.int .u8 0), (.int .u8 0), (.int .u8 0), (.int .u8 0), (.int .u8 0), (.int .u8 0), (.int .u8 0), (.int .u8 0), (.int .u8 0), (.int .u8 0), (.int .u8 0), (.int .u8 0), (.int .u8 0), (.int .u8 0), (.int .u8 0), (.int .u8 0)]) from by kernel_rfl] at h; cases h
  exact zr_agg _ _ (zl_cons (.lit _) rfl (zl_cons (.lit _) rfl (zl_cons (.lit _) rfl (zl_cons (.lit _) rfl (zl_cons (.lit _) rfl (zl_cons (.lit _) rfl (zl_cons (.lit _) rfl (zl_cons (.lit _) rfl (zl_cons (.lit _) rfl (zl_cons (.lit _) rfl (zl_cons (.lit _) rfl (zl_cons (.lit _) rfl (zl_cons (.lit _) rfl (zl_cons (.lit _) rfl (zl_cons (.lit _) rfl (zl_cons (.lit _) rfl (zl_cons (.lit _) rfl (zl_cons (.lit _) rfl (zl_cons (.lit _) rfl (zl_cons (.lit _) rfl (zl_cons (.lit _) rfl (zl_cons (.lit _) rfl (zl_cons (.lit _) rfl (zl_cons (.lit _) rfl (zl_cons (.lit _) rfl (zl_cons (.lit _) rfl (zl_cons (.lit _) rfl (zl_cons (.lit _) rfl (zl_cons (.lit _) rfl (zl_cons (.lit _) rfl (zl_cons (.lit _) rfl (zl_cons (.lit _) rfl (zl_nil)))))))))))))))))))))))))))))))))
theorem zv112 : zer 112 = .agg [.lit (.int .u8 0), .lit (.int .u8 0), .lit (.int .u8 0), .lit (.int .u8 0), .lit (.int .u8 0), .lit (.int .u8 0), .lit (.int .u8 0), .lit (.int .u8 0), .lit (.int .u8 0), .lit (.int .u8 0), .lit (.int .u8 0), .lit (.int .u8 0), .lit (.int .u8 0), .lit (.int .u8 0), .lit (.int .u8 0), .lit (.int .u8 0), .lit (.int .u8 0), .lit (.int .u8 0), .lit (.int .u8 0), .lit (.int .u8 0), .lit (.int .u8 0), .lit (.int .u8 0), .lit (.int .u8 0), .lit (.int .u8 0), .lit (.int .u8 0), .lit (.int .u8 0), .lit (.int .u8 0), .lit (.int .u8 0), .lit (.int .u8 0), .lit (.int .u8 0), .lit (.int .u8 0), .lit (.int .u8 0)] := rfl
theorem zr113 : ZerOk Tryd.prog (113, .agg [.lit (.int .u8 0), .lit (.int .u8 0), .lit (.int .u8 0), .lit (.int .u8 0), .lit (.int .u8 0), .lit (.int .u8 0), .lit (.int .u8 0), .lit (.int .u8 0), .lit (.int .u8 0), .lit (.int .u8 0), .lit (.int .u8 0), .lit (.int .u8 0), .lit (.int .u8 0), .lit (.int .u8 0), .lit (.int .u8 0), .lit (.int .u8 0), .lit (.int .u8 0), .lit (.int .u8 0), .lit (.int .u8 0), .lit (.int .u8 0), .lit (.int .u8 0), .lit (.int .u8 0), .lit (.int .u8 0), .lit (.int .u8 0), .lit (.int .u8 0), .lit (.int .u8 0), .lit (.int .u8 0), .lit (.int .u8 0), .lit (.int .u8 0), .lit (.int .u8 0), .lit (.int .u8 0), .lit (.int .u8 0), .lit (.int .u8 0), .lit (.int .u8 0), .lit (.int .u8 0), .lit (.int .u8 0), .lit (.int .u8 0), .lit (.int .u8 0), .lit (.int .u8 0), .lit (.int .u8 0), .lit (.int .u8 0), .lit (.int .u8 0), .lit (.int .u8 0), .lit (.int .u8 0), .lit (.int .u8 0), .lit (.int .u8 0), .lit (.int .u8 0), .lit (.int .u8 0), .lit (.int .u8 0), .lit (.int .u8 0), .lit (.int .u8 0), .lit (.int .u8 0), .lit (.int .u8 0), .lit (.int .u8 0), .lit (.int .u8 0), .lit (.int .u8 0), .lit (.int .u8 0), .lit (.int .u8 0), .lit (.int .u8 0), .lit (.int .u8 0), .lit (.int .u8 0), .lit (.int .u8 0), .lit (.int .u8 0), .lit (.int .u8 0)]) := fun v h => by
  rw [show zeroT Tryd.prog 113 = some (.agg #[(.int .u8 0), (.int .u8 0), (.int .u8 0), (.int .u8 0), (.int .u8 0), (.int .u8 0), (.int .u8 0), (.int .u8 0), (.int .u8 0), (.int .u8 0), (.int .u8 0), (.int .u8 0), (.int .u8 0), (.int .u8 0), (.int .u8 0), (.int .u8 0), (.int .u8 0), (.int .u8 0), (.int .u8 0), (.int .u8 0), (.int .u8 0), (.int .u8 0), (.int .u8 0), (.int .u8 0), (.int .u8 0), (.int .u8 0), (.int .u8 0), (.int .u8 0), (.int .u8 0), (.int .u8 0), (.int .u8 0), (.int .u8 0), (.int .u8 0), (.int .u8 0), (.int .u8 0), (.int .u8 0), (.int .u8 0), (.int .u8 0), (.int .u8 0), (.int .u8 0), (.int .u8 0), (.int .u8 0), (.int .u8 0), (.int .u8 0), (.int .u8 0), (.int .u8 0), (.int .u8 0), (.int .u8 0), (.int .u8 0), (.int .u8 0), (.int .u8 0), (.int .u8 0), (.int .u8 0), (.int .u8 0), (.int .u8 0), (.int .u8 0), (.int .u8 0), (.int .u8 0), (.int .u8 0), (.int .u8 0), (.int .u8 0), (.int .u8 0), (.int .u8 0), (.int .u8 0)]) from by kernel_rfl] at h; cases h
  exact zr_agg _ _ (zl_cons (.lit _) rfl (zl_cons (.lit _) rfl (zl_cons (.lit _) rfl (zl_cons (.lit _) rfl (zl_cons (.lit _) rfl (zl_cons (.lit _) rfl (zl_cons (.lit _) rfl (zl_cons (.lit _) rfl (zl_cons (.lit _) rfl (zl_cons (.lit _) rfl (zl_cons (.lit _) rfl (zl_cons (.lit _) rfl (zl_cons (.lit _) rfl (zl_cons (.lit _) rfl (zl_cons (.lit _) rfl (zl_cons (.lit _) rfl (zl_cons (.lit _) rfl (zl_cons (.lit _) rfl (zl_cons (.lit _) rfl (zl_cons (.lit _) rfl (zl_cons (.lit _) rfl (zl_cons (.lit _) rfl (zl_cons (.lit _) rfl (zl_cons (.lit _) rfl (zl_cons (.lit _) rfl (zl_cons (.lit _) rfl (zl_cons (.lit _) rfl (zl_cons (.lit _) rfl (zl_cons (.lit _) rfl (zl_cons (.lit _) rfl (zl_cons (.lit _) rfl (zl_cons (.lit _) rfl (zl_cons (.lit _) rfl (zl_cons (.lit _) rfl (zl_cons (.lit _) rfl (zl_cons (.lit _) rfl (zl_cons (.lit _) rfl (zl_cons (.lit _) rfl (zl_cons (.lit _) rfl (zl_cons (.lit _) rfl (zl_cons (.lit _) rfl (zl_cons (.lit _) rfl (zl_cons (.lit _) rfl (zl_cons (.lit _) rfl (zl_cons (.lit _) rfl (zl_cons (.lit _) rfl (zl_cons (.lit _) rfl (zl_cons (.lit _) rfl (zl_cons (.lit _) rfl (zl_cons (.lit _) rfl (zl_cons (.lit _) rfl (zl_cons (.lit _) rfl (zl_cons (.lit _) rfl (zl_cons (.lit _) rfl (zl_cons (.lit _) rfl (zl_cons (.lit _) rfl (zl_cons (.lit _) rfl (zl_cons (.lit _) rfl (zl_cons (.lit _) rfl (zl_cons (.lit _) rfl (zl_cons (.lit _) rfl (zl_cons (.lit _) rfl (zl_cons (.lit _) rfl (zl_cons (.lit _) rfl (zl_nil)))))))))))))))))))))))))))))))))))))))))))))))))))))))))))))))))
theorem zv113 : zer 113 = .agg [.lit (.int .u8 0), .lit (.int .u8 0), .lit (.int .u8 0), .lit (.int .u8 0), .lit (.int .u8 0), .lit (.int .u8 0), .lit (.int .u8 0), .lit (.int .u8 0), .lit (.int .u8 0), .lit (.int .u8 0), .lit (.int .u8 0), .lit (.int .u8 0), .lit (.int .u8 0), .lit (.int .u8 0), .lit (.int .u8 0), .lit (.int .u8 0), .lit (.int .u8 0), .lit (.int .u8 0), .lit (.int .u8 0), .lit (.int .u8 0), .lit (.int .u8 0), .lit (.int .u8 0), .lit (.int .u8 0), .lit (.int .u8 0), .lit (.int .u8 0), .lit (.int .u8 0), .lit (.int .u8 0), .lit (.int .u8 0), .lit (.int .u8 0), .lit (.int .u8 0), .lit (.int .u8 0), .lit (.int .u8 0), .lit (.int .u8 0), .lit (.int .u8 0), .lit (.int .u8 0), .lit (.int .u8 0), .lit (.int .u8 0), .lit (.int .u8 0), .lit (.int .u8 0), .lit (.int .u8 0), .lit (.int .u8 0), .lit (.int .u8 0), .lit (.int .u8 0), .lit (.int .u8 0), .lit (.int .u8 0), .lit (.int .u8 0), .lit (.int .u8 0), .lit (.int .u8 0), .lit (.int .u8 0), .lit (.int .u8 0), .lit (.int .u8 0), .lit (.int .u8 0), .lit (.int .u8 0), .lit (.int .u8 0), .lit (.int .u8 0), .lit (.int .u8 0), .lit (.int .u8 0), .lit (.int .u8 0), .lit (.int .u8 0), .lit (.int .u8 0), .lit (.int .u8 0), .lit (.int .u8 0), .lit (.int .u8 0), .lit (.int .u8 0)] := rfl
theorem zr114 : ZerOk Tryd.prog (114, .agg [.lit (.pointer none), .lit (.pointer none), .lit (.pointer none), .lit (.string ByteArray.empty)]) := fun v h => by
  rw [show zeroT Tryd.prog 114 = some (.agg #[(.pointer none), (.pointer none), (.pointer none), (.string ByteArray.empty)]) from by kernel_rfl] at h; cases h
  exact zr_agg _ _ (zl_cons (.lit _) rfl (zl_cons (.lit _) rfl (zl_cons (.lit _) rfl (zl_cons (.lit _) rfl (zl_nil)))))
theorem zv114 : zer 114 = .agg [.lit (.pointer none), .lit (.pointer none), .lit (.pointer none), .lit (.string ByteArray.empty)] := rfl
theorem zr115 : ZerOk Tryd.prog (115, .agg [.lit (.pointer none), .lit (.pointer none), .lit (.pointer none), .lit (.string ByteArray.empty)]) := fun v h => by
  rw [show zeroT Tryd.prog 115 = some (.agg #[(.pointer none), (.pointer none), (.pointer none), (.string ByteArray.empty)]) from by kernel_rfl] at h; cases h
  exact zr_agg _ _ (zl_cons (.lit _) rfl (zl_cons (.lit _) rfl (zl_cons (.lit _) rfl (zl_cons (.lit _) rfl (zl_nil)))))
theorem zv115 : zer 115 = .agg [.lit (.pointer none), .lit (.pointer none), .lit (.pointer none), .lit (.string ByteArray.empty)] := rfl
theorem zr120 : ZerOk Tryd.prog (120, .lit (.int .u8 0)) := fun v h => by
  rw [show zeroT Tryd.prog 120 = some (.int .u8 0) from by kernel_rfl] at h; cases h; exact .lit _
theorem zv120 : zer 120 = .lit (.int .u8 0) := rfl
theorem zr121 : ZerOk Tryd.prog (121, .lit (.int .u8 0)) := fun v h => by
  rw [show zeroT Tryd.prog 121 = some (.int .u8 0) from by kernel_rfl] at h; cases h; exact .lit _
theorem zv121 : zer 121 = .lit (.int .u8 0) := rfl
theorem zr123 : ZerOk Tryd.prog (123, .lit (.int .i32 0)) := fun v h => by
  rw [show zeroT Tryd.prog 123 = some (.int .i32 0) from by kernel_rfl] at h; cases h; exact .lit _
theorem zv123 : zer 123 = .lit (.int .i32 0) := rfl
theorem zr124 : ZerOk Tryd.prog (124, .lit (.int .i32 0)) := fun v h => by
  rw [show zeroT Tryd.prog 124 = some (.int .i32 0) from by kernel_rfl] at h; cases h; exact .lit _
theorem zv124 : zer 124 = .lit (.int .i32 0) := rfl
theorem zr125 : ZerOk Tryd.prog (125, .agg [.lit (.int .u64 0), .lit (.int .u64 0), .lit (.int .u32 0), .lit (.int .u8 0), .lit (.int .u8 0), .lit (.int .u8 0), .lit (.int .u8 0), .lit .nilFunc, .lit (.pointer none), .lit (.int .i32 0), .lit (.int .i32 0)]) := fun v h => by
  rw [show zeroT Tryd.prog 125 = some (.agg #[(.int .u64 0), (.int .u64 0), (.int .u32 0), (.int .u8 0), (.int .u8 0), (.int .u8 0), (.int .u8 0), .nilFunc, (.pointer none), (.int .i32 0), (.int .i32 0)]) from by kernel_rfl] at h; cases h
  exact zr_agg _ _ (zl_cons (.lit _) rfl (zl_cons (.lit _) rfl (zl_cons (.lit _) rfl (zl_cons (.lit _) rfl (zl_cons (.lit _) rfl (zl_cons (.lit _) rfl (zl_cons (.lit _) rfl (zl_cons (.lit _) rfl (zl_cons (.lit _) rfl (zl_cons (.lit _) rfl (zl_cons (.lit _) rfl (zl_nil))))))))))))
theorem zv125 : zer 125 = .agg [.lit (.int .u64 0), .lit (.int .u64 0), .lit (.int .u32 0), .lit (.int .u8 0), .lit (.int .u8 0), .lit (.int .u8 0), .lit (.int .u8 0), .lit .nilFunc, .lit (.pointer none), .lit (.int .i32 0), .lit (.int .i32 0)] := rfl
theorem zr126 : ZerOk Tryd.prog (126, .agg [.lit (.int .u64 0), .lit (.int .u64 0), .lit (.int .u32 0), .lit (.int .u8 0), .lit (.int .u8 0), .lit (.int .u8 0), .lit (.int .u8 0), .lit .nilFunc, .lit (.pointer none), .lit (.int .i32 0), .lit (.int .i32 0)]) := fun v h => by
  rw [show zeroT Tryd.prog 126 = some (.agg #[(.int .u64 0), (.int .u64 0), (.int .u32 0), (.int .u8 0), (.int .u8 0), (.int .u8 0), (.int .u8 0), .nilFunc, (.pointer none), (.int .i32 0), (.int .i32 0)]) from by kernel_rfl] at h; cases h
  exact zr_agg _ _ (zl_cons (.lit _) rfl (zl_cons (.lit _) rfl (zl_cons (.lit _) rfl (zl_cons (.lit _) rfl (zl_cons (.lit _) rfl (zl_cons (.lit _) rfl (zl_cons (.lit _) rfl (zl_cons (.lit _) rfl (zl_cons (.lit _) rfl (zl_cons (.lit _) rfl (zl_cons (.lit _) rfl (zl_nil))))))))))))
theorem zv126 : zer 126 = .agg [.lit (.int .u64 0), .lit (.int .u64 0), .lit (.int .u32 0), .lit (.int .u8 0), .lit (.int .u8 0), .lit (.int .u8 0), .lit (.int .u8 0), .lit .nilFunc, .lit (.pointer none), .lit (.int .i32 0), .lit (.int .i32 0)] := rfl
theorem zer_ok : ∀ t v, zeroT Tryd.prog t = some v → RC (fun _ _ => none) (zer t) v := zer_sound zerL (zs_cons zr2 (zs_cons zr3 (zs_cons zr4 (zs_cons zr5 (zs_cons zr6 (zs_cons zr7 (zs_cons zr8 (zs_cons zr9 (zs_cons zr10 (zs_cons zr11 (zs_cons zr12 (zs_cons zr13 (zs_cons zr14 (zs_cons zr15 (zs_cons zr16 (zs_cons zr17 (zs_cons zr18 (zs_cons zr19 (zs_cons zr21 (zs_cons zr23 (zs_cons zr24 (zs_cons zr27 (zs_cons zr33 (zs_cons zr35 (zs_cons zr36 (zs_cons zr41 (zs_cons zr62 (zs_cons zr64 (zs_cons zr65 (zs_cons zr66 (zs_cons zr67 (zs_cons zr71 (zs_cons zr75 (zs_cons zr76 (zs_cons zr79 (zs_cons zr85 (zs_cons zr86 (zs_cons zr89 (zs_cons zr90 (zs_cons zr93 (zs_cons zr97 (zs_cons zr98 (zs_cons zr99 (zs_cons zr101 (zs_cons zr107 (zs_cons zr108 (zs_cons zr112 (zs_cons zr113 (zs_cons zr114 (zs_cons zr115 (zs_cons zr120 (zs_cons zr121 (zs_cons zr123 (zs_cons zr124 (zs_cons zr125 (zs_cons zr126 (zs_nil)))))))))))))))))))))))))))))))))))))))))))))))))))))))))
theorem mixed : Tryd.prog.follows .mixedOrders = true := by kernel_rfl
theorem fk3 : fok Tryd.prog 3 = true := by kernel_rfl -- framewise/framewiselaw24.LexerLex
theorem fk4 : fok Tryd.prog 4 = true := by kernel_rfl -- framewise/framewiselaw24.LexerLong
theorem fk5 : fok Tryd.prog 5 = true := by kernel_rfl -- framewise/framewiselaw24.LexerCover
theorem fk6 : fok Tryd.prog 6 = true := by kernel_rfl -- framewise/framewiselaw24.LexerLongest
theorem fk7 : fok Tryd.prog 7 = true := by kernel_rfl -- framewise/framewiselaw24.LexerParts
theorem fk8 : fok Tryd.prog 8 = true := by kernel_rfl -- framewise/framewiselaw24.LexerWords
theorem fk9 : fok Tryd.prog 9 = true := by kernel_rfl -- framewise/framewiselaw24.LexerJoin
theorem fk10 : fok Tryd.prog 10 = true := by kernel_rfl -- framewise/framewiselaw24.awake
theorem fk11 : fok Tryd.prog 11 = true := by kernel_rfl -- framewise/lexer.Lex
theorem fk12 : fok Tryd.prog 12 = true := by kernel_rfl -- framewise/framewiseref24.Lex
theorem fk13 : fok Tryd.prog 13 = true := by kernel_rfl -- framewise/framewiseref24.Same
theorem fk14 : fok Tryd.prog 14 = true := by kernel_rfl -- framewise/framewiselaw24.theirs
theorem fk15 : fok Tryd.prog 15 = true := by kernel_rfl -- framewise/framewiselaw24.blank
theorem fk16 : fok Tryd.prog 16 = true := by kernel_rfl -- framewise/lexer.Value
theorem fk17 : fok Tryd.prog 17 = true := by kernel_rfl -- framewise/framewiseref24.Value
theorem fk18 : fok Tryd.prog 18 = true := by kernel_rfl -- framewise/lexer.Reserved
theorem fk19 : fok Tryd.prog 19 = true := by kernel_rfl -- framewise/framewiseref24.Reserved
theorem fk20 : fok Tryd.prog 20 = true := by kernel_rfl -- framewise/lexer.IsName
theorem fk21 : fok Tryd.prog 21 = true := by kernel_rfl -- framewise/framewiseref24.IsName
theorem fk22 : fok Tryd.prog 22 = true := by kernel_rfl -- framewise/lexer.IsFull
theorem fk23 : fok Tryd.prog 23 = true := by kernel_rfl -- framewise/framewiseref24.IsFull
theorem fk24 : fok Tryd.prog 24 = true := by kernel_rfl -- framewise/lexer.Apart
theorem fk25 : fok Tryd.prog 25 = true := by kernel_rfl -- framewise/framewiseref24.Apart
theorem fk26 : fok Tryd.prog 26 = true := by kernel_rfl -- framewise/lexer.Join
theorem fk27 : fok Tryd.prog 27 = true := by kernel_rfl -- framewise/framewiselaw24.own
theorem fk28 : fok Tryd.prog 28 = true := by kernel_rfl -- framewise/framewiseref24.Join
theorem fk29 : fok Tryd.prog 29 = true := by kernel_rfl -- framewise/lexer.blank
theorem fk30 : fok Tryd.prog 30 = true := by kernel_rfl -- strings.Count
theorem fk31 : fok Tryd.prog 31 = true := by kernel_rfl -- framewise/lexer.first
theorem fk32 : fok Tryd.prog 32 = true := by kernel_rfl -- framewise/framewiseref24.skip
theorem fk33 : fok Tryd.prog 33 = true := by kernel_rfl -- framewise/framewiseref24.next
theorem fk34 : fok Tryd.prog 34 = true := by kernel_rfl -- framewise/lexer.run
theorem fk35 : fok Tryd.prog 35 = true := by kernel_rfl -- strconv.Atoi
theorem fk36 : fok Tryd.prog 36 = true := by kernel_rfl -- framewise/framewiseref24.digit
theorem fk37 : fok Tryd.prog 37 = true := by kernel_rfl -- framewise/lexer.small
theorem fk38 : fok Tryd.prog 38 = true := by kernel_rfl -- framewise/framewiseref24.small
theorem fk39 : fok Tryd.prog 39 = true := by kernel_rfl -- strings.Cut
theorem fk40 : fok Tryd.prog 40 = true := by kernel_rfl -- slices.Equal[[]string,string]
theorem fk41 : fok Tryd.prog 41 = true := by kernel_rfl -- (*strings.Builder).WriteByte
theorem fk42 : fok Tryd.prog 42 = true := by kernel_rfl -- (*strings.Builder).WriteString
theorem fk43 : fok Tryd.prog 43 = true := by kernel_rfl -- (*strings.Builder).String
theorem fk44 : fok Tryd.prog 44 = true := by kernel_rfl -- strings.HasPrefix
theorem fk45 : fok Tryd.prog 45 = true := by kernel_rfl -- strings.IndexByte
theorem fk46 : fok Tryd.prog 46 = true := by kernel_rfl -- unicode/utf8.RuneCountInString
theorem fk48 : fok Tryd.prog 48 = true := by kernel_rfl -- strings.Index
theorem fk49 : fok Tryd.prog 49 = true := by kernel_rfl -- framewise/lexer.digit
theorem fk50 : fok Tryd.prog 50 = true := by kernel_rfl -- framewise/lexer.symbols
theorem fk51 : fok Tryd.prog 51 = true := by kernel_rfl -- framewise/framewiseref24.symbol
theorem fk52 : fok Tryd.prog 52 = true := by kernel_rfl -- internal/strconv.Atoi
theorem fk54 : fok Tryd.prog 54 = true := by kernel_rfl -- internal/stringslite.Cut
theorem fk55 : fok Tryd.prog 55 = true := by kernel_rfl -- (*strings.Builder).copyCheck
theorem fk56 : fok Tryd.prog 56 = true := by kernel_rfl -- internal/stringslite.HasPrefix
theorem fk57 : fok Tryd.prog 57 = true := by kernel_rfl -- internal/stringslite.IndexByte
theorem fk58 : fok Tryd.prog 58 = true := by kernel_rfl -- internal/stringslite.Index
theorem fk59 : fok Tryd.prog 59 = true := by kernel_rfl -- internal/strconv.ParseInt
theorem fk60 : fok Tryd.prog 60 = true := by kernel_rfl -- strconv.syntaxError
theorem fk61 : fok Tryd.prog 61 = true := by kernel_rfl -- strconv.rangeError
attribute [go_sem] u2 sz2 by2 ag2 so2 iz2 zk2 iu2 u3 sz3 by3 ag3 so3 iz3 zk3 iu3 u4 sz4 by4 ag4 so4 iz4 zk4 iu4 u5 sz5 by5 ag5 so5 iz5 zk5 iu5 u6 sz6 by6 ag6 so6 iz6 zk6 iu6 sz7 by7 ag7 so7 fl7_0 fl7_1 fl7_2 fl7_3 se7 iz7 zk7 iu7 sz8 by8 ag8 so8 fl8_0 fl8_1 fl8_2 fl8_3 se8 iz8 zk8 iu8 u9 sz9 by9 ag9 so9 iz9 zk9 iu9 u10 sz10 by10 ag10 so10 iz10 zk10 iu10 u11 sz11 by11 ag11 so11 iz11 zk11 iu11 u12 sz12 by12 ag12 so12 iz12 zk12 iu12 sz13 by13 ag13 so13 fl13_0 fl13_1 iz13 zk13 iu13 sz14 by14 ag14 so14 fl14_0 fl14_1 iz14 zk14 iu14 u15 sz15 by15 ag15 so15 iz15 zk15 iu15 u16 sz16 by16 ag16 so16 iz16 zk16 iu16 u17 sz17 by17 ag17 so17 iz17 zk17 iu17 sz18 by18 ag18 so18 fl18_0 iz18 zk18 iu18 sz19 by19 ag19 so19 fl19_0 iz19 zk19 iu19 u21 sz21 by21 ag21 so21 iz21 zk21 iu21 u23 sz23 by23 ag23 so23 iz23 zk23 iu23 ap23 u24 sz24 by24 ag24 so24 iz24 zk24 iu24 u27 sz27 by27 ag27 so27 iz27 zk27 iu27 ap27 u33 sz33 by33 ag33 so33 iz33 zk33 iu33 sz35 by35 ag35 so35 fl35_0 fl35_1 fl35_2 fl35_3 se35 iz35 zk35 iu35 sz36 by36 ag36 so36 fl36_0 fl36_1 fl36_2 fl36_3 se36 iz36 zk36 iu36 sz41 by41 ag41 so41 fl41_0 fl41_1 fl41_2 fl41_3 se41 iz41 zk41 iu41 u62 sz62 by62 ag62 so62 iz62 zk62 iu62 ap62 u64 sz64 by64 ag64 so64 iz64 zk64 iu64 u65 sz65 by65 ag65 so65 iz65 zk65 iu65 ap65 aps65 sz66 by66 ag66 so66 fl66_0 fl66_1 iz66 zk66 iu66 sz67 by67 ag67 so67 fl67_0 fl67_1 iz67 zk67 iu67 u71 sz71 by71 ag71 so71 iz71 zk71 iu71 u75 sz75 by75 ag75 so75 iz75 zk75 iu75 u76 sz76 by76 ag76 so76 iz76 zk76 iu76 u79 sz79 by79 ag79 so79 iz79 zk79 iu79 u85 sz85 by85 ag85 so85 iz85 zk85 iu85 u86 sz86 by86 ag86 so86 iz86 zk86 iu86 sz89 by89 ag89 so89 fl89_0 fl89_1 fl89_2 iz89 zk89 iu89 sz90 by90 ag90 so90 fl90_0 fl90_1 fl90_2 iz90 zk90 iu90 u93 sz93 by93 ag93 so93 iz93 zk93 iu93 u97 sz97 by97 ag97 so97 iz97 zk97 iu97 sz98 by98 ag98 so98 fl98_0 se98 iz98 zk98 iu98 sz99 by99 ag99 so99 fl99_0 se99 iz99 zk99 iu99 u101 sz101 by101 ag101 so101 iz101 zk101 iu101 u107 sz107 by107 ag107 so107 iz107 zk107 iu107 u108 sz108 by108 ag108 so108 iz108 zk108 iu108 u112 sz112 by112 ag112 so112 iz112 zk112 iu112 u113 sz113 by113 ag113 so113 iz113 zk113 iu113 sz114 by114 ag114 so114 fl114_0 fl114_1 fl114_2 fl114_3 iz114 zk114 iu114 sz115 by115 ag115 so115 fl115_0 fl115_1 fl115_2 fl115_3 iz115 zk115 iu115 u116 sz116 by116 ag116 so116 iz116 zk116 iu116 sz117 by117 ag117 so117 fl117_0 iz117 zk117 iu117 sz118 by118 ag118 so118 fl118_0 iz118 zk118 iu118 u120 sz120 by120 ag120 so120 iz120 zk120 iu120 u121 sz121 by121 ag121 so121 iz121 zk121 iu121 u123 sz123 by123 ag123 so123 iz123 zk123 iu123 u124 sz124 by124 ag124 so124 iz124 zk124 iu124 sz125 by125 ag125 so125 fl125_0 fl125_1 fl125_2 fl125_3 fl125_4 fl125_5 fl125_6 fl125_7 fl125_8 fl125_9 fl125_10 iz125 zk125 iu125 sz126 by126 ag126 so126 fl126_0 fl126_1 fl126_2 fl126_3 fl126_4 fl126_5 fl126_6 fl126_7 fl126_8 fl126_9 fl126_10 iz126 zk126 iu126 if20 if55 if56 zv2 zv3 zv4 zv5 zv6 zv7 zv8 zv9 zv10 zv11 zv12 zv13 zv14 zv15 zv16 zv17 zv18 zv19 zv21 zv23 zv24 zv27 zv33 zv35 zv36 zv41 zv62 zv64 zv65 zv66 zv67 zv71 zv75 zv76 zv79 zv85 zv86 zv89 zv90 zv93 zv97 zv98 zv99 zv101 zv107 zv108 zv112 zv113 zv114 zv115 zv120 zv121 zv123 zv124 zv125 zv126
end Go.Proofs.YtkkamgblakhmiaaDoor

/- Which slots live behind each region, made by program (keeps2.py). -/
namespace Go.Proofs.YtkkamgblakhmiaaDoor
def kp3 (i : Nat) : List Nat := if i < 4 then if i < 2 then if i < 1 then [0] else [0, 10] else if i < 3 then [2] else [0, 13] else if i < 6 then if i < 5 then [2] else [0, 3, 4, 5] else if i < 7 then [3, 4, 5, 6, 7, 8] else [2]
def kp4 (i : Nat) : List Nat := if i < 7 then if i < 3 then if i < 1 then [0, 1] else if i < 2 then [0, 1, 15] else [4] else if i < 5 then if i < 4 then [0, 5] else [0, 5, 28] else if i < 6 then [4] else [0, 5, 6] else if i < 10 then if i < 8 then [0, 5, 6, 7] else if i < 9 then [0, 5, 6, 7, 31] else [0, 5, 6, 7] else if i < 12 then if i < 11 then [0, 5, 6, 7] else [6, 8, 9, 10] else if i < 13 then [8, 9, 10, 11, 12, 13] else [4]
def kp5 (i : Nat) : List Nat := if i < 11 then if i < 5 then if i < 2 then if i < 1 then [0] else [0, 12] else if i < 3 then [2] else if i < 4 then [0, 3, 5] else [0, 3, 25] else if i < 8 then if i < 6 then [2] else if i < 7 then [0, 3, 6, 7] else [0, 3, 6, 7, 8] else if i < 9 then [0, 3, 6, 7, 8, 29] else if i < 10 then [0, 3, 6, 7, 8] else [0, 3, 6, 7, 8, 9] else if i < 16 then if i < 13 then if i < 12 then [0, 3, 6, 7, 8, 9, 79] else [2] else if i < 14 then [0, 3, 7, 8, 9, 10] else if i < 15 then [0, 3, 7, 8, 9, 10, 84] else [0, 3, 7, 8, 9, 10] else if i < 19 then if i < 17 then [0, 3, 7, 8, 9, 10, 90] else if i < 18 then [0, 3, 7, 8, 9, 10] else [0, 3, 7, 8, 9, 96] else if i < 20 then [2] else if i < 21 then [0, 3, 6, 7, 8] else [2]
def kp6 (i : Nat) : List Nat := if i < 8 then if i < 4 then if i < 2 then if i < 1 then [0] else [0, 13] else if i < 3 then [2] else [0, 3, 5] else if i < 6 then if i < 5 then [0, 3, 26] else [2] else if i < 7 then [0, 3, 6] else [0, 3, 6, 30] else if i < 12 then if i < 10 then if i < 9 then [0, 3, 6] else [0, 3, 6, 7] else if i < 11 then [0, 3, 6, 7, 48] else [0, 3, 6, 7, 8, 10] else if i < 14 then if i < 13 then [0, 3, 6, 7, 8, 10, 11] else [0, 3, 6, 120] else if i < 15 then [2] else [2]
def kp7 (i : Nat) : List Nat := if i < 11 then if i < 5 then if i < 2 then if i < 1 then [0, 1] else [0, 1, 18] else if i < 3 then [4] else if i < 4 then [0, 1, 26] else [4] else if i < 8 then if i < 6 then [0, 1, 5, 6, 7] else if i < 7 then [0, 1, 5, 6, 7, 8, 9, 10] else [0, 5, 6, 7, 8, 9, 10, 11, 12, 13] else if i < 9 then [0, 5, 6, 7, 8, 9, 10, 11, 12, 13, 49] else if i < 10 then [4] else [0, 5, 8, 9, 10, 11, 12, 13, 64] else if i < 17 then if i < 14 then if i < 12 then [4] else if i < 13 then [0, 5, 8, 11, 13, 14] else [0, 5, 8, 11, 13, 14, 15] else if i < 15 then [0, 5, 8, 11, 13, 14, 15, 85] else if i < 16 then [0, 5, 8, 11, 13, 14, 15] else [0, 5, 8, 11, 13, 14, 15, 91] else if i < 20 then if i < 18 then [0, 5, 8, 11, 13, 14, 15] else if i < 19 then [0, 5, 8, 11, 13, 14, 16] else [0, 5, 8, 11, 13, 14, 16, 97] else if i < 21 then [0, 5, 8, 11, 13, 14, 16] else if i < 22 then [0, 5, 8, 11, 13, 14, 16] else [4]
def kp8 (i : Nat) : List Nat := if i < 4 then if i < 2 then if i < 1 then [0] else [0, 8] else if i < 3 then [2] else [0, 11] else if i < 6 then if i < 5 then [2] else [0, 3, 4] else if i < 7 then [0, 3, 4, 5, 6] else [2]
def kp9 (i : Nat) : List Nat := if i < 11 then if i < 5 then if i < 2 then if i < 1 then [0, 1] else [0, 1, 14] else if i < 3 then [4] else if i < 4 then [0, 1, 22] else [4] else if i < 8 then if i < 6 then [0, 1, 5] else if i < 7 then [0, 1, 5, 26] else [0, 1, 5] else if i < 9 then [0, 1, 5, 62] else if i < 10 then [4] else [1, 75] else if i < 16 then if i < 13 then if i < 12 then [4] else [6, 8] else if i < 14 then [6, 8, 9, 11] else if i < 15 then [6, 9, 11, 90] else [4] else if i < 19 then if i < 17 then [6, 9, 11, 12] else if i < 18 then [6, 9, 11, 12, 101] else [6, 9, 11, 12] else if i < 20 then [6, 9, 11, 12, 127] else if i < 21 then [4] else [4]
def kp10 (i : Nat) : List Nat := if i < 2 then if i < 1 then [] else [1, 2, 3] else if i < 3 then [1, 2, 3, 4, 6] else [0]
def kp11 (i : Nat) : List Nat := if i < 8 then if i < 4 then if i < 2 then if i < 1 then [0, 2, 3] else [0, 2, 3, 11] else if i < 3 then [2, 3, 4] else [0, 2, 3, 5] else if i < 6 then if i < 5 then [0, 2, 3, 5, 6] else [0, 2, 3, 5, 6] else if i < 7 then [0, 2, 3, 5] else [0, 2, 3, 5, 31] else if i < 12 then if i < 10 then if i < 9 then [2, 3, 4] else [0, 2, 3, 5, 7, 8] else if i < 11 then [0, 2, 3, 5, 7, 8, 41] else [2, 3, 4] else if i < 14 then if i < 13 then [0, 2, 3, 5, 7, 8, 45] else [2, 3, 4] else if i < 15 then [0, 2, 3, 5, 8] else [0, 2, 3, 5]
def kp12 (i : Nat) : List Nat := if i < 10 then if i < 5 then if i < 2 then if i < 1 then [0] else [0, 12] else if i < 3 then [2, 3, 4] else if i < 4 then [0, 5] else [0, 5, 6, 7] else if i < 7 then if i < 6 then [0, 5, 6, 7, 8] else [0, 5, 6, 7, 8, 18] else if i < 8 then [0, 5, 6, 7, 8] else if i < 9 then [0, 5, 6, 7, 8, 9] else [0, 5, 6, 7, 8, 9, 28] else if i < 15 then if i < 12 then if i < 11 then [2, 3, 4] else [0, 5, 6, 7, 8, 9, 32] else if i < 13 then [2, 3, 4] else if i < 14 then [0, 5, 6, 7, 8, 9, 36] else [0, 5, 6, 7, 8, 9] else if i < 18 then if i < 16 then [0, 5, 6, 7, 8, 9, 42] else if i < 17 then [0, 5, 6, 7, 8, 9] else [0, 5, 6, 7, 8, 9] else if i < 19 then [0, 5, 6, 7, 8, 9] else if i < 20 then [0, 5, 6, 7, 8] else [2, 3, 4]
def kp13 (i : Nat) : List Nat := if i < 4 then if i < 2 then if i < 1 then [0, 1] else [0, 1, 10] else if i < 3 then [4] else [0, 1, 5] else if i < 6 then if i < 5 then [0, 1, 5, 14] else [0, 1, 5] else if i < 7 then [0, 1, 5, 25] else if i < 8 then [4] else [4]
def kp14 (i : Nat) : List Nat := if i < 3 then if i < 1 then [0] else if i < 2 then [0, 3] else [0, 3, 4] else if i < 5 then if i < 4 then [0, 3, 4, 8] else [0, 3, 4] else if i < 6 then [0, 3, 4] else [2]
def kp15 (i : Nat) : List Nat := if i < 6 then if i < 3 then if i < 1 then [0, 1] else if i < 2 then [0, 1, 5] else [0, 1, 5, 9] else if i < 4 then [0, 1, 5] else if i < 5 then [0, 1, 5, 29] else [0, 1, 5, 39] else if i < 9 then if i < 7 then [0, 1, 5] else if i < 8 then [0, 1, 5, 49] else [4] else if i < 10 then [0, 1, 5, 65] else if i < 11 then [4] else [4]
def kp16 (i : Nat) : List Nat := if i < 3 then if i < 1 then [0] else if i < 2 then [0, 28] else [2, 3] else if i < 5 then if i < 4 then [4, 5] else [4, 39] else if i < 6 then [2, 3] else [2, 3]
def kp17 (i : Nat) : List Nat := if i < 5 then if i < 2 then if i < 1 then [0] else [0, 4] else if i < 3 then [0, 4, 5] else if i < 4 then [0, 4, 5, 9] else [0, 4, 5] else if i < 8 then if i < 6 then [0, 4, 5, 20] else if i < 7 then [2, 3] else [0, 4, 5] else if i < 9 then [4, 44] else if i < 10 then [2, 3] else [2, 3]
def kp18 (i : Nat) : List Nat := if i < 9 then if i < 4 then if i < 2 then if i < 1 then [0] else [3] else if i < 3 then [3, 4] else [3, 4] else if i < 6 then if i < 5 then [3, 4] else [3, 4] else if i < 7 then [3, 4] else if i < 8 then [3, 4] else [3, 4] else if i < 13 then if i < 11 then if i < 10 then [3, 4] else [3, 4] else if i < 12 then [3, 4] else [3, 4] else if i < 15 then if i < 14 then [3, 4] else [3, 4] else if i < 16 then [4] else if i < 17 then [2] else [2]
def kp19 (i : Nat) : List Nat := if i < 9 then if i < 4 then if i < 2 then if i < 1 then [0] else [3] else if i < 3 then [3, 4] else [3, 4] else if i < 6 then if i < 5 then [3, 4] else [3, 4] else if i < 7 then [3, 4] else if i < 8 then [3, 4] else [3, 4] else if i < 13 then if i < 11 then if i < 10 then [3, 4] else [3, 4] else if i < 12 then [3, 4] else [3, 4] else if i < 15 then if i < 14 then [3, 4] else [3, 4] else if i < 16 then [4] else if i < 17 then [2] else [2]
def kp20 (i : Nat) : List Nat := if i < 1 then [0] else [2]
def kp21 (i : Nat) : List Nat := if i < 3 then if i < 1 then [0] else if i < 2 then [0, 3] else [0, 3, 7] else if i < 5 then if i < 4 then [0, 3] else [0, 3, 25] else if i < 6 then [2] else [2]
def kp22 (i : Nat) : List Nat := if i < 1 then [0] else if i < 2 then [3, 4, 5] else [2]
def kp23 (i : Nat) : List Nat := if i < 3 then if i < 1 then [0] else if i < 2 then [0, 3] else [0, 3, 7] else if i < 5 then if i < 4 then [0, 3] else [0, 3, 13] else if i < 6 then [2] else [2]
def kp24 (i : Nat) : List Nat := if i < 4 then if i < 2 then if i < 1 then [2, 3] else [2, 3, 5, 7] else if i < 3 then [2, 3, 5, 7, 8] else [2, 3, 7, 8, 22, 23, 24] else if i < 6 then if i < 5 then [2, 3, 7, 8, 22, 23, 24, 25] else [2, 3, 7, 8, 10, 22, 23, 24] else if i < 7 then [2, 3, 7, 8, 22, 23, 24] else if i < 8 then [2, 3, 7, 8, 22, 23, 24] else [4]
def kp25 (i : Nat) : List Nat := if i < 1 then [2, 3] else if i < 2 then [2, 3, 5, 7] else [4]
def kp26 (i : Nat) : List Nat := if i < 6 then if i < 3 then if i < 1 then [0] else if i < 2 then [0, 3] else [0, 3, 6, 7, 8] else if i < 4 then [0, 3, 6, 7, 8, 9] else if i < 5 then [0, 3, 4, 5, 6, 7, 8] else [0, 3, 4, 5, 6, 7, 8, 13] else if i < 9 then if i < 7 then [0, 3, 4, 5, 6, 7, 8, 16] else if i < 8 then [0, 3, 5, 6, 7, 8] else [0, 3, 5, 6, 7, 8, 27] else if i < 11 then if i < 10 then [0, 3, 5, 6, 7, 8] else [0, 3, 6, 7, 8] else if i < 12 then [0, 3, 6, 7, 8] else [2]
def kp27 (i : Nat) : List Nat := if i < 3 then if i < 1 then [0] else if i < 2 then [0, 3] else [0, 3, 4] else if i < 5 then if i < 4 then [0, 3, 4, 8] else [0, 3, 4] else if i < 6 then [0, 3, 4] else [2]
def kp28 (i : Nat) : List Nat := if i < 5 then if i < 2 then if i < 1 then [0] else [0, 3] else if i < 3 then [0, 3, 4] else if i < 4 then [0, 3, 4, 8] else [0, 3, 4] else if i < 8 then if i < 6 then [0, 3, 4, 26] else if i < 7 then [0, 3, 4] else [0, 3, 4, 42] else if i < 9 then [0, 3, 4] else if i < 10 then [0, 3, 4] else [2]
def kp29 (i : Nat) : List Nat := if i < 6 then if i < 3 then if i < 1 then [0] else if i < 2 then [0, 3] else [0, 3, 8] else if i < 4 then [2] else if i < 5 then [0, 3, 10] else [0, 3] else if i < 9 then if i < 7 then [0, 3, 29] else if i < 8 then [0, 3, 4] else [0, 3, 4, 39] else if i < 10 then [2] else if i < 11 then [0, 3] else [2]
def kp30 (i : Nat) : List Nat := if i < 5 then if i < 2 then if i < 1 then [0, 1] else [0, 1, 9] else if i < 3 then [4] else if i < 4 then [0, 1, 15] else [4] else if i < 8 then if i < 6 then [0, 1, 5] else if i < 7 then [0, 1, 5, 6] else [0, 1, 5, 6, 24] else if i < 9 then [4] else if i < 10 then [0, 1, 5, 6] else [0, 1, 5]
def kp31 (i : Nat) : List Nat := if i < 10 then if i < 5 then if i < 2 then if i < 1 then [0] else [0, 10, 11] else if i < 3 then [0, 10, 11, 12] else if i < 4 then [0, 9, 10, 11] else [0, 9, 10, 11, 16] else if i < 7 then if i < 6 then [2, 3] else [0, 10, 11] else if i < 8 then [0, 19] else if i < 9 then [0, 22] else [4] else if i < 15 then if i < 12 then if i < 11 then [4, 28] else [2, 3] else if i < 13 then [4, 32] else if i < 14 then [2, 3] else [0, 36] else if i < 17 then if i < 16 then [5] else [5, 7] else if i < 18 then [5, 47] else if i < 19 then [2, 3] else [2, 3]
def kp32 (i : Nat) : List Nat := if i < 4 then if i < 2 then if i < 1 then [0, 1] else [0, 1, 8] else if i < 3 then [4] else [0, 1, 10] else if i < 6 then if i < 5 then [0, 1] else [0, 1, 29] else if i < 7 then [0, 1, 57] else if i < 8 then [0, 1] else [4]
def kp33 (i : Nat) : List Nat := if i < 9 then if i < 4 then if i < 2 then if i < 1 then [0, 2] else [0, 2, 3] else if i < 3 then [2, 6] else [2, 6, 10] else if i < 6 then if i < 5 then [2] else [0, 2, 3, 13] else if i < 7 then [0, 2, 3, 32] else if i < 8 then [0, 2, 3] else [0, 2, 3, 38] else if i < 14 then if i < 11 then if i < 10 then [2] else [0, 2, 3, 46] else if i < 12 then [2] else if i < 13 then [0, 2, 3, 51] else [0, 2, 3, 64] else if i < 16 then if i < 15 then [0, 2, 3] else [0, 2, 3, 5] else if i < 17 then [0, 2, 3, 74] else if i < 18 then [2] else [2]
def kp34 (i : Nat) : List Nat := if i < 2 then if i < 1 then [0, 1] else [0, 1, 5] else if i < 3 then [0, 1, 5, 24] else if i < 4 then [0, 1, 5] else [4]
def kp35 (i : Nat) : List Nat := if i < 2 then if i < 1 then [0] else [0, 4, 5] else if i < 3 then [0, 4, 5, 12] else if i < 4 then [2, 3] else [2, 3]
def kp36 (i : Nat) : List Nat := if i < 1 then [0] else [2]
def kp37 (i : Nat) : List Nat := if i < 1 then [0] else [2]
def kp38 (i : Nat) : List Nat := if i < 1 then [0] else [2]
def kp39 (i : Nat) : List Nat := if i < 1 then [0, 1] else [4, 5, 6]
def kp40 (i : Nat) : List Nat := if i < 5 then if i < 2 then if i < 1 then [0, 1] else [0, 1, 10] else if i < 3 then [4] else if i < 4 then [0, 1, 12, 13] else [0, 1, 12, 13, 14] else if i < 7 then if i < 6 then [0, 1, 5, 12, 13] else [0, 1, 12, 13, 24] else if i < 8 then [4] else if i < 9 then [0, 1, 12, 13] else [4]
def kp41 (i : Nat) : List Nat := if i < 2 then if i < 1 then [0, 1] else [0, 1] else if i < 3 then [] else [4]
def kp42 (i : Nat) : List Nat := if i < 2 then if i < 1 then [0, 1] else [0, 1] else if i < 3 then [1] else [4, 5]
def kp43 (i : Nat) : List Nat := if i < 1 then [0] else [2]
def kp44 (i : Nat) : List Nat := if i < 1 then [0, 1] else [4]
def kp45 (i : Nat) : List Nat := if i < 1 then [0, 1] else [4]
def kp46 (i : Nat) : List Nat := if i < 2 then if i < 1 then [0, 2] else [2, 4] else if i < 3 then [2, 4, 6] else if i < 4 then [2, 4] else [2]
def kp48 (i : Nat) : List Nat := if i < 1 then [0, 1] else [4]
def kp49 (i : Nat) : List Nat := if i < 1 then [0] else [2]
def kp50 (i : Nat) : List Nat := if i < 1 then [0] else [0]
def kp51 (i : Nat) : List Nat := if i < 4 then if i < 2 then if i < 1 then [0] else [0, 3] else if i < 3 then [0, 3, 4] else [0, 3, 4, 9] else if i < 6 then if i < 5 then [0, 3, 4] else [0, 3, 4, 33] else if i < 7 then [2] else [2]
def kp52 (i : Nat) : List Nat := if i < 11 then if i < 5 then if i < 2 then if i < 1 then [0] else [0, 4] else if i < 3 then [0, 30] else if i < 4 then [0, 5] else [0, 5, 39] else if i < 8 then if i < 6 then [0, 5] else if i < 7 then [0, 5, 44] else [2, 3] else if i < 9 then [0, 5, 6] else if i < 10 then [5, 6, 47, 48, 49] else [5, 6, 47, 48, 49, 50] else if i < 16 then if i < 13 then if i < 12 then [5, 6, 8, 47, 48, 49] else [5, 6, 8, 47, 48, 49] else if i < 14 then [5, 6, 8, 47, 48, 49, 56] else if i < 15 then [2, 3] else [5, 6, 47, 48, 49] else if i < 19 then if i < 17 then [5, 6, 47, 48, 49] else if i < 18 then [6, 66] else [6] else if i < 20 then [2, 3] else if i < 21 then [9, 10] else [2, 3]
def kp53 (i : Nat) : List Nat := if i < 5 then if i < 2 then if i < 1 then [0, 1, 2, 3, 4] else [0, 1, 2, 3, 4, 11] else if i < 3 then [0, 1, 2, 3, 4, 11, 12] else if i < 4 then [10] else [0, 1, 2, 3, 4, 11, 19] else if i < 8 then if i < 6 then [10] else if i < 7 then [0, 1, 2, 3, 4, 11, 26] else [10] else if i < 9 then [0, 1, 3, 4, 34] else if i < 10 then [10] else [10]
def kp54 (i : Nat) : List Nat := if i < 2 then if i < 1 then [0, 1] else [0, 1, 7] else if i < 3 then [0, 1, 7, 12] else if i < 4 then [4, 5, 6] else [4, 5, 6]
def kp56 (i : Nat) : List Nat := if i < 1 then [0, 1] else [4]
def kp57 (i : Nat) : List Nat := if i < 1 then [0, 1] else [4]
def kp58 (i : Nat) : List Nat := if i < 18 then if i < 9 then if i < 4 then if i < 2 then if i < 1 then [0, 1] else [0, 1, 5] else if i < 3 then [0, 1, 5, 16] else [4] else if i < 6 then if i < 5 then [0, 1, 5, 24] else [4] else if i < 7 then [0, 1, 5, 31] else if i < 8 then [4] else [0, 1, 5, 36] else if i < 13 then if i < 11 then if i < 10 then [4] else [0, 1, 5, 6] else if i < 12 then [0, 1, 5, 6, 7] else [0, 1, 5, 6, 7, 8] else if i < 15 then if i < 14 then [0, 1, 5, 6, 7, 8, 9] else [0, 1, 5, 6, 7, 8, 9, 10] else if i < 16 then [0, 1, 5, 6, 7, 8, 9, 10, 59] else if i < 17 then [0, 1, 5, 6, 7, 8, 9, 10, 64] else [0, 1, 5, 6, 7, 8, 9, 10, 11] else if i < 27 then if i < 22 then if i < 20 then if i < 19 then [0, 1, 5, 6, 7, 8, 9, 10, 11, 73] else [4] else if i < 21 then [0, 1, 5, 6, 7, 8, 9, 10] else [0, 1, 5, 6, 7, 8, 9, 10, 93] else if i < 24 then if i < 23 then [4] else [0, 1, 5, 6, 7, 8, 9, 10] else if i < 25 then [0, 1, 5, 6, 7, 8, 9, 10] else if i < 26 then [0, 1, 5, 6, 7, 8, 9, 10, 107] else [8, 12] else if i < 31 then if i < 29 then if i < 28 then [8, 12, 114] else [4] else if i < 30 then [4] else [0, 1, 5, 6, 7, 8, 9, 10, 132] else if i < 33 then if i < 32 then [8, 13] else [8, 13, 139] else if i < 34 then [4] else if i < 35 then [4] else [4]
def kp59 (i : Nat) : List Nat := if i < 12 then if i < 6 then if i < 3 then if i < 1 then [0, 1, 2] else if i < 2 then [0, 1, 2, 13] else [6, 7] else if i < 4 then [0, 1, 2, 8] else if i < 5 then [0, 1, 2, 8, 16] else [0, 1, 2, 8, 16, 17] else if i < 9 then if i < 7 then [0, 1, 2, 8] else if i < 8 then [0, 1, 2, 8, 21] else [0, 1, 2] else if i < 10 then [0, 1, 2, 8] else if i < 11 then [0, 1, 2, 8] else [2, 7, 8, 9] else if i < 18 then if i < 15 then if i < 13 then [2, 7, 8, 9, 38] else if i < 14 then [6, 7] else [2, 8, 9, 41] else if i < 16 then [2, 8, 9] else if i < 17 then [8, 9, 10] else [8, 9, 10, 52] else if i < 21 then if i < 19 then [6, 7] else if i < 20 then [8, 9, 10, 62] else [6, 7] else if i < 23 then if i < 22 then [8, 11] else [11, 69] else if i < 24 then [11] else [6, 7]
def kp60 (i : Nat) : List Nat := if i < 1 then [0, 1] else [4]
def kp61 (i : Nat) : List Nat := if i < 1 then [0, 1] else [4]
def kp62 (i : Nat) : List Nat := if i < 1 then [0, 1, 2] else [6]
def kp63 (i : Nat) : List Nat := if i < 1 then [0, 1, 2] else [6]
end Go.Proofs.YtkkamgblakhmiaaDoor

/- Texts as lists of bytes. -/
namespace Go.Proofs.YtkkamgblakhmiaaDoor
open Go Go.Fw

def bs (l : List UInt8) : ByteArray := ⟨l.toArray⟩
theorem bs_data (s : ByteArray) : bs s.data.toList = s := by cases s; simp [bs]
theorem bs_ex (s : ByteArray) : ∃ l, s = bs l := ⟨_, (bs_data s).symm⟩
theorem data_bs (l : List UInt8) : (bs l).data.toList = l := by simp [bs]
theorem mk_bs (l : List UInt8) : ByteArray.mk l.toArray = bs l := rfl
theorem bs_size (l : List UInt8) : (bs l).size = l.length := by simp [bs, ByteArray.size]
theorem bs_inj {a b : List UInt8} (h : bs a = bs b) : a = b := by
  have := congrArg (fun s => s.data.toList) h
  simpa [data_bs] using this
theorem eqS_bs (a b : List UInt8) : eqS (bs a) (bs b) = (a == b) := by unfold eqS; rw [data_bs, data_bs]
theorem strAt_bs (l : List UInt8) (i : Nat) : strAt (bs l) i = ((l.getD i 0).toNat : Int) := by unfold strAt; rw [data_bs]
theorem bs_app (a b : List UInt8) : bs a ++ bs b = bs (a ++ b) := by
  apply ByteArray.ext
  simp [bs, ByteArray.data_append]
theorem bs_ext (l : List UInt8) (a b : Nat) : (bs l).extract a b = bs ((l.take b).drop a) := by
  apply ByteArray.ext
  simp [bs, ByteArray.data_extract, List.drop_take]
theorem bs_empty : ByteArray.empty = bs [] := rfl
theorem bytesLess_nil : True := trivial
def ul (s : ByteArray) : List UInt8 := s.data.toList
theorem ul_bs (l : List UInt8) : ul (bs l) = l := data_bs l
/-- The byte at a place. -/
def bt (l : List UInt8) (i : Nat) : Int := ((l.getD i 0).toNat : Int)
theorem strAt_bt (l : List UInt8) (i : Nat) : strAt (bs l) i = bt l i := strAt_bs l i
theorem take_all {α : Type} (l : List α) : l.take l.length = l := List.take_length
theorem drop_take0 {α : Type} (l : List α) (n : Nat) : (l.take n).drop 0 = l.take n := rfl

/-! ### The plain functions -/
def smN (n : Int) : Bool := decide (n ≥ 97) && decide (n ≤ 122)
def dgN (n : Int) : Bool := decide (n ≥ 48) && decide (n ≤ 57)
def smB (c : UInt8) : Bool := smN c.toNat
def dgB (c : UInt8) : Bool := dgN c.toNat
theorem smN_bt (l : List UInt8) (i : Nat) : smN (bt l i) = smB (l.getD i 0) := rfl
theorem dgN_bt (l : List UInt8) (i : Nat) : dgN (bt l i) = dgB (l.getD i 0) := rfl
/-- The longest beginning of digits, and small letters. -/
def runN (b : Bool) : List UInt8 → Nat
  | [] => 0
  | c :: l => if (dgB c || (b && smB c)) = true then runN b l + 1 else 0
theorem runN_le (b : Bool) (l : List UInt8) : runN b l ≤ l.length := by
  induction l with
  | nil => simp [runN]
  | cons c l ih => simp only [runN]; split <;> simp <;> omega
def lit_ (l : List Nat) : List UInt8 := l.map UInt8.ofNat
def resL : List (List UInt8) := [[98, 111, 111, 108], [100, 101, 102], [101, 120, 112, 111, 114, 116], [102, 97, 108, 115, 101], [102, 111, 108, 100], [105, 109, 112, 111, 114, 116], [105, 110], [105, 110, 116], [108, 101, 116], [109, 111, 100, 117, 108, 101], [115, 99, 97, 110], [115, 105, 122, 101], [116, 114, 117, 101], [119, 104, 101, 114, 101]]
def resv (w : List UInt8) : Bool := resL.contains w
def nameS (w : List UInt8) : Bool := match w with
  | [] => false
  | c :: _ => smB c && decide (runN true w = w.length) && decide (w.length ≤ 30) && !resv w
def dec (l : List UInt8) : Int := l.foldl (fun n c => 10 * n + ((c.toNat : Int) - 48)) 0
def valS (w : List UInt8) : Int × Bool :=
  if w = [] ∨ 10 < w.length ∨ runN false w ≠ w.length ∨ (w.getD 0 0 = 48 ∧ 1 < w.length) ∨ 2147483648 < dec w then (0, false) else (dec w, true)
def symL : List (List UInt8) := [[46, 46], [61, 61], [33, 61], [60, 61], [62, 61], [45, 62], [38, 38], [124, 124], [40], [41], [91], [93], [123], [125], [44], [58], [46], [64], [35], [61], [60], [62], [43], [45], [42], [47], [37], [33]]
def symS (l : List UInt8) : Option (List UInt8) := symL.find? fun x => x.isPrefixOf l
def firstS (l : List UInt8) : Int × List UInt8 :=
  match l with
  | [] => (0, [])
  | c :: _ =>
    if smB c = true then
      (if resv (l.take (runN true l)) = true then (2, l.take (runN true l)) else if nameS (l.take (runN true l)) = true then (1, l.take (runN true l)) else (0, []))
    else if dgB c = true then (if (valS (l.take (runN false l))).2 = true then (3, l.take (runN false l)) else (0, []))
    else match symS l with
      | some x => (4, x)
      | none => (0, [])
/-- Blanks and comments: how many bytes. The flag: inside of a comment. -/
def blk : Bool → List UInt8 → Nat
  | _, [] => 0
  | true, c :: l => blk (c != 10) l + 1
  | false, c :: l => if (c == 32 || c == 9 || c == 10) = true then blk false l + 1 else if (c == 47 && l.head? == some 47) = true then blk true l + 1 else 0
theorem blk_le (b : Bool) (l : List UInt8) : blk b l ≤ l.length := by
  induction l generalizing b with
  | nil => cases b <;> simp [blk]
  | cons c l ih =>
    cases b
    · simp only [blk]
      split
      · have := ih false; simp; omega
      split
      · have := ih true; simp; omega
      · simp
    · have := ih (c != 10); simp [blk]; omega
structure Tok where
  k : Int
  t : List UInt8
  line : Int
  at_ : Int
deriving DecidableEq
def nls (l : List UInt8) : Nat := l.count 10
/-- The tokens of a text: what is left, the line, the place, what was found. -/
def lexG : Nat → List UInt8 → Int → Int → List Tok → List Tok × Int × Int
  | 0, _, _, _, _ => ([], 0, 0)
  | n + 1, l, line, a, acc =>
    if l.drop (blk false l) = [] then (acc, 0, 0)
    else if (firstS (l.drop (blk false l))).1 = 0 then ([], a + blk false l, 6)
    else if acc.length = 4000 then ([], a + blk false l, 3)
    else lexG n ((l.drop (blk false l)).drop (firstS (l.drop (blk false l))).2.length) (line + nls (l.take (blk false l))) (a + blk false l + (firstS (l.drop (blk false l))).2.length)
      (acc ++ [⟨(firstS (l.drop (blk false l))).1, (firstS (l.drop (blk false l))).2, line + nls (l.take (blk false l)), a + blk false l⟩])
def lexS (l : List UInt8) : List Tok × Int × Int := if 20000 < l.length then ([], 0, 3) else lexG (l.length + 1) l 1 0 []
/-- A token as the program has it. -/
def tokV (t : Tok) : AV := .agg [.lit (.int .i64 t.k), .lit (.string (bs t.t)), .lit (.int .i64 t.line), .lit (.int .i64 t.at_)]
def toks (l : List Tok) : List AV := l.map tokV
theorem toks_length (l : List Tok) : (toks l).length = l.length := by simp [toks]
theorem toks_append1 (l : List Tok) (a b c : Int) (s : List UInt8) : toks l ++ [.agg [.lit (.int .i64 a), .lit (.string (bs s)), .lit (.int .i64 b), .lit (.int .i64 c)]] = toks (l ++ [⟨a, s, b, c⟩]) := by simp [toks, tokV]
attribute [go_sem] mk_bs bs_size bs_ext strAt_bt eqS_bs bs_app ul_bs bs_empty toks_length toks_append1
end Go.Proofs.YtkkamgblakhmiaaDoor

/- Digits, letters, runs. -/
namespace Go.Proofs.YtkkamgblakhmiaaDoor
open Go Go.Fw

def tokN : AV := tokV ⟨0, [], 0, 0⟩
def jk : TypeId → AV := lookZ [(3, .lit (.int .i64 0)), (5, .lit (.int .u8 0)), (9, .lit (.string (bs []))), (36, tokN), (41, tokN)]
theorem jk3 : jk 3 = .lit (.int .i64 0) := rfl
theorem jk5 : jk 5 = .lit (.int .u8 0) := rfl
theorem jk9 : jk 9 = .lit (.string (bs [])) := rfl
theorem jk36 : jk 36 = tokN := rfl
theorem jk41 : jk 41 = tokN := rfl
theorem toks_getJ (l : List Tok) (i : Nat) : (toks l).getD i tokN = tokV (l.getD i ⟨0, [], 0, 0⟩) := by
  simp only [toks, tokN, List.getD_eq_getElem?_getD, List.getElem?_map]; cases l[i]? <;> rfl
def txs (l : List (List UInt8)) : List AV := l.map fun w => .lit (.string (bs w))
theorem txs_length (l : List (List UInt8)) : (txs l).length = l.length := by simp [txs]
theorem txs_getJ (l : List (List UInt8)) (i : Nat) : (txs l).getD i (.lit (.string (bs []))) = .lit (.string (bs (l.getD i []))) := by
  simp only [txs, List.getD_eq_getElem?_getD, List.getElem?_map]; cases l[i]? <;> rfl
theorem txs_scal (l : List (List UInt8)) : (txs l).all scal0 = true := by simp [txs, scal0]
theorem txs_append1 (l : List (List UInt8)) (w : List UInt8) : txs l ++ [.lit (.string (bs w))] = txs (l ++ [w]) := by simp [txs]
theorem bytesI_bs (l : List UInt8) (i : Nat) : (bytesI (bs l)).getD i 0 = bt l i := by
  simp only [bytesI, data_bs, bt, List.getD_eq_getElem?_getD, List.getElem?_map]; cases l[i]? <;> rfl
theorem bytesI_len (l : List UInt8) : (bytesI (bs l)).length = l.length := by simp [bytesI, data_bs]
attribute [go_sem] jk3 jk5 jk9 jk36 jk41 toks_getJ txs_length txs_getJ txs_scal txs_append1 bytesI_bs bytesI_len
noncomputable def E1 : Env := envJ (P := Tryd.prog) jk zer (fun t => t == 26) (fun _ => false) [] []
theorem E1_ok : EnvOk Tryd.prog E1 := envJOk zer_ok
theorem dig_pc {f : FuncId} {c : Int} (hf : f = 49 ∨ f = 36) : PC Tryd.prog f [.lit (.int .u8 c)] (.lit (.bool (dgN c))) := by
  rcases hf with rfl | rfl
  · skip
    refine pc_ofR E1_ok mixed (kp49) (rs := [.tmp 2]) Tryd.func49 rfl (by kernel_rfl) (by kernel_rfl) (Nat.le_of_ble_eq_true rfl) ?_
    simp only [initF_cons, initF_nil, Nat.reduceAdd]
    refine t_name fun KF => ?_
    unfold E1
    repeat' (first
     | (with_reducible first | refine t_seq fun K => ?_ | refine t_block ?_ | refine t_scope ?_ | refine t_label ?_ | refine t_skip ?_ | refine t_exit ?_ | refine t_ret ?_ | refine t_k ?_ | refine t_gF ?_ | exact kp_nil | exact Kp.refl _ | exact kp_to | refine kp_cons ?_ | refine kp_arr ?_ | refine kp_app ?_ | refine t_p ?_ | refine t_br (fun hc => ?_) fun hc => ?_)
     | ((with_reducible first | refine t_kE (t_openE ?_) | refine t_kD (t_openD ?_) | refine t_kE ?_ | refine t_kD ?_ | refine t_gS ?_ | refine t_kL ?_ | refine t_kLF ?_ ?_ | refine t_region fun K => ?_ | refine t_cond fun A B => ?_ | refine t_draw (by kernel_rfl) fun K => ?_); (try (first | refine t_hideE fun KL => ?_ | refine t_hideD fun KL => ?_)); simp only [go_sem, geff, kp49])
     | ((with_reducible refine kp_skip ?_ ?_); rfl) | simp only [thenQ, blockQ, scopeQ, Nat.reduceEqDiff, reduceIte] | (with_reducible first | refine And.intro ?_ ?_ | intro vr))
    all_goals try (first | (with_reducible assumption) | (intros; (try simp only [Bool.and_eq_true, Bool.or_eq_true, Bool.or_eq_false_iff, Bool.not_eq_true', Bool.not_eq_false', decide_eq_true_eq, decide_eq_false_iff_not, beq_iff_eq, beq_eq_false_iff_ne, bne_iff_ne, bne_eq_false_iff_eq, ne_eq, inI64, List.length_append] at *) <;> omega) | (intros; (with_reducible first | refine impB_ofR ?_ | refine and_ofB ?_ ?_) <;> with_reducible first | assumption | (refine impB_ofR ?_; assumption)) | ((try simp only [Bool.and_eq_true] at vr); simp only [impB, vr, Bool.or_true, Bool.true_or, Bool.and_self, Bool.not_true, Bool.not_false, Bool.and_true]; done))
    all_goals ((first | refine end_retE ?_ | refine end_normE ?_); simp only [fin, go_sem])
    exact LeA.of_eq (by simp [dgN])
  · skip
    refine pc_ofR E1_ok mixed (kp36) (rs := [.tmp 2]) Tryd.func36 rfl (by kernel_rfl) (by kernel_rfl) (Nat.le_of_ble_eq_true rfl) ?_
    simp only [initF_cons, initF_nil, Nat.reduceAdd]
    refine t_name fun KF => ?_
    unfold E1
    repeat' (first
     | (with_reducible first | refine t_seq fun K => ?_ | refine t_block ?_ | refine t_scope ?_ | refine t_label ?_ | refine t_skip ?_ | refine t_exit ?_ | refine t_ret ?_ | refine t_k ?_ | refine t_gF ?_ | exact kp_nil | exact Kp.refl _ | exact kp_to | refine kp_cons ?_ | refine kp_arr ?_ | refine kp_app ?_ | refine t_p ?_ | refine t_br (fun hc => ?_) fun hc => ?_)
     | ((with_reducible first | refine t_kE (t_openE ?_) | refine t_kD (t_openD ?_) | refine t_kE ?_ | refine t_kD ?_ | refine t_gS ?_ | refine t_kL ?_ | refine t_kLF ?_ ?_ | refine t_region fun K => ?_ | refine t_cond fun A B => ?_ | refine t_draw (by kernel_rfl) fun K => ?_); (try (first | refine t_hideE fun KL => ?_ | refine t_hideD fun KL => ?_)); simp only [go_sem, geff, kp36])
     | ((with_reducible refine kp_skip ?_ ?_); rfl) | simp only [thenQ, blockQ, scopeQ, Nat.reduceEqDiff, reduceIte] | (with_reducible first | refine And.intro ?_ ?_ | intro vr))
    all_goals try (first | (with_reducible assumption) | (intros; (try simp only [Bool.and_eq_true, Bool.or_eq_true, Bool.or_eq_false_iff, Bool.not_eq_true', Bool.not_eq_false', decide_eq_true_eq, decide_eq_false_iff_not, beq_iff_eq, beq_eq_false_iff_ne, bne_iff_ne, bne_eq_false_iff_eq, ne_eq, inI64, List.length_append] at *) <;> omega) | (intros; (with_reducible first | refine impB_ofR ?_ | refine and_ofB ?_ ?_) <;> with_reducible first | assumption | (refine impB_ofR ?_; assumption)) | ((try simp only [Bool.and_eq_true] at vr); simp only [impB, vr, Bool.or_true, Bool.true_or, Bool.and_self, Bool.not_true, Bool.not_false, Bool.and_true]; done))
    all_goals ((first | refine end_retE ?_ | refine end_normE ?_); simp only [fin, go_sem])
    exact LeA.of_eq (by simp [dgN])
theorem sm_pc {f : FuncId} {c : Int} (hf : f = 37 ∨ f = 38) : PC Tryd.prog f [.lit (.int .u8 c)] (.lit (.bool (smN c))) := by
  rcases hf with rfl | rfl
  · skip
    refine pc_ofR E1_ok mixed (kp37) (rs := [.tmp 2]) Tryd.func37 rfl (by kernel_rfl) (by kernel_rfl) (Nat.le_of_ble_eq_true rfl) ?_
    simp only [initF_cons, initF_nil, Nat.reduceAdd]
    refine t_name fun KF => ?_
    unfold E1
    repeat' (first
     | (with_reducible first | refine t_seq fun K => ?_ | refine t_block ?_ | refine t_scope ?_ | refine t_label ?_ | refine t_skip ?_ | refine t_exit ?_ | refine t_ret ?_ | refine t_k ?_ | refine t_gF ?_ | exact kp_nil | exact Kp.refl _ | exact kp_to | refine kp_cons ?_ | refine kp_arr ?_ | refine kp_app ?_ | refine t_p ?_ | refine t_br (fun hc => ?_) fun hc => ?_)
     | ((with_reducible first | refine t_kE (t_openE ?_) | refine t_kD (t_openD ?_) | refine t_kE ?_ | refine t_kD ?_ | refine t_gS ?_ | refine t_kL ?_ | refine t_kLF ?_ ?_ | refine t_region fun K => ?_ | refine t_cond fun A B => ?_ | refine t_draw (by kernel_rfl) fun K => ?_); (try (first | refine t_hideE fun KL => ?_ | refine t_hideD fun KL => ?_)); simp only [go_sem, geff, kp37])
     | ((with_reducible refine kp_skip ?_ ?_); rfl) | simp only [thenQ, blockQ, scopeQ, Nat.reduceEqDiff, reduceIte] | (with_reducible first | refine And.intro ?_ ?_ | intro vr))
    all_goals try (first | (with_reducible assumption) | (intros; (try simp only [Bool.and_eq_true, Bool.or_eq_true, Bool.or_eq_false_iff, Bool.not_eq_true', Bool.not_eq_false', decide_eq_true_eq, decide_eq_false_iff_not, beq_iff_eq, beq_eq_false_iff_ne, bne_iff_ne, bne_eq_false_iff_eq, ne_eq, inI64, List.length_append] at *) <;> omega) | (intros; (with_reducible first | refine impB_ofR ?_ | refine and_ofB ?_ ?_) <;> with_reducible first | assumption | (refine impB_ofR ?_; assumption)) | ((try simp only [Bool.and_eq_true] at vr); simp only [impB, vr, Bool.or_true, Bool.true_or, Bool.and_self, Bool.not_true, Bool.not_false, Bool.and_true]; done))
    all_goals ((first | refine end_retE ?_ | refine end_normE ?_); simp only [fin, go_sem])
    exact LeA.of_eq (by simp [smN])
  · skip
    refine pc_ofR E1_ok mixed (kp38) (rs := [.tmp 2]) Tryd.func38 rfl (by kernel_rfl) (by kernel_rfl) (Nat.le_of_ble_eq_true rfl) ?_
    simp only [initF_cons, initF_nil, Nat.reduceAdd]
    refine t_name fun KF => ?_
    unfold E1
    repeat' (first
     | (with_reducible first | refine t_seq fun K => ?_ | refine t_block ?_ | refine t_scope ?_ | refine t_label ?_ | refine t_skip ?_ | refine t_exit ?_ | refine t_ret ?_ | refine t_k ?_ | refine t_gF ?_ | exact kp_nil | exact Kp.refl _ | exact kp_to | refine kp_cons ?_ | refine kp_arr ?_ | refine kp_app ?_ | refine t_p ?_ | refine t_br (fun hc => ?_) fun hc => ?_)
     | ((with_reducible first | refine t_kE (t_openE ?_) | refine t_kD (t_openD ?_) | refine t_kE ?_ | refine t_kD ?_ | refine t_gS ?_ | refine t_kL ?_ | refine t_kLF ?_ ?_ | refine t_region fun K => ?_ | refine t_cond fun A B => ?_ | refine t_draw (by kernel_rfl) fun K => ?_); (try (first | refine t_hideE fun KL => ?_ | refine t_hideD fun KL => ?_)); simp only [go_sem, geff, kp38])
     | ((with_reducible refine kp_skip ?_ ?_); rfl) | simp only [thenQ, blockQ, scopeQ, Nat.reduceEqDiff, reduceIte] | (with_reducible first | refine And.intro ?_ ?_ | intro vr))
    all_goals try (first | (with_reducible assumption) | (intros; (try simp only [Bool.and_eq_true, Bool.or_eq_true, Bool.or_eq_false_iff, Bool.not_eq_true', Bool.not_eq_false', decide_eq_true_eq, decide_eq_false_iff_not, beq_iff_eq, beq_eq_false_iff_ne, bne_iff_ne, bne_eq_false_iff_eq, ne_eq, inI64, List.length_append] at *) <;> omega) | (intros; (with_reducible first | refine impB_ofR ?_ | refine and_ofB ?_ ?_) <;> with_reducible first | assumption | (refine impB_ofR ?_; assumption)) | ((try simp only [Bool.and_eq_true] at vr); simp only [impB, vr, Bool.or_true, Bool.true_or, Bool.and_self, Bool.not_true, Bool.not_false, Bool.and_true]; done))
    all_goals ((first | refine end_retE ?_ | refine end_normE ?_); simp only [fin, go_sem])
    exact LeA.of_eq (by simp [smN])
noncomputable def conDig (f : FuncId) (hf : f = 49 ∨ f = 36) (fk : fok Tryd.prog f = true) : PCon Tryd.prog where
  f := f
  c := fun
    | [.lit (.int .u8 c)] => some (True, .lit (.bool (dgN c)))
    | _ => none
  ok := by
    intro args p r hc hp
    split at hc
    · cases hc; exact dig_pc hf
    · cases hc
  fk := fk
noncomputable def conSm (f : FuncId) (hf : f = 37 ∨ f = 38) (fk : fok Tryd.prog f = true) : PCon Tryd.prog where
  f := f
  c := fun
    | [.lit (.int .u8 c)] => some (True, .lit (.bool (smN c)))
    | _ => none
  ok := by
    intro args p r hc hp
    split at hc
    · cases hc; exact sm_pc hf
    · cases hc
  fk := fk
noncomputable def con49 := conDig 49 (.inl rfl) fk49
noncomputable def con36 := conDig 36 (.inr rfl) fk36
noncomputable def con37 := conSm 37 (.inl rfl) fk37
noncomputable def con38 := conSm 38 (.inr rfl) fk38
theorem con49_f : con49.f = 49 := rfl
theorem con36_f : con36.f = 36 := rfl
theorem con37_f : con37.f = 37 := rfl
theorem con38_f : con38.f = 38 := rfl
theorem con49_c {c : Int} : con49.c [.lit (.int .u8 c)] = some (True, .lit (.bool (dgN c))) := rfl
theorem con36_c {c : Int} : con36.c [.lit (.int .u8 c)] = some (True, .lit (.bool (dgN c))) := rfl
theorem con37_c {c : Int} : con37.c [.lit (.int .u8 c)] = some (True, .lit (.bool (smN c))) := rfl
theorem con38_c {c : Int} : con38.c [.lit (.int .u8 c)] = some (True, .lit (.bool (smN c))) := rfl
attribute [go_sem] con49_f con36_f con37_f con38_f con49_c con36_c con37_c con38_c smN_bt dgN_bt
theorem drop_cons {l : List UInt8} {i : Nat} (h : i < l.length) : l.drop i = l.getD i 0 :: l.drop (i + 1) := by
  rw [List.drop_eq_getElem_cons h, List.getD_eq_getElem?_getD, List.getElem?_eq_getElem h]; rfl
noncomputable def E2 : Env := envJ (P := Tryd.prog) jk zer (fun _ => false) (fun _ => false) [con49, con37] []
theorem E2_ok : EnvOk Tryd.prog E2 := envJOk zer_ok
set_option maxRecDepth 20000
theorem run_pc {s : ByteArray} {b : Bool} (hs : s.size ≤ 9223372036854775807) : PC Tryd.prog 34 [.lit (.string s), .lit (.bool b)] (.lit (.string (bs ((ul s).take (runN b (ul s)))))) := by
  obtain ⟨l, rfl⟩ := bs_ex s
  simp only [ul_bs, bs_size] at *
  refine pc_ofR E2_ok mixed (kp34) (rs := [.tmp 4]) Tryd.func34 rfl (by kernel_rfl) (by kernel_rfl) (Nat.le_of_ble_eq_true rfl) ?_
  simp only [initF_cons, initF_nil, Nat.reduceAdd]
  refine t_name fun KF => ?_
  unfold E2
  repeat' (first
   | (with_reducible first | refine t_seq fun K => ?_ | refine t_block ?_ | refine t_scope ?_ | refine t_label ?_ | refine t_skip ?_ | refine t_exit ?_ | refine t_ret ?_ | refine t_k ?_ | refine t_gF ?_ | exact kp_nil | exact Kp.refl _ | exact kp_to | refine kp_cons ?_ | refine kp_arr ?_ | refine kp_app ?_ | refine t_p ?_ | refine t_br (fun hc => ?_) fun hc => ?_)
   | ((with_reducible first | refine t_kE (t_openE ?_) | refine t_kD (t_openD ?_) | refine t_kE ?_ | refine t_kD ?_ | refine t_gS ?_ | refine t_kL ?_ | refine t_kLF ?_ ?_ | refine t_region fun K => ?_ | refine t_cond fun A B => ?_ | refine t_draw (by kernel_rfl) fun K => ?_); (try (first | refine t_hideE fun KL => ?_ | refine t_hideD fun KL => ?_)); simp only [go_sem, geff, kp34])
   | ((with_reducible refine kp_skip ?_ ?_); rfl) | simp only [thenQ, blockQ, scopeQ, Nat.reduceEqDiff, reduceIte] | (with_reducible first | refine And.intro ?_ ?_ | intro vr))
  all_goals try (first | (with_reducible assumption) | (intros; (try simp only [Bool.and_eq_true, Bool.or_eq_true, Bool.or_eq_false_iff, Bool.not_eq_true', Bool.not_eq_false', decide_eq_true_eq, decide_eq_false_iff_not, beq_iff_eq, beq_eq_false_iff_ne, bne_iff_ne, bne_eq_false_iff_eq, ne_eq, inI64, List.length_append] at *) <;> omega) | (intros; (with_reducible first | refine impB_ofR ?_ | refine and_ofB ?_ ?_) <;> with_reducible first | assumption | (refine impB_ofR ?_; assumption)) | ((try simp only [Bool.and_eq_true] at vr); simp only [impB, vr, Bool.or_true, Bool.true_or, Bool.and_self, Bool.not_true, Bool.not_false, Bool.and_true]; done))
  refine t_loopF (ι := { i : Nat // i ≤ l.length ∧ i + runN b (l.drop i) = runN b l }) (fun i => [(5, .lit (.int .i64 i.1))]) (fun i => []) (fun i => l.length - i.1) ⟨0, by omega, by simp⟩ ?_ ?_
  · simp only [updL_nil, updL_cons, delF_top, delF_upd, Nat.reduceEqDiff, reduceIte]
    refine Le.frameS (by first | rfl | (simp only [go_sem]; try rfl)) ?_
    repeat' (first | exact leF_top _ | exact (fun _ => LeR.refl _) | (with_reducible refine leF_sl ?_ ?_) | (refine leF_upd ?_ ?_))
    all_goals (first | exact LeR.top _ | exact LeR.refl _ | (refine LeR.of_eq ?_; (try simp only [go_sem]); try rfl) | ((try simp only [go_sem]); try rfl))
  rintro ⟨i, hi, hF⟩ K0
  rcases Nat.lt_or_ge i l.length with hc | hc
  · rw [drop_cons hc, runN] at hF
    have g3 : decide ((i : Int) < (l.length : Int)) = true := decide_eq_true (by omega)
    cases h1 : dgB (l.getD i 0) with
    | true =>
      repeat' (first
       | (with_reducible first | refine t_seq fun K => ?_ | refine t_block ?_ | refine t_scope ?_ | refine t_label ?_ | refine t_skip ?_ | refine t_exit ?_ | refine t_ret ?_ | refine t_k ?_ | refine t_gF ?_ | exact kp_nil | exact Kp.refl _ | exact kp_to | refine kp_cons ?_ | refine kp_arr ?_ | refine kp_app ?_ | refine t_p ?_ | refine t_br (fun hc => ?_) fun hc => ?_)
       | ((with_reducible first | refine t_kE (t_openE ?_) | refine t_kD (t_openD ?_) | refine t_kE ?_ | refine t_kD ?_ | refine t_gS ?_ | refine t_kL ?_ | refine t_kLF ?_ ?_ | refine t_region fun K => ?_ | refine t_cond fun A B => ?_ | refine t_draw (by kernel_rfl) fun K => ?_); (try (first | refine t_hideE fun KL => ?_ | refine t_hideD fun KL => ?_)); simp only [go_sem, geff, kp34, updL_cons, updL_nil, g3, Int.toNat_natCast, h1])
       | ((with_reducible refine kp_skip ?_ ?_); rfl) | simp only [thenQ, blockQ, scopeQ, Nat.reduceEqDiff, reduceIte] | (with_reducible first | refine And.intro ?_ ?_ | intro vr))
      all_goals try (first | (with_reducible assumption) | (intros; (try simp only [Bool.and_eq_true, Bool.or_eq_true, Bool.or_eq_false_iff, Bool.not_eq_true', Bool.not_eq_false', decide_eq_true_eq, decide_eq_false_iff_not, beq_iff_eq, beq_eq_false_iff_ne, bne_iff_ne, bne_eq_false_iff_eq, ne_eq, inI64, List.length_append] at *) <;> omega) | (intros; (with_reducible first | refine impB_ofR ?_ | refine and_ofB ?_ ?_) <;> with_reducible first | assumption | (refine impB_ofR ?_; assumption)) | ((try simp only [Bool.and_eq_true] at vr); simp only [impB, vr, Bool.or_true, Bool.true_or, Bool.and_self, Bool.not_true, Bool.not_false, Bool.and_true]; done))
      refine ⟨⟨i + 1, by omega, by simp_all; omega⟩, by first | (simp only; omega) | omega, ?_⟩
      simp only [updL_nil, updL_cons, delF_top, delF_upd, Nat.reduceEqDiff, reduceIte]
      refine Le.frameS (by first | rfl | (simp only [go_sem]; try rfl)) ?_
      repeat' (first | exact leF_top _ | exact (fun _ => LeR.refl _) | (with_reducible refine leF_sl ?_ ?_) | (refine leF_upd ?_ ?_))
      all_goals (first | exact LeR.top _ | exact LeR.refl _ | (refine LeR.of_eq ?_; (try simp only [go_sem]); try rfl) | ((try simp only [go_sem]); try rfl))
    | false =>
      cases b with
      | false =>
        repeat' (first
         | (with_reducible first | refine t_seq fun K => ?_ | refine t_block ?_ | refine t_scope ?_ | refine t_label ?_ | refine t_skip ?_ | refine t_exit ?_ | refine t_ret ?_ | refine t_k ?_ | refine t_gF ?_ | exact kp_nil | exact Kp.refl _ | exact kp_to | refine kp_cons ?_ | refine kp_arr ?_ | refine kp_app ?_ | refine t_p ?_ | refine t_br (fun hc => ?_) fun hc => ?_)
         | ((with_reducible first | refine t_kE (t_openE ?_) | refine t_kD (t_openD ?_) | refine t_kE ?_ | refine t_kD ?_ | refine t_gS ?_ | refine t_kL ?_ | refine t_kLF ?_ ?_ | refine t_region fun K => ?_ | refine t_cond fun A B => ?_ | refine t_draw (by kernel_rfl) fun K => ?_); (try (first | refine t_hideE fun KL => ?_ | refine t_hideD fun KL => ?_)); simp only [go_sem, geff, kp34, updL_cons, updL_nil, g3, Int.toNat_natCast, h1])
         | ((with_reducible refine kp_skip ?_ ?_); rfl) | simp only [thenQ, blockQ, scopeQ, Nat.reduceEqDiff, reduceIte] | (with_reducible first | refine And.intro ?_ ?_ | intro vr))
        all_goals try (first | (with_reducible assumption) | (intros; (try simp only [Bool.and_eq_true, Bool.or_eq_true, Bool.or_eq_false_iff, Bool.not_eq_true', Bool.not_eq_false', decide_eq_true_eq, decide_eq_false_iff_not, beq_iff_eq, beq_eq_false_iff_ne, bne_iff_ne, bne_eq_false_iff_eq, ne_eq, inI64, List.length_append] at *) <;> omega) | (intros; (with_reducible first | refine impB_ofR ?_ | refine and_ofB ?_ ?_) <;> with_reducible first | assumption | (refine impB_ofR ?_; assumption)) | ((try simp only [Bool.and_eq_true] at vr); simp only [impB, vr, Bool.or_true, Bool.true_or, Bool.and_self, Bool.not_true, Bool.not_false, Bool.and_true]; done))
        all_goals ((first | refine end_retE ?_ | refine end_normE ?_); simp only [fin, go_sem])
        exact LeA.of_eq (by simp_all)
      | true =>
        repeat' (first
         | (with_reducible first | refine t_seq fun K => ?_ | refine t_block ?_ | refine t_scope ?_ | refine t_label ?_ | refine t_skip ?_ | refine t_exit ?_ | refine t_ret ?_ | refine t_k ?_ | refine t_gF ?_ | exact kp_nil | exact Kp.refl _ | exact kp_to | refine kp_cons ?_ | refine kp_arr ?_ | refine kp_app ?_ | refine t_p ?_ | refine t_br (fun hc => ?_) fun hc => ?_)
         | ((with_reducible first | refine t_kE (t_openE ?_) | refine t_kD (t_openD ?_) | refine t_kE ?_ | refine t_kD ?_ | refine t_gS ?_ | refine t_kL ?_ | refine t_kLF ?_ ?_ | refine t_region fun K => ?_ | refine t_cond fun A B => ?_ | refine t_draw (by kernel_rfl) fun K => ?_); (try (first | refine t_hideE fun KL => ?_ | refine t_hideD fun KL => ?_)); simp only [go_sem, geff, kp34, updL_cons, updL_nil, g3, Int.toNat_natCast, h1])
         | ((with_reducible refine kp_skip ?_ ?_); rfl) | simp only [thenQ, blockQ, scopeQ, Nat.reduceEqDiff, reduceIte] | (with_reducible first | refine And.intro ?_ ?_ | intro vr))
        all_goals try (first | (with_reducible assumption) | (intros; (try simp only [Bool.and_eq_true, Bool.or_eq_true, Bool.or_eq_false_iff, Bool.not_eq_true', Bool.not_eq_false', decide_eq_true_eq, decide_eq_false_iff_not, beq_iff_eq, beq_eq_false_iff_ne, bne_iff_ne, bne_eq_false_iff_eq, ne_eq, inI64, List.length_append] at *) <;> omega) | (intros; (with_reducible first | refine impB_ofR ?_ | refine and_ofB ?_ ?_) <;> with_reducible first | assumption | (refine impB_ofR ?_; assumption)) | ((try simp only [Bool.and_eq_true] at vr); simp only [impB, vr, Bool.or_true, Bool.true_or, Bool.and_self, Bool.not_true, Bool.not_false, Bool.and_true]; done))
        · skip
          refine ⟨⟨i + 1, by omega, by simp_all; omega⟩, by first | (simp only; omega) | omega, ?_⟩
          simp only [updL_nil, updL_cons, delF_top, delF_upd, Nat.reduceEqDiff, reduceIte]
          refine Le.frameS (by first | rfl | (simp only [go_sem]; try rfl)) ?_
          repeat' (first | exact leF_top _ | exact (fun _ => LeR.refl _) | (with_reducible refine leF_sl ?_ ?_) | (refine leF_upd ?_ ?_))
          all_goals (first | exact LeR.top _ | exact LeR.refl _ | (refine LeR.of_eq ?_; (try simp only [go_sem]); try rfl) | ((try simp only [go_sem]); try rfl))
        · skip
          all_goals ((first | refine end_retE ?_ | refine end_normE ?_); simp only [fin, go_sem])
          exact LeA.of_eq (by simp_all)
  · have g3 : decide ((i : Int) < (l.length : Int)) = false := decide_eq_false (by omega)
    have e : i = l.length := by omega
    subst e
    repeat' (first
     | (with_reducible first | refine t_seq fun K => ?_ | refine t_block ?_ | refine t_scope ?_ | refine t_label ?_ | refine t_skip ?_ | refine t_exit ?_ | refine t_ret ?_ | refine t_k ?_ | refine t_gF ?_ | exact kp_nil | exact Kp.refl _ | exact kp_to | refine kp_cons ?_ | refine kp_arr ?_ | refine kp_app ?_ | refine t_p ?_ | refine t_br (fun hc => ?_) fun hc => ?_)
     | ((with_reducible first | refine t_kE (t_openE ?_) | refine t_kD (t_openD ?_) | refine t_kE ?_ | refine t_kD ?_ | refine t_gS ?_ | refine t_kL ?_ | refine t_kLF ?_ ?_ | refine t_region fun K => ?_ | refine t_cond fun A B => ?_ | refine t_draw (by kernel_rfl) fun K => ?_); (try (first | refine t_hideE fun KL => ?_ | refine t_hideD fun KL => ?_)); simp only [go_sem, geff, kp34, updL_cons, updL_nil, g3, Int.toNat_natCast])
     | ((with_reducible refine kp_skip ?_ ?_); rfl) | simp only [thenQ, blockQ, scopeQ, Nat.reduceEqDiff, reduceIte] | (with_reducible first | refine And.intro ?_ ?_ | intro vr))
    all_goals try (first | (with_reducible assumption) | (intros; (try simp only [Bool.and_eq_true, Bool.or_eq_true, Bool.or_eq_false_iff, Bool.not_eq_true', Bool.not_eq_false', decide_eq_true_eq, decide_eq_false_iff_not, beq_iff_eq, beq_eq_false_iff_ne, bne_iff_ne, bne_eq_false_iff_eq, ne_eq, inI64, List.length_append] at *) <;> omega) | (intros; (with_reducible first | refine impB_ofR ?_ | refine and_ofB ?_ ?_) <;> with_reducible first | assumption | (refine impB_ofR ?_; assumption)) | ((try simp only [Bool.and_eq_true] at vr); simp only [impB, vr, Bool.or_true, Bool.true_or, Bool.and_self, Bool.not_true, Bool.not_false, Bool.and_true]; done))
    all_goals ((first | refine end_retE ?_ | refine end_normE ?_); simp only [fin, go_sem])
    rw [List.drop_length, runN] at hF
    exact LeA.of_eq (by rw [← hF]; simp)
noncomputable def con34 : PCon Tryd.prog where
  f := 34
  c := fun
    | [.lit (.string s), .lit (.bool b)] => some (s.size ≤ 9223372036854775807, .lit (.string (bs ((ul s).take (runN b (ul s))))))
    | _ => none
  ok := by
    intro args p r hc hp
    split at hc
    · cases hc; exact (run_pc hp)
    · cases hc
  fk := fk34
theorem con34_f : con34.f = 34 := rfl
theorem con34_c {s : ByteArray} {b : Bool} : con34.c [.lit (.string s), .lit (.bool b)] = some (s.size ≤ 9223372036854775807, .lit (.string (bs ((ul s).take (runN b (ul s)))))) := rfl
attribute [go_sem] con34_f con34_c
end Go.Proofs.YtkkamgblakhmiaaDoor

/- Reserved words; what the library gives. -/
namespace Go.Proofs.YtkkamgblakhmiaaDoor
open Go Go.Fw
set_option maxRecDepth 20000

noncomputable def E3 : Env := envJ (P := Tryd.prog) jk zer (fun _ => false) (fun _ => false) [] []
theorem E3_ok : EnvOk Tryd.prog E3 := envJOk zer_ok
set_option maxHeartbeats 1000000 in
theorem resv_pc {f : FuncId} (hf : f = 18 ∨ f = 19) {s : ByteArray} : PC Tryd.prog f [.lit (.string s)] (.lit (.bool (resv (ul s)))) := by
  obtain ⟨l, rfl⟩ := bs_ex s
  simp only [ul_bs] at *
  rcases hf with rfl | rfl
  · skip
    refine pc_ofR E3_ok mixed (kp18) (rs := [.tmp 2]) Tryd.func18 rfl (by kernel_rfl) (by kernel_rfl) (Nat.le_of_ble_eq_true rfl) ?_
    simp only [initF_cons, initF_nil, Nat.reduceAdd]
    refine t_name fun KF => ?_
    unfold E3
    repeat' (first
     | (with_reducible first | refine t_seq fun K => ?_ | refine t_block ?_ | refine t_scope ?_ | refine t_label ?_ | refine t_skip ?_ | refine t_exit ?_ | refine t_ret ?_ | refine t_k ?_ | refine t_gF ?_ | exact kp_nil | exact Kp.refl _ | exact kp_to | refine kp_cons ?_ | refine kp_arr ?_ | refine kp_app ?_ | refine t_p ?_ | refine t_br (fun hc => ?_) fun hc => ?_)
     | ((with_reducible first | refine t_kE (t_openE ?_) | refine t_kD (t_openD ?_) | refine t_kE ?_ | refine t_kD ?_ | refine t_gS ?_ | refine t_kL ?_ | refine t_kLF ?_ ?_ | refine t_region fun K => ?_ | refine t_cond fun A B => ?_ | refine t_draw (by kernel_rfl) fun K => ?_); (try (first | refine t_hideE fun KL => ?_ | refine t_hideD fun KL => ?_)); simp only [go_sem, geff, kp18])
     | ((with_reducible refine kp_skip ?_ ?_); rfl) | simp only [thenQ, blockQ, scopeQ, Nat.reduceEqDiff, reduceIte] | (with_reducible first | refine And.intro ?_ ?_ | intro vr))
    all_goals try (first | (with_reducible assumption) | (intros; (try simp only [Bool.and_eq_true, Bool.or_eq_true, Bool.or_eq_false_iff, Bool.not_eq_true', Bool.not_eq_false', decide_eq_true_eq, decide_eq_false_iff_not, beq_iff_eq, beq_eq_false_iff_ne, bne_iff_ne, bne_eq_false_iff_eq, ne_eq, inI64, List.length_append] at *) <;> omega) | (intros; (with_reducible first | refine impB_ofR ?_ | refine and_ofB ?_ ?_) <;> with_reducible first | assumption | (refine impB_ofR ?_; assumption)) | ((try simp only [Bool.and_eq_true] at vr); simp only [impB, vr, Bool.or_true, Bool.true_or, Bool.and_self, Bool.not_true, Bool.not_false, Bool.and_true]; done))
    all_goals ((first | refine end_retE ?_ | refine end_normE ?_); simp only [fin, go_sem])
    all_goals exact LeA.of_eq (by simp_all [resv, resL])
  · skip
    refine pc_ofR E3_ok mixed (kp19) (rs := [.tmp 2]) Tryd.func19 rfl (by kernel_rfl) (by kernel_rfl) (Nat.le_of_ble_eq_true rfl) ?_
    simp only [initF_cons, initF_nil, Nat.reduceAdd]
    refine t_name fun KF => ?_
    unfold E3
    repeat' (first
     | (with_reducible first | refine t_seq fun K => ?_ | refine t_block ?_ | refine t_scope ?_ | refine t_label ?_ | refine t_skip ?_ | refine t_exit ?_ | refine t_ret ?_ | refine t_k ?_ | refine t_gF ?_ | exact kp_nil | exact Kp.refl _ | exact kp_to | refine kp_cons ?_ | refine kp_arr ?_ | refine kp_app ?_ | refine t_p ?_ | refine t_br (fun hc => ?_) fun hc => ?_)
     | ((with_reducible first | refine t_kE (t_openE ?_) | refine t_kD (t_openD ?_) | refine t_kE ?_ | refine t_kD ?_ | refine t_gS ?_ | refine t_kL ?_ | refine t_kLF ?_ ?_ | refine t_region fun K => ?_ | refine t_cond fun A B => ?_ | refine t_draw (by kernel_rfl) fun K => ?_); (try (first | refine t_hideE fun KL => ?_ | refine t_hideD fun KL => ?_)); simp only [go_sem, geff, kp19])
     | ((with_reducible refine kp_skip ?_ ?_); rfl) | simp only [thenQ, blockQ, scopeQ, Nat.reduceEqDiff, reduceIte] | (with_reducible first | refine And.intro ?_ ?_ | intro vr))
    all_goals try (first | (with_reducible assumption) | (intros; (try simp only [Bool.and_eq_true, Bool.or_eq_true, Bool.or_eq_false_iff, Bool.not_eq_true', Bool.not_eq_false', decide_eq_true_eq, decide_eq_false_iff_not, beq_iff_eq, beq_eq_false_iff_ne, bne_iff_ne, bne_eq_false_iff_eq, ne_eq, inI64, List.length_append] at *) <;> omega) | (intros; (with_reducible first | refine impB_ofR ?_ | refine and_ofB ?_ ?_) <;> with_reducible first | assumption | (refine impB_ofR ?_; assumption)) | ((try simp only [Bool.and_eq_true] at vr); simp only [impB, vr, Bool.or_true, Bool.true_or, Bool.and_self, Bool.not_true, Bool.not_false, Bool.and_true]; done))
    all_goals ((first | refine end_retE ?_ | refine end_normE ?_); simp only [fin, go_sem])
    all_goals exact LeA.of_eq (by simp_all [resv, resL])
noncomputable def con18 : PCon Tryd.prog where
  f := 18
  c := fun
    | [.lit (.string s)] => some (True, .lit (.bool (resv (ul s))))
    | _ => none
  ok := by
    intro args p r hc hp
    split at hc
    · cases hc; exact (resv_pc (.inl rfl))
    · cases hc
  fk := fk18
theorem con18_f : con18.f = 18 := rfl
theorem con18_c {s : ByteArray} : con18.c [.lit (.string s)] = some (True, .lit (.bool (resv (ul s)))) := rfl
noncomputable def con19 : PCon Tryd.prog where
  f := 19
  c := fun
    | [.lit (.string s)] => some (True, .lit (.bool (resv (ul s))))
    | _ => none
  ok := by
    intro args p r hc hp
    split at hc
    · cases hc; exact (resv_pc (.inr rfl))
    · cases hc
  fk := fk19
theorem con19_f : con19.f = 19 := rfl
theorem con19_c {s : ByteArray} : con19.c [.lit (.string s)] = some (True, .lit (.bool (resv (ul s)))) := rfl
/-! ### The library -/
def fam (f : FuncId) (args : List AV) : VR := match args with
  | [.lit (.string s), .lit (.int .u8 c)] => if f = 65 then some (True, .lit (.int .i64 (Lib.indexByte (ul s) c.toNat.toUInt8))) else if f = 47 then some (True, .lit (.int .i64 (Lib.countByte (ul s) c.toNat.toUInt8))) else none
  | _ => none
theorem args2 {C : Nat → Nat → Option Value} {a b : Value} {vs : List Value} (h : RL C [.lit a, .lit b] vs) : vs = [a, b] := by
  obtain ⟨h1, h2⟩ := h
  match vs, h1 with
  | [x, y], _ =>
    have e1 : x = a := by have h := h2 0 (by simp); simp only [List.getD_cons_zero] at h; cases h; rfl
    have e2 : y = b := by have h := h2 1 (by simp); simp only [List.getD_cons_succ, List.getD_cons_zero] at h; cases h; rfl
    rw [e1, e2]
theorem fam_ok : ∀ f args p r, fam f args = some (p, r) → p → (fok Tryd.prog f = true ∧ PC Tryd.prog f args r) ∨ XC Tryd.prog f args r := by
  intro f args p r h hp
  unfold fam at h
  split at h
  · rename_i s c
    split at h
    · rename_i hf; subst hf; cases h
      refine .inr fun C w vs hl => ⟨_, ?_, .lit _⟩
      rw [args2 hl, run_callFunc_extern Tryd.func65 (by kernel_rfl) (by kernel_rfl) (by kernel_rfl) (e := Extern.BytealgIndexByte.indexByte) (by kernel_rfl), Lib.run_indexByteString]
      rfl
    · split at h
      · rename_i hf; subst hf; cases h
        refine .inr fun C w vs hl => ⟨_, ?_, .lit _⟩
        rw [args2 hl, run_callFunc_extern Tryd.func47 (by kernel_rfl) (by kernel_rfl) (by kernel_rfl) (e := Extern.BytealgCount.count) (by kernel_rfl), Lib.run_countString]
        rfl
      · cases h
  · cases h
theorem fam65 {s : ByteArray} {c : Int} : fam 65 [.lit (.string s), .lit (.int .u8 c)] = some (True, .lit (.int .i64 (Lib.indexByte (ul s) c.toNat.toUInt8))) := rfl
theorem fam47 {s : ByteArray} {c : Int} : fam 47 [.lit (.string s), .lit (.int .u8 c)] = some (True, .lit (.int .i64 (Lib.countByte (ul s) c.toNat.toUInt8))) := rfl
noncomputable def E4 : Env := envM (P := Tryd.prog) fam jk zer (fun _ => false) (fun _ => false) [] []
theorem E4_ok : EnvOk Tryd.prog E4 := envMOk zer_ok fam_ok
theorem ib_pc {s : ByteArray} {c : Int} : PC Tryd.prog 57 [.lit (.string s), .lit (.int .u8 c)] (.lit (.int .i64 (Lib.indexByte (ul s) c.toNat.toUInt8))) := by
  refine pc_ofR E4_ok mixed (kp57) (rs := [.tmp 4]) Tryd.func57 rfl (by kernel_rfl) (by kernel_rfl) (Nat.le_of_ble_eq_true rfl) ?_
  simp only [initF_cons, initF_nil, Nat.reduceAdd]
  refine t_name fun KF => ?_
  unfold E4
  repeat' (first
   | (with_reducible first | refine t_seq fun K => ?_ | refine t_block ?_ | refine t_scope ?_ | refine t_label ?_ | refine t_skip ?_ | refine t_exit ?_ | refine t_ret ?_ | refine t_k ?_ | refine t_gF ?_ | exact kp_nil | exact Kp.refl _ | exact kp_to | refine kp_cons ?_ | refine kp_arr ?_ | refine kp_app ?_ | refine t_p ?_ | refine t_br (fun hc => ?_) fun hc => ?_)
   | ((with_reducible first | refine t_kE (t_openE ?_) | refine t_kD (t_openD ?_) | refine t_kE ?_ | refine t_kD ?_ | refine t_gS ?_ | refine t_kL ?_ | refine t_kLF ?_ ?_ | refine t_region fun K => ?_ | refine t_cond fun A B => ?_ | refine t_draw (by kernel_rfl) fun K => ?_); (try (first | refine t_hideE fun KL => ?_ | refine t_hideD fun KL => ?_)); simp only [go_sem, geff, kp57, fam65])
   | ((with_reducible refine kp_skip ?_ ?_); rfl) | simp only [thenQ, blockQ, scopeQ, Nat.reduceEqDiff, reduceIte] | (with_reducible first | refine And.intro ?_ ?_ | intro vr))
  all_goals try (first | (with_reducible assumption) | (intros; (try simp only [Bool.and_eq_true, Bool.or_eq_true, Bool.or_eq_false_iff, Bool.not_eq_true', Bool.not_eq_false', decide_eq_true_eq, decide_eq_false_iff_not, beq_iff_eq, beq_eq_false_iff_ne, bne_iff_ne, bne_eq_false_iff_eq, ne_eq, inI64, List.length_append] at *) <;> omega) | (intros; (with_reducible first | refine impB_ofR ?_ | refine and_ofB ?_ ?_) <;> with_reducible first | assumption | (refine impB_ofR ?_; assumption)) | ((try simp only [Bool.and_eq_true] at vr); simp only [impB, vr, Bool.or_true, Bool.true_or, Bool.and_self, Bool.not_true, Bool.not_false, Bool.and_true]; done))
  all_goals ((first | refine end_retE ?_ | refine end_normE ?_); simp only [fin, go_sem])
  exact LeA.refl _
noncomputable def con57 : PCon Tryd.prog where
  f := 57
  c := fun
    | [.lit (.string s), .lit (.int .u8 c)] => some (True, .lit (.int .i64 (Lib.indexByte (ul s) c.toNat.toUInt8)))
    | _ => none
  ok := by
    intro args p r hc hp
    split at hc
    · cases hc; exact ib_pc
    · cases hc
  fk := fk57
theorem con57_f : con57.f = 57 := rfl
theorem con57_c {s : ByteArray} {c : Int} : con57.c [.lit (.string s), .lit (.int .u8 c)] = some (True, .lit (.int .i64 (Lib.indexByte (ul s) c.toNat.toUInt8))) := rfl
noncomputable def E5 : Env := envJ (P := Tryd.prog) jk zer (fun _ => false) (fun _ => false) [con57] []
theorem E5_ok : EnvOk Tryd.prog E5 := envJOk zer_ok
theorem sib_pc {s : ByteArray} {c : Int} : PC Tryd.prog 45 [.lit (.string s), .lit (.int .u8 c)] (.lit (.int .i64 (Lib.indexByte (ul s) c.toNat.toUInt8))) := by
  refine pc_ofR E5_ok mixed (kp45) (rs := [.tmp 4]) Tryd.func45 rfl (by kernel_rfl) (by kernel_rfl) (Nat.le_of_ble_eq_true rfl) ?_
  simp only [initF_cons, initF_nil, Nat.reduceAdd]
  refine t_name fun KF => ?_
  unfold E5
  repeat' (first
   | (with_reducible first | refine t_seq fun K => ?_ | refine t_block ?_ | refine t_scope ?_ | refine t_label ?_ | refine t_skip ?_ | refine t_exit ?_ | refine t_ret ?_ | refine t_k ?_ | refine t_gF ?_ | exact kp_nil | exact Kp.refl _ | exact kp_to | refine kp_cons ?_ | refine kp_arr ?_ | refine kp_app ?_ | refine t_p ?_ | refine t_br (fun hc => ?_) fun hc => ?_)
   | ((with_reducible first | refine t_kE (t_openE ?_) | refine t_kD (t_openD ?_) | refine t_kE ?_ | refine t_kD ?_ | refine t_gS ?_ | refine t_kL ?_ | refine t_kLF ?_ ?_ | refine t_region fun K => ?_ | refine t_cond fun A B => ?_ | refine t_draw (by kernel_rfl) fun K => ?_); (try (first | refine t_hideE fun KL => ?_ | refine t_hideD fun KL => ?_)); simp only [go_sem, geff, kp45, con57_f, con57_c])
   | ((with_reducible refine kp_skip ?_ ?_); rfl) | simp only [thenQ, blockQ, scopeQ, Nat.reduceEqDiff, reduceIte] | (with_reducible first | refine And.intro ?_ ?_ | intro vr))
  all_goals try (first | (with_reducible assumption) | (intros; (try simp only [Bool.and_eq_true, Bool.or_eq_true, Bool.or_eq_false_iff, Bool.not_eq_true', Bool.not_eq_false', decide_eq_true_eq, decide_eq_false_iff_not, beq_iff_eq, beq_eq_false_iff_ne, bne_iff_ne, bne_eq_false_iff_eq, ne_eq, inI64, List.length_append] at *) <;> omega) | (intros; (with_reducible first | refine impB_ofR ?_ | refine and_ofB ?_ ?_) <;> with_reducible first | assumption | (refine impB_ofR ?_; assumption)) | ((try simp only [Bool.and_eq_true] at vr); simp only [impB, vr, Bool.or_true, Bool.true_or, Bool.and_self, Bool.not_true, Bool.not_false, Bool.and_true]; done))
  all_goals ((first | refine end_retE ?_ | refine end_normE ?_); simp only [fin, go_sem])
  exact LeA.refl _
noncomputable def con45 : PCon Tryd.prog where
  f := 45
  c := fun
    | [.lit (.string s), .lit (.int .u8 c)] => some (True, .lit (.int .i64 (Lib.indexByte (ul s) c.toNat.toUInt8)))
    | _ => none
  ok := by
    intro args p r hc hp
    split at hc
    · cases hc; exact sib_pc
    · cases hc
  fk := fk45
theorem con45_f : con45.f = 45 := rfl
theorem con45_c {s : ByteArray} {c : Int} : con45.c [.lit (.string s), .lit (.int .u8 c)] = some (True, .lit (.int .i64 (Lib.indexByte (ul s) c.toNat.toUInt8))) := rfl
theorem hp_pc {s p : ByteArray} : PC Tryd.prog 56 [.lit (.string s), .lit (.string p)] (.lit (.bool ((ul p).isPrefixOf (ul s)))) := by
  obtain ⟨l, rfl⟩ := bs_ex s
  obtain ⟨m, rfl⟩ := bs_ex p
  simp only [ul_bs] at *
  have key : m.isPrefixOf l = (decide ((l.length : Int) ≥ (m.length : Int)) && (List.take m.length l == m)) := by
    rw [Bool.eq_iff_iff]
    simp only [List.isPrefixOf_iff_prefix, Bool.and_eq_true, decide_eq_true_eq, beq_iff_eq]
    constructor
    · intro h
      exact ⟨by have := h.length_le; omega, (List.prefix_iff_eq_take.1 h).symm⟩
    · rintro ⟨_, h⟩
      exact List.prefix_iff_eq_take.2 h.symm
  refine pc_ofR E3_ok mixed (kp56) (rs := [.tmp 4]) Tryd.func56 rfl (by kernel_rfl) (by kernel_rfl) (Nat.le_of_ble_eq_true rfl) ?_
  simp only [initF_cons, initF_nil, Nat.reduceAdd]
  refine t_name fun KF => ?_
  unfold E3
  repeat' (first
   | (with_reducible first | refine t_seq fun K => ?_ | refine t_block ?_ | refine t_scope ?_ | refine t_label ?_ | refine t_skip ?_ | refine t_exit ?_ | refine t_ret ?_ | refine t_k ?_ | refine t_gF ?_ | exact kp_nil | exact Kp.refl _ | exact kp_to | refine kp_cons ?_ | refine kp_arr ?_ | refine kp_app ?_ | refine t_p ?_ | refine t_br (fun hc => ?_) fun hc => ?_)
   | ((with_reducible first | refine t_kE (t_openE ?_) | refine t_kD (t_openD ?_) | refine t_kE ?_ | refine t_kD ?_ | refine t_gS ?_ | refine t_kL ?_ | refine t_kLF ?_ ?_ | refine t_region fun K => ?_ | refine t_cond fun A B => ?_ | refine t_draw (by kernel_rfl) fun K => ?_); (try (first | refine t_hideE fun KL => ?_ | refine t_hideD fun KL => ?_)); simp only [go_sem, geff, kp56])
   | ((with_reducible refine kp_skip ?_ ?_); rfl) | simp only [thenQ, blockQ, scopeQ, Nat.reduceEqDiff, reduceIte] | (with_reducible first | refine And.intro ?_ ?_ | intro vr))
  all_goals try (first | (with_reducible assumption) | (intros; (try simp only [Bool.and_eq_true, Bool.or_eq_true, Bool.or_eq_false_iff, Bool.not_eq_true', Bool.not_eq_false', decide_eq_true_eq, decide_eq_false_iff_not, beq_iff_eq, beq_eq_false_iff_ne, bne_iff_ne, bne_eq_false_iff_eq, ne_eq, inI64, List.length_append] at *) <;> omega) | (intros; (with_reducible first | refine impB_ofR ?_ | refine and_ofB ?_ ?_) <;> with_reducible first | assumption | (refine impB_ofR ?_; assumption)) | ((try simp only [Bool.and_eq_true] at vr); simp only [impB, vr, Bool.or_true, Bool.true_or, Bool.and_self, Bool.not_true, Bool.not_false, Bool.and_true]; done))
  all_goals ((first | refine end_retE ?_ | refine end_normE ?_); simp only [fin, go_sem])
  exact LeA.of_eq (by rw [key])
noncomputable def con56 : PCon Tryd.prog where
  f := 56
  c := fun
    | [.lit (.string s), .lit (.string p)] => some (True, .lit (.bool ((ul p).isPrefixOf (ul s))))
    | _ => none
  ok := by
    intro args p r hc hp
    split at hc
    · cases hc; exact hp_pc
    · cases hc
  fk := fk56
theorem con56_f : con56.f = 56 := rfl
theorem con56_c {s : ByteArray} {p : ByteArray} : con56.c [.lit (.string s), .lit (.string p)] = some (True, .lit (.bool ((ul p).isPrefixOf (ul s)))) := rfl
noncomputable def E6 : Env := envJ (P := Tryd.prog) jk zer (fun _ => false) (fun _ => false) [con56] []
theorem E6_ok : EnvOk Tryd.prog E6 := envJOk zer_ok
theorem shp_pc {s p : ByteArray} : PC Tryd.prog 44 [.lit (.string s), .lit (.string p)] (.lit (.bool ((ul p).isPrefixOf (ul s)))) := by
  refine pc_ofR E6_ok mixed (kp44) (rs := [.tmp 4]) Tryd.func44 rfl (by kernel_rfl) (by kernel_rfl) (Nat.le_of_ble_eq_true rfl) ?_
  simp only [initF_cons, initF_nil, Nat.reduceAdd]
  refine t_name fun KF => ?_
  unfold E6
  repeat' (first
   | (with_reducible first | refine t_seq fun K => ?_ | refine t_block ?_ | refine t_scope ?_ | refine t_label ?_ | refine t_skip ?_ | refine t_exit ?_ | refine t_ret ?_ | refine t_k ?_ | refine t_gF ?_ | exact kp_nil | exact Kp.refl _ | exact kp_to | refine kp_cons ?_ | refine kp_arr ?_ | refine kp_app ?_ | refine t_p ?_ | refine t_br (fun hc => ?_) fun hc => ?_)
   | ((with_reducible first | refine t_kE (t_openE ?_) | refine t_kD (t_openD ?_) | refine t_kE ?_ | refine t_kD ?_ | refine t_gS ?_ | refine t_kL ?_ | refine t_kLF ?_ ?_ | refine t_region fun K => ?_ | refine t_cond fun A B => ?_ | refine t_draw (by kernel_rfl) fun K => ?_); (try (first | refine t_hideE fun KL => ?_ | refine t_hideD fun KL => ?_)); simp only [go_sem, geff, kp44, con56_f, con56_c])
   | ((with_reducible refine kp_skip ?_ ?_); rfl) | simp only [thenQ, blockQ, scopeQ, Nat.reduceEqDiff, reduceIte] | (with_reducible first | refine And.intro ?_ ?_ | intro vr))
  all_goals try (first | (with_reducible assumption) | (intros; (try simp only [Bool.and_eq_true, Bool.or_eq_true, Bool.or_eq_false_iff, Bool.not_eq_true', Bool.not_eq_false', decide_eq_true_eq, decide_eq_false_iff_not, beq_iff_eq, beq_eq_false_iff_ne, bne_iff_ne, bne_eq_false_iff_eq, ne_eq, inI64, List.length_append] at *) <;> omega) | (intros; (with_reducible first | refine impB_ofR ?_ | refine and_ofB ?_ ?_) <;> with_reducible first | assumption | (refine impB_ofR ?_; assumption)) | ((try simp only [Bool.and_eq_true] at vr); simp only [impB, vr, Bool.or_true, Bool.true_or, Bool.and_self, Bool.not_true, Bool.not_false, Bool.and_true]; done))
  all_goals ((first | refine end_retE ?_ | refine end_normE ?_); simp only [fin, go_sem])
  exact LeA.refl _
noncomputable def con44 : PCon Tryd.prog where
  f := 44
  c := fun
    | [.lit (.string s), .lit (.string p)] => some (True, .lit (.bool ((ul p).isPrefixOf (ul s))))
    | _ => none
  ok := by
    intro args p r hc hp
    split at hc
    · cases hc; exact shp_pc
    · cases hc
  fk := fk44
theorem con44_f : con44.f = 44 := rfl
theorem con44_c {s : ByteArray} {p : ByteArray} : con44.c [.lit (.string s), .lit (.string p)] = some (True, .lit (.bool ((ul p).isPrefixOf (ul s)))) := rfl
theorem cnt_pc {s : ByteArray} {c : UInt8} : PC Tryd.prog 30 [.lit (.string s), .lit (.string (bs [c]))] (.lit (.int .i64 ((ul s).count c))) := by
  refine pc_ofR E4_ok mixed (kp30) (rs := [.tmp 4]) Tryd.func30 rfl (by kernel_rfl) (by kernel_rfl) (Nat.le_of_ble_eq_true rfl) ?_
  simp only [initF_cons, initF_nil, Nat.reduceAdd]
  refine t_name fun KF => ?_
  unfold E4
  repeat' (first
   | (with_reducible first | refine t_seq fun K => ?_ | refine t_block ?_ | refine t_scope ?_ | refine t_label ?_ | refine t_skip ?_ | refine t_exit ?_ | refine t_ret ?_ | refine t_k ?_ | refine t_gF ?_ | exact kp_nil | exact Kp.refl _ | exact kp_to | refine kp_cons ?_ | refine kp_arr ?_ | refine kp_app ?_ | refine t_p ?_ | refine t_br (fun hc => ?_) fun hc => ?_)
   | ((with_reducible first | refine t_kE (t_openE ?_) | refine t_kD (t_openD ?_) | refine t_kE ?_ | refine t_kD ?_ | refine t_gS ?_ | refine t_kL ?_ | refine t_kLF ?_ ?_ | refine t_region fun K => ?_ | refine t_cond fun A B => ?_ | refine t_draw (by kernel_rfl) fun K => ?_); (try (first | refine t_hideE fun KL => ?_ | refine t_hideD fun KL => ?_)); simp only [go_sem, geff, kp30, fam47, Int.toNat_natCast, bt, List.getD_cons_zero])
   | ((with_reducible refine kp_skip ?_ ?_); rfl) | simp only [thenQ, blockQ, scopeQ, Nat.reduceEqDiff, reduceIte] | (with_reducible first | refine And.intro ?_ ?_ | intro vr))
  all_goals try (first | (with_reducible assumption) | (intros; (try simp only [Bool.and_eq_true, Bool.or_eq_true, Bool.or_eq_false_iff, Bool.not_eq_true', Bool.not_eq_false', decide_eq_true_eq, decide_eq_false_iff_not, beq_iff_eq, beq_eq_false_iff_ne, bne_iff_ne, bne_eq_false_iff_eq, ne_eq, inI64, List.length_append] at *) <;> omega) | (intros; (with_reducible first | refine impB_ofR ?_ | refine and_ofB ?_ ?_) <;> with_reducible first | assumption | (refine impB_ofR ?_; assumption)) | ((try simp only [Bool.and_eq_true] at vr); simp only [impB, vr, Bool.or_true, Bool.true_or, Bool.and_self, Bool.not_true, Bool.not_false, Bool.and_true]; done))
  all_goals ((first | refine end_retE ?_ | refine end_normE ?_); simp only [fin, go_sem])
  exact LeA.of_eq (by simp [Lib.countByte])
noncomputable def con30 : PCon Tryd.prog where
  f := 30
  c := fun
    | [.lit (.string s), .lit (.string p)] => if p = bs [10] then some (True, .lit (.int .i64 ((ul s).count 10))) else none
    | _ => none
  ok := by
    intro args p r hc hp
    split at hc
    · split at hc
      · rename_i h; subst h; cases hc; exact cnt_pc
      · cases hc
    · cases hc
  fk := fk30
theorem con30_f : con30.f = 30 := rfl
theorem con30_c {s : ByteArray} : con30.c [.lit (.string s), .lit (.string (bs [10]))] = some (True, .lit (.int .i64 ((ul s).count 10))) := by simp [con30]
attribute [go_sem] con18_f con18_c con19_f con19_c con57_f con57_c con45_f con45_c con56_f con56_c con44_f con44_c con30_f con30_c
/-! ### Cut at one byte -/
noncomputable def E7 : Env := envJ (P := Tryd.prog) jk zer (fun _ => false) (fun _ => false) [con57] []
theorem E7_ok : EnvOk Tryd.prog E7 := envJOk zer_ok
theorem idx_pc {s : ByteArray} {c : UInt8} : PC Tryd.prog 58 [.lit (.string s), .lit (.string (bs [c]))] (.lit (.int .i64 (Lib.indexByte (ul s) c))) := by
  refine pc_ofR E7_ok mixed (kp58) (rs := [.tmp 4]) Tryd.func58 rfl (by kernel_rfl) (by kernel_rfl) (Nat.le_of_ble_eq_true rfl) ?_
  simp only [initF_cons, initF_nil, Nat.reduceAdd]
  refine t_name fun KF => ?_
  unfold E7
  obtain ⟨l, rfl⟩ := bs_ex s
  repeat' (first
   | (with_reducible first | refine t_seq fun K => ?_ | refine t_block ?_ | refine t_scope ?_ | refine t_label ?_ | refine t_skip ?_ | refine t_exit ?_ | refine t_ret ?_ | refine t_k ?_ | refine t_gF ?_ | exact kp_nil | exact Kp.refl _ | exact kp_to | refine kp_cons ?_ | refine kp_arr ?_ | refine kp_app ?_ | refine t_p ?_ | refine t_br (fun hc => ?_) fun hc => ?_)
   | ((with_reducible first | refine t_kE (t_openE ?_) | refine t_kD (t_openD ?_) | refine t_kE ?_ | refine t_kD ?_ | refine t_gS ?_ | refine t_kL ?_ | refine t_kLF ?_ ?_ | refine t_region fun K => ?_ | refine t_cond fun A B => ?_ | refine t_draw (by kernel_rfl) fun K => ?_); (try (first | refine t_hideE fun KL => ?_ | refine t_hideD fun KL => ?_)); simp only [go_sem, geff, kp58, fam47, Int.toNat_natCast, bt, List.getD_cons_zero])
   | ((with_reducible refine kp_skip ?_ ?_); rfl) | simp only [thenQ, blockQ, scopeQ, Nat.reduceEqDiff, reduceIte] | (with_reducible first | refine And.intro ?_ ?_ | intro vr))
  all_goals try (first | (with_reducible assumption) | (intros; (try simp only [Bool.and_eq_true, Bool.or_eq_true, Bool.or_eq_false_iff, Bool.not_eq_true', Bool.not_eq_false', decide_eq_true_eq, decide_eq_false_iff_not, beq_iff_eq, beq_eq_false_iff_ne, bne_iff_ne, bne_eq_false_iff_eq, ne_eq, inI64, List.length_append] at *) <;> omega) | (intros; (with_reducible first | refine impB_ofR ?_ | refine and_ofB ?_ ?_) <;> with_reducible first | assumption | (refine impB_ofR ?_; assumption)) | ((try simp only [Bool.and_eq_true] at vr); simp only [impB, vr, Bool.or_true, Bool.true_or, Bool.and_self, Bool.not_true, Bool.not_false, Bool.and_true]; done))
  all_goals ((first | refine end_retE ?_ | refine end_normE ?_); simp only [fin, go_sem])
  · have e : l = [c] := by simp_all
    subst e
    exact LeA.of_eq (by simp [Lib.indexByte, ul_bs])
  · exact LeA.of_eq (by simp)
noncomputable def con58 : PCon Tryd.prog where
  f := 58
  c := fun
    | [.lit (.string s), .lit (.string p)] => if p = bs [46] then some (True, .lit (.int .i64 (Lib.indexByte (ul s) 46))) else none
    | _ => none
  ok := by
    intro args p r hc hp
    split at hc
    · split at hc
      · rename_i h; subst h; cases hc; exact idx_pc
      · cases hc
    · cases hc
  fk := fk58
theorem con58_f : con58.f = 58 := rfl
theorem con58_c {s : ByteArray} : con58.c [.lit (.string s), .lit (.string (bs [46]))] = some (True, .lit (.int .i64 (Lib.indexByte (ul s) 46))) := by simp [con58]
/-- The two sides of the first stop, if there is one. -/
def cutS : List UInt8 → Option (List UInt8 × List UInt8)
  | [] => none
  | c :: l => if c = 46 then some ([], l) else (cutS l).map fun p => (c :: p.1, p.2)
theorem cutS_none {l : List UInt8} (h : cutS l = none) : Lib.indexByte l 46 = -1 := by
  induction l with
  | nil => rfl
  | cons c l ih =>
    simp only [cutS] at h
    split at h
    · cases h
    · rename_i hc
      simp only [Option.map_eq_none_iff] at h
      simp [Lib.indexByte, hc, ih h]
theorem cutS_some {l a b : List UInt8} (h : cutS l = some (a, b)) : Lib.indexByte l 46 = a.length ∧ l = a ++ 46 :: b := by
  induction l generalizing a with
  | nil => cases h
  | cons c l ih =>
    simp only [cutS] at h
    split at h
    · rename_i hc; subst hc; cases h; simp [Lib.indexByte]
    · rename_i hc
      simp only [Option.map_eq_some_iff] at h
      obtain ⟨⟨a', b'⟩, h1, h2⟩ := h
      simp only [Prod.mk.injEq] at h2
      obtain ⟨rfl, rfl⟩ := h2
      obtain ⟨i1, i2⟩ := ih h1
      refine ⟨?_, by rw [i2]; simp⟩
      simp only [Lib.indexByte, i1]
      simp [hc]
def cutV (l : List UInt8) : AV := match cutS l with
  | some (a, b) => .tup [.lit (.string (bs a)), .lit (.string (bs b)), .lit (.bool true)]
  | none => .tup [.lit (.string (bs l)), .lit (.string (bs [])), .lit (.bool false)]
noncomputable def E8 : Env := envJ (P := Tryd.prog) jk zer (fun _ => false) (fun _ => false) [con58] []
theorem E8_ok : EnvOk Tryd.prog E8 := envJOk zer_ok
theorem cut_pc {s : ByteArray} (hs : s.size ≤ 9223372036854775806) : PC Tryd.prog 54 [.lit (.string s), .lit (.string (bs [46]))] (cutV (ul s)) := by
  obtain ⟨l, rfl⟩ := bs_ex s
  simp only [ul_bs, bs_size] at *
  cases hq : cutS l with
  | none =>
    have h1 := cutS_none hq
    refine pc_ofR E8_ok mixed (kp54) (rs := [.tmp 4, .tmp 5, .tmp 6]) Tryd.func54 rfl (by kernel_rfl) (by kernel_rfl) (Nat.le_of_ble_eq_true rfl) ?_
    simp only [initF_cons, initF_nil, Nat.reduceAdd]
    refine t_name fun KF => ?_
    unfold E8
    repeat' (first
     | (with_reducible first | refine t_seq fun K => ?_ | refine t_block ?_ | refine t_scope ?_ | refine t_label ?_ | refine t_skip ?_ | refine t_exit ?_ | refine t_ret ?_ | refine t_k ?_ | refine t_gF ?_ | exact kp_nil | exact Kp.refl _ | exact kp_to | refine kp_cons ?_ | refine kp_arr ?_ | refine kp_app ?_ | refine t_p ?_ | refine t_br (fun hc => ?_) fun hc => ?_)
     | ((with_reducible first | refine t_kE (t_openE ?_) | refine t_kD (t_openD ?_) | refine t_kE ?_ | refine t_kD ?_ | refine t_gS ?_ | refine t_kL ?_ | refine t_kLF ?_ ?_ | refine t_region fun K => ?_ | refine t_cond fun A B => ?_ | refine t_draw (by kernel_rfl) fun K => ?_); (try (first | refine t_hideE fun KL => ?_ | refine t_hideD fun KL => ?_)); simp only [go_sem, geff, kp54, con58_f, con58_c, h1])
     | ((with_reducible refine kp_skip ?_ ?_); rfl) | simp only [thenQ, blockQ, scopeQ, Nat.reduceEqDiff, reduceIte] | (with_reducible first | refine And.intro ?_ ?_ | intro vr))
    all_goals try (first | (with_reducible assumption) | (intros; (try simp only [Bool.and_eq_true, Bool.or_eq_true, Bool.or_eq_false_iff, Bool.not_eq_true', Bool.not_eq_false', decide_eq_true_eq, decide_eq_false_iff_not, beq_iff_eq, beq_eq_false_iff_ne, bne_iff_ne, bne_eq_false_iff_eq, ne_eq, inI64, List.length_append] at *) <;> omega) | (intros; (with_reducible first | refine impB_ofR ?_ | refine and_ofB ?_ ?_) <;> with_reducible first | assumption | (refine impB_ofR ?_; assumption)) | ((try simp only [Bool.and_eq_true] at vr); simp only [impB, vr, Bool.or_true, Bool.true_or, Bool.and_self, Bool.not_true, Bool.not_false, Bool.and_true]; done))
    all_goals ((first | refine end_retE ?_ | refine end_normE ?_); simp only [fin, go_sem])
    exact LeA.of_eq (by simp [cutV, hq])
  | some p =>
    obtain ⟨a, b⟩ := p
    obtain ⟨h1, h2⟩ := cutS_some hq
    have hl : l.length = a.length + 1 + b.length := by rw [h2]; simp; omega
    refine pc_ofR E8_ok mixed (kp54) (rs := [.tmp 4, .tmp 5, .tmp 6]) Tryd.func54 rfl (by kernel_rfl) (by kernel_rfl) (Nat.le_of_ble_eq_true rfl) ?_
    simp only [initF_cons, initF_nil, Nat.reduceAdd]
    refine t_name fun KF => ?_
    unfold E8
    repeat' (first
     | (with_reducible first | refine t_seq fun K => ?_ | refine t_block ?_ | refine t_scope ?_ | refine t_label ?_ | refine t_skip ?_ | refine t_exit ?_ | refine t_ret ?_ | refine t_k ?_ | refine t_gF ?_ | exact kp_nil | exact Kp.refl _ | exact kp_to | refine kp_cons ?_ | refine kp_arr ?_ | refine kp_app ?_ | refine t_p ?_ | refine t_br (fun hc => ?_) fun hc => ?_)
     | ((with_reducible first | refine t_kE (t_openE ?_) | refine t_kD (t_openD ?_) | refine t_kE ?_ | refine t_kD ?_ | refine t_gS ?_ | refine t_kL ?_ | refine t_kLF ?_ ?_ | refine t_region fun K => ?_ | refine t_cond fun A B => ?_ | refine t_draw (by kernel_rfl) fun K => ?_); (try (first | refine t_hideE fun KL => ?_ | refine t_hideD fun KL => ?_)); simp only [go_sem, geff, kp54, con58_f, con58_c, h1])
     | ((with_reducible refine kp_skip ?_ ?_); rfl) | simp only [thenQ, blockQ, scopeQ, Nat.reduceEqDiff, reduceIte] | (with_reducible first | refine And.intro ?_ ?_ | intro vr))
    all_goals try (first | (with_reducible assumption) | (intros; (try simp only [Bool.and_eq_true, Bool.or_eq_true, Bool.or_eq_false_iff, Bool.not_eq_true', Bool.not_eq_false', decide_eq_true_eq, decide_eq_false_iff_not, beq_iff_eq, beq_eq_false_iff_ne, bne_iff_ne, bne_eq_false_iff_eq, ne_eq, inI64, List.length_append] at *) <;> omega) | (intros; (with_reducible first | refine impB_ofR ?_ | refine and_ofB ?_ ?_) <;> with_reducible first | assumption | (refine impB_ofR ?_; assumption)) | ((try simp only [Bool.and_eq_true] at vr); simp only [impB, vr, Bool.or_true, Bool.true_or, Bool.and_self, Bool.not_true, Bool.not_false, Bool.and_true]; done))
    all_goals ((first | refine end_retE ?_ | refine end_normE ?_); simp only [fin, go_sem])
    have e1 : (a.length + 1 : Int).toNat = a.length + 1 := by omega
    rw [e1, List.take_length]
    subst h2
    exact LeA.of_eq (by simp [cutV, hq])
noncomputable def con54 : PCon Tryd.prog where
  f := 54
  c := fun
    | [.lit (.string s), .lit (.string p)] => if p = bs [46] then some (s.size ≤ 9223372036854775806, cutV (ul s)) else none
    | _ => none
  ok := by
    intro args p r hc hp
    split at hc
    · split at hc
      · rename_i h; subst h; cases hc; exact cut_pc hp
      · cases hc
    · cases hc
  fk := fk54
theorem con54_f : con54.f = 54 := rfl
theorem con54_c {s : ByteArray} : con54.c [.lit (.string s), .lit (.string (bs [46]))] = some (s.size ≤ 9223372036854775806, cutV (ul s)) := by simp [con54]
noncomputable def E9 : Env := envJ (P := Tryd.prog) jk zer (fun _ => false) (fun _ => false) [con54] []
theorem E9_ok : EnvOk Tryd.prog E9 := envJOk zer_ok
theorem scut_pc {s : ByteArray} (hs : s.size ≤ 9223372036854775806) : PC Tryd.prog 39 [.lit (.string s), .lit (.string (bs [46]))] (cutV (ul s)) := by
  cases hq : cutS (ul s) with
  | none =>
    refine pc_ofR E9_ok mixed (kp39) (rs := [.tmp 4, .tmp 5, .tmp 6]) Tryd.func39 rfl (by kernel_rfl) (by kernel_rfl) (Nat.le_of_ble_eq_true rfl) ?_
    simp only [initF_cons, initF_nil, Nat.reduceAdd]
    refine t_name fun KF => ?_
    unfold E9
    repeat' (first
     | (with_reducible first | refine t_seq fun K => ?_ | refine t_block ?_ | refine t_scope ?_ | refine t_label ?_ | refine t_skip ?_ | refine t_exit ?_ | refine t_ret ?_ | refine t_k ?_ | refine t_gF ?_ | exact kp_nil | exact Kp.refl _ | exact kp_to | refine kp_cons ?_ | refine kp_arr ?_ | refine kp_app ?_ | refine t_p ?_ | refine t_br (fun hc => ?_) fun hc => ?_)
     | ((with_reducible first | refine t_kE (t_openE ?_) | refine t_kD (t_openD ?_) | refine t_kE ?_ | refine t_kD ?_ | refine t_gS ?_ | refine t_kL ?_ | refine t_kLF ?_ ?_ | refine t_region fun K => ?_ | refine t_cond fun A B => ?_ | refine t_draw (by kernel_rfl) fun K => ?_); (try (first | refine t_hideE fun KL => ?_ | refine t_hideD fun KL => ?_)); simp only [go_sem, geff, kp39, con54_f, con54_c, cutV, hq])
     | ((with_reducible refine kp_skip ?_ ?_); rfl) | simp only [thenQ, blockQ, scopeQ, Nat.reduceEqDiff, reduceIte] | (with_reducible first | refine And.intro ?_ ?_ | intro vr))
    all_goals try (first | (with_reducible assumption) | (intros; (try simp only [Bool.and_eq_true, Bool.or_eq_true, Bool.or_eq_false_iff, Bool.not_eq_true', Bool.not_eq_false', decide_eq_true_eq, decide_eq_false_iff_not, beq_iff_eq, beq_eq_false_iff_ne, bne_iff_ne, bne_eq_false_iff_eq, ne_eq, inI64, List.length_append] at *) <;> omega) | (intros; (with_reducible first | refine impB_ofR ?_ | refine and_ofB ?_ ?_) <;> with_reducible first | assumption | (refine impB_ofR ?_; assumption)) | ((try simp only [Bool.and_eq_true] at vr); simp only [impB, vr, Bool.or_true, Bool.true_or, Bool.and_self, Bool.not_true, Bool.not_false, Bool.and_true]; done))
    all_goals ((first | refine end_retE ?_ | refine end_normE ?_); simp only [fin, go_sem])
    exact LeA.of_eq (by simp [cutV, hq])
  | some p =>
    refine pc_ofR E9_ok mixed (kp39) (rs := [.tmp 4, .tmp 5, .tmp 6]) Tryd.func39 rfl (by kernel_rfl) (by kernel_rfl) (Nat.le_of_ble_eq_true rfl) ?_
    simp only [initF_cons, initF_nil, Nat.reduceAdd]
    refine t_name fun KF => ?_
    unfold E9
    repeat' (first
     | (with_reducible first | refine t_seq fun K => ?_ | refine t_block ?_ | refine t_scope ?_ | refine t_label ?_ | refine t_skip ?_ | refine t_exit ?_ | refine t_ret ?_ | refine t_k ?_ | refine t_gF ?_ | exact kp_nil | exact Kp.refl _ | exact kp_to | refine kp_cons ?_ | refine kp_arr ?_ | refine kp_app ?_ | refine t_p ?_ | refine t_br (fun hc => ?_) fun hc => ?_)
     | ((with_reducible first | refine t_kE (t_openE ?_) | refine t_kD (t_openD ?_) | refine t_kE ?_ | refine t_kD ?_ | refine t_gS ?_ | refine t_kL ?_ | refine t_kLF ?_ ?_ | refine t_region fun K => ?_ | refine t_cond fun A B => ?_ | refine t_draw (by kernel_rfl) fun K => ?_); (try (first | refine t_hideE fun KL => ?_ | refine t_hideD fun KL => ?_)); simp only [go_sem, geff, kp39, con54_f, con54_c, cutV, hq])
     | ((with_reducible refine kp_skip ?_ ?_); rfl) | simp only [thenQ, blockQ, scopeQ, Nat.reduceEqDiff, reduceIte] | (with_reducible first | refine And.intro ?_ ?_ | intro vr))
    all_goals try (first | (with_reducible assumption) | (intros; (try simp only [Bool.and_eq_true, Bool.or_eq_true, Bool.or_eq_false_iff, Bool.not_eq_true', Bool.not_eq_false', decide_eq_true_eq, decide_eq_false_iff_not, beq_iff_eq, beq_eq_false_iff_ne, bne_iff_ne, bne_eq_false_iff_eq, ne_eq, inI64, List.length_append] at *) <;> omega) | (intros; (with_reducible first | refine impB_ofR ?_ | refine and_ofB ?_ ?_) <;> with_reducible first | assumption | (refine impB_ofR ?_; assumption)) | ((try simp only [Bool.and_eq_true] at vr); simp only [impB, vr, Bool.or_true, Bool.true_or, Bool.and_self, Bool.not_true, Bool.not_false, Bool.and_true]; done))
    all_goals ((first | refine end_retE ?_ | refine end_normE ?_); simp only [fin, go_sem])
    exact LeA.of_eq (by simp [cutV, hq])
noncomputable def con39 : PCon Tryd.prog where
  f := 39
  c := fun
    | [.lit (.string s), .lit (.string p)] => if p = bs [46] then some (s.size ≤ 9223372036854775806, cutV (ul s)) else none
    | _ => none
  ok := by
    intro args p r hc hp
    split at hc
    · split at hc
      · rename_i h; subst h; cases hc; exact scut_pc hp
      · cases hc
    · cases hc
  fk := fk39
theorem con39_f : con39.f = 39 := rfl
theorem con39_c {s : ByteArray} : con39.c [.lit (.string s), .lit (.string (bs [46]))] = some (s.size ≤ 9223372036854775806, cutV (ul s)) := by simp [con39]
attribute [go_sem] con39_f con39_c
end Go.Proofs.YtkkamgblakhmiaaDoor

/- Numbers. -/
namespace Go.Proofs.YtkkamgblakhmiaaDoor
open Go Go.Fw
set_option maxRecDepth 20000

theorem run_all {b : Bool} {l : List UInt8} (h : runN b l = l.length) : ∀ i, i < l.length → (dgB (l.getD i 0) || (b && smB (l.getD i 0))) = true := by
  induction l with
  | nil => intro i hi; simp at hi
  | cons c l ih =>
    simp only [runN] at h
    split at h
    · rename_i hc
      intro i hi
      cases i with
      | zero => simpa using hc
      | succ i => exact ih (by simpa using h) i (by simpa using hi)
    · simp at h
theorem run_none {b : Bool} {l : List UInt8} (h : ∀ i, i < l.length → (dgB (l.getD i 0) || (b && smB (l.getD i 0))) = true) : runN b l = l.length := by
  induction l with
  | nil => rfl
  | cons c l ih =>
    have h0 := h 0 (by simp)
    simp only [List.getD_cons_zero] at h0
    simp only [runN, if_pos h0]
    rw [ih fun i hi => by simpa using h (i + 1) (by simpa using hi)]
    simp
theorem run_digs {l : List UInt8} : runN false l = l.length ↔ ∀ i, i < l.length → dgB (l.getD i 0) = true :=
  ⟨fun h i hi => by simpa using run_all h i hi, fun h => run_none fun i hi => by simpa using h i hi⟩
theorem take_runs (b : Bool) (l : List UInt8) : (l.take (runN b l) == l) = decide (runN b l = l.length) := by
  have := runN_le b l
  by_cases h : runN b l = l.length
  · rw [h]; simp
  · rw [decide_eq_false h, beq_eq_false_iff_ne]
    intro e
    have := congrArg List.length e
    simp at this
    omega
theorem take_succ {l : List UInt8} {i : Nat} (h : i < l.length) : l.take (i + 1) = l.take i ++ [l.getD i 0] := by
  rw [List.take_add_one, List.getD_eq_getElem?_getD, List.getElem?_eq_getElem h]; rfl
theorem dec_take {l : List UInt8} {i : Nat} (h : i < l.length) : dec (l.take (i + 1)) = 10 * dec (l.take i) + (bt l i - 48) := by
  rw [take_succ h]; simp only [dec, List.foldl_append, List.foldl_cons, List.foldl_nil, bt]
theorem dig_bt {l : List UInt8} {i : Nat} (h : dgB (l.getD i 0) = true) : 48 ≤ bt l i ∧ bt l i ≤ 57 := by
  simp only [dgB, dgN, Bool.and_eq_true, decide_eq_true_eq] at h
  exact ⟨h.1, h.2⟩
theorem dec_bd {l : List UInt8} (h : ∀ i, i < l.length → dgB (l.getD i 0) = true) : ∀ i, i ≤ l.length → 0 ≤ dec (l.take i) ∧ dec (l.take i) < 10 ^ i := by
  intro i
  induction i with
  | zero => intro _; simp [dec]
  | succ i ih =>
    intro hi
    have := ih (by omega)
    have hb := dig_bt (h i (by omega))
    rw [dec_take (by omega), Int.pow_succ]
    omega
theorem pow10 {i : Nat} (h : i ≤ 10) : (10 : Int) ^ i ≤ 10000000000 := by
  match i, h with
  | 0, _ | 1, _ | 2, _ | 3, _ | 4, _ | 5, _ | 6, _ | 7, _ | 8, _ | 9, _ | 10, _ => decide
theorem wrapu {n : Int} (h : 0 ≤ n ∧ n < 256) : IntKind.u8.wrap n = n := by rw [wrap_u8]; omega
theorem wrapi {n : Int} (h : 0 ≤ n ∧ n < 256) : IntKind.i64.wrap n = n := wrap_i64 (by unfold inI64; omega)
noncomputable def E10 : Env := envJ (P := Tryd.prog) jk zer (fun _ => false) (fun _ => false) [] []
theorem E10_ok : EnvOk Tryd.prog E10 := envJOk zer_ok
def okV (n : Int) : AV := .tup [.lit (.int .i64 n), .lit .nilIface]
set_option maxHeartbeats 1000000 in
theorem atoi0_pc {s : ByteArray} (h : ∀ i, i < (ul s).length → dgB ((ul s).getD i 0) = true) (h1 : 1 ≤ (ul s).length) (h2 : (ul s).length ≤ 10) : PC Tryd.prog 52 [.lit (.string s)] (okV (dec (ul s))) := by
  obtain ⟨l, rfl⟩ := bs_ex s
  simp only [ul_bs] at *
  have g1 : decide ((0 : Int) < (l.length : Int)) = true := decide_eq_true (by omega)
  have g2 : decide ((l.length : Int) < 19) = true := decide_eq_true (by omega)
  have g0 : decide ((l.length : Int) < 10) = decide (l.length < 10) := by simp; omega
  have hb := dig_bt (h 0 (by omega))
  have g3 : (bt l 0 == 45) = false := beq_eq_false_iff_ne.2 (by omega)
  have g4 : (bt l 0 == 43) = false := beq_eq_false_iff_ne.2 (by omega)
  have hd := dec_bd h
  refine pc_ofR E10_ok mixed (kp52) (rs := [.tmp 2, .tmp 3]) Tryd.func52 rfl (by kernel_rfl) (by kernel_rfl) (Nat.le_of_ble_eq_true rfl) ?_
  simp only [initF_cons, initF_nil, Nat.reduceAdd]
  refine t_name fun KF => ?_
  unfold E10
  repeat' (first
   | (with_reducible first | refine t_seq fun K => ?_ | refine t_block ?_ | refine t_scope ?_ | refine t_label ?_ | refine t_skip ?_ | refine t_exit ?_ | refine t_ret ?_ | refine t_k ?_ | refine t_gF ?_ | exact kp_nil | exact Kp.refl _ | exact kp_to | refine kp_cons ?_ | refine kp_arr ?_ | refine kp_app ?_ | refine t_p ?_ | refine t_br (fun hc => ?_) fun hc => ?_)
   | ((with_reducible first | refine t_kE (t_openE ?_) | refine t_kD (t_openD ?_) | refine t_kE ?_ | refine t_kD ?_ | refine t_gS ?_ | refine t_kL ?_ | refine t_kLF ?_ ?_ | refine t_region fun K => ?_ | refine t_cond fun A B => ?_ | refine t_draw (by kernel_rfl) fun K => ?_); (try (first | refine t_hideE fun KL => ?_ | refine t_hideD fun KL => ?_)); simp only [go_sem, geff, kp52, g1, g2, g3, g4])
   | ((with_reducible refine kp_skip ?_ ?_); rfl) | simp only [thenQ, blockQ, scopeQ, Nat.reduceEqDiff, reduceIte] | (with_reducible first | refine And.intro ?_ ?_ | intro vr))
  all_goals try (first | (with_reducible assumption) | (intros; (try simp only [Bool.and_eq_true, Bool.or_eq_true, Bool.or_eq_false_iff, Bool.not_eq_true', Bool.not_eq_false', decide_eq_true_eq, decide_eq_false_iff_not, beq_iff_eq, beq_eq_false_iff_ne, bne_iff_ne, bne_eq_false_iff_eq, ne_eq, inI64, List.length_append] at *) <;> omega) | (intros; (with_reducible first | refine impB_ofR ?_ | refine and_ofB ?_ ?_) <;> with_reducible first | assumption | (refine impB_ofR ?_; assumption)) | ((try simp only [Bool.and_eq_true] at vr); simp only [impB, vr, Bool.or_true, Bool.true_or, Bool.and_self, Bool.not_true, Bool.not_false, Bool.and_true]; done))
  refine t_loopF (ι := { i : Nat // i ≤ l.length }) (fun i => [(49, .lit (.int .i64 i.1)), (6, .lit (.int .i64 (dec (l.take i.1)))), (8, .top)]) (fun i => [.arr 5 1 (ints .u8 (bytesI (bs l))) 0 false]) (fun i => l.length - i.1) ⟨0, by omega⟩ ?_ ?_
  · simp only [updL_nil, updL_cons, delF_top, delF_upd, Nat.reduceEqDiff, reduceIte]
    refine Le.frameS (by first | rfl | (simp only [go_sem]; try rfl)) ?_
    repeat' (first | exact leF_top _ | exact (fun _ => LeR.refl _) | (with_reducible refine leF_sl ?_ ?_) | (refine leF_upd ?_ ?_))
    all_goals (first | exact LeR.top _ | exact LeR.refl _ | (refine LeR.of_eq ?_; (try simp only [go_sem]); try rfl) | ((try simp only [go_sem]); try rfl))
  rintro ⟨i, hi⟩ K0
  have hdi := hd i hi
  have hp := pow10 (show i ≤ 10 by omega)
  rcases Nat.lt_or_ge i l.length with hc | hc
  · have g5 : decide ((i : Int) < (l.length : Int)) = true := decide_eq_true (by omega)
    have hbi := dig_bt (h i hc)
    have w1 := wrapu (n := bt l i - 48) (by omega)
    have w2 := wrapi (n := bt l i - 48) (by omega)
    have g6 : decide (bt l i - 48 > 9) = false := decide_eq_false (by omega)
    have he := dec_take hc
    have hcm : dec (l.take i) * 10 + (bt l i - 48) = dec (l.take (i + 1)) := by omega
    repeat' (first
     | (with_reducible first | refine t_seq fun K => ?_ | refine t_block ?_ | refine t_scope ?_ | refine t_label ?_ | refine t_skip ?_ | refine t_exit ?_ | refine t_ret ?_ | refine t_k ?_ | refine t_gF ?_ | exact kp_nil | exact Kp.refl _ | exact kp_to | refine kp_cons ?_ | refine kp_arr ?_ | refine kp_app ?_ | refine t_p ?_ | refine t_br (fun hc => ?_) fun hc => ?_)
     | ((with_reducible first | refine t_kE (t_openE ?_) | refine t_kD (t_openD ?_) | refine t_kE ?_ | refine t_kD ?_ | refine t_gS ?_ | refine t_kL ?_ | refine t_kLF ?_ ?_ | refine t_region fun K => ?_ | refine t_cond fun A B => ?_ | refine t_draw (by kernel_rfl) fun K => ?_); (try (first | refine t_hideE fun KL => ?_ | refine t_hideD fun KL => ?_)); simp only [go_sem, geff, kp52, updL_cons, updL_nil, g5, Int.toNat_natCast, w1, w2, g6, hcm, yes])
     | ((with_reducible refine kp_skip ?_ ?_); rfl) | simp only [thenQ, blockQ, scopeQ, Nat.reduceEqDiff, reduceIte] | (with_reducible first | refine And.intro ?_ ?_ | intro vr))
    all_goals try (first | (with_reducible assumption) | (intros; (try simp only [Bool.and_eq_true, Bool.or_eq_true, Bool.or_eq_false_iff, Bool.not_eq_true', Bool.not_eq_false', decide_eq_true_eq, decide_eq_false_iff_not, beq_iff_eq, beq_eq_false_iff_ne, bne_iff_ne, bne_eq_false_iff_eq, ne_eq, inI64, List.length_append] at *) <;> omega) | (intros; (with_reducible first | refine impB_ofR ?_ | refine and_ofB ?_ ?_) <;> with_reducible first | assumption | (refine impB_ofR ?_; assumption)) | ((try simp only [Bool.and_eq_true] at vr); simp only [impB, vr, Bool.or_true, Bool.true_or, Bool.and_self, Bool.not_true, Bool.not_false, Bool.and_true]; done))
    refine ⟨⟨i + 1, by omega⟩, by first | (simp only; omega) | omega, ?_⟩
    simp only [updL_nil, updL_cons, delF_top, delF_upd, Nat.reduceEqDiff, reduceIte]
    refine Le.frameS (by first | rfl | (simp only [go_sem]; try rfl)) ?_
    repeat' (first | exact leF_top _ | exact (fun _ => LeR.refl _) | (with_reducible refine leF_sl ?_ ?_) | (refine leF_upd ?_ ?_))
    all_goals (first | exact LeR.top _ | exact LeR.refl _ | (refine LeR.of_eq ?_; (try simp only [go_sem]); try rfl) | ((try simp only [go_sem]); try rfl))
  · have g5 : decide ((i : Int) < (l.length : Int)) = false := decide_eq_false (by omega)
    have e : i = l.length := by omega
    subst e
    rw [List.take_length] at *
    repeat' (first
     | (with_reducible first | refine t_seq fun K => ?_ | refine t_block ?_ | refine t_scope ?_ | refine t_label ?_ | refine t_skip ?_ | refine t_exit ?_ | refine t_ret ?_ | refine t_k ?_ | refine t_gF ?_ | exact kp_nil | exact Kp.refl _ | exact kp_to | refine kp_cons ?_ | refine kp_arr ?_ | refine kp_app ?_ | refine t_p ?_ | refine t_br (fun hc => ?_) fun hc => ?_)
     | ((with_reducible first | refine t_kE (t_openE ?_) | refine t_kD (t_openD ?_) | refine t_kE ?_ | refine t_kD ?_ | refine t_gS ?_ | refine t_kL ?_ | refine t_kLF ?_ ?_ | refine t_region fun K => ?_ | refine t_cond fun A B => ?_ | refine t_draw (by kernel_rfl) fun K => ?_); (try (first | refine t_hideE fun KL => ?_ | refine t_hideD fun KL => ?_)); simp only [go_sem, geff, kp52, updL_cons, updL_nil, g5, Int.toNat_natCast, g3])
     | ((with_reducible refine kp_skip ?_ ?_); rfl) | simp only [thenQ, blockQ, scopeQ, Nat.reduceEqDiff, reduceIte] | (with_reducible first | refine And.intro ?_ ?_ | intro vr))
    all_goals try (first | (with_reducible assumption) | (intros; (try simp only [Bool.and_eq_true, Bool.or_eq_true, Bool.or_eq_false_iff, Bool.not_eq_true', Bool.not_eq_false', decide_eq_true_eq, decide_eq_false_iff_not, beq_iff_eq, beq_eq_false_iff_ne, bne_iff_ne, bne_eq_false_iff_eq, ne_eq, inI64, List.length_append] at *) <;> omega) | (intros; (with_reducible first | refine impB_ofR ?_ | refine and_ofB ?_ ?_) <;> with_reducible first | assumption | (refine impB_ofR ?_; assumption)) | ((try simp only [Bool.and_eq_true] at vr); simp only [impB, vr, Bool.or_true, Bool.true_or, Bool.and_self, Bool.not_true, Bool.not_false, Bool.and_true]; done))
    all_goals ((first | refine end_retE ?_ | refine end_normE ?_); simp only [fin, go_sem])
    exact LeA.refl _
/-- Digits alone. -/
def digs (l : List UInt8) : Prop := ∀ i, i < l.length → dgB (l.getD i 0) = true
noncomputable def con52 : PCon Tryd.prog where
  f := 52
  c := fun
    | [.lit (.string s)] => some (digs (ul s) ∧ 1 ≤ (ul s).length ∧ (ul s).length ≤ 10, okV (dec (ul s)))
    | _ => none
  ok := by
    intro args p r hc hp
    split at hc
    · cases hc; exact atoi0_pc hp.1 hp.2.1 hp.2.2
    · cases hc
  fk := fk52
theorem con52_f : con52.f = 52 := rfl
theorem con52_c {s : ByteArray} : con52.c [.lit (.string s)] = some (digs (ul s) ∧ 1 ≤ (ul s).length ∧ (ul s).length ≤ 10, okV (dec (ul s))) := rfl
noncomputable def E11 : Env := envJ (P := Tryd.prog) jk zer (fun _ => false) (fun _ => false) [con52] []
theorem E11_ok : EnvOk Tryd.prog E11 := envJOk zer_ok
theorem atoi_pc {s : ByteArray} (h : digs (ul s)) (h1 : 1 ≤ (ul s).length) (h2 : (ul s).length ≤ 10) : PC Tryd.prog 35 [.lit (.string s)] (okV (dec (ul s))) := by
  refine pc_ofR E11_ok mixed (kp35) (rs := [.tmp 2, .tmp 3]) Tryd.func35 rfl (by kernel_rfl) (by kernel_rfl) (Nat.le_of_ble_eq_true rfl) ?_
  simp only [initF_cons, initF_nil, Nat.reduceAdd]
  refine t_name fun KF => ?_
  unfold E11
  repeat' (first
   | (with_reducible first | refine t_seq fun K => ?_ | refine t_block ?_ | refine t_scope ?_ | refine t_label ?_ | refine t_skip ?_ | refine t_exit ?_ | refine t_ret ?_ | refine t_k ?_ | refine t_gF ?_ | exact kp_nil | exact Kp.refl _ | exact kp_to | refine kp_cons ?_ | refine kp_arr ?_ | refine kp_app ?_ | refine t_p ?_ | refine t_br (fun hc => ?_) fun hc => ?_)
   | ((with_reducible first | refine t_kE (t_openE ?_) | refine t_kD (t_openD ?_) | refine t_kE ?_ | refine t_kD ?_ | refine t_gS ?_ | refine t_kL ?_ | refine t_kLF ?_ ?_ | refine t_region fun K => ?_ | refine t_cond fun A B => ?_ | refine t_draw (by kernel_rfl) fun K => ?_); (try (first | refine t_hideE fun KL => ?_ | refine t_hideD fun KL => ?_)); simp only [go_sem, geff, kp35, con52_f, con52_c, okV])
   | ((with_reducible refine kp_skip ?_ ?_); rfl) | simp only [thenQ, blockQ, scopeQ, Nat.reduceEqDiff, reduceIte] | (with_reducible first | refine And.intro ?_ ?_ | intro vr))
  all_goals try exact h
  all_goals try (first | (with_reducible assumption) | (intros; (try simp only [Bool.and_eq_true, Bool.or_eq_true, Bool.or_eq_false_iff, Bool.not_eq_true', Bool.not_eq_false', decide_eq_true_eq, decide_eq_false_iff_not, beq_iff_eq, beq_eq_false_iff_ne, bne_iff_ne, bne_eq_false_iff_eq, ne_eq, inI64, List.length_append] at *) <;> omega) | (intros; (with_reducible first | refine impB_ofR ?_ | refine and_ofB ?_ ?_) <;> with_reducible first | assumption | (refine impB_ofR ?_; assumption)) | ((try simp only [Bool.and_eq_true] at vr); simp only [impB, vr, Bool.or_true, Bool.true_or, Bool.and_self, Bool.not_true, Bool.not_false, Bool.and_true]; done))
  all_goals ((first | refine end_retE ?_ | refine end_normE ?_); simp only [fin, go_sem])
  exact LeA.refl _
noncomputable def con35 : PCon Tryd.prog where
  f := 35
  c := fun
    | [.lit (.string s)] => some (digs (ul s) ∧ 1 ≤ (ul s).length ∧ (ul s).length ≤ 10, okV (dec (ul s)))
    | _ => none
  ok := by
    intro args p r hc hp
    split at hc
    · cases hc; exact atoi_pc hp.1 hp.2.1 hp.2.2
    · cases hc
  fk := fk35
theorem con35_f : con35.f = 35 := rfl
theorem con35_c {s : ByteArray} : con35.c [.lit (.string s)] = some (digs (ul s) ∧ 1 ≤ (ul s).length ∧ (ul s).length ≤ 10, okV (dec (ul s))) := rfl
noncomputable def E12 : Env := envJ (P := Tryd.prog) jk zer (fun _ => false) (fun _ => false) [con34, con35] []
theorem E12_ok : EnvOk Tryd.prog E12 := envJOk zer_ok
def numV (r : Int × Bool) : AV := .tup [.lit (.int .i64 r.1), .lit (.bool r.2)]
theorem num_of {n : Int} {b : Bool} {r : Int × Bool} (h : r = (n, b)) : LeA (.tup [.lit (.int .i64 n), .lit (.bool b)]) (numV r) := by subst h; exact LeA.refl _
theorem bt_48 (l : List UInt8) : (bt l 0 = 48) ↔ (l.getD 0 0 = 48) := by
  unfold bt
  constructor
  · intro h; apply UInt8.toNat_inj.1; show (l.getD 0 0).toNat = 48; omega
  · intro h; rw [h]; rfl
set_option maxHeartbeats 1000000 in
theorem val_pc {s : ByteArray} (hs : s.size ≤ 9223372036854775806) : PC Tryd.prog 16 [.lit (.string s)] (numV (valS (ul s))) := by
  obtain ⟨l, rfl⟩ := bs_ex s
  simp only [ul_bs, bs_size] at *
  cases h0 : (l == []) with
  | true =>
    have e : l = [] := by simpa using h0
    subst e
    refine pc_ofR E12_ok mixed (kp16) (rs := [.tmp 2, .tmp 3]) Tryd.func16 rfl (by kernel_rfl) (by kernel_rfl) (Nat.le_of_ble_eq_true rfl) ?_
    simp only [initF_cons, initF_nil, Nat.reduceAdd]
    refine t_name fun KF => ?_
    unfold E12
    repeat' (first
     | (with_reducible first | refine t_seq fun K => ?_ | refine t_block ?_ | refine t_scope ?_ | refine t_label ?_ | refine t_skip ?_ | refine t_exit ?_ | refine t_ret ?_ | refine t_k ?_ | refine t_gF ?_ | exact kp_nil | exact Kp.refl _ | exact kp_to | refine kp_cons ?_ | refine kp_arr ?_ | refine kp_app ?_ | refine t_p ?_ | refine t_br (fun hc => ?_) fun hc => ?_)
     | ((with_reducible first | refine t_kE (t_openE ?_) | refine t_kD (t_openD ?_) | refine t_kE ?_ | refine t_kD ?_ | refine t_gS ?_ | refine t_kL ?_ | refine t_kLF ?_ ?_ | refine t_region fun K => ?_ | refine t_cond fun A B => ?_ | refine t_draw (by kernel_rfl) fun K => ?_); (try (first | refine t_hideE fun KL => ?_ | refine t_hideD fun KL => ?_)); simp only [go_sem, geff, kp16, con35_f, h0])
     | ((with_reducible refine kp_skip ?_ ?_); rfl) | simp only [thenQ, blockQ, scopeQ, Nat.reduceEqDiff, reduceIte] | (with_reducible first | refine And.intro ?_ ?_ | intro vr))
    all_goals try (first | (with_reducible assumption) | (intros; (try simp only [Bool.and_eq_true, Bool.or_eq_true, Bool.or_eq_false_iff, Bool.not_eq_true', Bool.not_eq_false', decide_eq_true_eq, decide_eq_false_iff_not, beq_iff_eq, beq_eq_false_iff_ne, bne_iff_ne, bne_eq_false_iff_eq, ne_eq, inI64, List.length_append] at *) <;> omega) | (intros; (with_reducible first | refine impB_ofR ?_ | refine and_ofB ?_ ?_) <;> with_reducible first | assumption | (refine impB_ofR ?_; assumption)) | ((try simp only [Bool.and_eq_true] at vr); simp only [impB, vr, Bool.or_true, Bool.true_or, Bool.and_self, Bool.not_true, Bool.not_false, Bool.and_true]; done))
    all_goals ((first | refine end_retE ?_ | refine end_normE ?_); simp only [fin, go_sem])
    exact num_of (by simp [valS])
  | false =>
    have n0 : l ≠ [] := by simpa using h0
    have p0 : 0 < l.length := List.length_pos_iff.2 n0
    cases h1 : decide ((l.length : Int) > 10) with
    | true =>
      refine pc_ofR E12_ok mixed (kp16) (rs := [.tmp 2, .tmp 3]) Tryd.func16 rfl (by kernel_rfl) (by kernel_rfl) (Nat.le_of_ble_eq_true rfl) ?_
      simp only [initF_cons, initF_nil, Nat.reduceAdd]
      refine t_name fun KF => ?_
      unfold E12
      repeat' (first
       | (with_reducible first | refine t_seq fun K => ?_ | refine t_block ?_ | refine t_scope ?_ | refine t_label ?_ | refine t_skip ?_ | refine t_exit ?_ | refine t_ret ?_ | refine t_k ?_ | refine t_gF ?_ | exact kp_nil | exact Kp.refl _ | exact kp_to | refine kp_cons ?_ | refine kp_arr ?_ | refine kp_app ?_ | refine t_p ?_ | refine t_br (fun hc => ?_) fun hc => ?_)
       | ((with_reducible first | refine t_kE (t_openE ?_) | refine t_kD (t_openD ?_) | refine t_kE ?_ | refine t_kD ?_ | refine t_gS ?_ | refine t_kL ?_ | refine t_kLF ?_ ?_ | refine t_region fun K => ?_ | refine t_cond fun A B => ?_ | refine t_draw (by kernel_rfl) fun K => ?_); (try (first | refine t_hideE fun KL => ?_ | refine t_hideD fun KL => ?_)); simp only [go_sem, geff, kp16, con35_f, h0, h1])
       | ((with_reducible refine kp_skip ?_ ?_); rfl) | simp only [thenQ, blockQ, scopeQ, Nat.reduceEqDiff, reduceIte] | (with_reducible first | refine And.intro ?_ ?_ | intro vr))
      all_goals try (first | (with_reducible assumption) | (intros; (try simp only [Bool.and_eq_true, Bool.or_eq_true, Bool.or_eq_false_iff, Bool.not_eq_true', Bool.not_eq_false', decide_eq_true_eq, decide_eq_false_iff_not, beq_iff_eq, beq_eq_false_iff_ne, bne_iff_ne, bne_eq_false_iff_eq, ne_eq, inI64, List.length_append] at *) <;> omega) | (intros; (with_reducible first | refine impB_ofR ?_ | refine and_ofB ?_ ?_) <;> with_reducible first | assumption | (refine impB_ofR ?_; assumption)) | ((try simp only [Bool.and_eq_true] at vr); simp only [impB, vr, Bool.or_true, Bool.true_or, Bool.and_self, Bool.not_true, Bool.not_false, Bool.and_true]; done))
      all_goals ((first | refine end_retE ?_ | refine end_normE ?_); simp only [fin, go_sem])
      exact num_of (by unfold valS; rw [if_pos (.inr (.inl (by simp at h1; omega)))])
    | false =>
      simp only [decide_eq_false_iff_not] at h1
      have g1 : decide ((l.length : Int) > 10) = false := decide_eq_false h1
      cases h2 : decide (runN false l = l.length) with
      | false =>
        have g2 : (l.take (runN false l) == l) = false := by rw [take_runs, h2]
        refine pc_ofR E12_ok mixed (kp16) (rs := [.tmp 2, .tmp 3]) Tryd.func16 rfl (by kernel_rfl) (by kernel_rfl) (Nat.le_of_ble_eq_true rfl) ?_
        simp only [initF_cons, initF_nil, Nat.reduceAdd]
        refine t_name fun KF => ?_
        unfold E12
        repeat' (first
         | (with_reducible first | refine t_seq fun K => ?_ | refine t_block ?_ | refine t_scope ?_ | refine t_label ?_ | refine t_skip ?_ | refine t_exit ?_ | refine t_ret ?_ | refine t_k ?_ | refine t_gF ?_ | exact kp_nil | exact Kp.refl _ | exact kp_to | refine kp_cons ?_ | refine kp_arr ?_ | refine kp_app ?_ | refine t_p ?_ | refine t_br (fun hc => ?_) fun hc => ?_)
         | ((with_reducible first | refine t_kE (t_openE ?_) | refine t_kD (t_openD ?_) | refine t_kE ?_ | refine t_kD ?_ | refine t_gS ?_ | refine t_kL ?_ | refine t_kLF ?_ ?_ | refine t_region fun K => ?_ | refine t_cond fun A B => ?_ | refine t_draw (by kernel_rfl) fun K => ?_); (try (first | refine t_hideE fun KL => ?_ | refine t_hideD fun KL => ?_)); simp only [go_sem, geff, kp16, con35_f, h0, g1, g2])
         | ((with_reducible refine kp_skip ?_ ?_); rfl) | simp only [thenQ, blockQ, scopeQ, Nat.reduceEqDiff, reduceIte] | (with_reducible first | refine And.intro ?_ ?_ | intro vr))
        all_goals try (first | (with_reducible assumption) | (intros; (try simp only [Bool.and_eq_true, Bool.or_eq_true, Bool.or_eq_false_iff, Bool.not_eq_true', Bool.not_eq_false', decide_eq_true_eq, decide_eq_false_iff_not, beq_iff_eq, beq_eq_false_iff_ne, bne_iff_ne, bne_eq_false_iff_eq, ne_eq, inI64, List.length_append] at *) <;> omega) | (intros; (with_reducible first | refine impB_ofR ?_ | refine and_ofB ?_ ?_) <;> with_reducible first | assumption | (refine impB_ofR ?_; assumption)) | ((try simp only [Bool.and_eq_true] at vr); simp only [impB, vr, Bool.or_true, Bool.true_or, Bool.and_self, Bool.not_true, Bool.not_false, Bool.and_true]; done))
        all_goals ((first | refine end_retE ?_ | refine end_normE ?_); simp only [fin, go_sem])
        exact num_of (by unfold valS; rw [if_pos (.inr (.inr (.inl (by simpa using h2))))])
      | true =>
        have g2 : (l.take (runN false l) == l) = true := by rw [take_runs, h2]
        have e2 : runN false l = l.length := by simpa using h2
        have hd : digs l := run_digs.1 e2
        have hb := (dec_bd hd l.length (Nat.le_refl _)).1
        have hb2 := (dec_bd hd l.length (Nat.le_refl _)).2
        rw [List.take_length] at hb hb2
        have hp := pow10 (show l.length ≤ 10 by omega)
        cases h3 : (bt l 0 == 48) with
        | true =>
          have e3 : l.getD 0 0 = 48 := (bt_48 l).1 (by simpa using h3)
          refine pc_ofR E12_ok mixed (kp16) (rs := [.tmp 2, .tmp 3]) Tryd.func16 rfl (by kernel_rfl) (by kernel_rfl) (Nat.le_of_ble_eq_true rfl) ?_
          simp only [initF_cons, initF_nil, Nat.reduceAdd]
          refine t_name fun KF => ?_
          unfold E12
          repeat' (first
           | (with_reducible first | refine t_seq fun K => ?_ | refine t_block ?_ | refine t_scope ?_ | refine t_label ?_ | refine t_skip ?_ | refine t_exit ?_ | refine t_ret ?_ | refine t_k ?_ | refine t_gF ?_ | exact kp_nil | exact Kp.refl _ | exact kp_to | refine kp_cons ?_ | refine kp_arr ?_ | refine kp_app ?_ | refine t_p ?_ | refine t_br (fun hc => ?_) fun hc => ?_)
           | ((with_reducible first | refine t_kE (t_openE ?_) | refine t_kD (t_openD ?_) | refine t_kE ?_ | refine t_kD ?_ | refine t_gS ?_ | refine t_kL ?_ | refine t_kLF ?_ ?_ | refine t_region fun K => ?_ | refine t_cond fun A B => ?_ | refine t_draw (by kernel_rfl) fun K => ?_); (try (first | refine t_hideE fun KL => ?_ | refine t_hideD fun KL => ?_)); simp only [go_sem, geff, kp16, con35_f, con35_c, okV, h0, g1, g2, h3])
           | ((with_reducible refine kp_skip ?_ ?_); rfl) | simp only [thenQ, blockQ, scopeQ, Nat.reduceEqDiff, reduceIte] | (with_reducible first | refine And.intro ?_ ?_ | intro vr))
          all_goals try exact hd
          all_goals try (first | (with_reducible assumption) | (intros; (try simp only [Bool.and_eq_true, Bool.or_eq_true, Bool.or_eq_false_iff, Bool.not_eq_true', Bool.not_eq_false', decide_eq_true_eq, decide_eq_false_iff_not, beq_iff_eq, beq_eq_false_iff_ne, bne_iff_ne, bne_eq_false_iff_eq, ne_eq, inI64, List.length_append] at *) <;> omega) | (intros; (with_reducible first | refine impB_ofR ?_ | refine and_ofB ?_ ?_) <;> with_reducible first | assumption | (refine impB_ofR ?_; assumption)) | ((try simp only [Bool.and_eq_true] at vr); simp only [impB, vr, Bool.or_true, Bool.true_or, Bool.and_self, Bool.not_true, Bool.not_false, Bool.and_true]; done))
          all_goals ((first | refine end_retE ?_ | refine end_normE ?_); simp only [fin, go_sem])
          · exact num_of (by unfold valS; rw [if_pos (.inr (.inr (.inr (.inl ⟨e3, by simp at hc; omega⟩))))])
          · exact num_of (by unfold valS; rw [if_pos (.inr (.inr (.inr (.inr (by simpa using hc)))))])
          · refine num_of ?_
            unfold valS
            rw [if_neg]
            simp_all
            omega
        | false =>
          have e3 : ¬ l.getD 0 0 = 48 := fun h => by have := (bt_48 l).2 h; simp [this] at h3
          refine pc_ofR E12_ok mixed (kp16) (rs := [.tmp 2, .tmp 3]) Tryd.func16 rfl (by kernel_rfl) (by kernel_rfl) (Nat.le_of_ble_eq_true rfl) ?_
          simp only [initF_cons, initF_nil, Nat.reduceAdd]
          refine t_name fun KF => ?_
          unfold E12
          repeat' (first
           | (with_reducible first | refine t_seq fun K => ?_ | refine t_block ?_ | refine t_scope ?_ | refine t_label ?_ | refine t_skip ?_ | refine t_exit ?_ | refine t_ret ?_ | refine t_k ?_ | refine t_gF ?_ | exact kp_nil | exact Kp.refl _ | exact kp_to | refine kp_cons ?_ | refine kp_arr ?_ | refine kp_app ?_ | refine t_p ?_ | refine t_br (fun hc => ?_) fun hc => ?_)
           | ((with_reducible first | refine t_kE (t_openE ?_) | refine t_kD (t_openD ?_) | refine t_kE ?_ | refine t_kD ?_ | refine t_gS ?_ | refine t_kL ?_ | refine t_kLF ?_ ?_ | refine t_region fun K => ?_ | refine t_cond fun A B => ?_ | refine t_draw (by kernel_rfl) fun K => ?_); (try (first | refine t_hideE fun KL => ?_ | refine t_hideD fun KL => ?_)); simp only [go_sem, geff, kp16, con35_f, con35_c, okV, h0, g1, g2, h3])
           | ((with_reducible refine kp_skip ?_ ?_); rfl) | simp only [thenQ, blockQ, scopeQ, Nat.reduceEqDiff, reduceIte] | (with_reducible first | refine And.intro ?_ ?_ | intro vr))
          all_goals try exact hd
          all_goals try (first | (with_reducible assumption) | (intros; (try simp only [Bool.and_eq_true, Bool.or_eq_true, Bool.or_eq_false_iff, Bool.not_eq_true', Bool.not_eq_false', decide_eq_true_eq, decide_eq_false_iff_not, beq_iff_eq, beq_eq_false_iff_ne, bne_iff_ne, bne_eq_false_iff_eq, ne_eq, inI64, List.length_append] at *) <;> omega) | (intros; (with_reducible first | refine impB_ofR ?_ | refine and_ofB ?_ ?_) <;> with_reducible first | assumption | (refine impB_ofR ?_; assumption)) | ((try simp only [Bool.and_eq_true] at vr); simp only [impB, vr, Bool.or_true, Bool.true_or, Bool.and_self, Bool.not_true, Bool.not_false, Bool.and_true]; done))
          all_goals ((first | refine end_retE ?_ | refine end_normE ?_); simp only [fin, go_sem])
          · exact num_of (by unfold valS; rw [if_pos (.inr (.inr (.inr (.inr (by simpa using hc)))))])
          · refine num_of ?_
            unfold valS
            rw [if_neg]
            simp_all
            omega
noncomputable def con16 : PCon Tryd.prog where
  f := 16
  c := fun
    | [.lit (.string s)] => some (s.size ≤ 9223372036854775806, numV (valS (ul s)))
    | _ => none
  ok := by
    intro args p r hc hp
    split at hc
    · cases hc; exact (val_pc hp)
    · cases hc
  fk := fk16
theorem con16_f : con16.f = 16 := rfl
theorem con16_c {s : ByteArray} : con16.c [.lit (.string s)] = some (s.size ≤ 9223372036854775806, numV (valS (ul s))) := rfl
attribute [go_sem] con16_f con16_c con35_f con52_f con36_f
end Go.Proofs.YtkkamgblakhmiaaDoor
