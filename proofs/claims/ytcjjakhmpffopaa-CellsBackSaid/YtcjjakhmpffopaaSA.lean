/- Closed facts on the types of this seat's program, made by program (facts.py). -/
import Derived.Test.YtcjjakhmpffopaaRows
import Derived.Test.YtcjjakhmpffopaaFwB

set_option linter.all false

namespace Go.Proofs.Ytcjjakhmpffopaa
open Go Go.Fw

theorem u2 : Try.prog.underlying 2 = some (.int .i64) := by kernel_rfl
theorem sz2 : szT Try.prog 2 = 1 := by kernel_rfl
theorem by2 : byT Try.prog 2 = 8 := by kernel_rfl
theorem ag2 : aggT Try.prog 2 = some false := by kernel_rfl
theorem so2 : structOk Try.prog 2 = false := by kernel_rfl
theorem iz2 : (zeroT Try.prog 2).isSome = true := by kernel_rfl
theorem zk2 : zOk Try.prog 2 = true := by kernel_rfl
theorem iu2 : (Try.prog.underlying 2).isSome = true := by kernel_rfl
theorem u3 : Try.prog.underlying 3 = some (.int .i64) := by kernel_rfl
theorem sz3 : szT Try.prog 3 = 1 := by kernel_rfl
theorem by3 : byT Try.prog 3 = 8 := by kernel_rfl
theorem ag3 : aggT Try.prog 3 = some false := by kernel_rfl
theorem so3 : structOk Try.prog 3 = false := by kernel_rfl
theorem iz3 : (zeroT Try.prog 3).isSome = true := by kernel_rfl
theorem zk3 : zOk Try.prog 3 = true := by kernel_rfl
theorem iu3 : (Try.prog.underlying 3).isSome = true := by kernel_rfl
theorem u4 : Try.prog.underlying 4 = some .bool := by kernel_rfl
theorem sz4 : szT Try.prog 4 = 1 := by kernel_rfl
theorem by4 : byT Try.prog 4 = 1 := by kernel_rfl
theorem ag4 : aggT Try.prog 4 = some false := by kernel_rfl
theorem so4 : structOk Try.prog 4 = false := by kernel_rfl
theorem iz4 : (zeroT Try.prog 4).isSome = true := by kernel_rfl
theorem zk4 : zOk Try.prog 4 = true := by kernel_rfl
theorem iu4 : (Try.prog.underlying 4).isSome = true := by kernel_rfl
theorem u5 : Try.prog.underlying 5 = some (.int .u8) := by kernel_rfl
theorem sz5 : szT Try.prog 5 = 1 := by kernel_rfl
theorem by5 : byT Try.prog 5 = 1 := by kernel_rfl
theorem ag5 : aggT Try.prog 5 = some false := by kernel_rfl
theorem so5 : structOk Try.prog 5 = false := by kernel_rfl
theorem iz5 : (zeroT Try.prog 5).isSome = true := by kernel_rfl
theorem zk5 : zOk Try.prog 5 = true := by kernel_rfl
theorem iu5 : (Try.prog.underlying 5).isSome = true := by kernel_rfl
theorem u6 : Try.prog.underlying 6 = some (.int .u8) := by kernel_rfl
theorem sz6 : szT Try.prog 6 = 1 := by kernel_rfl
theorem by6 : byT Try.prog 6 = 1 := by kernel_rfl
theorem ag6 : aggT Try.prog 6 = some false := by kernel_rfl
theorem so6 : structOk Try.prog 6 = false := by kernel_rfl
theorem iz6 : (zeroT Try.prog 6).isSome = true := by kernel_rfl
theorem zk6 : zOk Try.prog 6 = true := by kernel_rfl
theorem iu6 : (Try.prog.underlying 6).isSome = true := by kernel_rfl
theorem sz7 : szT Try.prog 7 = 4 := by kernel_rfl
theorem by7 : byT Try.prog 7 = 24 := by kernel_rfl
theorem ag7 : aggT Try.prog 7 = some true := by kernel_rfl
theorem so7 : structOk Try.prog 7 = true := by kernel_rfl
theorem fl7_0 : fieldT Try.prog 7 0 = some (2, 0) := by kernel_rfl
theorem fl7_1 : fieldT Try.prog 7 1 = some (3, 1) := by kernel_rfl
theorem fl7_2 : fieldT Try.prog 7 2 = some (4, 2) := by kernel_rfl
theorem fl7_3 : fieldT Try.prog 7 3 = some (6, 3) := by kernel_rfl
theorem se7 : seqK Try.prog 7 = some [0, 0, 2, 0] := by kernel_rfl
theorem iz7 : (zeroT Try.prog 7).isSome = true := by kernel_rfl
theorem zk7 : zOk Try.prog 7 = true := by kernel_rfl
theorem iu7 : (Try.prog.underlying 7).isSome = true := by kernel_rfl
theorem sz8 : szT Try.prog 8 = 4 := by kernel_rfl
theorem by8 : byT Try.prog 8 = 24 := by kernel_rfl
theorem ag8 : aggT Try.prog 8 = some true := by kernel_rfl
theorem so8 : structOk Try.prog 8 = true := by kernel_rfl
theorem fl8_0 : fieldT Try.prog 8 0 = some (2, 0) := by kernel_rfl
theorem fl8_1 : fieldT Try.prog 8 1 = some (3, 1) := by kernel_rfl
theorem fl8_2 : fieldT Try.prog 8 2 = some (4, 2) := by kernel_rfl
theorem fl8_3 : fieldT Try.prog 8 3 = some (6, 3) := by kernel_rfl
theorem se8 : seqK Try.prog 8 = some [0, 0, 2, 0] := by kernel_rfl
theorem iz8 : (zeroT Try.prog 8).isSome = true := by kernel_rfl
theorem zk8 : zOk Try.prog 8 = true := by kernel_rfl
theorem iu8 : (Try.prog.underlying 8).isSome = true := by kernel_rfl
theorem u9 : Try.prog.underlying 9 = some .string := by kernel_rfl
theorem sz9 : szT Try.prog 9 = 1 := by kernel_rfl
theorem by9 : byT Try.prog 9 = 16 := by kernel_rfl
theorem ag9 : aggT Try.prog 9 = some false := by kernel_rfl
theorem so9 : structOk Try.prog 9 = false := by kernel_rfl
theorem iz9 : (zeroT Try.prog 9).isSome = true := by kernel_rfl
theorem zk9 : zOk Try.prog 9 = true := by kernel_rfl
theorem iu9 : (Try.prog.underlying 9).isSome = true := by kernel_rfl
theorem u10 : Try.prog.underlying 10 = some .string := by kernel_rfl
theorem sz10 : szT Try.prog 10 = 1 := by kernel_rfl
theorem by10 : byT Try.prog 10 = 16 := by kernel_rfl
theorem ag10 : aggT Try.prog 10 = some false := by kernel_rfl
theorem so10 : structOk Try.prog 10 = false := by kernel_rfl
theorem iz10 : (zeroT Try.prog 10).isSome = true := by kernel_rfl
theorem zk10 : zOk Try.prog 10 = true := by kernel_rfl
theorem iu10 : (Try.prog.underlying 10).isSome = true := by kernel_rfl
theorem u11 : Try.prog.underlying 11 = some .string := by kernel_rfl
theorem sz11 : szT Try.prog 11 = 1 := by kernel_rfl
theorem by11 : byT Try.prog 11 = 16 := by kernel_rfl
theorem ag11 : aggT Try.prog 11 = some false := by kernel_rfl
theorem so11 : structOk Try.prog 11 = false := by kernel_rfl
theorem iz11 : (zeroT Try.prog 11).isSome = true := by kernel_rfl
theorem zk11 : zOk Try.prog 11 = true := by kernel_rfl
theorem iu11 : (Try.prog.underlying 11).isSome = true := by kernel_rfl
theorem u12 : Try.prog.underlying 12 = some (.int .u64) := by kernel_rfl
theorem sz12 : szT Try.prog 12 = 1 := by kernel_rfl
theorem by12 : byT Try.prog 12 = 8 := by kernel_rfl
theorem ag12 : aggT Try.prog 12 = some false := by kernel_rfl
theorem so12 : structOk Try.prog 12 = false := by kernel_rfl
theorem iz12 : (zeroT Try.prog 12).isSome = true := by kernel_rfl
theorem zk12 : zOk Try.prog 12 = true := by kernel_rfl
theorem iu12 : (Try.prog.underlying 12).isSome = true := by kernel_rfl
theorem sz13 : szT Try.prog 13 = 2 := by kernel_rfl
theorem by13 : byT Try.prog 13 = 24 := by kernel_rfl
theorem ag13 : aggT Try.prog 13 = some true := by kernel_rfl
theorem so13 : structOk Try.prog 13 = true := by kernel_rfl
theorem fl13_0 : fieldT Try.prog 13 0 = some (9, 0) := by kernel_rfl
theorem fl13_1 : fieldT Try.prog 13 1 = some (12, 1) := by kernel_rfl
theorem iz13 : (zeroT Try.prog 13).isSome = true := by kernel_rfl
theorem zk13 : zOk Try.prog 13 = true := by kernel_rfl
theorem iu13 : (Try.prog.underlying 13).isSome = true := by kernel_rfl
theorem sz14 : szT Try.prog 14 = 2 := by kernel_rfl
theorem by14 : byT Try.prog 14 = 24 := by kernel_rfl
theorem ag14 : aggT Try.prog 14 = some true := by kernel_rfl
theorem so14 : structOk Try.prog 14 = true := by kernel_rfl
theorem fl14_0 : fieldT Try.prog 14 0 = some (9, 0) := by kernel_rfl
theorem fl14_1 : fieldT Try.prog 14 1 = some (12, 1) := by kernel_rfl
theorem iz14 : (zeroT Try.prog 14).isSome = true := by kernel_rfl
theorem zk14 : zOk Try.prog 14 = true := by kernel_rfl
theorem iu14 : (Try.prog.underlying 14).isSome = true := by kernel_rfl
theorem u15 : Try.prog.underlying 15 = some (.pointer 132) := by kernel_rfl
theorem sz15 : szT Try.prog 15 = 1 := by kernel_rfl
theorem by15 : byT Try.prog 15 = 8 := by kernel_rfl
theorem ag15 : aggT Try.prog 15 = some false := by kernel_rfl
theorem so15 : structOk Try.prog 15 = false := by kernel_rfl
theorem iz15 : (zeroT Try.prog 15).isSome = true := by kernel_rfl
theorem zk15 : zOk Try.prog 15 = true := by kernel_rfl
theorem iu15 : (Try.prog.underlying 15).isSome = true := by kernel_rfl
theorem u16 : Try.prog.underlying 16 = some (.pointer 135) := by kernel_rfl
theorem sz16 : szT Try.prog 16 = 1 := by kernel_rfl
theorem by16 : byT Try.prog 16 = 8 := by kernel_rfl
theorem ag16 : aggT Try.prog 16 = some false := by kernel_rfl
theorem so16 : structOk Try.prog 16 = false := by kernel_rfl
theorem iz16 : (zeroT Try.prog 16).isSome = true := by kernel_rfl
theorem zk16 : zOk Try.prog 16 = true := by kernel_rfl
theorem iu16 : (Try.prog.underlying 16).isSome = true := by kernel_rfl
theorem u17 : Try.prog.underlying 17 = some (.pointer 145) := by kernel_rfl
theorem sz17 : szT Try.prog 17 = 1 := by kernel_rfl
theorem by17 : byT Try.prog 17 = 8 := by kernel_rfl
theorem ag17 : aggT Try.prog 17 = some false := by kernel_rfl
theorem so17 : structOk Try.prog 17 = false := by kernel_rfl
theorem iz17 : (zeroT Try.prog 17).isSome = true := by kernel_rfl
theorem zk17 : zOk Try.prog 17 = true := by kernel_rfl
theorem iu17 : (Try.prog.underlying 17).isSome = true := by kernel_rfl
theorem sz18 : szT Try.prog 18 = 1 := by kernel_rfl
theorem by18 : byT Try.prog 18 = 8 := by kernel_rfl
theorem ag18 : aggT Try.prog 18 = some true := by kernel_rfl
theorem so18 : structOk Try.prog 18 = true := by kernel_rfl
theorem fl18_0 : fieldT Try.prog 18 0 = some (17, 0) := by kernel_rfl
theorem iz18 : (zeroT Try.prog 18).isSome = true := by kernel_rfl
theorem zk18 : zOk Try.prog 18 = true := by kernel_rfl
theorem iu18 : (Try.prog.underlying 18).isSome = true := by kernel_rfl
theorem sz19 : szT Try.prog 19 = 1 := by kernel_rfl
theorem by19 : byT Try.prog 19 = 8 := by kernel_rfl
theorem ag19 : aggT Try.prog 19 = some true := by kernel_rfl
theorem so19 : structOk Try.prog 19 = true := by kernel_rfl
theorem fl19_0 : fieldT Try.prog 19 0 = some (17, 0) := by kernel_rfl
theorem iz19 : (zeroT Try.prog 19).isSome = true := by kernel_rfl
theorem zk19 : zOk Try.prog 19 = true := by kernel_rfl
theorem iu19 : (Try.prog.underlying 19).isSome = true := by kernel_rfl
theorem u21 : Try.prog.underlying 21 = some (.int .i32) := by kernel_rfl
theorem sz21 : szT Try.prog 21 = 1 := by kernel_rfl
theorem by21 : byT Try.prog 21 = 4 := by kernel_rfl
theorem ag21 : aggT Try.prog 21 = some false := by kernel_rfl
theorem so21 : structOk Try.prog 21 = false := by kernel_rfl
theorem iz21 : (zeroT Try.prog 21).isSome = true := by kernel_rfl
theorem zk21 : zOk Try.prog 21 = true := by kernel_rfl
theorem iu21 : (Try.prog.underlying 21).isSome = true := by kernel_rfl
theorem u22 : Try.prog.underlying 22 = some (.slice 33) := by kernel_rfl
theorem sz22 : szT Try.prog 22 = 1 := by kernel_rfl
theorem by22 : byT Try.prog 22 = 24 := by kernel_rfl
theorem ag22 : aggT Try.prog 22 = some false := by kernel_rfl
theorem so22 : structOk Try.prog 22 = false := by kernel_rfl
theorem iz22 : (zeroT Try.prog 22).isSome = true := by kernel_rfl
theorem zk22 : zOk Try.prog 22 = true := by kernel_rfl
theorem iu22 : (Try.prog.underlying 22).isSome = true := by kernel_rfl
theorem ap22 : appT Try.prog #[22, 22] = some 33 := by kernel_rfl
theorem u23 : Try.prog.underlying 23 = some (.slice 3) := by kernel_rfl
theorem sz23 : szT Try.prog 23 = 1 := by kernel_rfl
theorem by23 : byT Try.prog 23 = 24 := by kernel_rfl
theorem ag23 : aggT Try.prog 23 = some false := by kernel_rfl
theorem so23 : structOk Try.prog 23 = false := by kernel_rfl
theorem iz23 : (zeroT Try.prog 23).isSome = true := by kernel_rfl
theorem zk23 : zOk Try.prog 23 = true := by kernel_rfl
theorem iu23 : (Try.prog.underlying 23).isSome = true := by kernel_rfl
theorem ap23 : appT Try.prog #[23, 23] = some 3 := by kernel_rfl
theorem u26 : Try.prog.underlying 26 = some (.slice 4) := by kernel_rfl
theorem sz26 : szT Try.prog 26 = 1 := by kernel_rfl
theorem by26 : byT Try.prog 26 = 24 := by kernel_rfl
theorem ag26 : aggT Try.prog 26 = some false := by kernel_rfl
theorem so26 : structOk Try.prog 26 = false := by kernel_rfl
theorem iz26 : (zeroT Try.prog 26).isSome = true := by kernel_rfl
theorem zk26 : zOk Try.prog 26 = true := by kernel_rfl
theorem iu26 : (Try.prog.underlying 26).isSome = true := by kernel_rfl
theorem ap26 : appT Try.prog #[26, 26] = some 4 := by kernel_rfl
theorem u27 : Try.prog.underlying 27 = some (.int .i64) := by kernel_rfl
theorem sz27 : szT Try.prog 27 = 1 := by kernel_rfl
theorem by27 : byT Try.prog 27 = 8 := by kernel_rfl
theorem ag27 : aggT Try.prog 27 = some false := by kernel_rfl
theorem so27 : structOk Try.prog 27 = false := by kernel_rfl
theorem iz27 : (zeroT Try.prog 27).isSome = true := by kernel_rfl
theorem zk27 : zOk Try.prog 27 = true := by kernel_rfl
theorem iu27 : (Try.prog.underlying 27).isSome = true := by kernel_rfl
theorem sz32 : szT Try.prog 32 = 3 := by kernel_rfl
theorem by32 : byT Try.prog 32 = 64 := by kernel_rfl
theorem ag32 : aggT Try.prog 32 = some true := by kernel_rfl
theorem so32 : structOk Try.prog 32 = true := by kernel_rfl
theorem fl32_0 : fieldT Try.prog 32 0 = some (9, 0) := by kernel_rfl
theorem fl32_1 : fieldT Try.prog 32 1 = some (23, 1) := by kernel_rfl
theorem fl32_2 : fieldT Try.prog 32 2 = some (23, 2) := by kernel_rfl
theorem iz32 : (zeroT Try.prog 32).isSome = true := by kernel_rfl
theorem zk32 : zOk Try.prog 32 = true := by kernel_rfl
theorem iu32 : (Try.prog.underlying 32).isSome = true := by kernel_rfl
theorem sz33 : szT Try.prog 33 = 3 := by kernel_rfl
theorem by33 : byT Try.prog 33 = 64 := by kernel_rfl
theorem ag33 : aggT Try.prog 33 = some true := by kernel_rfl
theorem so33 : structOk Try.prog 33 = true := by kernel_rfl
theorem fl33_0 : fieldT Try.prog 33 0 = some (9, 0) := by kernel_rfl
theorem fl33_1 : fieldT Try.prog 33 1 = some (23, 1) := by kernel_rfl
theorem fl33_2 : fieldT Try.prog 33 2 = some (23, 2) := by kernel_rfl
theorem iz33 : (zeroT Try.prog 33).isSome = true := by kernel_rfl
theorem zk33 : zOk Try.prog 33 = true := by kernel_rfl
theorem iu33 : (Try.prog.underlying 33).isSome = true := by kernel_rfl
theorem u40 : Try.prog.underlying 40 = some (.slice 23) := by kernel_rfl
theorem sz40 : szT Try.prog 40 = 1 := by kernel_rfl
theorem by40 : byT Try.prog 40 = 24 := by kernel_rfl
theorem ag40 : aggT Try.prog 40 = some false := by kernel_rfl
theorem so40 : structOk Try.prog 40 = false := by kernel_rfl
theorem iz40 : (zeroT Try.prog 40).isSome = true := by kernel_rfl
theorem zk40 : zOk Try.prog 40 = true := by kernel_rfl
theorem iu40 : (Try.prog.underlying 40).isSome = true := by kernel_rfl
theorem ap40 : appT Try.prog #[40, 40] = some 23 := by kernel_rfl
theorem sz41 : szT Try.prog 41 = 2 := by kernel_rfl
theorem by41 : byT Try.prog 41 = 48 := by kernel_rfl
theorem ag41 : aggT Try.prog 41 = some true := by kernel_rfl
theorem so41 : structOk Try.prog 41 = true := by kernel_rfl
theorem fl41_0 : fieldT Try.prog 41 0 = some (40, 0) := by kernel_rfl
theorem fl41_1 : fieldT Try.prog 41 1 = some (23, 1) := by kernel_rfl
theorem iz41 : (zeroT Try.prog 41).isSome = true := by kernel_rfl
theorem zk41 : zOk Try.prog 41 = true := by kernel_rfl
theorem iu41 : (Try.prog.underlying 41).isSome = true := by kernel_rfl
theorem sz42 : szT Try.prog 42 = 2 := by kernel_rfl
theorem by42 : byT Try.prog 42 = 48 := by kernel_rfl
theorem ag42 : aggT Try.prog 42 = some true := by kernel_rfl
theorem so42 : structOk Try.prog 42 = true := by kernel_rfl
theorem fl42_0 : fieldT Try.prog 42 0 = some (40, 0) := by kernel_rfl
theorem fl42_1 : fieldT Try.prog 42 1 = some (23, 1) := by kernel_rfl
theorem iz42 : (zeroT Try.prog 42).isSome = true := by kernel_rfl
theorem zk42 : zOk Try.prog 42 = true := by kernel_rfl
theorem iu42 : (Try.prog.underlying 42).isSome = true := by kernel_rfl
theorem sz58 : szT Try.prog 58 = 2 := by kernel_rfl
theorem by58 : byT Try.prog 58 = 32 := by kernel_rfl
theorem ag58 : aggT Try.prog 58 = some true := by kernel_rfl
theorem so58 : structOk Try.prog 58 = true := by kernel_rfl
theorem fl58_0 : fieldT Try.prog 58 0 = some (23, 0) := by kernel_rfl
theorem fl58_1 : fieldT Try.prog 58 1 = some (3, 1) := by kernel_rfl
theorem iz58 : (zeroT Try.prog 58).isSome = true := by kernel_rfl
theorem zk58 : zOk Try.prog 58 = true := by kernel_rfl
theorem iu58 : (Try.prog.underlying 58).isSome = true := by kernel_rfl
theorem sz59 : szT Try.prog 59 = 2 := by kernel_rfl
theorem by59 : byT Try.prog 59 = 32 := by kernel_rfl
theorem ag59 : aggT Try.prog 59 = some true := by kernel_rfl
theorem so59 : structOk Try.prog 59 = true := by kernel_rfl
theorem fl59_0 : fieldT Try.prog 59 0 = some (23, 0) := by kernel_rfl
theorem fl59_1 : fieldT Try.prog 59 1 = some (3, 1) := by kernel_rfl
theorem iz59 : (zeroT Try.prog 59).isSome = true := by kernel_rfl
theorem zk59 : zOk Try.prog 59 = true := by kernel_rfl
theorem iu59 : (Try.prog.underlying 59).isSome = true := by kernel_rfl
theorem u62 : Try.prog.underlying 62 = some (.slice 9) := by kernel_rfl
theorem sz62 : szT Try.prog 62 = 1 := by kernel_rfl
theorem by62 : byT Try.prog 62 = 24 := by kernel_rfl
theorem ag62 : aggT Try.prog 62 = some false := by kernel_rfl
theorem so62 : structOk Try.prog 62 = false := by kernel_rfl
theorem iz62 : (zeroT Try.prog 62).isSome = true := by kernel_rfl
theorem zk62 : zOk Try.prog 62 = true := by kernel_rfl
theorem iu62 : (Try.prog.underlying 62).isSome = true := by kernel_rfl
theorem ap62 : appT Try.prog #[62, 62] = some 9 := by kernel_rfl
theorem u71 : Try.prog.underlying 71 = some (.array 2 21) := by kernel_rfl
theorem sz71 : szT Try.prog 71 = 2 := by kernel_rfl
theorem by71 : byT Try.prog 71 = 8 := by kernel_rfl
theorem ag71 : aggT Try.prog 71 = some true := by kernel_rfl
theorem so71 : structOk Try.prog 71 = false := by kernel_rfl
theorem iz71 : (zeroT Try.prog 71).isSome = true := by kernel_rfl
theorem zk71 : zOk Try.prog 71 = true := by kernel_rfl
theorem iu71 : (Try.prog.underlying 71).isSome = true := by kernel_rfl
theorem sz91 : szT Try.prog 91 = 5 := by kernel_rfl
theorem by91 : byT Try.prog 91 = 64 := by kernel_rfl
theorem ag91 : aggT Try.prog 91 = some true := by kernel_rfl
theorem so91 : structOk Try.prog 91 = true := by kernel_rfl
theorem fl91_0 : fieldT Try.prog 91 0 = some (9, 0) := by kernel_rfl
theorem fl91_1 : fieldT Try.prog 91 1 = some (4, 1) := by kernel_rfl
theorem fl91_2 : fieldT Try.prog 91 2 = some (23, 2) := by kernel_rfl
theorem fl91_3 : fieldT Try.prog 91 3 = some (89, 3) := by kernel_rfl
theorem fl91_4 : fieldT Try.prog 91 4 = some (90, 4) := by kernel_rfl
theorem iz91 : (zeroT Try.prog 91).isSome = true := by kernel_rfl
theorem zk91 : zOk Try.prog 91 = true := by kernel_rfl
theorem iu91 : (Try.prog.underlying 91).isSome = true := by kernel_rfl
theorem sz92 : szT Try.prog 92 = 5 := by kernel_rfl
theorem by92 : byT Try.prog 92 = 64 := by kernel_rfl
theorem ag92 : aggT Try.prog 92 = some true := by kernel_rfl
theorem so92 : structOk Try.prog 92 = true := by kernel_rfl
theorem fl92_0 : fieldT Try.prog 92 0 = some (9, 0) := by kernel_rfl
theorem fl92_1 : fieldT Try.prog 92 1 = some (4, 1) := by kernel_rfl
theorem fl92_2 : fieldT Try.prog 92 2 = some (23, 2) := by kernel_rfl
theorem fl92_3 : fieldT Try.prog 92 3 = some (89, 3) := by kernel_rfl
theorem fl92_4 : fieldT Try.prog 92 4 = some (90, 4) := by kernel_rfl
theorem iz92 : (zeroT Try.prog 92).isSome = true := by kernel_rfl
theorem zk92 : zOk Try.prog 92 = true := by kernel_rfl
theorem iu92 : (Try.prog.underlying 92).isSome = true := by kernel_rfl
theorem u109 : Try.prog.underlying 109 = some (.slice 92) := by kernel_rfl
theorem sz109 : szT Try.prog 109 = 1 := by kernel_rfl
theorem by109 : byT Try.prog 109 = 24 := by kernel_rfl
theorem ag109 : aggT Try.prog 109 = some false := by kernel_rfl
theorem so109 : structOk Try.prog 109 = false := by kernel_rfl
theorem iz109 : (zeroT Try.prog 109).isSome = true := by kernel_rfl
theorem zk109 : zOk Try.prog 109 = true := by kernel_rfl
theorem iu109 : (Try.prog.underlying 109).isSome = true := by kernel_rfl
theorem ap109 : appT Try.prog #[109, 109] = some 92 := by kernel_rfl
theorem sz131 : szT Try.prog 131 = 4 := by kernel_rfl
theorem by131 : byT Try.prog 131 = 40 := by kernel_rfl
theorem ag131 : aggT Try.prog 131 = some true := by kernel_rfl
theorem so131 : structOk Try.prog 131 = true := by kernel_rfl
theorem fl131_0 : fieldT Try.prog 131 0 = some (17, 0) := by kernel_rfl
theorem fl131_1 : fieldT Try.prog 131 1 = some (17, 1) := by kernel_rfl
theorem fl131_2 : fieldT Try.prog 131 2 = some (17, 2) := by kernel_rfl
theorem fl131_3 : fieldT Try.prog 131 3 = some (9, 3) := by kernel_rfl
theorem iz131 : (zeroT Try.prog 131).isSome = true := by kernel_rfl
theorem zk131 : zOk Try.prog 131 = true := by kernel_rfl
theorem iu131 : (Try.prog.underlying 131).isSome = true := by kernel_rfl
theorem sz132 : szT Try.prog 132 = 4 := by kernel_rfl
theorem by132 : byT Try.prog 132 = 40 := by kernel_rfl
theorem ag132 : aggT Try.prog 132 = some true := by kernel_rfl
theorem so132 : structOk Try.prog 132 = true := by kernel_rfl
theorem fl132_0 : fieldT Try.prog 132 0 = some (17, 0) := by kernel_rfl
theorem fl132_1 : fieldT Try.prog 132 1 = some (17, 1) := by kernel_rfl
theorem fl132_2 : fieldT Try.prog 132 2 = some (17, 2) := by kernel_rfl
theorem fl132_3 : fieldT Try.prog 132 3 = some (9, 3) := by kernel_rfl
theorem iz132 : (zeroT Try.prog 132).isSome = true := by kernel_rfl
theorem zk132 : zOk Try.prog 132 = true := by kernel_rfl
theorem iu132 : (Try.prog.underlying 132).isSome = true := by kernel_rfl
theorem u133 : Try.prog.underlying 133 = some (.array 0 16) := by kernel_rfl
theorem sz133 : szT Try.prog 133 = 0 := by kernel_rfl
theorem by133 : byT Try.prog 133 = 0 := by kernel_rfl
theorem ag133 : aggT Try.prog 133 = some true := by kernel_rfl
theorem so133 : structOk Try.prog 133 = false := by kernel_rfl
theorem iz133 : (zeroT Try.prog 133).isSome = true := by kernel_rfl
theorem zk133 : zOk Try.prog 133 = true := by kernel_rfl
theorem iu133 : (Try.prog.underlying 133).isSome = true := by kernel_rfl
theorem sz134 : szT Try.prog 134 = 0 := by kernel_rfl
theorem by134 : byT Try.prog 134 = 0 := by kernel_rfl
theorem ag134 : aggT Try.prog 134 = some true := by kernel_rfl
theorem so134 : structOk Try.prog 134 = true := by kernel_rfl
theorem fl134_0 : fieldT Try.prog 134 0 = some (133, 0) := by kernel_rfl
theorem iz134 : (zeroT Try.prog 134).isSome = true := by kernel_rfl
theorem zk134 : zOk Try.prog 134 = true := by kernel_rfl
theorem iu134 : (Try.prog.underlying 134).isSome = true := by kernel_rfl
theorem sz135 : szT Try.prog 135 = 0 := by kernel_rfl
theorem by135 : byT Try.prog 135 = 0 := by kernel_rfl
theorem ag135 : aggT Try.prog 135 = some true := by kernel_rfl
theorem so135 : structOk Try.prog 135 = true := by kernel_rfl
theorem fl135_0 : fieldT Try.prog 135 0 = some (133, 0) := by kernel_rfl
theorem iz135 : (zeroT Try.prog 135).isSome = true := by kernel_rfl
theorem zk135 : zOk Try.prog 135 = true := by kernel_rfl
theorem iu135 : (Try.prog.underlying 135).isSome = true := by kernel_rfl
theorem u137 : Try.prog.underlying 137 = some (.int .u32) := by kernel_rfl
theorem sz137 : szT Try.prog 137 = 1 := by kernel_rfl
theorem by137 : byT Try.prog 137 = 4 := by kernel_rfl
theorem ag137 : aggT Try.prog 137 = some false := by kernel_rfl
theorem so137 : structOk Try.prog 137 = false := by kernel_rfl
theorem iz137 : (zeroT Try.prog 137).isSome = true := by kernel_rfl
theorem zk137 : zOk Try.prog 137 = true := by kernel_rfl
theorem iu137 : (Try.prog.underlying 137).isSome = true := by kernel_rfl
theorem u138 : Try.prog.underlying 138 = some (.int .u8) := by kernel_rfl
theorem sz138 : szT Try.prog 138 = 1 := by kernel_rfl
theorem by138 : byT Try.prog 138 = 1 := by kernel_rfl
theorem ag138 : aggT Try.prog 138 = some false := by kernel_rfl
theorem so138 : structOk Try.prog 138 = false := by kernel_rfl
theorem iz138 : (zeroT Try.prog 138).isSome = true := by kernel_rfl
theorem zk138 : zOk Try.prog 138 = true := by kernel_rfl
theorem iu138 : (Try.prog.underlying 138).isSome = true := by kernel_rfl
theorem u139 : Try.prog.underlying 139 = some (.int .u8) := by kernel_rfl
theorem sz139 : szT Try.prog 139 = 1 := by kernel_rfl
theorem by139 : byT Try.prog 139 = 1 := by kernel_rfl
theorem ag139 : aggT Try.prog 139 = some false := by kernel_rfl
theorem so139 : structOk Try.prog 139 = false := by kernel_rfl
theorem iz139 : (zeroT Try.prog 139).isSome = true := by kernel_rfl
theorem zk139 : zOk Try.prog 139 = true := by kernel_rfl
theorem iu139 : (Try.prog.underlying 139).isSome = true := by kernel_rfl
theorem u141 : Try.prog.underlying 141 = some (.pointer 5) := by kernel_rfl
theorem sz141 : szT Try.prog 141 = 1 := by kernel_rfl
theorem by141 : byT Try.prog 141 = 8 := by kernel_rfl
theorem ag141 : aggT Try.prog 141 = some false := by kernel_rfl
theorem so141 : structOk Try.prog 141 = false := by kernel_rfl
theorem iz141 : (zeroT Try.prog 141).isSome = true := by kernel_rfl
theorem zk141 : zOk Try.prog 141 = true := by kernel_rfl
theorem iu141 : (Try.prog.underlying 141).isSome = true := by kernel_rfl
theorem u142 : Try.prog.underlying 142 = some (.int .i32) := by kernel_rfl
theorem sz142 : szT Try.prog 142 = 1 := by kernel_rfl
theorem by142 : byT Try.prog 142 = 4 := by kernel_rfl
theorem ag142 : aggT Try.prog 142 = some false := by kernel_rfl
theorem so142 : structOk Try.prog 142 = false := by kernel_rfl
theorem iz142 : (zeroT Try.prog 142).isSome = true := by kernel_rfl
theorem zk142 : zOk Try.prog 142 = true := by kernel_rfl
theorem iu142 : (Try.prog.underlying 142).isSome = true := by kernel_rfl
theorem u143 : Try.prog.underlying 143 = some (.int .i32) := by kernel_rfl
theorem sz143 : szT Try.prog 143 = 1 := by kernel_rfl
theorem by143 : byT Try.prog 143 = 4 := by kernel_rfl
theorem ag143 : aggT Try.prog 143 = some false := by kernel_rfl
theorem so143 : structOk Try.prog 143 = false := by kernel_rfl
theorem iz143 : (zeroT Try.prog 143).isSome = true := by kernel_rfl
theorem zk143 : zOk Try.prog 143 = true := by kernel_rfl
theorem iu143 : (Try.prog.underlying 143).isSome = true := by kernel_rfl
theorem sz144 : szT Try.prog 144 = 11 := by kernel_rfl
theorem by144 : byT Try.prog 144 = 48 := by kernel_rfl
theorem ag144 : aggT Try.prog 144 = some true := by kernel_rfl
theorem so144 : structOk Try.prog 144 = true := by kernel_rfl
theorem fl144_0 : fieldT Try.prog 144 0 = some (12, 0) := by kernel_rfl
theorem fl144_1 : fieldT Try.prog 144 1 = some (12, 1) := by kernel_rfl
theorem fl144_2 : fieldT Try.prog 144 2 = some (137, 2) := by kernel_rfl
theorem fl144_3 : fieldT Try.prog 144 3 = some (138, 3) := by kernel_rfl
theorem fl144_4 : fieldT Try.prog 144 4 = some (5, 4) := by kernel_rfl
theorem fl144_5 : fieldT Try.prog 144 5 = some (5, 5) := by kernel_rfl
theorem fl144_6 : fieldT Try.prog 144 6 = some (139, 6) := by kernel_rfl
theorem fl144_7 : fieldT Try.prog 144 7 = some (140, 7) := by kernel_rfl
theorem fl144_8 : fieldT Try.prog 144 8 = some (141, 8) := by kernel_rfl
theorem fl144_9 : fieldT Try.prog 144 9 = some (142, 9) := by kernel_rfl
theorem fl144_10 : fieldT Try.prog 144 10 = some (143, 10) := by kernel_rfl
theorem iz144 : (zeroT Try.prog 144).isSome = true := by kernel_rfl
theorem zk144 : zOk Try.prog 144 = true := by kernel_rfl
theorem iu144 : (Try.prog.underlying 144).isSome = true := by kernel_rfl
theorem sz145 : szT Try.prog 145 = 11 := by kernel_rfl
theorem by145 : byT Try.prog 145 = 48 := by kernel_rfl
theorem ag145 : aggT Try.prog 145 = some true := by kernel_rfl
theorem so145 : structOk Try.prog 145 = true := by kernel_rfl
theorem fl145_0 : fieldT Try.prog 145 0 = some (12, 0) := by kernel_rfl
theorem fl145_1 : fieldT Try.prog 145 1 = some (12, 1) := by kernel_rfl
theorem fl145_2 : fieldT Try.prog 145 2 = some (137, 2) := by kernel_rfl
theorem fl145_3 : fieldT Try.prog 145 3 = some (138, 3) := by kernel_rfl
theorem fl145_4 : fieldT Try.prog 145 4 = some (5, 4) := by kernel_rfl
theorem fl145_5 : fieldT Try.prog 145 5 = some (5, 5) := by kernel_rfl
theorem fl145_6 : fieldT Try.prog 145 6 = some (139, 6) := by kernel_rfl
theorem fl145_7 : fieldT Try.prog 145 7 = some (140, 7) := by kernel_rfl
theorem fl145_8 : fieldT Try.prog 145 8 = some (141, 8) := by kernel_rfl
theorem fl145_9 : fieldT Try.prog 145 9 = some (142, 9) := by kernel_rfl
theorem fl145_10 : fieldT Try.prog 145 10 = some (143, 10) := by kernel_rfl
theorem iz145 : (zeroT Try.prog 145).isSome = true := by kernel_rfl
theorem zk145 : zOk Try.prog 145 = true := by kernel_rfl
theorem iu145 : (Try.prog.underlying 145).isSome = true := by kernel_rfl
theorem if20 : isIfT Try.prog 20 = true := by kernel_rfl
def zerL : List (Nat × AV) := [(2, .lit (.int .i64 0)),
  (3, .lit (.int .i64 0)),
  (4, .lit (.bool false)),
  (5, .lit (.int .u8 0)),
  (6, .lit (.int .u8 0)),
  (7, .agg [.lit (.int .i64 0), .lit (.int .i64 0), .lit (.bool false), .lit (.int .u8 0)]),
  (8, .agg [.lit (.int .i64 0), .lit (.int .i64 0), .lit (.bool false), .lit (.int .u8 0)]),
  (9, .lit (.string ByteArray.empty)),
  (10, .lit (.string ByteArray.empty)),
  (11, .lit (.string ByteArray.empty)),
  (12, .lit (.int .u64 0)),
  (13, .agg [.lit (.string ByteArray.empty), .lit (.int .u64 0)]),
  (14, .agg [.lit (.string ByteArray.empty), .lit (.int .u64 0)]),
  (15, .lit (.pointer none)),
  (16, .lit (.pointer none)),
  (17, .lit (.pointer none)),
  (18, .agg [.lit (.pointer none)]),
  (19, .agg [.lit (.pointer none)]),
  (21, .lit (.int .i32 0)),
  (22, .sl true 3 []),
  (23, .sl true 1 []),
  (26, .sl true 1 []),
  (27, .lit (.int .i64 0)),
  (32, .agg [.lit (.string ByteArray.empty), .sl true 1 [], .sl true 1 []]),
  (33, .agg [.lit (.string ByteArray.empty), .sl true 1 [], .sl true 1 []]),
  (40, .sl true 1 []),
  (41, .agg [.sl true 1 [], .sl true 1 []]),
  (42, .agg [.sl true 1 [], .sl true 1 []]),
  (58, .agg [.sl true 1 [], .lit (.int .i64 0)]),
  (59, .agg [.sl true 1 [], .lit (.int .i64 0)]),
  (62, .sl true 1 []),
  (71, .agg [.lit (.int .i32 0), .lit (.int .i32 0)]),
  (91, .agg [.lit (.string ByteArray.empty), .lit (.bool false), .sl true 1 [], .lit .nilFunc, .lit .nilFunc]),
  (92, .agg [.lit (.string ByteArray.empty), .lit (.bool false), .sl true 1 [], .lit .nilFunc, .lit .nilFunc]),
  (109, .sl true 5 []),
  (131, .agg [.lit (.pointer none), .lit (.pointer none), .lit (.pointer none), .lit (.string ByteArray.empty)]),
  (132, .agg [.lit (.pointer none), .lit (.pointer none), .lit (.pointer none), .lit (.string ByteArray.empty)]),
  (137, .lit (.int .u32 0)),
  (138, .lit (.int .u8 0)),
  (139, .lit (.int .u8 0)),
  (141, .lit (.pointer none)),
  (142, .lit (.int .i32 0)),
  (143, .lit (.int .i32 0)),
  (144, .agg [.lit (.int .u64 0), .lit (.int .u64 0), .lit (.int .u32 0), .lit (.int .u8 0), .lit (.int .u8 0), .lit (.int .u8 0), .lit (.int .u8 0), .lit .nilFunc, .lit (.pointer none), .lit (.int .i32 0), .lit (.int .i32 0)]),
  (145, .agg [.lit (.int .u64 0), .lit (.int .u64 0), .lit (.int .u32 0), .lit (.int .u8 0), .lit (.int .u8 0), .lit (.int .u8 0), .lit (.int .u8 0), .lit .nilFunc, .lit (.pointer none), .lit (.int .i32 0), .lit (.int .i32 0)])]
def zer (t : TypeId) : AV := lookZ zerL t
theorem zr2 : ZerOk Try.prog (2, .lit (.int .i64 0)) := fun v h => by
  rw [show zeroT Try.prog 2 = some (.int .i64 0) from by kernel_rfl] at h; cases h; exact .lit _
theorem zv2 : zer 2 = .lit (.int .i64 0) := rfl
theorem zr3 : ZerOk Try.prog (3, .lit (.int .i64 0)) := fun v h => by
  rw [show zeroT Try.prog 3 = some (.int .i64 0) from by kernel_rfl] at h; cases h; exact .lit _
theorem zv3 : zer 3 = .lit (.int .i64 0) := rfl
theorem zr4 : ZerOk Try.prog (4, .lit (.bool false)) := fun v h => by
  rw [show zeroT Try.prog 4 = some (.bool false) from by kernel_rfl] at h; cases h; exact .lit _
theorem zv4 : zer 4 = .lit (.bool false) := rfl
theorem zr5 : ZerOk Try.prog (5, .lit (.int .u8 0)) := fun v h => by
  rw [show zeroT Try.prog 5 = some (.int .u8 0) from by kernel_rfl] at h; cases h; exact .lit _
theorem zv5 : zer 5 = .lit (.int .u8 0) := rfl
theorem zr6 : ZerOk Try.prog (6, .lit (.int .u8 0)) := fun v h => by
  rw [show zeroT Try.prog 6 = some (.int .u8 0) from by kernel_rfl] at h; cases h; exact .lit _
theorem zv6 : zer 6 = .lit (.int .u8 0) := rfl
theorem zr7 : ZerOk Try.prog (7, .agg [.lit (.int .i64 0), .lit (.int .i64 0), .lit (.bool false), .lit (.int .u8 0)]) := fun v h => by
  rw [show zeroT Try.prog 7 = some (.agg #[(.int .i64 0), (.int .i64 0), (.bool false), (.int .u8 0)]) from by kernel_rfl] at h; cases h
  exact zr_agg _ _ (zl_cons (.lit _) rfl (zl_cons (.lit _) rfl (zl_cons (.lit _) rfl (zl_cons (.lit _) rfl (zl_nil)))))
theorem zv7 : zer 7 = .agg [.lit (.int .i64 0), .lit (.int .i64 0), .lit (.bool false), .lit (.int .u8 0)] := rfl
theorem zr8 : ZerOk Try.prog (8, .agg [.lit (.int .i64 0), .lit (.int .i64 0), .lit (.bool false), .lit (.int .u8 0)]) := fun v h => by
  rw [show zeroT Try.prog 8 = some (.agg #[(.int .i64 0), (.int .i64 0), (.bool false), (.int .u8 0)]) from by kernel_rfl] at h; cases h
  exact zr_agg _ _ (zl_cons (.lit _) rfl (zl_cons (.lit _) rfl (zl_cons (.lit _) rfl (zl_cons (.lit _) rfl (zl_nil)))))
theorem zv8 : zer 8 = .agg [.lit (.int .i64 0), .lit (.int .i64 0), .lit (.bool false), .lit (.int .u8 0)] := rfl
theorem zr9 : ZerOk Try.prog (9, .lit (.string ByteArray.empty)) := fun v h => by
  rw [show zeroT Try.prog 9 = some (.string ByteArray.empty) from by kernel_rfl] at h; cases h; exact .lit _
theorem zv9 : zer 9 = .lit (.string ByteArray.empty) := rfl
theorem zr10 : ZerOk Try.prog (10, .lit (.string ByteArray.empty)) := fun v h => by
  rw [show zeroT Try.prog 10 = some (.string ByteArray.empty) from by kernel_rfl] at h; cases h; exact .lit _
theorem zv10 : zer 10 = .lit (.string ByteArray.empty) := rfl
theorem zr11 : ZerOk Try.prog (11, .lit (.string ByteArray.empty)) := fun v h => by
  rw [show zeroT Try.prog 11 = some (.string ByteArray.empty) from by kernel_rfl] at h; cases h; exact .lit _
theorem zv11 : zer 11 = .lit (.string ByteArray.empty) := rfl
theorem zr12 : ZerOk Try.prog (12, .lit (.int .u64 0)) := fun v h => by
  rw [show zeroT Try.prog 12 = some (.int .u64 0) from by kernel_rfl] at h; cases h; exact .lit _
theorem zv12 : zer 12 = .lit (.int .u64 0) := rfl
theorem zr13 : ZerOk Try.prog (13, .agg [.lit (.string ByteArray.empty), .lit (.int .u64 0)]) := fun v h => by
  rw [show zeroT Try.prog 13 = some (.agg #[(.string ByteArray.empty), (.int .u64 0)]) from by kernel_rfl] at h; cases h
  exact zr_agg _ _ (zl_cons (.lit _) rfl (zl_cons (.lit _) rfl (zl_nil)))
theorem zv13 : zer 13 = .agg [.lit (.string ByteArray.empty), .lit (.int .u64 0)] := rfl
theorem zr14 : ZerOk Try.prog (14, .agg [.lit (.string ByteArray.empty), .lit (.int .u64 0)]) := fun v h => by
  rw [show zeroT Try.prog 14 = some (.agg #[(.string ByteArray.empty), (.int .u64 0)]) from by kernel_rfl] at h; cases h
  exact zr_agg _ _ (zl_cons (.lit _) rfl (zl_cons (.lit _) rfl (zl_nil)))
theorem zv14 : zer 14 = .agg [.lit (.string ByteArray.empty), .lit (.int .u64 0)] := rfl
theorem zr15 : ZerOk Try.prog (15, .lit (.pointer none)) := fun v h => by
  rw [show zeroT Try.prog 15 = some (.pointer none) from by kernel_rfl] at h; cases h; exact .lit _
theorem zv15 : zer 15 = .lit (.pointer none) := rfl
theorem zr16 : ZerOk Try.prog (16, .lit (.pointer none)) := fun v h => by
  rw [show zeroT Try.prog 16 = some (.pointer none) from by kernel_rfl] at h; cases h; exact .lit _
theorem zv16 : zer 16 = .lit (.pointer none) := rfl
theorem zr17 : ZerOk Try.prog (17, .lit (.pointer none)) := fun v h => by
  rw [show zeroT Try.prog 17 = some (.pointer none) from by kernel_rfl] at h; cases h; exact .lit _
theorem zv17 : zer 17 = .lit (.pointer none) := rfl
theorem zr18 : ZerOk Try.prog (18, .agg [.lit (.pointer none)]) := fun v h => by
  rw [show zeroT Try.prog 18 = some (.agg #[(.pointer none)]) from by kernel_rfl] at h; cases h
  exact zr_agg _ _ (zl_cons (.lit _) rfl (zl_nil))
theorem zv18 : zer 18 = .agg [.lit (.pointer none)] := rfl
theorem zr19 : ZerOk Try.prog (19, .agg [.lit (.pointer none)]) := fun v h => by
  rw [show zeroT Try.prog 19 = some (.agg #[(.pointer none)]) from by kernel_rfl] at h; cases h
  exact zr_agg _ _ (zl_cons (.lit _) rfl (zl_nil))
theorem zv19 : zer 19 = .agg [.lit (.pointer none)] := rfl
theorem zr21 : ZerOk Try.prog (21, .lit (.int .i32 0)) := fun v h => by
  rw [show zeroT Try.prog 21 = some (.int .i32 0) from by kernel_rfl] at h; cases h; exact .lit _
theorem zv21 : zer 21 = .lit (.int .i32 0) := rfl
theorem zr22 : ZerOk Try.prog (22, .sl true 3 []) := fun v h => by
  rw [show zeroT Try.prog 22 = some (.slice none 0 0) from by kernel_rfl] at h; cases h; exact .nil _ _ _
theorem zv22 : zer 22 = .sl true 3 [] := rfl
theorem zr23 : ZerOk Try.prog (23, .sl true 1 []) := fun v h => by
  rw [show zeroT Try.prog 23 = some (.slice none 0 0) from by kernel_rfl] at h; cases h; exact .nil _ _ _
theorem zv23 : zer 23 = .sl true 1 [] := rfl
theorem zr26 : ZerOk Try.prog (26, .sl true 1 []) := fun v h => by
  rw [show zeroT Try.prog 26 = some (.slice none 0 0) from by kernel_rfl] at h; cases h; exact .nil _ _ _
theorem zv26 : zer 26 = .sl true 1 [] := rfl
theorem zr27 : ZerOk Try.prog (27, .lit (.int .i64 0)) := fun v h => by
  rw [show zeroT Try.prog 27 = some (.int .i64 0) from by kernel_rfl] at h; cases h; exact .lit _
theorem zv27 : zer 27 = .lit (.int .i64 0) := rfl
theorem zr32 : ZerOk Try.prog (32, .agg [.lit (.string ByteArray.empty), .sl true 1 [], .sl true 1 []]) := fun v h => by
  rw [show zeroT Try.prog 32 = some (.agg #[(.string ByteArray.empty), (.slice none 0 0), (.slice none 0 0)]) from by kernel_rfl] at h; cases h
  exact zr_agg _ _ (zl_cons (.lit _) rfl (zl_cons (.nil _ _ _) rfl (zl_cons (.nil _ _ _) rfl (zl_nil))))
theorem zv32 : zer 32 = .agg [.lit (.string ByteArray.empty), .sl true 1 [], .sl true 1 []] := rfl
theorem zr33 : ZerOk Try.prog (33, .agg [.lit (.string ByteArray.empty), .sl true 1 [], .sl true 1 []]) := fun v h => by
  rw [show zeroT Try.prog 33 = some (.agg #[(.string ByteArray.empty), (.slice none 0 0), (.slice none 0 0)]) from by kernel_rfl] at h; cases h
  exact zr_agg _ _ (zl_cons (.lit _) rfl (zl_cons (.nil _ _ _) rfl (zl_cons (.nil _ _ _) rfl (zl_nil))))
theorem zv33 : zer 33 = .agg [.lit (.string ByteArray.empty), .sl true 1 [], .sl true 1 []] := rfl
theorem zr40 : ZerOk Try.prog (40, .sl true 1 []) := fun v h => by
  rw [show zeroT Try.prog 40 = some (.slice none 0 0) from by kernel_rfl] at h; cases h; exact .nil _ _ _
theorem zv40 : zer 40 = .sl true 1 [] := rfl
theorem zr41 : ZerOk Try.prog (41, .agg [.sl true 1 [], .sl true 1 []]) := fun v h => by
  rw [show zeroT Try.prog 41 = some (.agg #[(.slice none 0 0), (.slice none 0 0)]) from by kernel_rfl] at h; cases h
  exact zr_agg _ _ (zl_cons (.nil _ _ _) rfl (zl_cons (.nil _ _ _) rfl (zl_nil)))
theorem zv41 : zer 41 = .agg [.sl true 1 [], .sl true 1 []] := rfl
theorem zr42 : ZerOk Try.prog (42, .agg [.sl true 1 [], .sl true 1 []]) := fun v h => by
  rw [show zeroT Try.prog 42 = some (.agg #[(.slice none 0 0), (.slice none 0 0)]) from by kernel_rfl] at h; cases h
  exact zr_agg _ _ (zl_cons (.nil _ _ _) rfl (zl_cons (.nil _ _ _) rfl (zl_nil)))
theorem zv42 : zer 42 = .agg [.sl true 1 [], .sl true 1 []] := rfl
theorem zr58 : ZerOk Try.prog (58, .agg [.sl true 1 [], .lit (.int .i64 0)]) := fun v h => by
  rw [show zeroT Try.prog 58 = some (.agg #[(.slice none 0 0), (.int .i64 0)]) from by kernel_rfl] at h; cases h
  exact zr_agg _ _ (zl_cons (.nil _ _ _) rfl (zl_cons (.lit _) rfl (zl_nil)))
theorem zv58 : zer 58 = .agg [.sl true 1 [], .lit (.int .i64 0)] := rfl
theorem zr59 : ZerOk Try.prog (59, .agg [.sl true 1 [], .lit (.int .i64 0)]) := fun v h => by
  rw [show zeroT Try.prog 59 = some (.agg #[(.slice none 0 0), (.int .i64 0)]) from by kernel_rfl] at h; cases h
  exact zr_agg _ _ (zl_cons (.nil _ _ _) rfl (zl_cons (.lit _) rfl (zl_nil)))
theorem zv59 : zer 59 = .agg [.sl true 1 [], .lit (.int .i64 0)] := rfl
theorem zr62 : ZerOk Try.prog (62, .sl true 1 []) := fun v h => by
  rw [show zeroT Try.prog 62 = some (.slice none 0 0) from by kernel_rfl] at h; cases h; exact .nil _ _ _
theorem zv62 : zer 62 = .sl true 1 [] := rfl
theorem zr71 : ZerOk Try.prog (71, .agg [.lit (.int .i32 0), .lit (.int .i32 0)]) := fun v h => by
  rw [show zeroT Try.prog 71 = some (.agg #[(.int .i32 0), (.int .i32 0)]) from by kernel_rfl] at h; cases h
  exact zr_agg _ _ (zl_cons (.lit _) rfl (zl_cons (.lit _) rfl (zl_nil)))
theorem zv71 : zer 71 = .agg [.lit (.int .i32 0), .lit (.int .i32 0)] := rfl
theorem zr91 : ZerOk Try.prog (91, .agg [.lit (.string ByteArray.empty), .lit (.bool false), .sl true 1 [], .lit .nilFunc, .lit .nilFunc]) := fun v h => by
  rw [show zeroT Try.prog 91 = some (.agg #[(.string ByteArray.empty), (.bool false), (.slice none 0 0), .nilFunc, .nilFunc]) from by kernel_rfl] at h; cases h
  exact zr_agg _ _ (zl_cons (.lit _) rfl (zl_cons (.lit _) rfl (zl_cons (.nil _ _ _) rfl (zl_cons (.lit _) rfl (zl_cons (.lit _) rfl (zl_nil))))))
theorem zv91 : zer 91 = .agg [.lit (.string ByteArray.empty), .lit (.bool false), .sl true 1 [], .lit .nilFunc, .lit .nilFunc] := rfl
theorem zr92 : ZerOk Try.prog (92, .agg [.lit (.string ByteArray.empty), .lit (.bool false), .sl true 1 [], .lit .nilFunc, .lit .nilFunc]) := fun v h => by
  rw [show zeroT Try.prog 92 = some (.agg #[(.string ByteArray.empty), (.bool false), (.slice none 0 0), .nilFunc, .nilFunc]) from by kernel_rfl] at h; cases h
  exact zr_agg _ _ (zl_cons (.lit _) rfl (zl_cons (.lit _) rfl (zl_cons (.nil _ _ _) rfl (zl_cons (.lit _) rfl (zl_cons (.lit _) rfl (zl_nil))))))
theorem zv92 : zer 92 = .agg [.lit (.string ByteArray.empty), .lit (.bool false), .sl true 1 [], .lit .nilFunc, .lit .nilFunc] := rfl
theorem zr109 : ZerOk Try.prog (109, .sl true 5 []) := fun v h => by
  rw [show zeroT Try.prog 109 = some (.slice none 0 0) from by kernel_rfl] at h; cases h; exact .nil _ _ _
theorem zv109 : zer 109 = .sl true 5 [] := rfl
theorem zr131 : ZerOk Try.prog (131, .agg [.lit (.pointer none), .lit (.pointer none), .lit (.pointer none), .lit (.string ByteArray.empty)]) := fun v h => by
  rw [show zeroT Try.prog 131 = some (.agg #[(.pointer none), (.pointer none), (.pointer none), (.string ByteArray.empty)]) from by kernel_rfl] at h; cases h
  exact zr_agg _ _ (zl_cons (.lit _) rfl (zl_cons (.lit _) rfl (zl_cons (.lit _) rfl (zl_cons (.lit _) rfl (zl_nil)))))
theorem zv131 : zer 131 = .agg [.lit (.pointer none), .lit (.pointer none), .lit (.pointer none), .lit (.string ByteArray.empty)] := rfl
theorem zr132 : ZerOk Try.prog (132, .agg [.lit (.pointer none), .lit (.pointer none), .lit (.pointer none), .lit (.string ByteArray.empty)]) := fun v h => by
  rw [show zeroT Try.prog 132 = some (.agg #[(.pointer none), (.pointer none), (.pointer none), (.string ByteArray.empty)]) from by kernel_rfl] at h; cases h
  exact zr_agg _ _ (zl_cons (.lit _) rfl (zl_cons (.lit _) rfl (zl_cons (.lit _) rfl (zl_cons (.lit _) rfl (zl_nil)))))
theorem zv132 : zer 132 = .agg [.lit (.pointer none), .lit (.pointer none), .lit (.pointer none), .lit (.string ByteArray.empty)] := rfl
theorem zr137 : ZerOk Try.prog (137, .lit (.int .u32 0)) := fun v h => by
  rw [show zeroT Try.prog 137 = some (.int .u32 0) from by kernel_rfl] at h; cases h; exact .lit _
theorem zv137 : zer 137 = .lit (.int .u32 0) := rfl
theorem zr138 : ZerOk Try.prog (138, .lit (.int .u8 0)) := fun v h => by
  rw [show zeroT Try.prog 138 = some (.int .u8 0) from by kernel_rfl] at h; cases h; exact .lit _
theorem zv138 : zer 138 = .lit (.int .u8 0) := rfl
theorem zr139 : ZerOk Try.prog (139, .lit (.int .u8 0)) := fun v h => by
  rw [show zeroT Try.prog 139 = some (.int .u8 0) from by kernel_rfl] at h; cases h; exact .lit _
theorem zv139 : zer 139 = .lit (.int .u8 0) := rfl
theorem zr141 : ZerOk Try.prog (141, .lit (.pointer none)) := fun v h => by
  rw [show zeroT Try.prog 141 = some (.pointer none) from by kernel_rfl] at h; cases h; exact .lit _
theorem zv141 : zer 141 = .lit (.pointer none) := rfl
theorem zr142 : ZerOk Try.prog (142, .lit (.int .i32 0)) := fun v h => by
  rw [show zeroT Try.prog 142 = some (.int .i32 0) from by kernel_rfl] at h; cases h; exact .lit _
theorem zv142 : zer 142 = .lit (.int .i32 0) := rfl
theorem zr143 : ZerOk Try.prog (143, .lit (.int .i32 0)) := fun v h => by
  rw [show zeroT Try.prog 143 = some (.int .i32 0) from by kernel_rfl] at h; cases h; exact .lit _
theorem zv143 : zer 143 = .lit (.int .i32 0) := rfl
theorem zr144 : ZerOk Try.prog (144, .agg [.lit (.int .u64 0), .lit (.int .u64 0), .lit (.int .u32 0), .lit (.int .u8 0), .lit (.int .u8 0), .lit (.int .u8 0), .lit (.int .u8 0), .lit .nilFunc, .lit (.pointer none), .lit (.int .i32 0), .lit (.int .i32 0)]) := fun v h => by
  rw [show zeroT Try.prog 144 = some (.agg #[(.int .u64 0), (.int .u64 0), (.int .u32 0), (.int .u8 0), (.int .u8 0), (.int .u8 0), (.int .u8 0), .nilFunc, (.pointer none), (.int .i32 0), (.int .i32 0)]) from by kernel_rfl] at h; cases h
  exact zr_agg _ _ (zl_cons (.lit _) rfl (zl_cons (.lit _) rfl (zl_cons (.lit _) rfl (zl_cons (.lit _) rfl (zl_cons (.lit _) rfl (zl_cons (.lit _) rfl (zl_cons (.lit _) rfl (zl_cons (.lit _) rfl (zl_cons (.lit _) rfl (zl_cons (.lit _) rfl (zl_cons (.lit _) rfl (zl_nil))))))))))))
theorem zv144 : zer 144 = .agg [.lit (.int .u64 0), .lit (.int .u64 0), .lit (.int .u32 0), .lit (.int .u8 0), .lit (.int .u8 0), .lit (.int .u8 0), .lit (.int .u8 0), .lit .nilFunc, .lit (.pointer none), .lit (.int .i32 0), .lit (.int .i32 0)] := rfl
theorem zr145 : ZerOk Try.prog (145, .agg [.lit (.int .u64 0), .lit (.int .u64 0), .lit (.int .u32 0), .lit (.int .u8 0), .lit (.int .u8 0), .lit (.int .u8 0), .lit (.int .u8 0), .lit .nilFunc, .lit (.pointer none), .lit (.int .i32 0), .lit (.int .i32 0)]) := fun v h => by
  rw [show zeroT Try.prog 145 = some (.agg #[(.int .u64 0), (.int .u64 0), (.int .u32 0), (.int .u8 0), (.int .u8 0), (.int .u8 0), (.int .u8 0), .nilFunc, (.pointer none), (.int .i32 0), (.int .i32 0)]) from by kernel_rfl] at h; cases h
  exact zr_agg _ _ (zl_cons (.lit _) rfl (zl_cons (.lit _) rfl (zl_cons (.lit _) rfl (zl_cons (.lit _) rfl (zl_cons (.lit _) rfl (zl_cons (.lit _) rfl (zl_cons (.lit _) rfl (zl_cons (.lit _) rfl (zl_cons (.lit _) rfl (zl_cons (.lit _) rfl (zl_cons (.lit _) rfl (zl_nil))))))))))))
theorem zv145 : zer 145 = .agg [.lit (.int .u64 0), .lit (.int .u64 0), .lit (.int .u32 0), .lit (.int .u8 0), .lit (.int .u8 0), .lit (.int .u8 0), .lit (.int .u8 0), .lit .nilFunc, .lit (.pointer none), .lit (.int .i32 0), .lit (.int .i32 0)] := rfl
theorem zer_ok : ∀ t v, zeroT Try.prog t = some v → RC (fun _ _ => none) (zer t) v := zer_sound zerL (zs_cons zr2 (zs_cons zr3 (zs_cons zr4 (zs_cons zr5 (zs_cons zr6 (zs_cons zr7 (zs_cons zr8 (zs_cons zr9 (zs_cons zr10 (zs_cons zr11 (zs_cons zr12 (zs_cons zr13 (zs_cons zr14 (zs_cons zr15 (zs_cons zr16 (zs_cons zr17 (zs_cons zr18 (zs_cons zr19 (zs_cons zr21 (zs_cons zr22 (zs_cons zr23 (zs_cons zr26 (zs_cons zr27 (zs_cons zr32 (zs_cons zr33 (zs_cons zr40 (zs_cons zr41 (zs_cons zr42 (zs_cons zr58 (zs_cons zr59 (zs_cons zr62 (zs_cons zr71 (zs_cons zr91 (zs_cons zr92 (zs_cons zr109 (zs_cons zr131 (zs_cons zr132 (zs_cons zr137 (zs_cons zr138 (zs_cons zr139 (zs_cons zr141 (zs_cons zr142 (zs_cons zr143 (zs_cons zr144 (zs_cons zr145 (zs_nil))))))))))))))))))))))))))))))))))))))))))))))
theorem mixed : Try.prog.follows .mixedOrders = true := by kernel_rfl
theorem fk3 : fok Try.prog 3 = true := by kernel_rfl -- framewise/framewiselaw20.CellsFrame
theorem fk4 : fok Try.prog 4 = true := by kernel_rfl -- framewise/framewiselaw20.CellsSplit
theorem fk5 : fok Try.prog 5 = true := by kernel_rfl -- framewise/framewiselaw20.CellsCheck
theorem fk6 : fok Try.prog 6 = true := by kernel_rfl -- framewise/framewiselaw20.CellsAgree
theorem fk7 : fok Try.prog 7 = true := by kernel_rfl -- framewise/framewiselaw20.CellsJoin
theorem fk8 : fok Try.prog 8 = true := by kernel_rfl -- framewise/framewiselaw20.CellsBack
theorem fk9 : fok Try.prog 9 = true := by kernel_rfl -- framewise/framewiselaw21.StructureApply
theorem fk10 : fok Try.prog 10 = true := by kernel_rfl -- framewise/framewiselaw21.StructureLists
theorem fk11 : fok Try.prog 11 = true := by kernel_rfl -- framewise/framewiselaw21.StructureMatrices
theorem fk12 : fok Try.prog 12 = true := by kernel_rfl -- framewise/framewiselaw21.StructureElements
theorem fk13 : fok Try.prog 13 = true := by kernel_rfl -- framewise/framewiselaw21.StructureRenames
theorem fk14 : fok Try.prog 14 = true := by kernel_rfl -- framewise/framewiselaw21.StructureForms
theorem fk15 : fok Try.prog 15 = true := by kernel_rfl -- framewise/framewiselaw20.awake
theorem fk16 : fok Try.prog 16 = true := by kernel_rfl -- framewise/framewiseref20.Few
theorem fk17 : fok Try.prog 17 = true := by kernel_rfl -- framewise/cells.Frame
theorem fk18 : fok Try.prog 18 = true := by kernel_rfl -- framewise/framewiseref20.Frame
theorem fk19 : fok Try.prog 19 = true := by kernel_rfl -- framewise/framewiseref17.SameInts
theorem fk20 : fok Try.prog 20 = true := by kernel_rfl -- framewise/cells.Split
theorem fk21 : fok Try.prog 21 = true := by kernel_rfl -- framewise/framewiseref20.Split
theorem fk22 : fok Try.prog 22 = true := by kernel_rfl -- framewise/cells.Cell
theorem fk23 : fok Try.prog 23 = true := by kernel_rfl -- framewise/framewiseref20.Cell
theorem fk24 : fok Try.prog 24 = true := by kernel_rfl -- framewise/framewiseref18.Equal
theorem fk25 : fok Try.prog 25 = true := by kernel_rfl -- framewise/cells.Pick
theorem fk26 : fok Try.prog 26 = true := by kernel_rfl -- framewise/framewiseref20.Pick
theorem fk27 : fok Try.prog 27 = true := by kernel_rfl -- framewise/cells.Check
theorem fk28 : fok Try.prog 28 = true := by kernel_rfl -- framewise/framewiseref20.Check
theorem fk29 : fok Try.prog 29 = true := by kernel_rfl -- framewise/framewiselaw20.zeros
theorem fk30 : fok Try.prog 30 = true := by kernel_rfl -- framewise/framewiseref18.Size
theorem fk31 : fok Try.prog 31 = true := by kernel_rfl -- framewise/framewiseref18.Few
theorem fk32 : fok Try.prog 32 = true := by kernel_rfl -- framewise/cells.Join
theorem fk33 : fok Try.prog 33 = true := by kernel_rfl -- framewise/framewiseref20.Join
theorem fk34 : fok Try.prog 34 = true := by kernel_rfl -- framewise/cells.Indices
theorem fk35 : fok Try.prog 35 = true := by kernel_rfl -- framewise/framewiseref20.Indices
theorem fk36 : fok Try.prog 36 = true := by kernel_rfl -- framewise/framewiseref18.Valid
theorem fk37 : fok Try.prog 37 = true := by kernel_rfl -- framewise/framewiseref18.Zeros
theorem fk38 : fok Try.prog 38 = true := by kernel_rfl -- framewise/framewiselaw21.awake
theorem fk39 : fok Try.prog 39 = true := by kernel_rfl -- framewise/framewiselaw21.few
theorem fk40 : fok Try.prog 40 = true := by kernel_rfl -- framewise/structure.Apply
theorem fk41 : fok Try.prog 41 = true := by kernel_rfl -- framewise/framewiseref21.Apply
theorem fk42 : fok Try.prog 42 = true := by kernel_rfl -- framewise/structure.Result
theorem fk43 : fok Try.prog 43 = true := by kernel_rfl -- framewise/structure.Dims
theorem fk44 : fok Try.prog 44 = true := by kernel_rfl -- framewise/framewiselaw21.lists
theorem fk45 : fok Try.prog 45 = true := by kernel_rfl -- framewise/framewiselaw21.list
theorem fk46 : fok Try.prog 46 = true := by kernel_rfl -- framewise/framewiselaw21.do
theorem fk47 : fok Try.prog 47 = true := by kernel_rfl -- framewise/framewiselaw21.same
theorem fk48 : fok Try.prog 48 = true := by kernel_rfl -- framewise/framewiselaw21.scalar
theorem fk49 : fok Try.prog 49 = true := by kernel_rfl -- framewise/framewiselaw21.opposite
theorem fk50 : fok Try.prog 50 = true := by kernel_rfl -- framewise/structure.Ranks
theorem fk51 : fok Try.prog 51 = true := by kernel_rfl -- framewise/framewiseref21.Ranks
theorem fk52 : fok Try.prog 52 = true := by kernel_rfl -- framewise/framewiseref21.Result
theorem fk53 : fok Try.prog 53 = true := by kernel_rfl -- framewise/framewiseref21.Dims
theorem fk54 : fok Try.prog 54 = true := by kernel_rfl -- framewise/structure.Is
theorem fk55 : fok Try.prog 55 = true := by kernel_rfl -- framewise/framewiseref21.Is
theorem fk56 : fok Try.prog 56 = true := by kernel_rfl -- framewise/framewiseref17.SameTexts
theorem fk57 : fok Try.prog 57 = true := by kernel_rfl -- framewise/structure.Ops
theorem fk58 : fok Try.prog 58 = true := by kernel_rfl -- framewise/framewiseref21.Ops
theorem fk59 : fok Try.prog 59 = true := by kernel_rfl -- slices.Equal[[]int,int]
theorem fk60 : fok Try.prog 60 = true := by kernel_rfl -- framewise/array.Valid
theorem fk61 : fok Try.prog 61 = true := by kernel_rfl -- slices.Clone[[]int,int]
theorem fk62 : fok Try.prog 62 = true := by kernel_rfl -- framewise/framewiseref18.Copy
theorem fk63 : fok Try.prog 63 = true := by kernel_rfl -- framewise/framewiseref18.Of
theorem fk64 : fok Try.prog 64 = true := by kernel_rfl -- framewise/framewiseref20.Axes
theorem fk65 : fok Try.prog 65 = true := by kernel_rfl -- framewise/array.Size
theorem fk66 : fok Try.prog 66 = true := by kernel_rfl -- framewise/cells.check
theorem fk67 : fok Try.prog 67 = true := by kernel_rfl -- slices.ContainsFunc[[]framewise/api.Array,framewise/api.Array]
theorem fk68 : fok Try.prog 68 = true := by kernel_rfl -- framewise/cells.Join$1
theorem fk69 : fok Try.prog 69 = true := by kernel_rfl -- slices.Concat[[]int,int]
theorem fk70 : fok Try.prog 70 = true := by kernel_rfl -- framewise/cells.all
theorem fk71 : fok Try.prog 71 = true := by kernel_rfl -- framewise/framewiseref18.Index
theorem fk72 : fok Try.prog 72 = true := by kernel_rfl -- framewise/structure.given
theorem fk73 : fok Try.prog 73 = true := by kernel_rfl -- framewise/structure.checked
theorem fk74 : fok Try.prog 74 = true := by kernel_rfl -- framewise/structure.gathered
theorem fk75 : fok Try.prog 75 = true := by kernel_rfl -- framewise/structure.size
theorem fk76 : fok Try.prog 76 = true := by kernel_rfl -- framewise/framewiseref21.right
theorem fk77 : fok Try.prog 77 = true := by kernel_rfl -- framewise/framewiseref21.chosen
theorem fk78 : fok Try.prog 78 = true := by kernel_rfl -- framewise/framewiseref21.element
theorem fk79 : fok Try.prog 79 = true := by kernel_rfl -- slices.ContainsFunc[[]string,string]
theorem fk80 : fok Try.prog 80 = true := by kernel_rfl -- framewise/structure.Result$1
theorem fk81 : fok Try.prog 81 = true := by kernel_rfl -- slices.Clone[[]string,string]
theorem fk82 : fok Try.prog 82 = true := by kernel_rfl -- slices.Delete[[]string,string]
theorem fk83 : fok Try.prog 83 = true := by kernel_rfl -- framewise/structure.Result$2
theorem fk84 : fok Try.prog 84 = true := by kernel_rfl -- framewise/framewiseref21.Sized
theorem fk85 : fok Try.prog 85 = true := by kernel_rfl -- framewise/framewiseref17.Apply
theorem fk86 : fok Try.prog 86 = true := by kernel_rfl -- framewise/structure.find
theorem fk87 : fok Try.prog 87 = true := by kernel_rfl -- slices.Contains[[]string,string]
theorem fk88 : fok Try.prog 88 = true := by kernel_rfl -- framewise/structure.entries
theorem fk89 : fok Try.prog 89 = true := by kernel_rfl -- framewise/array.Of
theorem fk90 : fok Try.prog 90 = true := by kernel_rfl -- framewise/framewiseref17.Valid
theorem fk91 : fok Try.prog 91 = true := by kernel_rfl -- slices.Contains[[]int,int]
theorem fk92 : fok Try.prog 92 = true := by kernel_rfl -- slices.IndexFunc[[]framewise/api.Array,framewise/api.Array]
theorem fk93 : fok Try.prog 93 = true := by kernel_rfl -- slices.Grow[[]int,int]
theorem fk94 : fok Try.prog 94 = true := by kernel_rfl -- framewise/cells.all$1
theorem fk95 : fok Try.prog 95 = true := by kernel_rfl -- framewise/array.Index
theorem fk96 : fok Try.prog 96 = true := by kernel_rfl -- framewise/structure.gathered$1
theorem fk97 : fok Try.prog 97 = true := by kernel_rfl -- slices.IndexFunc[[]string,string]
theorem fk98 : fok Try.prog 98 = true := by kernel_rfl -- framewise/framewiseref17.Types
theorem fk99 : fok Try.prog 99 = true := by kernel_rfl -- framewise/framewiseref17.one
theorem fk100 : fok Try.prog 100 = true := by kernel_rfl -- framewise/framewiseref17.two
theorem fk101 : fok Try.prog 101 = true := by kernel_rfl -- framewise/structure.find$1
theorem fk102 : fok Try.prog 102 = true := by kernel_rfl -- slices.Index[[]string,string]
theorem fk103 : fok Try.prog 103 = true := by kernel_rfl -- framewise/structure.made
theorem fk104 : fok Try.prog 104 = true := by kernel_rfl -- framewise/structure.entries$1
theorem fk105 : fok Try.prog 105 = true := by kernel_rfl -- framewise/structure.entries$2
theorem fk106 : fok Try.prog 106 = true := by kernel_rfl -- framewise/structure.part
theorem fk107 : fok Try.prog 107 = true := by kernel_rfl -- framewise/structure.entries$3
theorem fk108 : fok Try.prog 108 = true := by kernel_rfl -- framewise/structure.entries$4
theorem fk109 : fok Try.prog 109 = true := by kernel_rfl -- framewise/structure.entries$5
theorem fk110 : fok Try.prog 110 = true := by kernel_rfl -- framewise/structure.same
theorem fk111 : fok Try.prog 111 = true := by kernel_rfl -- framewise/structure.entries$6
theorem fk112 : fok Try.prog 112 = true := by kernel_rfl -- framewise/structure.entries$7
theorem fk113 : fok Try.prog 113 = true := by kernel_rfl -- framewise/structure.entries$8
theorem fk114 : fok Try.prog 114 = true := by kernel_rfl -- framewise/structure.entries$9
theorem fk115 : fok Try.prog 115 = true := by kernel_rfl -- framewise/structure.diagonal
theorem fk116 : fok Try.prog 116 = true := by kernel_rfl -- framewise/structure.entries$10
theorem fk117 : fok Try.prog 117 = true := by kernel_rfl -- framewise/structure.entries$11
theorem fk118 : fok Try.prog 118 = true := by kernel_rfl -- framewise/structure.entries$12
theorem fk119 : fok Try.prog 119 = true := by kernel_rfl -- framewise/structure.chunk
theorem fk120 : fok Try.prog 120 = true := by kernel_rfl -- framewise/structure.entries$13
theorem fk121 : fok Try.prog 121 = true := by kernel_rfl -- framewise/structure.entries$14
theorem fk122 : fok Try.prog 122 = true := by kernel_rfl -- framewise/array.elements
theorem fk123 : fok Try.prog 123 = true := by kernel_rfl -- slices.Index[[]int,int]
theorem fk124 : fok Try.prog 124 = true := by kernel_rfl -- framewise/framewiseref17.Wrap
theorem fk125 : fok Try.prog 125 = true := by kernel_rfl -- framewise/framewiseref17.truth
theorem fk126 : fok Try.prog 126 = true := by kernel_rfl -- framewise/framewiseref17.Floor
theorem fk127 : fok Try.prog 127 = true := by kernel_rfl -- slices.ContainsFunc[[]int,int]
theorem fk128 : fok Try.prog 128 = true := by kernel_rfl -- framewise/array.elements$1
theorem fk129 : fok Try.prog 129 = true := by kernel_rfl -- framewise/element.Valid
theorem fk130 : fok Try.prog 130 = true := by kernel_rfl -- slices.IndexFunc[[]int,int]
attribute [go_sem] u2 sz2 by2 ag2 so2 iz2 zk2 iu2 u3 sz3 by3 ag3 so3 iz3 zk3 iu3 u4 sz4 by4 ag4 so4 iz4 zk4 iu4 u5 sz5 by5 ag5 so5 iz5 zk5 iu5 u6 sz6 by6 ag6 so6 iz6 zk6 iu6 sz7 by7 ag7 so7 fl7_0 fl7_1 fl7_2 fl7_3 se7 iz7 zk7 iu7 sz8 by8 ag8 so8 fl8_0 fl8_1 fl8_2 fl8_3 se8 iz8 zk8 iu8 u9 sz9 by9 ag9 so9 iz9 zk9 iu9 u10 sz10 by10 ag10 so10 iz10 zk10 iu10 u11 sz11 by11 ag11 so11 iz11 zk11 iu11 u12 sz12 by12 ag12 so12 iz12 zk12 iu12 sz13 by13 ag13 so13 fl13_0 fl13_1 iz13 zk13 iu13 sz14 by14 ag14 so14 fl14_0 fl14_1 iz14 zk14 iu14 u15 sz15 by15 ag15 so15 iz15 zk15 iu15 u16 sz16 by16 ag16 so16 iz16 zk16 iu16 u17 sz17 by17 ag17 so17 iz17 zk17 iu17 sz18 by18 ag18 so18 fl18_0 iz18 zk18 iu18 sz19 by19 ag19 so19 fl19_0 iz19 zk19 iu19 u21 sz21 by21 ag21 so21 iz21 zk21 iu21 u22 sz22 by22 ag22 so22 iz22 zk22 iu22 ap22 u23 sz23 by23 ag23 so23 iz23 zk23 iu23 ap23 u26 sz26 by26 ag26 so26 iz26 zk26 iu26 ap26 u27 sz27 by27 ag27 so27 iz27 zk27 iu27 sz32 by32 ag32 so32 fl32_0 fl32_1 fl32_2 iz32 zk32 iu32 sz33 by33 ag33 so33 fl33_0 fl33_1 fl33_2 iz33 zk33 iu33 u40 sz40 by40 ag40 so40 iz40 zk40 iu40 ap40 sz41 by41 ag41 so41 fl41_0 fl41_1 iz41 zk41 iu41 sz42 by42 ag42 so42 fl42_0 fl42_1 iz42 zk42 iu42 sz58 by58 ag58 so58 fl58_0 fl58_1 iz58 zk58 iu58 sz59 by59 ag59 so59 fl59_0 fl59_1 iz59 zk59 iu59 u62 sz62 by62 ag62 so62 iz62 zk62 iu62 ap62 u71 sz71 by71 ag71 so71 iz71 zk71 iu71 sz91 by91 ag91 so91 fl91_0 fl91_1 fl91_2 fl91_3 fl91_4 iz91 zk91 iu91 sz92 by92 ag92 so92 fl92_0 fl92_1 fl92_2 fl92_3 fl92_4 iz92 zk92 iu92 u109 sz109 by109 ag109 so109 iz109 zk109 iu109 ap109 sz131 by131 ag131 so131 fl131_0 fl131_1 fl131_2 fl131_3 iz131 zk131 iu131 sz132 by132 ag132 so132 fl132_0 fl132_1 fl132_2 fl132_3 iz132 zk132 iu132 u133 sz133 by133 ag133 so133 iz133 zk133 iu133 sz134 by134 ag134 so134 fl134_0 iz134 zk134 iu134 sz135 by135 ag135 so135 fl135_0 iz135 zk135 iu135 u137 sz137 by137 ag137 so137 iz137 zk137 iu137 u138 sz138 by138 ag138 so138 iz138 zk138 iu138 u139 sz139 by139 ag139 so139 iz139 zk139 iu139 u141 sz141 by141 ag141 so141 iz141 zk141 iu141 u142 sz142 by142 ag142 so142 iz142 zk142 iu142 u143 sz143 by143 ag143 so143 iz143 zk143 iu143 sz144 by144 ag144 so144 fl144_0 fl144_1 fl144_2 fl144_3 fl144_4 fl144_5 fl144_6 fl144_7 fl144_8 fl144_9 fl144_10 iz144 zk144 iu144 sz145 by145 ag145 so145 fl145_0 fl145_1 fl145_2 fl145_3 fl145_4 fl145_5 fl145_6 fl145_7 fl145_8 fl145_9 fl145_10 iz145 zk145 iu145 if20 zv2 zv3 zv4 zv5 zv6 zv7 zv8 zv9 zv10 zv11 zv12 zv13 zv14 zv15 zv16 zv17 zv18 zv19 zv21 zv22 zv23 zv26 zv27 zv32 zv33 zv40 zv41 zv42 zv58 zv59 zv62 zv71 zv91 zv92 zv109 zv131 zv132 zv137 zv138 zv139 zv141 zv142 zv143 zv144 zv145
end Go.Proofs.Ytcjjakhmpffopaa

/- Sizes, arrays, frames: what the functions compute, by lists of integers. -/
namespace Go.Proofs.Ytcjjakhmpffopaa
open Go Go.Fw

def sInt : ByteArray := ⟨#[105, 110, 116]⟩
def sBool : ByteArray := ⟨#[98, 111, 111, 108]⟩
def el (n : Int) : Prop := -2147483648 ≤ n ∧ n ≤ 2147483647
def vld (s : ByteArray) (n : Int) : Bool := if eqS s sInt = true then decide (-2147483648 ≤ n ∧ n ≤ 2147483647) else if eqS s sBool = true then decide (n = 0 ∨ n = 1) else false
def badD (d : Int) : Bool := decide (d < 0) || decide (d > 4096)
/-- The product, and an error when a partial product is too great. -/
def prodS : List Int → Int → Int × Int
  | [], n => (n, 0)
  | d :: t, n => if n * d > 4096 then (0, 3) else prodS t (n * d)
def sizeS (l : List Int) : Int × Int := if l.length > 6 then (0, 13) else if l.any badD = true then (0, 2) else if l.any (fun d => 0 == d) = true then (0, 0) else prodS l 1
structure Arr where
  e : ByteArray
  d : List Int
  x : List Int
def arrV (a : Arr) : AV := .agg [.lit (.string a.e), .sl false 1 (ints .i64 a.d), .sl false 1 (ints .i64 a.x)]
def nilA : Arr := ⟨⟨#[]⟩, [], []⟩
instance : Inhabited Arr := ⟨nilA⟩
def arrs (l : List Arr) : List AV := l.map arrV
def ofE (a : Arr) : Int := if (eqS a.e sInt || eqS a.e sBool) = false then 12 else if (sizeS a.d).2 ≠ 0 then (sizeS a.d).2 else if (a.x.length : Int) ≠ (sizeS a.d).1 then 1 else if a.x.any (fun n => !vld a.e n) = true then 2 else 0
def ofS (a : Arr) : Arr × Int := if ofE a = 0 then (a, 0) else (nilA, ofE a)
/-- The frame and the cell's dimensions, with an error. -/
def splitS (a : Arr) (r : Int) : List Int × List Int × Int := if ofE a ≠ 0 then ([], [], 1) else if r < 0 ∨ r > a.d.length then ([], [], 13) else (a.d.take (a.d.length - r.toNat), a.d.drop (a.d.length - r.toNat), 0)

theorem prodS_bd {l : List Int} {n : Int} (hl : ∀ d ∈ l, 0 ≤ d ∧ d ≤ 4096) (hn : 0 ≤ n ∧ n ≤ 4096) : 0 ≤ (prodS l n).1 ∧ (prodS l n).1 ≤ 4096 := by
  induction l generalizing n with
  | nil => exact hn
  | cons d t ih =>
    unfold prodS
    split
    · exact ⟨by decide, by decide⟩
    · rename_i h
      have h1 := hl d (by simp)
      exact ih (fun x hx => hl x (by simp [hx])) ⟨Int.mul_nonneg hn.1 h1.1, by omega⟩
theorem bad_no {l : List Int} (h : ¬ l.any badD = true) : ∀ d ∈ l, 0 ≤ d ∧ d ≤ 4096 := by
  intro d hd
  have : ¬ badD d = true := fun hb => h (List.any_eq_true.2 ⟨d, hd, hb⟩)
  unfold badD at this
  simp only [Bool.or_eq_true, decide_eq_true_eq, not_or] at this
  omega
theorem sizeS_bd (l : List Int) : 0 ≤ (sizeS l).1 ∧ (sizeS l).1 ≤ 4096 := by
  unfold sizeS
  split
  · exact ⟨by decide, by decide⟩
  split
  · exact ⟨by decide, by decide⟩
  split
  · exact ⟨by decide, by decide⟩
  rename_i h _
  exact prodS_bd (bad_no h) ⟨by decide, by decide⟩
theorem arrs_length (l : List Arr) : (arrs l).length = l.length := by simp [arrs]
theorem arrs_getD (l : List Arr) (i : Nat) (h : i < l.length) : (arrs l).getD i .top = arrV (l.getD i nilA) := by simp [arrs, List.getD, h]
theorem drop_getD {α : Type} {l : List α} {i : Nat} (z : α) (h : i < l.length) : l.drop i = l.getD i z :: l.drop (i + 1) := by
  rw [List.drop_eq_getElem_cons h]; simp [List.getD, h]
end Go.Proofs.Ytcjjakhmpffopaa

/- Validity of an element, sizes of dimensions, copies and comparisons of lists of integers. -/
namespace Go.Proofs.Ytcjjakhmpffopaa
open Go Go.Fw

noncomputable def E0 : Env := envOf (P := Try.prog) zer (fun _ => false) (fun _ => false) [] []
theorem E0_ok : EnvOk Try.prog E0 := envOk zer_ok
theorem eqS_iff {a b : ByteArray} : eqS a b = true ↔ a = b := by
  unfold eqS
  rw [beq_iff_eq]
  constructor
  · intro h
    apply ByteArray.ext
    apply Array.ext'
    simpa using h
  · intro h; rw [h]
theorem eqS_refl (b : ByteArray) : eqS b b = true := eqS_iff.2 rfl
theorem vld_pc {f : FuncId} {s : ByteArray} {n : Int} (hf : f = 129 ∨ f = 90) : PC Try.prog f [.lit (.string s), .lit (.int .i64 n)] (.lit (.bool (vld s n))) := by
  unfold vld sInt sBool
  by_cases h1 : eqS s ⟨#[105, 110, 116]⟩ = true
  · have hs : s = ⟨#[105, 110, 116]⟩ := eqS_iff.1 h1
    have h2 : eqS s ⟨#[98, 111, 111, 108]⟩ = false := by rw [hs]; rfl
    rw [if_pos h1]
    by_cases h3 : n ≥ -2147483648
    · have z3 : decide (n ≥ -2147483648) = true := decide_eq_true h3
      have e : decide (-2147483648 ≤ n ∧ n ≤ 2147483647) = decide (n ≤ 2147483647) := by simp; omega
      rw [e]
      rcases hf with rfl | rfl
      · skip
        refine pc_of E0_ok mixed (fun _ => [0, 1, 4, 5, 6, 14]) Try.func129 rfl (by kernel_rfl) (Nat.le_of_ble_eq_true rfl) ?_
        simp only [initF_cons, initF_nil, Nat.reduceAdd]
        refine t_name fun KF => ?_
        unfold E0
        repeat' (first
         | (with_reducible first | refine t_seq fun K => ?_ | refine t_block ?_ | refine t_scope ?_ | refine t_label ?_ | refine t_skip ?_ | refine t_exit ?_ | refine t_ret ?_ | refine t_k ?_ | refine t_gF ?_ | exact kp_nil | exact Kp.refl _ | exact kp_to | refine kp_cons ?_ | refine kp_arr ?_ | refine kp_app ?_ | refine t_p ?_ | refine t_br (fun hc => ?_) fun hc => ?_)
         | ((with_reducible first | refine t_kE ?_ | refine t_kD ?_ | refine t_gS ?_ | refine t_kL ?_ | refine t_kLF ?_ ?_ | refine t_region fun K => ?_ | refine t_cond fun A B => ?_ | refine t_draw (by kernel_rfl) fun K => ?_); simp only [go_sem, geff, h1, h2, z3])
         | ((with_reducible refine kp_skip ?_ ?_); rfl) | simp only [thenQ, blockQ, scopeQ, Nat.reduceEqDiff, reduceIte] | (with_reducible first | refine And.intro ?_ ?_ | intro vr))
        refine end_ret rfl ?_
        simp only [fin, go_sem]
        exact LeA.refl _
      · skip
        refine pc_of E0_ok mixed (fun _ => [0, 1, 4, 6]) Try.func90 rfl (by kernel_rfl) (Nat.le_of_ble_eq_true rfl) ?_
        simp only [initF_cons, initF_nil, Nat.reduceAdd]
        refine t_name fun KF => ?_
        unfold E0
        repeat' (first
         | (with_reducible first | refine t_seq fun K => ?_ | refine t_block ?_ | refine t_scope ?_ | refine t_label ?_ | refine t_skip ?_ | refine t_exit ?_ | refine t_ret ?_ | refine t_k ?_ | refine t_gF ?_ | exact kp_nil | exact Kp.refl _ | exact kp_to | refine kp_cons ?_ | refine kp_arr ?_ | refine kp_app ?_ | refine t_p ?_ | refine t_br (fun hc => ?_) fun hc => ?_)
         | ((with_reducible first | refine t_kE ?_ | refine t_kD ?_ | refine t_gS ?_ | refine t_kL ?_ | refine t_kLF ?_ ?_ | refine t_region fun K => ?_ | refine t_cond fun A B => ?_ | refine t_draw (by kernel_rfl) fun K => ?_); simp only [go_sem, geff, h1, h2, z3])
         | ((with_reducible refine kp_skip ?_ ?_); rfl) | simp only [thenQ, blockQ, scopeQ, Nat.reduceEqDiff, reduceIte] | (with_reducible first | refine And.intro ?_ ?_ | intro vr))
        refine end_ret rfl ?_
        simp only [fin, go_sem]
        exact LeA.refl _
    · have z3 : decide (n ≥ -2147483648) = false := decide_eq_false h3
      have e : decide (-2147483648 ≤ n ∧ n ≤ 2147483647) = false := by simp; omega
      rw [e]
      rcases hf with rfl | rfl
      · skip
        refine pc_of E0_ok mixed (fun _ => [0, 1, 4, 5, 6, 14]) Try.func129 rfl (by kernel_rfl) (Nat.le_of_ble_eq_true rfl) ?_
        simp only [initF_cons, initF_nil, Nat.reduceAdd]
        refine t_name fun KF => ?_
        unfold E0
        repeat' (first
         | (with_reducible first | refine t_seq fun K => ?_ | refine t_block ?_ | refine t_scope ?_ | refine t_label ?_ | refine t_skip ?_ | refine t_exit ?_ | refine t_ret ?_ | refine t_k ?_ | refine t_gF ?_ | exact kp_nil | exact Kp.refl _ | exact kp_to | refine kp_cons ?_ | refine kp_arr ?_ | refine kp_app ?_ | refine t_p ?_ | refine t_br (fun hc => ?_) fun hc => ?_)
         | ((with_reducible first | refine t_kE ?_ | refine t_kD ?_ | refine t_gS ?_ | refine t_kL ?_ | refine t_kLF ?_ ?_ | refine t_region fun K => ?_ | refine t_cond fun A B => ?_ | refine t_draw (by kernel_rfl) fun K => ?_); simp only [go_sem, geff, h1, h2, z3])
         | ((with_reducible refine kp_skip ?_ ?_); rfl) | simp only [thenQ, blockQ, scopeQ, Nat.reduceEqDiff, reduceIte] | (with_reducible first | refine And.intro ?_ ?_ | intro vr))
        refine end_ret rfl ?_
        simp only [fin, go_sem]
        exact LeA.refl _
      · skip
        refine pc_of E0_ok mixed (fun _ => [0, 1, 4, 6]) Try.func90 rfl (by kernel_rfl) (Nat.le_of_ble_eq_true rfl) ?_
        simp only [initF_cons, initF_nil, Nat.reduceAdd]
        refine t_name fun KF => ?_
        unfold E0
        repeat' (first
         | (with_reducible first | refine t_seq fun K => ?_ | refine t_block ?_ | refine t_scope ?_ | refine t_label ?_ | refine t_skip ?_ | refine t_exit ?_ | refine t_ret ?_ | refine t_k ?_ | refine t_gF ?_ | exact kp_nil | exact Kp.refl _ | exact kp_to | refine kp_cons ?_ | refine kp_arr ?_ | refine kp_app ?_ | refine t_p ?_ | refine t_br (fun hc => ?_) fun hc => ?_)
         | ((with_reducible first | refine t_kE ?_ | refine t_kD ?_ | refine t_gS ?_ | refine t_kL ?_ | refine t_kLF ?_ ?_ | refine t_region fun K => ?_ | refine t_cond fun A B => ?_ | refine t_draw (by kernel_rfl) fun K => ?_); simp only [go_sem, geff, h1, h2, z3])
         | ((with_reducible refine kp_skip ?_ ?_); rfl) | simp only [thenQ, blockQ, scopeQ, Nat.reduceEqDiff, reduceIte] | (with_reducible first | refine And.intro ?_ ?_ | intro vr))
        refine end_ret rfl ?_
        simp only [fin, go_sem]
        exact LeA.refl _
  · have h1' : eqS s ⟨#[105, 110, 116]⟩ = false := by simpa using h1
    rw [if_neg h1]
    by_cases h2 : eqS s ⟨#[98, 111, 111, 108]⟩ = true
    · rw [if_pos h2]
      by_cases h3 : n = 0
      · have z3 : (n == 0) = true := by rw [beq_iff_eq]; exact h3
        have e : decide (n = 0 ∨ n = 1) = true := decide_eq_true (.inl h3)
        rw [e]
        rcases hf with rfl | rfl
        · skip
          refine pc_of E0_ok mixed (fun _ => [0, 1, 4, 5, 6, 14]) Try.func129 rfl (by kernel_rfl) (Nat.le_of_ble_eq_true rfl) ?_
          simp only [initF_cons, initF_nil, Nat.reduceAdd]
          refine t_name fun KF => ?_
          unfold E0
          repeat' (first
           | (with_reducible first | refine t_seq fun K => ?_ | refine t_block ?_ | refine t_scope ?_ | refine t_label ?_ | refine t_skip ?_ | refine t_exit ?_ | refine t_ret ?_ | refine t_k ?_ | refine t_gF ?_ | exact kp_nil | exact Kp.refl _ | exact kp_to | refine kp_cons ?_ | refine kp_arr ?_ | refine kp_app ?_ | refine t_p ?_ | refine t_br (fun hc => ?_) fun hc => ?_)
           | ((with_reducible first | refine t_kE ?_ | refine t_kD ?_ | refine t_gS ?_ | refine t_kL ?_ | refine t_kLF ?_ ?_ | refine t_region fun K => ?_ | refine t_cond fun A B => ?_ | refine t_draw (by kernel_rfl) fun K => ?_); simp only [go_sem, geff, h1', h2, z3])
           | ((with_reducible refine kp_skip ?_ ?_); rfl) | simp only [thenQ, blockQ, scopeQ, Nat.reduceEqDiff, reduceIte] | (with_reducible first | refine And.intro ?_ ?_ | intro vr))
          refine end_ret rfl ?_
          simp only [fin, go_sem]
          exact LeA.refl _
        · skip
          refine pc_of E0_ok mixed (fun _ => [0, 1, 4, 6]) Try.func90 rfl (by kernel_rfl) (Nat.le_of_ble_eq_true rfl) ?_
          simp only [initF_cons, initF_nil, Nat.reduceAdd]
          refine t_name fun KF => ?_
          unfold E0
          repeat' (first
           | (with_reducible first | refine t_seq fun K => ?_ | refine t_block ?_ | refine t_scope ?_ | refine t_label ?_ | refine t_skip ?_ | refine t_exit ?_ | refine t_ret ?_ | refine t_k ?_ | refine t_gF ?_ | exact kp_nil | exact Kp.refl _ | exact kp_to | refine kp_cons ?_ | refine kp_arr ?_ | refine kp_app ?_ | refine t_p ?_ | refine t_br (fun hc => ?_) fun hc => ?_)
           | ((with_reducible first | refine t_kE ?_ | refine t_kD ?_ | refine t_gS ?_ | refine t_kL ?_ | refine t_kLF ?_ ?_ | refine t_region fun K => ?_ | refine t_cond fun A B => ?_ | refine t_draw (by kernel_rfl) fun K => ?_); simp only [go_sem, geff, h1', h2, z3])
           | ((with_reducible refine kp_skip ?_ ?_); rfl) | simp only [thenQ, blockQ, scopeQ, Nat.reduceEqDiff, reduceIte] | (with_reducible first | refine And.intro ?_ ?_ | intro vr))
          refine end_ret rfl ?_
          simp only [fin, go_sem]
          exact LeA.refl _
      · have z3 : (n == 0) = false := by rw [beq_eq_false_iff_ne]; exact h3
        have e : decide (n = 0 ∨ n = 1) = (n == 1) := by
          by_cases h4 : n = 1
          · subst h4; rfl
          · rw [decide_eq_false (by omega)]; symm; rw [beq_eq_false_iff_ne]; exact h4
        rw [e]
        rcases hf with rfl | rfl
        · skip
          refine pc_of E0_ok mixed (fun _ => [0, 1, 4, 5, 6, 14]) Try.func129 rfl (by kernel_rfl) (Nat.le_of_ble_eq_true rfl) ?_
          simp only [initF_cons, initF_nil, Nat.reduceAdd]
          refine t_name fun KF => ?_
          unfold E0
          repeat' (first
           | (with_reducible first | refine t_seq fun K => ?_ | refine t_block ?_ | refine t_scope ?_ | refine t_label ?_ | refine t_skip ?_ | refine t_exit ?_ | refine t_ret ?_ | refine t_k ?_ | refine t_gF ?_ | exact kp_nil | exact Kp.refl _ | exact kp_to | refine kp_cons ?_ | refine kp_arr ?_ | refine kp_app ?_ | refine t_p ?_ | refine t_br (fun hc => ?_) fun hc => ?_)
           | ((with_reducible first | refine t_kE ?_ | refine t_kD ?_ | refine t_gS ?_ | refine t_kL ?_ | refine t_kLF ?_ ?_ | refine t_region fun K => ?_ | refine t_cond fun A B => ?_ | refine t_draw (by kernel_rfl) fun K => ?_); simp only [go_sem, geff, h1', h2, z3])
           | ((with_reducible refine kp_skip ?_ ?_); rfl) | simp only [thenQ, blockQ, scopeQ, Nat.reduceEqDiff, reduceIte] | (with_reducible first | refine And.intro ?_ ?_ | intro vr))
          refine end_ret rfl ?_
          simp only [fin, go_sem]
          exact LeA.refl _
        · skip
          refine pc_of E0_ok mixed (fun _ => [0, 1, 4, 6]) Try.func90 rfl (by kernel_rfl) (Nat.le_of_ble_eq_true rfl) ?_
          simp only [initF_cons, initF_nil, Nat.reduceAdd]
          refine t_name fun KF => ?_
          unfold E0
          repeat' (first
           | (with_reducible first | refine t_seq fun K => ?_ | refine t_block ?_ | refine t_scope ?_ | refine t_label ?_ | refine t_skip ?_ | refine t_exit ?_ | refine t_ret ?_ | refine t_k ?_ | refine t_gF ?_ | exact kp_nil | exact Kp.refl _ | exact kp_to | refine kp_cons ?_ | refine kp_arr ?_ | refine kp_app ?_ | refine t_p ?_ | refine t_br (fun hc => ?_) fun hc => ?_)
           | ((with_reducible first | refine t_kE ?_ | refine t_kD ?_ | refine t_gS ?_ | refine t_kL ?_ | refine t_kLF ?_ ?_ | refine t_region fun K => ?_ | refine t_cond fun A B => ?_ | refine t_draw (by kernel_rfl) fun K => ?_); simp only [go_sem, geff, h1', h2, z3])
           | ((with_reducible refine kp_skip ?_ ?_); rfl) | simp only [thenQ, blockQ, scopeQ, Nat.reduceEqDiff, reduceIte] | (with_reducible first | refine And.intro ?_ ?_ | intro vr))
          refine end_ret rfl ?_
          simp only [fin, go_sem]
          exact LeA.refl _
    · have h2' : eqS s ⟨#[98, 111, 111, 108]⟩ = false := by simpa using h2
      rw [if_neg h2]
      rcases hf with rfl | rfl
      · skip
        refine pc_of E0_ok mixed (fun _ => [0, 1, 4, 5, 6, 14]) Try.func129 rfl (by kernel_rfl) (Nat.le_of_ble_eq_true rfl) ?_
        simp only [initF_cons, initF_nil, Nat.reduceAdd]
        refine t_name fun KF => ?_
        unfold E0
        repeat' (first
         | (with_reducible first | refine t_seq fun K => ?_ | refine t_block ?_ | refine t_scope ?_ | refine t_label ?_ | refine t_skip ?_ | refine t_exit ?_ | refine t_ret ?_ | refine t_k ?_ | refine t_gF ?_ | exact kp_nil | exact Kp.refl _ | exact kp_to | refine kp_cons ?_ | refine kp_arr ?_ | refine kp_app ?_ | refine t_p ?_ | refine t_br (fun hc => ?_) fun hc => ?_)
         | ((with_reducible first | refine t_kE ?_ | refine t_kD ?_ | refine t_gS ?_ | refine t_kL ?_ | refine t_kLF ?_ ?_ | refine t_region fun K => ?_ | refine t_cond fun A B => ?_ | refine t_draw (by kernel_rfl) fun K => ?_); simp only [go_sem, geff, h1', h2'])
         | ((with_reducible refine kp_skip ?_ ?_); rfl) | simp only [thenQ, blockQ, scopeQ, Nat.reduceEqDiff, reduceIte] | (with_reducible first | refine And.intro ?_ ?_ | intro vr))
        refine end_ret rfl ?_
        simp only [fin, go_sem]
        exact LeA.refl _
      · skip
        refine pc_of E0_ok mixed (fun _ => [0, 1, 4, 6]) Try.func90 rfl (by kernel_rfl) (Nat.le_of_ble_eq_true rfl) ?_
        simp only [initF_cons, initF_nil, Nat.reduceAdd]
        refine t_name fun KF => ?_
        unfold E0
        repeat' (first
         | (with_reducible first | refine t_seq fun K => ?_ | refine t_block ?_ | refine t_scope ?_ | refine t_label ?_ | refine t_skip ?_ | refine t_exit ?_ | refine t_ret ?_ | refine t_k ?_ | refine t_gF ?_ | exact kp_nil | exact Kp.refl _ | exact kp_to | refine kp_cons ?_ | refine kp_arr ?_ | refine kp_app ?_ | refine t_p ?_ | refine t_br (fun hc => ?_) fun hc => ?_)
         | ((with_reducible first | refine t_kE ?_ | refine t_kD ?_ | refine t_gS ?_ | refine t_kL ?_ | refine t_kLF ?_ ?_ | refine t_region fun K => ?_ | refine t_cond fun A B => ?_ | refine t_draw (by kernel_rfl) fun K => ?_); simp only [go_sem, geff, h1', h2'])
         | ((with_reducible refine kp_skip ?_ ?_); rfl) | simp only [thenQ, blockQ, scopeQ, Nat.reduceEqDiff, reduceIte] | (with_reducible first | refine And.intro ?_ ?_ | intro vr))
        refine end_ret rfl ?_
        simp only [fin, go_sem]
        exact LeA.refl _
noncomputable def con129 : PCon Try.prog where
  f := 129
  c := fun
    | [.lit (.string s), .lit (.int .i64 n)] => some (True, .lit (.bool (vld s n)))
    | _ => none
  ok := by
    intro args p r hc hp
    split at hc
    · cases hc; exact (vld_pc (.inl rfl))
    · cases hc
  fk := fk129
theorem con129_f : con129.f = 129 := rfl
theorem con129_c {s : ByteArray} {n : Int} : con129.c [.lit (.string s), .lit (.int .i64 n)] = some (True, .lit (.bool (vld s n))) := rfl
noncomputable def con90 : PCon Try.prog where
  f := 90
  c := fun
    | [.lit (.string s), .lit (.int .i64 n)] => some (True, .lit (.bool (vld s n)))
    | _ => none
  ok := by
    intro args p r hc hp
    split at hc
    · cases hc; exact (vld_pc (.inr rfl))
    · cases hc
  fk := fk90
theorem con90_f : con90.f = 90 := rfl
theorem con90_c {s : ByteArray} {n : Int} : con90.c [.lit (.string s), .lit (.int .i64 n)] = some (True, .lit (.bool (vld s n))) := rfl
/-- Does any hold, from a place on? -/
def idxG (p : Int → Bool) : List Int → Int → Int
  | [], _ => -1
  | d :: t, i => if p d = true then i else idxG p t (i + 1)
theorem idxG_any (p : Int → Bool) : ∀ (l : List Int) (i : Int), 0 ≤ i → decide (idxG p l i ≥ 0) = l.any p
  | [], _, _ => rfl
  | d :: t, i, hi => by
    unfold idxG
    by_cases h : p d = true
    · rw [if_pos h, List.any_cons, h, decide_eq_true hi]; rfl
    · rw [if_neg h, idxG_any p t (i + 1) (by omega), List.any_cons]
      simp only [Bool.not_eq_true] at h
      rw [h]; rfl
theorem index_pc {l : List Int} {v : Int} (hl : l.length ≤ 1000000) : PC Try.prog 123 [.sl false 1 (ints .i64 l), .lit (.int .i64 v)] (.lit (.int .i64 (idxG (fun d => v == d) l 0))) := by
  generalize hR : idxG (fun d => v == d) l 0 = R
  refine pc_of E0_ok mixed (fun _ => [0, 1, 4, 5, 7, 8, 9, 16]) Try.func123 rfl (by kernel_rfl) (Nat.le_of_ble_eq_true rfl) ?_
  simp only [initF_cons, initF_nil, Nat.reduceAdd]
  refine t_name fun KF => ?_
  unfold E0
  repeat' (first
   | (with_reducible first | refine t_seq fun K => ?_ | refine t_block ?_ | refine t_scope ?_ | refine t_label ?_ | refine t_skip ?_ | refine t_exit ?_ | refine t_ret ?_ | refine t_k ?_ | refine t_gF ?_ | exact kp_nil | exact Kp.refl _ | exact kp_to | refine kp_cons ?_ | refine kp_arr ?_ | refine kp_app ?_ | refine t_p ?_ | refine t_br (fun hc => ?_) fun hc => ?_)
   | ((with_reducible first | refine t_kE ?_ | refine t_kD ?_ | refine t_gS ?_ | refine t_kL ?_ | refine t_kLF ?_ ?_ | refine t_region fun K => ?_ | refine t_cond fun A B => ?_ | refine t_draw (by kernel_rfl) fun K => ?_); simp only [go_sem, geff])
   | ((with_reducible refine kp_skip ?_ ?_); rfl) | simp only [thenQ, blockQ, scopeQ, Nat.reduceEqDiff, reduceIte] | (with_reducible first | refine And.intro ?_ ?_ | intro vr))
  refine t_loop (ι := { i : Nat // i ≤ l.length ∧ idxG (fun d => v == d) (l.drop i) i = R }) (fun i => ⟨upd (upd (upd (upd topF 8 (.lit (.int .i64 i.1))) 7 (.lit (.int .i64 l.length))) 1 (.lit (.int .i64 v))) 0 (.sl false 1 (ints .i64 l)), []⟩) (fun i => l.length - i.1) ⟨0, by omega, hR⟩ ?_ ?_
  · skip
    (refine Le.frame ?_; repeat' (first | exact leF_top _ | (with_reducible refine leF_sl ?_ ?_) | (refine leF_upd (LeR.of_eq ?_) ?_))) <;> (try (simp only [go_sem]; try rfl))
  · rintro ⟨i, hi, hF⟩ K0
    rcases Nat.lt_or_ge i l.length with hc | hc
    · have g1 : decide ((i : Int) < (l.length : Int)) = true := decide_eq_true (by omega)
      have g2 := ints_getD .i64 l i hc
      rw [drop_getD 0 hc, idxG] at hF
      generalize l.getD i 0 = d at g2 hF
      by_cases he : (v == d) = true
      · rw [if_pos he] at hF
        subst hF
        repeat' (first
         | (with_reducible first | refine t_seq fun K => ?_ | refine t_block ?_ | refine t_scope ?_ | refine t_label ?_ | refine t_skip ?_ | refine t_exit ?_ | refine t_ret ?_ | refine t_k ?_ | refine t_gF ?_ | exact kp_nil | exact Kp.refl _ | exact kp_to | refine kp_cons ?_ | refine kp_arr ?_ | refine kp_app ?_ | refine t_p ?_ | refine t_br (fun hc => ?_) fun hc => ?_)
         | ((with_reducible first | refine t_kE ?_ | refine t_kD ?_ | refine t_gS ?_ | refine t_kL ?_ | refine t_kLF ?_ ?_ | refine t_region fun K => ?_ | refine t_cond fun A B => ?_ | refine t_draw (by kernel_rfl) fun K => ?_); simp only [go_sem, geff, g1, g2, he, Int.toNat_natCast])
         | ((with_reducible refine kp_skip ?_ ?_); rfl) | simp only [thenQ, blockQ, scopeQ, Nat.reduceEqDiff, reduceIte] | (with_reducible first | refine And.intro ?_ ?_ | intro vr))
        all_goals try (intros; (try simp only [Bool.and_eq_true, Bool.or_eq_true, Bool.not_eq_true', decide_eq_true_eq, decide_eq_false_iff_not, beq_iff_eq, bne_iff_ne, ne_eq, inI64, List.length_append] at *) <;> omega)
        refine end_ret rfl ?_
        simp only [fin, go_sem]
        exact LeA.refl _
      · rw [if_neg he] at hF
        have he' : (v == d) = false := by simpa using he
        repeat' (first
         | (with_reducible first | refine t_seq fun K => ?_ | refine t_block ?_ | refine t_scope ?_ | refine t_label ?_ | refine t_skip ?_ | refine t_exit ?_ | refine t_ret ?_ | refine t_k ?_ | refine t_gF ?_ | exact kp_nil | exact Kp.refl _ | exact kp_to | refine kp_cons ?_ | refine kp_arr ?_ | refine kp_app ?_ | refine t_p ?_ | refine t_br (fun hc => ?_) fun hc => ?_)
         | ((with_reducible first | refine t_kE ?_ | refine t_kD ?_ | refine t_gS ?_ | refine t_kL ?_ | refine t_kLF ?_ ?_ | refine t_region fun K => ?_ | refine t_cond fun A B => ?_ | refine t_draw (by kernel_rfl) fun K => ?_); simp only [go_sem, geff, g1, g2, he', Int.toNat_natCast])
         | ((with_reducible refine kp_skip ?_ ?_); rfl) | simp only [thenQ, blockQ, scopeQ, Nat.reduceEqDiff, reduceIte] | (with_reducible first | refine And.intro ?_ ?_ | intro vr))
        all_goals try (intros; (try simp only [Bool.and_eq_true, Bool.or_eq_true, Bool.not_eq_true', decide_eq_true_eq, decide_eq_false_iff_not, beq_iff_eq, bne_iff_ne, ne_eq, inI64, List.length_append] at *) <;> omega)
        refine ⟨⟨i + 1, by omega, by rw [← hF]; congr 1⟩, by simp only; omega, ?_⟩
        (refine Le.frame ?_; repeat' (first | exact leF_top _ | (with_reducible refine leF_sl ?_ ?_) | (refine leF_upd (LeR.of_eq ?_) ?_))) <;> (try (simp only [go_sem]; try rfl))
    · have g1 : decide ((i : Int) < (l.length : Int)) = false := decide_eq_false (by omega)
      rw [List.drop_eq_nil_of_le hc, idxG] at hF
      subst hF
      repeat' (first
       | (with_reducible first | refine t_seq fun K => ?_ | refine t_block ?_ | refine t_scope ?_ | refine t_label ?_ | refine t_skip ?_ | refine t_exit ?_ | refine t_ret ?_ | refine t_k ?_ | refine t_gF ?_ | exact kp_nil | exact Kp.refl _ | exact kp_to | refine kp_cons ?_ | refine kp_arr ?_ | refine kp_app ?_ | refine t_p ?_ | refine t_br (fun hc => ?_) fun hc => ?_)
       | ((with_reducible first | refine t_kE ?_ | refine t_kD ?_ | refine t_gS ?_ | refine t_kL ?_ | refine t_kLF ?_ ?_ | refine t_region fun K => ?_ | refine t_cond fun A B => ?_ | refine t_draw (by kernel_rfl) fun K => ?_); simp only [go_sem, geff, g1])
       | ((with_reducible refine kp_skip ?_ ?_); rfl) | simp only [thenQ, blockQ, scopeQ, Nat.reduceEqDiff, reduceIte] | (with_reducible first | refine And.intro ?_ ?_ | intro vr))
      refine end_ret rfl ?_
      simp only [fin, go_sem]
      exact LeA.refl _
noncomputable def con123 : PCon Try.prog where
  f := 123
  c := fun
    | [xl, .lit (.int .i64 v)] => match slK .i64 xl with | some l => some (l.length ≤ 1000000, .lit (.int .i64 (idxG (fun d => v == d) l 0))) | _ => none
    | _ => none
  ok := by
    intro args p r hc hp
    split at hc
    · split at hc
      · rename_i hl
        cases hc
        exact PC.weak (index_pc hp) ⟨slK_le hl, LeA.refl _, trivial⟩
      · cases hc
    · cases hc
  fk := fk123
theorem con123_f : con123.f = 123 := rfl
theorem con123_c {xl : AV} {v : Int} : con123.c [xl, .lit (.int .i64 v)] = match slK .i64 xl with | some l => some (l.length ≤ 1000000, .lit (.int .i64 (idxG (fun d => v == d) l 0))) | _ => none := rfl
noncomputable def E1 : Env := envOf (P := Try.prog) zer (fun _ => false) (fun _ => false) [con123] []
theorem E1_ok : EnvOk Try.prog E1 := envOk zer_ok
theorem contains_pc {l : List Int} {v : Int} (hl : l.length ≤ 1000000) : PC Try.prog 91 [.sl false 1 (ints .i64 l), .lit (.int .i64 v)] (.lit (.bool (l.any fun d => v == d))) := by
  have h := idxG_any (fun d => v == d) l 0 (by omega)
  refine pc_of E1_ok mixed (fun _ => [0, 1, 4]) Try.func91 rfl (by kernel_rfl) (Nat.le_of_ble_eq_true rfl) ?_
  simp only [initF_cons, initF_nil, Nat.reduceAdd]
  refine t_name fun KF => ?_
  unfold E1
  repeat' (first
   | (with_reducible first | refine t_seq fun K => ?_ | refine t_block ?_ | refine t_scope ?_ | refine t_label ?_ | refine t_skip ?_ | refine t_exit ?_ | refine t_ret ?_ | refine t_k ?_ | refine t_gF ?_ | exact kp_nil | exact Kp.refl _ | exact kp_to | refine kp_cons ?_ | refine kp_arr ?_ | refine kp_app ?_ | refine t_p ?_ | refine t_br (fun hc => ?_) fun hc => ?_)
   | ((with_reducible first | refine t_kE ?_ | refine t_kD ?_ | refine t_gS ?_ | refine t_kL ?_ | refine t_kLF ?_ ?_ | refine t_region fun K => ?_ | refine t_cond fun A B => ?_ | refine t_draw (by kernel_rfl) fun K => ?_); simp only [go_sem, geff, con123_f, con123_c, slK_sl, h])
   | ((with_reducible refine kp_skip ?_ ?_); rfl) | simp only [thenQ, blockQ, scopeQ, Nat.reduceEqDiff, reduceIte] | (with_reducible first | refine And.intro ?_ ?_ | intro vr))
  all_goals try (intros; (try simp only [Bool.and_eq_true, Bool.or_eq_true, Bool.not_eq_true', decide_eq_true_eq, decide_eq_false_iff_not, beq_iff_eq, bne_iff_ne, ne_eq, inI64, List.length_append] at *) <;> omega)
  refine end_ret rfl ?_
  simp only [fin, go_sem]
  exact LeA.refl _
noncomputable def con91 : PCon Try.prog where
  f := 91
  c := fun
    | [xl, .lit (.int .i64 v)] => match slK .i64 xl with | some l => some (l.length ≤ 1000000, .lit (.bool (l.any fun d => v == d))) | _ => none
    | _ => none
  ok := by
    intro args p r hc hp
    split at hc
    · split at hc
      · rename_i hl
        cases hc
        exact PC.weak (contains_pc hp) ⟨slK_le hl, LeA.refl _, trivial⟩
      · cases hc
    · cases hc
  fk := fk91
theorem con91_f : con91.f = 91 := rfl
theorem con91_c {xl : AV} {v : Int} : con91.c [xl, .lit (.int .i64 v)] = match slK .i64 xl with | some l => some (l.length ≤ 1000000, .lit (.bool (l.any fun d => v == d))) | _ => none := rfl
theorem clone_pc {l : List Int} (hl : l.length ≤ 1000000) : PC Try.prog 61 [.sl false 1 (ints .i64 l)] (.sl false 1 (ints .i64 l)) := by
  refine pc_of E0_ok mixed (fun _ => [0, 2, 4]) Try.func61 rfl (by kernel_rfl) (Nat.le_of_ble_eq_true rfl) ?_
  simp only [initF_cons, initF_nil, Nat.reduceAdd]
  refine t_name fun KF => ?_
  unfold E0
  repeat' (first
   | (with_reducible first | refine t_seq fun K => ?_ | refine t_block ?_ | refine t_scope ?_ | refine t_label ?_ | refine t_skip ?_ | refine t_exit ?_ | refine t_ret ?_ | refine t_k ?_ | refine t_gF ?_ | exact kp_nil | exact Kp.refl _ | exact kp_to | refine kp_cons ?_ | refine kp_arr ?_ | refine kp_app ?_ | refine t_p ?_ | refine t_br (fun hc => ?_) fun hc => ?_)
   | ((with_reducible first | refine t_kE ?_ | refine t_kD ?_ | refine t_gS ?_ | refine t_kL ?_ | refine t_kLF ?_ ?_ | refine t_region fun K => ?_ | refine t_cond fun A B => ?_ | refine t_draw (by kernel_rfl) fun K => ?_); simp only [go_sem, geff])
   | ((with_reducible refine kp_skip ?_ ?_); rfl) | simp only [thenQ, blockQ, scopeQ, Nat.reduceEqDiff, reduceIte] | (with_reducible first | refine And.intro ?_ ?_ | intro vr))
  all_goals try (intros; (try simp only [Bool.and_eq_true, Bool.or_eq_true, Bool.not_eq_true', decide_eq_true_eq, decide_eq_false_iff_not, beq_iff_eq, bne_iff_ne, ne_eq, inI64, List.length_append] at *) <;> omega)
  · skip
    refine end_ret rfl ?_
    simp only [fin, go_sem]
    rw [show ints .i64 l = [] from by assumption]
    exact LeA.nil false 1
  · skip
    refine end_ret rfl ?_
    simp only [fin, go_sem]
    exact LeA.refl _
noncomputable def con61 : PCon Try.prog where
  f := 61
  c := fun
    | [xl] => match slK .i64 xl with | some l => some (l.length ≤ 1000000, .sl false 1 (ints .i64 l)) | _ => none
    | _ => none
  ok := by
    intro args p r hc hp
    split at hc
    · split at hc
      · rename_i hl
        cases hc
        exact PC.weak (clone_pc hp) ⟨slK_le hl, trivial⟩
      · cases hc
    · cases hc
  fk := fk61
theorem con61_f : con61.f = 61 := rfl
theorem con61_c {xl : AV} : con61.c [xl] = match slK .i64 xl with | some l => some (l.length ≤ 1000000, .sl false 1 (ints .i64 l)) | _ => none := rfl
theorem copy_pc {l : List Int} (hl : l.length ≤ 1000000) : PC Try.prog 62 [.sl false 1 (ints .i64 l)] (.sl false 1 (ints .i64 l)) := by
  refine pc_of E0_ok mixed (fun _ => [0, 2]) Try.func62 rfl (by kernel_rfl) (Nat.le_of_ble_eq_true rfl) ?_
  simp only [initF_cons, initF_nil, Nat.reduceAdd]
  refine t_name fun KF => ?_
  unfold E0
  repeat' (first
   | (with_reducible first | refine t_seq fun K => ?_ | refine t_block ?_ | refine t_scope ?_ | refine t_label ?_ | refine t_skip ?_ | refine t_exit ?_ | refine t_ret ?_ | refine t_k ?_ | refine t_gF ?_ | exact kp_nil | exact Kp.refl _ | exact kp_to | refine kp_cons ?_ | refine kp_arr ?_ | refine kp_app ?_ | refine t_p ?_ | refine t_br (fun hc => ?_) fun hc => ?_)
   | ((with_reducible first | refine t_kE ?_ | refine t_kD ?_ | refine t_gS ?_ | refine t_kL ?_ | refine t_kLF ?_ ?_ | refine t_region fun K => ?_ | refine t_cond fun A B => ?_ | refine t_draw (by kernel_rfl) fun K => ?_); simp only [go_sem, geff])
   | ((with_reducible refine kp_skip ?_ ?_); rfl) | simp only [thenQ, blockQ, scopeQ, Nat.reduceEqDiff, reduceIte] | (with_reducible first | refine And.intro ?_ ?_ | intro vr))
  all_goals try (intros; (try simp only [Bool.and_eq_true, Bool.or_eq_true, Bool.not_eq_true', decide_eq_true_eq, decide_eq_false_iff_not, beq_iff_eq, bne_iff_ne, ne_eq, inI64, List.length_append] at *) <;> omega)
  refine end_ret rfl ?_
  simp only [fin, go_sem]
  exact LeA.refl _
noncomputable def con62 : PCon Try.prog where
  f := 62
  c := fun
    | [xl] => match slK .i64 xl with | some l => some (l.length ≤ 1000000, .sl false 1 (ints .i64 l)) | _ => none
    | _ => none
  ok := by
    intro args p r hc hp
    split at hc
    · split at hc
      · rename_i hl
        cases hc
        exact PC.weak (copy_pc hp) ⟨slK_le hl, trivial⟩
      · cases hc
    · cases hc
  fk := fk62
theorem con62_f : con62.f = 62 := rfl
theorem con62_c {xl : AV} : con62.c [xl] = match slK .i64 xl with | some l => some (l.length ≤ 1000000, .sl false 1 (ints .i64 l)) | _ => none := rfl
theorem drop_ne {l m : List Int} {i : Nat} (hl : i < l.length) (hm : i < m.length) (h : (l.getD i 0 != m.getD i 0) = true) : decide (l.drop i = m.drop i) = false := by
  rw [drop_getD 0 hl, drop_getD 0 hm]
  rw [bne_iff_ne] at h
  exact decide_eq_false fun e => h (List.cons.inj e).1
theorem drop_eq {l m : List Int} {i : Nat} (hl : i < l.length) (hm : i < m.length) (h : (l.getD i 0 != m.getD i 0) = false) : decide (l.drop i = m.drop i) = decide (l.drop (i + 1) = m.drop (i + 1)) := by
  rw [drop_getD 0 hl, drop_getD 0 hm]
  rw [bne_eq_false_iff_eq] at h
  rw [h]
  simp
theorem equal_pc {l m : List Int} (hl : l.length ≤ 1000000) : PC Try.prog 59 [.sl false 1 (ints .i64 l), .sl false 1 (ints .i64 m)] (.lit (.bool (decide (l = m)))) := by
  by_cases hn : l.length = m.length
  · have g0 : ((l.length : Int) != (m.length : Int)) = false := by rw [bne_eq_false_iff_eq]; omega
    generalize hR : decide (l = m) = R
    refine pc_of E0_ok mixed (fun _ => [0, 1, 4, 5, 10, 12, 13, 14, 24]) Try.func59 rfl (by kernel_rfl) (Nat.le_of_ble_eq_true rfl) ?_
    simp only [initF_cons, initF_nil, Nat.reduceAdd]
    refine t_name fun KF => ?_
    unfold E0
    repeat' (first
     | (with_reducible first | refine t_seq fun K => ?_ | refine t_block ?_ | refine t_scope ?_ | refine t_label ?_ | refine t_skip ?_ | refine t_exit ?_ | refine t_ret ?_ | refine t_k ?_ | refine t_gF ?_ | exact kp_nil | exact Kp.refl _ | exact kp_to | refine kp_cons ?_ | refine kp_arr ?_ | refine kp_app ?_ | refine t_p ?_ | refine t_br (fun hc => ?_) fun hc => ?_)
     | ((with_reducible first | refine t_kE ?_ | refine t_kD ?_ | refine t_gS ?_ | refine t_kL ?_ | refine t_kLF ?_ ?_ | refine t_region fun K => ?_ | refine t_cond fun A B => ?_ | refine t_draw (by kernel_rfl) fun K => ?_); simp only [go_sem, geff, g0])
     | ((with_reducible refine kp_skip ?_ ?_); rfl) | simp only [thenQ, blockQ, scopeQ, Nat.reduceEqDiff, reduceIte] | (with_reducible first | refine And.intro ?_ ?_ | intro vr))
    refine t_loop (ι := { i : Nat // i ≤ l.length ∧ decide (l.drop i = m.drop i) = R }) (fun i => ⟨upd (upd (upd (upd topF 1 (.sl false 1 (ints .i64 m))) 0 (.sl false 1 (ints .i64 l))) 13 (.lit (.int .i64 i.1))) 12 (.lit (.int .i64 l.length)), []⟩) (fun i => l.length - i.1) ⟨0, by omega, hR⟩ ?_ ?_
    · skip
      (refine Le.frame ?_; repeat' (first | exact leF_top _ | (with_reducible refine leF_sl ?_ ?_) | (refine leF_upd (LeR.of_eq ?_) ?_))) <;> (try (simp only [go_sem]; try rfl))
    · rintro ⟨i, hi, hF⟩ K0
      rcases Nat.lt_or_ge i l.length with hc | hc
      · have g1 : decide ((i : Int) < (l.length : Int)) = true := decide_eq_true (by omega)
        have g2 := ints_getD .i64 l i hc
        have g3 := ints_getD .i64 m i (by omega)
        by_cases he : (l.getD i 0 != m.getD i 0) = true
        · rw [drop_ne hc (by omega) he] at hF
          subst hF
          repeat' (first
           | (with_reducible first | refine t_seq fun K => ?_ | refine t_block ?_ | refine t_scope ?_ | refine t_label ?_ | refine t_skip ?_ | refine t_exit ?_ | refine t_ret ?_ | refine t_k ?_ | refine t_gF ?_ | exact kp_nil | exact Kp.refl _ | exact kp_to | refine kp_cons ?_ | refine kp_arr ?_ | refine kp_app ?_ | refine t_p ?_ | refine t_br (fun hc => ?_) fun hc => ?_)
           | ((with_reducible first | refine t_kE ?_ | refine t_kD ?_ | refine t_gS ?_ | refine t_kL ?_ | refine t_kLF ?_ ?_ | refine t_region fun K => ?_ | refine t_cond fun A B => ?_ | refine t_draw (by kernel_rfl) fun K => ?_); simp only [go_sem, geff, g1, g2, g3, he, Int.toNat_natCast])
           | ((with_reducible refine kp_skip ?_ ?_); rfl) | simp only [thenQ, blockQ, scopeQ, Nat.reduceEqDiff, reduceIte] | (with_reducible first | refine And.intro ?_ ?_ | intro vr))
          all_goals try (intros; (try simp only [Bool.and_eq_true, Bool.or_eq_true, Bool.not_eq_true', decide_eq_true_eq, decide_eq_false_iff_not, beq_iff_eq, bne_iff_ne, ne_eq, inI64, List.length_append] at *) <;> omega)
          refine end_ret rfl ?_
          simp only [fin, go_sem]
          exact LeA.refl _
        · have he' : (l.getD i 0 != m.getD i 0) = false := by simpa using he
          rw [drop_eq hc (by omega) he'] at hF
          repeat' (first
           | (with_reducible first | refine t_seq fun K => ?_ | refine t_block ?_ | refine t_scope ?_ | refine t_label ?_ | refine t_skip ?_ | refine t_exit ?_ | refine t_ret ?_ | refine t_k ?_ | refine t_gF ?_ | exact kp_nil | exact Kp.refl _ | exact kp_to | refine kp_cons ?_ | refine kp_arr ?_ | refine kp_app ?_ | refine t_p ?_ | refine t_br (fun hc => ?_) fun hc => ?_)
           | ((with_reducible first | refine t_kE ?_ | refine t_kD ?_ | refine t_gS ?_ | refine t_kL ?_ | refine t_kLF ?_ ?_ | refine t_region fun K => ?_ | refine t_cond fun A B => ?_ | refine t_draw (by kernel_rfl) fun K => ?_); simp only [go_sem, geff, g1, g2, g3, he', Int.toNat_natCast])
           | ((with_reducible refine kp_skip ?_ ?_); rfl) | simp only [thenQ, blockQ, scopeQ, Nat.reduceEqDiff, reduceIte] | (with_reducible first | refine And.intro ?_ ?_ | intro vr))
          all_goals try (intros; (try simp only [Bool.and_eq_true, Bool.or_eq_true, Bool.not_eq_true', decide_eq_true_eq, decide_eq_false_iff_not, beq_iff_eq, bne_iff_ne, ne_eq, inI64, List.length_append] at *) <;> omega)
          refine ⟨⟨i + 1, by omega, hF⟩, by simp only; omega, ?_⟩
          (refine Le.frame ?_; repeat' (first | exact leF_top _ | (with_reducible refine leF_sl ?_ ?_) | (refine leF_upd (LeR.of_eq ?_) ?_))) <;> (try (simp only [go_sem]; try rfl))
      · have g1 : decide ((i : Int) < (l.length : Int)) = false := decide_eq_false (by omega)
        rw [List.drop_eq_nil_of_le hc, List.drop_eq_nil_of_le (by omega)] at hF
        subst hF
        repeat' (first
         | (with_reducible first | refine t_seq fun K => ?_ | refine t_block ?_ | refine t_scope ?_ | refine t_label ?_ | refine t_skip ?_ | refine t_exit ?_ | refine t_ret ?_ | refine t_k ?_ | refine t_gF ?_ | exact kp_nil | exact Kp.refl _ | exact kp_to | refine kp_cons ?_ | refine kp_arr ?_ | refine kp_app ?_ | refine t_p ?_ | refine t_br (fun hc => ?_) fun hc => ?_)
         | ((with_reducible first | refine t_kE ?_ | refine t_kD ?_ | refine t_gS ?_ | refine t_kL ?_ | refine t_kLF ?_ ?_ | refine t_region fun K => ?_ | refine t_cond fun A B => ?_ | refine t_draw (by kernel_rfl) fun K => ?_); simp only [go_sem, geff, g1])
         | ((with_reducible refine kp_skip ?_ ?_); rfl) | simp only [thenQ, blockQ, scopeQ, Nat.reduceEqDiff, reduceIte] | (with_reducible first | refine And.intro ?_ ?_ | intro vr))
        refine end_ret rfl ?_
        simp only [fin, go_sem]
        exact LeA.refl _
  · have g0 : ((l.length : Int) != (m.length : Int)) = true := by rw [bne_iff_ne]; omega
    have : decide (l = m) = false := decide_eq_false fun e => hn (by rw [e])
    rw [this]
    refine pc_of E0_ok mixed (fun _ => [0, 1, 4, 5, 10, 12, 13, 14, 24]) Try.func59 rfl (by kernel_rfl) (Nat.le_of_ble_eq_true rfl) ?_
    simp only [initF_cons, initF_nil, Nat.reduceAdd]
    refine t_name fun KF => ?_
    unfold E0
    repeat' (first
     | (with_reducible first | refine t_seq fun K => ?_ | refine t_block ?_ | refine t_scope ?_ | refine t_label ?_ | refine t_skip ?_ | refine t_exit ?_ | refine t_ret ?_ | refine t_k ?_ | refine t_gF ?_ | exact kp_nil | exact Kp.refl _ | exact kp_to | refine kp_cons ?_ | refine kp_arr ?_ | refine kp_app ?_ | refine t_p ?_ | refine t_br (fun hc => ?_) fun hc => ?_)
     | ((with_reducible first | refine t_kE ?_ | refine t_kD ?_ | refine t_gS ?_ | refine t_kL ?_ | refine t_kLF ?_ ?_ | refine t_region fun K => ?_ | refine t_cond fun A B => ?_ | refine t_draw (by kernel_rfl) fun K => ?_); simp only [go_sem, geff, g0])
     | ((with_reducible refine kp_skip ?_ ?_); rfl) | simp only [thenQ, blockQ, scopeQ, Nat.reduceEqDiff, reduceIte] | (with_reducible first | refine And.intro ?_ ?_ | intro vr))
    refine end_ret rfl ?_
    simp only [fin, go_sem]
    exact LeA.refl _
noncomputable def con59 : PCon Try.prog where
  f := 59
  c := fun
    | [xl, xm] => match slK .i64 xl, slK .i64 xm with | some l, some m => some (l.length ≤ 1000000, .lit (.bool (decide (l = m)))) | _, _ => none
    | _ => none
  ok := by
    intro args p r hc hp
    split at hc
    · split at hc
      · rename_i hl hm
        cases hc
        exact PC.weak (equal_pc hp) ⟨slK_le hl, slK_le hm, trivial⟩
      · cases hc
    · cases hc
  fk := fk59
theorem con59_f : con59.f = 59 := rfl
theorem con59_c {xl : AV} {xm : AV} : con59.c [xl, xm] = match slK .i64 xl, slK .i64 xm with | some l, some m => some (l.length ≤ 1000000, .lit (.bool (decide (l = m)))) | _, _ => none := rfl
theorem same_pc {l m : List Int} (hl : l.length ≤ 1000000) : PC Try.prog 19 [.sl false 1 (ints .i64 l), .sl false 1 (ints .i64 m)] (.lit (.bool (decide (l = m)))) := by
  by_cases hn : l.length = m.length
  · have g0 : ((l.length : Int) != (m.length : Int)) = false := by rw [bne_eq_false_iff_eq]; omega
    generalize hR : decide (l = m) = R
    refine pc_of E0_ok mixed (fun _ => [0, 1, 4, 5, 10, 14, 25]) Try.func19 rfl (by kernel_rfl) (Nat.le_of_ble_eq_true rfl) ?_
    simp only [initF_cons, initF_nil, Nat.reduceAdd]
    refine t_name fun KF => ?_
    unfold E0
    repeat' (first
     | (with_reducible first | refine t_seq fun K => ?_ | refine t_block ?_ | refine t_scope ?_ | refine t_label ?_ | refine t_skip ?_ | refine t_exit ?_ | refine t_ret ?_ | refine t_k ?_ | refine t_gF ?_ | exact kp_nil | exact Kp.refl _ | exact kp_to | refine kp_cons ?_ | refine kp_arr ?_ | refine kp_app ?_ | refine t_p ?_ | refine t_br (fun hc => ?_) fun hc => ?_)
     | ((with_reducible first | refine t_kE ?_ | refine t_kD ?_ | refine t_gS ?_ | refine t_kL ?_ | refine t_kLF ?_ ?_ | refine t_region fun K => ?_ | refine t_cond fun A B => ?_ | refine t_draw (by kernel_rfl) fun K => ?_); simp only [go_sem, geff, g0])
     | ((with_reducible refine kp_skip ?_ ?_); rfl) | simp only [thenQ, blockQ, scopeQ, Nat.reduceEqDiff, reduceIte] | (with_reducible first | refine And.intro ?_ ?_ | intro vr))
    refine t_loop (ι := { i : Nat // i ≤ l.length ∧ decide (l.drop i = m.drop i) = R }) (fun i => ⟨upd (upd (upd topF 1 (.sl false 1 (ints .i64 m))) 0 (.sl false 1 (ints .i64 l))) 5 (.lit (.int .i64 i.1)), []⟩) (fun i => l.length - i.1) ⟨0, by omega, hR⟩ ?_ ?_
    · skip
      (refine Le.frame ?_; repeat' (first | exact leF_top _ | (with_reducible refine leF_sl ?_ ?_) | (refine leF_upd (LeR.of_eq ?_) ?_))) <;> (try (simp only [go_sem]; try rfl))
    · rintro ⟨i, hi, hF⟩ K0
      rcases Nat.lt_or_ge i l.length with hc | hc
      · have g1 : decide ((i : Int) < (l.length : Int)) = true := decide_eq_true (by omega)
        have g2 := ints_getD .i64 l i hc
        have g3 := ints_getD .i64 m i (by omega)
        by_cases he : (l.getD i 0 != m.getD i 0) = true
        · rw [drop_ne hc (by omega) he] at hF
          subst hF
          repeat' (first
           | (with_reducible first | refine t_seq fun K => ?_ | refine t_block ?_ | refine t_scope ?_ | refine t_label ?_ | refine t_skip ?_ | refine t_exit ?_ | refine t_ret ?_ | refine t_k ?_ | refine t_gF ?_ | exact kp_nil | exact Kp.refl _ | exact kp_to | refine kp_cons ?_ | refine kp_arr ?_ | refine kp_app ?_ | refine t_p ?_ | refine t_br (fun hc => ?_) fun hc => ?_)
           | ((with_reducible first | refine t_kE ?_ | refine t_kD ?_ | refine t_gS ?_ | refine t_kL ?_ | refine t_kLF ?_ ?_ | refine t_region fun K => ?_ | refine t_cond fun A B => ?_ | refine t_draw (by kernel_rfl) fun K => ?_); simp only [go_sem, geff, g1, g2, g3, he, Int.toNat_natCast])
           | ((with_reducible refine kp_skip ?_ ?_); rfl) | simp only [thenQ, blockQ, scopeQ, Nat.reduceEqDiff, reduceIte] | (with_reducible first | refine And.intro ?_ ?_ | intro vr))
          all_goals try (intros; (try simp only [Bool.and_eq_true, Bool.or_eq_true, Bool.not_eq_true', decide_eq_true_eq, decide_eq_false_iff_not, beq_iff_eq, bne_iff_ne, ne_eq, inI64, List.length_append] at *) <;> omega)
          refine end_ret rfl ?_
          simp only [fin, go_sem]
          exact LeA.refl _
        · have he' : (l.getD i 0 != m.getD i 0) = false := by simpa using he
          rw [drop_eq hc (by omega) he'] at hF
          repeat' (first
           | (with_reducible first | refine t_seq fun K => ?_ | refine t_block ?_ | refine t_scope ?_ | refine t_label ?_ | refine t_skip ?_ | refine t_exit ?_ | refine t_ret ?_ | refine t_k ?_ | refine t_gF ?_ | exact kp_nil | exact Kp.refl _ | exact kp_to | refine kp_cons ?_ | refine kp_arr ?_ | refine kp_app ?_ | refine t_p ?_ | refine t_br (fun hc => ?_) fun hc => ?_)
           | ((with_reducible first | refine t_kE ?_ | refine t_kD ?_ | refine t_gS ?_ | refine t_kL ?_ | refine t_kLF ?_ ?_ | refine t_region fun K => ?_ | refine t_cond fun A B => ?_ | refine t_draw (by kernel_rfl) fun K => ?_); simp only [go_sem, geff, g1, g2, g3, he', Int.toNat_natCast])
           | ((with_reducible refine kp_skip ?_ ?_); rfl) | simp only [thenQ, blockQ, scopeQ, Nat.reduceEqDiff, reduceIte] | (with_reducible first | refine And.intro ?_ ?_ | intro vr))
          all_goals try (intros; (try simp only [Bool.and_eq_true, Bool.or_eq_true, Bool.not_eq_true', decide_eq_true_eq, decide_eq_false_iff_not, beq_iff_eq, bne_iff_ne, ne_eq, inI64, List.length_append] at *) <;> omega)
          refine ⟨⟨i + 1, by omega, hF⟩, by simp only; omega, ?_⟩
          (refine Le.frame ?_; repeat' (first | exact leF_top _ | (with_reducible refine leF_sl ?_ ?_) | (refine leF_upd (LeR.of_eq ?_) ?_))) <;> (try (simp only [go_sem]; try rfl))
      · have g1 : decide ((i : Int) < (l.length : Int)) = false := decide_eq_false (by omega)
        rw [List.drop_eq_nil_of_le hc, List.drop_eq_nil_of_le (by omega)] at hF
        subst hF
        repeat' (first
         | (with_reducible first | refine t_seq fun K => ?_ | refine t_block ?_ | refine t_scope ?_ | refine t_label ?_ | refine t_skip ?_ | refine t_exit ?_ | refine t_ret ?_ | refine t_k ?_ | refine t_gF ?_ | exact kp_nil | exact Kp.refl _ | exact kp_to | refine kp_cons ?_ | refine kp_arr ?_ | refine kp_app ?_ | refine t_p ?_ | refine t_br (fun hc => ?_) fun hc => ?_)
         | ((with_reducible first | refine t_kE ?_ | refine t_kD ?_ | refine t_gS ?_ | refine t_kL ?_ | refine t_kLF ?_ ?_ | refine t_region fun K => ?_ | refine t_cond fun A B => ?_ | refine t_draw (by kernel_rfl) fun K => ?_); simp only [go_sem, geff, g1])
         | ((with_reducible refine kp_skip ?_ ?_); rfl) | simp only [thenQ, blockQ, scopeQ, Nat.reduceEqDiff, reduceIte] | (with_reducible first | refine And.intro ?_ ?_ | intro vr))
        refine end_ret rfl ?_
        simp only [fin, go_sem]
        exact LeA.refl _
  · have g0 : ((l.length : Int) != (m.length : Int)) = true := by rw [bne_iff_ne]; omega
    have : decide (l = m) = false := decide_eq_false fun e => hn (by rw [e])
    rw [this]
    refine pc_of E0_ok mixed (fun _ => [0, 1, 4, 5, 10, 14, 25]) Try.func19 rfl (by kernel_rfl) (Nat.le_of_ble_eq_true rfl) ?_
    simp only [initF_cons, initF_nil, Nat.reduceAdd]
    refine t_name fun KF => ?_
    unfold E0
    repeat' (first
     | (with_reducible first | refine t_seq fun K => ?_ | refine t_block ?_ | refine t_scope ?_ | refine t_label ?_ | refine t_skip ?_ | refine t_exit ?_ | refine t_ret ?_ | refine t_k ?_ | refine t_gF ?_ | exact kp_nil | exact Kp.refl _ | exact kp_to | refine kp_cons ?_ | refine kp_arr ?_ | refine kp_app ?_ | refine t_p ?_ | refine t_br (fun hc => ?_) fun hc => ?_)
     | ((with_reducible first | refine t_kE ?_ | refine t_kD ?_ | refine t_gS ?_ | refine t_kL ?_ | refine t_kLF ?_ ?_ | refine t_region fun K => ?_ | refine t_cond fun A B => ?_ | refine t_draw (by kernel_rfl) fun K => ?_); simp only [go_sem, geff, g0])
     | ((with_reducible refine kp_skip ?_ ?_); rfl) | simp only [thenQ, blockQ, scopeQ, Nat.reduceEqDiff, reduceIte] | (with_reducible first | refine And.intro ?_ ?_ | intro vr))
    refine end_ret rfl ?_
    simp only [fin, go_sem]
    exact LeA.refl _
noncomputable def con19 : PCon Try.prog where
  f := 19
  c := fun
    | [xl, xm] => match slK .i64 xl, slK .i64 xm with | some l, some m => some (l.length ≤ 1000000, .lit (.bool (decide (l = m)))) | _, _ => none
    | _ => none
  ok := by
    intro args p r hc hp
    split at hc
    · split at hc
      · rename_i hl hm
        cases hc
        exact PC.weak (same_pc hp) ⟨slK_le hl, slK_le hm, trivial⟩
      · cases hc
    · cases hc
  fk := fk19
theorem con19_f : con19.f = 19 := rfl
theorem con19_c {xl : AV} {xm : AV} : con19.c [xl, xm] = match slK .i64 xl, slK .i64 xm with | some l, some m => some (l.length ≤ 1000000, .lit (.bool (decide (l = m)))) | _, _ => none := rfl
end Go.Proofs.Ytcjjakhmpffopaa

/- Sizes of dimensions. -/
namespace Go.Proofs.Ytcjjakhmpffopaa
open Go Go.Fw

def szV (p : Int × Int) : AV := .tup [.lit (.int .i64 p.1), .lit (.int .i64 p.2)]
theorem mul_bd {n d : Int} (hn : 0 ≤ n ∧ n ≤ 4096) (hd : 0 ≤ d ∧ d ≤ 4096) : 0 ≤ n * d ∧ n * d ≤ 16777216 := by
  constructor
  · exact Int.mul_nonneg hn.1 hd.1
  · have := Int.mul_le_mul hn.2 hd.2 hd.1 (by omega)
    omega
structure Ls (l : List Int) (G : Int × Int) where
  i : Nat
  n : Int
  hi : i ≤ l.length
  hn : 0 ≤ n ∧ n ≤ 4096
  hF : prodS (l.drop i) n = G
noncomputable def E2 : Env := envOf (P := Try.prog) zer (fun _ => false) (fun _ => false) [con91] []
theorem E2_ok : EnvOk Try.prog E2 := envOk zer_ok
set_option maxHeartbeats 1000000 in
theorem size_pc {l : List Int} (hl : l.length ≤ 1000000) : PC Try.prog 65 [.sl false 1 (ints .i64 l)] (szV (sizeS l)) := by
  unfold sizeS
  by_cases h6 : l.length > 6
  · have g0 : decide ((l.length : Int) > 6) = true := decide_eq_true (by omega)
    rw [if_pos h6]
    refine pc_of E2_ok mixed (fun _ => [0, 2, 3, 5, 6, 8, 11, 12, 13, 14, 15, 23, 26, 27, 28, 29, 30, 37]) Try.func65 rfl (by kernel_rfl) (Nat.le_of_ble_eq_true rfl) ?_
    simp only [initF_cons, initF_nil, Nat.reduceAdd]
    refine t_name fun KF => ?_
    unfold E2
    repeat' (first
     | (with_reducible first | refine t_seq fun K => ?_ | refine t_block ?_ | refine t_scope ?_ | refine t_label ?_ | refine t_skip ?_ | refine t_exit ?_ | refine t_ret ?_ | refine t_k ?_ | refine t_gF ?_ | exact kp_nil | exact Kp.refl _ | exact kp_to | refine kp_cons ?_ | refine kp_arr ?_ | refine kp_app ?_ | refine t_p ?_ | refine t_br (fun hc => ?_) fun hc => ?_)
     | ((with_reducible first | refine t_kE ?_ | refine t_kD ?_ | refine t_gS ?_ | refine t_kL ?_ | refine t_kLF ?_ ?_ | refine t_region fun K => ?_ | refine t_cond fun A B => ?_ | refine t_draw (by kernel_rfl) fun K => ?_); simp only [go_sem, geff, con91_f, g0])
     | ((with_reducible refine kp_skip ?_ ?_); rfl) | simp only [thenQ, blockQ, scopeQ, Nat.reduceEqDiff, reduceIte] | (with_reducible first | refine And.intro ?_ ?_ | intro vr))
    refine end_ret rfl ?_
    simp only [fin, go_sem, szV]
    exact LeA.refl _
  · have g0 : decide ((l.length : Int) > 6) = false := decide_eq_false (by omega)
    rw [if_neg h6]
    generalize hB : l.any badD = Bb
    generalize hG : prodS l 1 = G
    refine pc_of E2_ok mixed (fun _ => [0, 2, 3, 5, 6, 8, 11, 12, 13, 14, 15, 23, 26, 27, 28, 29, 30, 37]) Try.func65 rfl (by kernel_rfl) (Nat.le_of_ble_eq_true rfl) ?_
    simp only [initF_cons, initF_nil, Nat.reduceAdd]
    refine t_name fun KF => ?_
    unfold E2
    repeat' (first
     | (with_reducible first | refine t_seq fun K => ?_ | refine t_block ?_ | refine t_scope ?_ | refine t_label ?_ | refine t_skip ?_ | refine t_exit ?_ | refine t_ret ?_ | refine t_k ?_ | refine t_gF ?_ | exact kp_nil | exact Kp.refl _ | exact kp_to | refine kp_cons ?_ | refine kp_arr ?_ | refine kp_app ?_ | refine t_p ?_ | refine t_br (fun hc => ?_) fun hc => ?_)
     | ((with_reducible first | refine t_kE ?_ | refine t_kD ?_ | refine t_gS ?_ | refine t_kL ?_ | refine t_kLF ?_ ?_ | refine t_region fun K => ?_ | refine t_cond fun A B => ?_ | refine t_draw (by kernel_rfl) fun K => ?_); simp only [go_sem, geff, con91_f, g0])
     | ((with_reducible refine kp_skip ?_ ?_); rfl) | simp only [thenQ, blockQ, scopeQ, Nat.reduceEqDiff, reduceIte] | (with_reducible first | refine And.intro ?_ ?_ | intro vr))
    refine t_loop (ι := { i : Nat // i ≤ l.length ∧ (l.drop i).any badD = Bb }) (fun i => ⟨upd (upd (upd (upd topF 14 (.lit (.int .i64 i.1))) 13 (.lit (.int .i64 l.length))) 12 (.sl false 1 (ints .i64 l))) 0 (.sl false 1 (ints .i64 l)), []⟩) (fun i => l.length - i.1) ⟨0, by omega, hB⟩ ?_ ?_
    · skip
      (refine Le.frame ?_; repeat' (first | exact leF_top _ | (with_reducible refine leF_sl ?_ ?_) | (refine leF_upd (LeR.of_eq ?_) ?_))) <;> (try (simp only [go_sem]; try rfl))
    · rintro ⟨i, hi, hF⟩ K0
      rcases Nat.lt_or_ge i l.length with hc | hc
      · have g1 : decide ((i : Int) < (l.length : Int)) = true := decide_eq_true (by omega)
        have g2 := ints_getD .i64 l i hc
        rw [drop_getD 0 hc, List.any_cons] at hF
        generalize l.getD i 0 = d at g2 hF
        rw [show badD d = (decide (d < 0) || decide (d > 4096)) from rfl] at hF
        by_cases d1 : d < 0
        · have d1' : decide (d < 0) = true := decide_eq_true d1
          have : Bb = true := by rw [← hF, d1']; rfl
          subst this
          repeat' (first
           | (with_reducible first | refine t_seq fun K => ?_ | refine t_block ?_ | refine t_scope ?_ | refine t_label ?_ | refine t_skip ?_ | refine t_exit ?_ | refine t_ret ?_ | refine t_k ?_ | refine t_gF ?_ | exact kp_nil | exact Kp.refl _ | exact kp_to | refine kp_cons ?_ | refine kp_arr ?_ | refine kp_app ?_ | refine t_p ?_ | refine t_br (fun hc => ?_) fun hc => ?_)
           | ((with_reducible first | refine t_kE ?_ | refine t_kD ?_ | refine t_gS ?_ | refine t_kL ?_ | refine t_kLF ?_ ?_ | refine t_region fun K => ?_ | refine t_cond fun A B => ?_ | refine t_draw (by kernel_rfl) fun K => ?_); simp only [go_sem, geff, con91_f, g1, g2, d1', Int.toNat_natCast])
           | ((with_reducible refine kp_skip ?_ ?_); rfl) | simp only [thenQ, blockQ, scopeQ, Nat.reduceEqDiff, reduceIte] | (with_reducible first | refine And.intro ?_ ?_ | intro vr))
          all_goals try (intros; (try simp only [Bool.and_eq_true, Bool.or_eq_true, Bool.not_eq_true', decide_eq_true_eq, decide_eq_false_iff_not, beq_iff_eq, bne_iff_ne, ne_eq, inI64, List.length_append] at *) <;> omega)
          refine end_ret rfl ?_
          simp only [fin, go_sem, szV]
          exact LeA.refl _
        · have d1' : decide (d < 0) = false := decide_eq_false d1
          by_cases d2 : d > 4096
          · have d2' : decide (d > 4096) = true := decide_eq_true d2
            have : Bb = true := by rw [← hF, d1', d2']; rfl
            subst this
            repeat' (first
             | (with_reducible first | refine t_seq fun K => ?_ | refine t_block ?_ | refine t_scope ?_ | refine t_label ?_ | refine t_skip ?_ | refine t_exit ?_ | refine t_ret ?_ | refine t_k ?_ | refine t_gF ?_ | exact kp_nil | exact Kp.refl _ | exact kp_to | refine kp_cons ?_ | refine kp_arr ?_ | refine kp_app ?_ | refine t_p ?_ | refine t_br (fun hc => ?_) fun hc => ?_)
             | ((with_reducible first | refine t_kE ?_ | refine t_kD ?_ | refine t_gS ?_ | refine t_kL ?_ | refine t_kLF ?_ ?_ | refine t_region fun K => ?_ | refine t_cond fun A B => ?_ | refine t_draw (by kernel_rfl) fun K => ?_); simp only [go_sem, geff, con91_f, g1, g2, d1', d2', Int.toNat_natCast])
             | ((with_reducible refine kp_skip ?_ ?_); rfl) | simp only [thenQ, blockQ, scopeQ, Nat.reduceEqDiff, reduceIte] | (with_reducible first | refine And.intro ?_ ?_ | intro vr))
            all_goals try (intros; (try simp only [Bool.and_eq_true, Bool.or_eq_true, Bool.not_eq_true', decide_eq_true_eq, decide_eq_false_iff_not, beq_iff_eq, bne_iff_ne, ne_eq, inI64, List.length_append] at *) <;> omega)
            refine end_ret rfl ?_
            simp only [fin, go_sem, szV]
            exact LeA.refl _
          · have d2' : decide (d > 4096) = false := decide_eq_false d2
            rw [d1', d2', Bool.false_or, Bool.false_or] at hF
            repeat' (first
             | (with_reducible first | refine t_seq fun K => ?_ | refine t_block ?_ | refine t_scope ?_ | refine t_label ?_ | refine t_skip ?_ | refine t_exit ?_ | refine t_ret ?_ | refine t_k ?_ | refine t_gF ?_ | exact kp_nil | exact Kp.refl _ | exact kp_to | refine kp_cons ?_ | refine kp_arr ?_ | refine kp_app ?_ | refine t_p ?_ | refine t_br (fun hc => ?_) fun hc => ?_)
             | ((with_reducible first | refine t_kE ?_ | refine t_kD ?_ | refine t_gS ?_ | refine t_kL ?_ | refine t_kLF ?_ ?_ | refine t_region fun K => ?_ | refine t_cond fun A B => ?_ | refine t_draw (by kernel_rfl) fun K => ?_); simp only [go_sem, geff, con91_f, g1, g2, d1', d2', Int.toNat_natCast])
             | ((with_reducible refine kp_skip ?_ ?_); rfl) | simp only [thenQ, blockQ, scopeQ, Nat.reduceEqDiff, reduceIte] | (with_reducible first | refine And.intro ?_ ?_ | intro vr))
            all_goals try (intros; (try simp only [Bool.and_eq_true, Bool.or_eq_true, Bool.not_eq_true', decide_eq_true_eq, decide_eq_false_iff_not, beq_iff_eq, bne_iff_ne, ne_eq, inI64, List.length_append] at *) <;> omega)
            refine ⟨⟨i + 1, by omega, hF⟩, by simp only; omega, ?_⟩
            (refine Le.frame ?_; repeat' (first | exact leF_top _ | (with_reducible refine leF_sl ?_ ?_) | (refine leF_upd (LeR.of_eq ?_) ?_))) <;> (try (simp only [go_sem]; try rfl))
      · have g1 : decide ((i : Int) < (l.length : Int)) = false := decide_eq_false (by omega)
        rw [List.drop_eq_nil_of_le hc, List.any_nil] at hF
        subst hF
        have hd := bad_no (by rw [hB]; simp)
        by_cases h0 : (l.any fun d => 0 == d) = true
        · skip
          repeat' (first
           | (with_reducible first | refine t_seq fun K => ?_ | refine t_block ?_ | refine t_scope ?_ | refine t_label ?_ | refine t_skip ?_ | refine t_exit ?_ | refine t_ret ?_ | refine t_k ?_ | refine t_gF ?_ | exact kp_nil | exact Kp.refl _ | exact kp_to | refine kp_cons ?_ | refine kp_arr ?_ | refine kp_app ?_ | refine t_p ?_ | refine t_br (fun hc => ?_) fun hc => ?_)
           | ((with_reducible first | refine t_kE ?_ | refine t_kD ?_ | refine t_gS ?_ | refine t_kL ?_ | refine t_kLF ?_ ?_ | refine t_region fun K => ?_ | refine t_cond fun A B => ?_ | refine t_draw (by kernel_rfl) fun K => ?_); simp only [go_sem, geff, con91_f, con91_c, slK_sl, g1, h0])
           | ((with_reducible refine kp_skip ?_ ?_); rfl) | simp only [thenQ, blockQ, scopeQ, Nat.reduceEqDiff, reduceIte] | (with_reducible first | refine And.intro ?_ ?_ | intro vr))
          all_goals try (intros; (try simp only [Bool.and_eq_true, Bool.or_eq_true, Bool.not_eq_true', decide_eq_true_eq, decide_eq_false_iff_not, beq_iff_eq, bne_iff_ne, ne_eq, inI64, List.length_append] at *) <;> omega)
          refine end_ret rfl ?_
          simp only [fin, go_sem, szV, h0, Bool.false_eq_true]
          exact LeA.refl _
        · have h0' : (l.any fun d => 0 == d) = false := Bool.eq_false_iff.2 h0
          repeat' (first
           | (with_reducible first | refine t_seq fun K => ?_ | refine t_block ?_ | refine t_scope ?_ | refine t_label ?_ | refine t_skip ?_ | refine t_exit ?_ | refine t_ret ?_ | refine t_k ?_ | refine t_gF ?_ | exact kp_nil | exact Kp.refl _ | exact kp_to | refine kp_cons ?_ | refine kp_arr ?_ | refine kp_app ?_ | refine t_p ?_ | refine t_br (fun hc => ?_) fun hc => ?_)
           | ((with_reducible first | refine t_kE ?_ | refine t_kD ?_ | refine t_gS ?_ | refine t_kL ?_ | refine t_kLF ?_ ?_ | refine t_region fun K => ?_ | refine t_cond fun A B => ?_ | refine t_draw (by kernel_rfl) fun K => ?_); simp only [go_sem, geff, con91_f, con91_c, slK_sl, g1, h0'])
           | ((with_reducible refine kp_skip ?_ ?_); rfl) | simp only [thenQ, blockQ, scopeQ, Nat.reduceEqDiff, reduceIte] | (with_reducible first | refine And.intro ?_ ?_ | intro vr))
          all_goals try (intros; (try simp only [Bool.and_eq_true, Bool.or_eq_true, Bool.not_eq_true', decide_eq_true_eq, decide_eq_false_iff_not, beq_iff_eq, bne_iff_ne, ne_eq, inI64, List.length_append] at *) <;> omega)
          refine t_loop (ι := Ls l G) (fun i => ⟨upd (upd (upd (upd topF 29 (.lit (.int .i64 i.i))) 28 (.lit (.int .i64 l.length))) 27 (.sl false 1 (ints .i64 l))) 6 (.lit (.int .i64 i.n)), []⟩) (fun i => l.length - i.i) ⟨0, 1, by omega, by omega, hG⟩ ?_ ?_
          · skip
            (refine Le.frame ?_; repeat' (first | exact leF_top _ | (with_reducible refine leF_sl ?_ ?_) | (refine leF_upd (LeR.of_eq ?_) ?_))) <;> (try (simp only [go_sem]; try rfl))
          · rintro ⟨i, n, hi, hn, hF⟩ K1
            rcases Nat.lt_or_ge i l.length with hc | hc
            · have g1 : decide ((i : Int) < (l.length : Int)) = true := decide_eq_true (by omega)
              have g2 := ints_getD .i64 l i hc
              have hd' := hd (l.getD i 0) (by rw [List.getD_eq_getElem?_getD, List.getElem?_eq_getElem hc]; exact List.getElem_mem _)
              rw [drop_getD 0 hc, prodS] at hF
              generalize l.getD i 0 = d at g2 hF hd'
              have hb := mul_bd hn hd'
              by_cases hp : n * d > 4096
              · have hp' : decide (n * d > 4096) = true := decide_eq_true hp
                rw [if_pos hp] at hF
                subst hF
                repeat' (first
                 | (with_reducible first | refine t_seq fun K => ?_ | refine t_block ?_ | refine t_scope ?_ | refine t_label ?_ | refine t_skip ?_ | refine t_exit ?_ | refine t_ret ?_ | refine t_k ?_ | refine t_gF ?_ | exact kp_nil | exact Kp.refl _ | exact kp_to | refine kp_cons ?_ | refine kp_arr ?_ | refine kp_app ?_ | refine t_p ?_ | refine t_br (fun hc => ?_) fun hc => ?_)
                 | ((with_reducible first | refine t_kE ?_ | refine t_kD ?_ | refine t_gS ?_ | refine t_kL ?_ | refine t_kLF ?_ ?_ | refine t_region fun K => ?_ | refine t_cond fun A B => ?_ | refine t_draw (by kernel_rfl) fun K => ?_); simp only [go_sem, geff, con91_f, g1, g2, hp', Int.toNat_natCast])
                 | ((with_reducible refine kp_skip ?_ ?_); rfl) | simp only [thenQ, blockQ, scopeQ, Nat.reduceEqDiff, reduceIte] | (with_reducible first | refine And.intro ?_ ?_ | intro vr))
                all_goals try (intros; (try simp only [Bool.and_eq_true, Bool.or_eq_true, Bool.not_eq_true', decide_eq_true_eq, decide_eq_false_iff_not, beq_iff_eq, bne_iff_ne, ne_eq, inI64, List.length_append] at *) <;> omega)
                refine end_ret rfl ?_
                simp only [fin, go_sem, szV, h0', Bool.false_eq_true]
                exact LeA.refl _
              · have hp' : decide (n * d > 4096) = false := decide_eq_false hp
                rw [if_neg hp] at hF
                repeat' (first
                 | (with_reducible first | refine t_seq fun K => ?_ | refine t_block ?_ | refine t_scope ?_ | refine t_label ?_ | refine t_skip ?_ | refine t_exit ?_ | refine t_ret ?_ | refine t_k ?_ | refine t_gF ?_ | exact kp_nil | exact Kp.refl _ | exact kp_to | refine kp_cons ?_ | refine kp_arr ?_ | refine kp_app ?_ | refine t_p ?_ | refine t_br (fun hc => ?_) fun hc => ?_)
                 | ((with_reducible first | refine t_kE ?_ | refine t_kD ?_ | refine t_gS ?_ | refine t_kL ?_ | refine t_kLF ?_ ?_ | refine t_region fun K => ?_ | refine t_cond fun A B => ?_ | refine t_draw (by kernel_rfl) fun K => ?_); simp only [go_sem, geff, con91_f, g1, g2, hp', Int.toNat_natCast])
                 | ((with_reducible refine kp_skip ?_ ?_); rfl) | simp only [thenQ, blockQ, scopeQ, Nat.reduceEqDiff, reduceIte] | (with_reducible first | refine And.intro ?_ ?_ | intro vr))
                all_goals try (intros; (try simp only [Bool.and_eq_true, Bool.or_eq_true, Bool.not_eq_true', decide_eq_true_eq, decide_eq_false_iff_not, beq_iff_eq, bne_iff_ne, ne_eq, inI64, List.length_append] at *) <;> omega)
                refine ⟨⟨i + 1, n * d, by omega, by omega, hF⟩, by simp only; omega, ?_⟩
                (refine Le.frame ?_; repeat' (first | exact leF_top _ | (with_reducible refine leF_sl ?_ ?_) | (refine leF_upd (LeR.of_eq ?_) ?_))) <;> (try (simp only [go_sem]; try rfl))
            · have g1 : decide ((i : Int) < (l.length : Int)) = false := decide_eq_false (by omega)
              rw [List.drop_eq_nil_of_le hc, prodS] at hF
              subst hF
              repeat' (first
               | (with_reducible first | refine t_seq fun K => ?_ | refine t_block ?_ | refine t_scope ?_ | refine t_label ?_ | refine t_skip ?_ | refine t_exit ?_ | refine t_ret ?_ | refine t_k ?_ | refine t_gF ?_ | exact kp_nil | exact Kp.refl _ | exact kp_to | refine kp_cons ?_ | refine kp_arr ?_ | refine kp_app ?_ | refine t_p ?_ | refine t_br (fun hc => ?_) fun hc => ?_)
               | ((with_reducible first | refine t_kE ?_ | refine t_kD ?_ | refine t_gS ?_ | refine t_kL ?_ | refine t_kLF ?_ ?_ | refine t_region fun K => ?_ | refine t_cond fun A B => ?_ | refine t_draw (by kernel_rfl) fun K => ?_); simp only [go_sem, geff, con91_f, g1])
               | ((with_reducible refine kp_skip ?_ ?_); rfl) | simp only [thenQ, blockQ, scopeQ, Nat.reduceEqDiff, reduceIte] | (with_reducible first | refine And.intro ?_ ?_ | intro vr))
              refine end_ret rfl ?_
              simp only [fin, go_sem, szV, h0', Bool.false_eq_true]
              exact LeA.refl _
noncomputable def con65 : PCon Try.prog where
  f := 65
  c := fun
    | [xl] => match slK .i64 xl with | some l => some (l.length ≤ 1000000, szV (sizeS l)) | _ => none
    | _ => none
  ok := by
    intro args p r hc hp
    split at hc
    · split at hc
      · rename_i hl
        cases hc
        exact PC.weak (size_pc hp) ⟨slK_le hl, trivial⟩
      · cases hc
    · cases hc
  fk := fk65
theorem con65_f : con65.f = 65 := rfl
theorem con65_c {xl : AV} : con65.c [xl] = match slK .i64 xl with | some l => some (l.length ≤ 1000000, szV (sizeS l)) | _ => none := rfl
set_option maxHeartbeats 1000000 in
theorem rsize_pc {l : List Int} (hl : l.length ≤ 1000000) : PC Try.prog 30 [.sl false 1 (ints .i64 l)] (szV (sizeS l)) := by
  unfold sizeS
  by_cases h6 : l.length > 6
  · have g0 : decide ((l.length : Int) > 6) = true := decide_eq_true (by omega)
    rw [if_pos h6]
    refine pc_of E0_ok mixed (fun _ => [0, 2, 3, 4, 5, 6, 7, 10, 14, 28, 37, 41, 51]) Try.func30 rfl (by kernel_rfl) (Nat.le_of_ble_eq_true rfl) ?_
    simp only [initF_cons, initF_nil, Nat.reduceAdd]
    refine t_name fun KF => ?_
    unfold E0
    repeat' (first
     | (with_reducible first | refine t_seq fun K => ?_ | refine t_block ?_ | refine t_scope ?_ | refine t_label ?_ | refine t_skip ?_ | refine t_exit ?_ | refine t_ret ?_ | refine t_k ?_ | refine t_gF ?_ | exact kp_nil | exact Kp.refl _ | exact kp_to | refine kp_cons ?_ | refine kp_arr ?_ | refine kp_app ?_ | refine t_p ?_ | refine t_br (fun hc => ?_) fun hc => ?_)
     | ((with_reducible first | refine t_kE ?_ | refine t_kD ?_ | refine t_gS ?_ | refine t_kL ?_ | refine t_kLF ?_ ?_ | refine t_region fun K => ?_ | refine t_cond fun A B => ?_ | refine t_draw (by kernel_rfl) fun K => ?_); simp only [go_sem, geff, g0])
     | ((with_reducible refine kp_skip ?_ ?_); rfl) | simp only [thenQ, blockQ, scopeQ, Nat.reduceEqDiff, reduceIte] | (with_reducible first | refine And.intro ?_ ?_ | intro vr))
    refine end_ret rfl ?_
    simp only [fin, go_sem, szV]
    exact LeA.refl _
  · have g0 : decide ((l.length : Int) > 6) = false := decide_eq_false (by omega)
    rw [if_neg h6]
    generalize hB : l.any badD = Bb
    generalize hG : prodS l 1 = G
    generalize hZ : (l.any fun d => 0 == d) = Z
    refine pc_of E0_ok mixed (fun _ => [0, 2, 3, 4, 5, 6, 7, 10, 14, 28, 37, 41, 51]) Try.func30 rfl (by kernel_rfl) (Nat.le_of_ble_eq_true rfl) ?_
    simp only [initF_cons, initF_nil, Nat.reduceAdd]
    refine t_name fun KF => ?_
    unfold E0
    repeat' (first
     | (with_reducible first | refine t_seq fun K => ?_ | refine t_block ?_ | refine t_scope ?_ | refine t_label ?_ | refine t_skip ?_ | refine t_exit ?_ | refine t_ret ?_ | refine t_k ?_ | refine t_gF ?_ | exact kp_nil | exact Kp.refl _ | exact kp_to | refine kp_cons ?_ | refine kp_arr ?_ | refine kp_app ?_ | refine t_p ?_ | refine t_br (fun hc => ?_) fun hc => ?_)
     | ((with_reducible first | refine t_kE ?_ | refine t_kD ?_ | refine t_gS ?_ | refine t_kL ?_ | refine t_kLF ?_ ?_ | refine t_region fun K => ?_ | refine t_cond fun A B => ?_ | refine t_draw (by kernel_rfl) fun K => ?_); simp only [go_sem, geff, g0])
     | ((with_reducible refine kp_skip ?_ ?_); rfl) | simp only [thenQ, blockQ, scopeQ, Nat.reduceEqDiff, reduceIte] | (with_reducible first | refine And.intro ?_ ?_ | intro vr))
    refine t_loop (ι := { i : Nat × Bool // i.1 ≤ l.length ∧ (l.drop i.1).any badD = Bb ∧ (i.2 || (l.drop i.1).any fun d => 0 == d) = Z }) (fun i => ⟨upd (upd (upd topF 5 (.lit (.int .i64 i.1.1))) 4 (.lit (.bool i.1.2))) 0 (.sl false 1 (ints .i64 l)), []⟩) (fun i => l.length - i.1.1) ⟨(0, false), by simp, hB, by simpa using hZ⟩ ?_ ?_
    · skip
      (refine Le.frame ?_; repeat' (first | exact leF_top _ | (with_reducible refine leF_sl ?_ ?_) | (refine leF_upd (LeR.of_eq ?_) ?_))) <;> (try (simp only [go_sem]; try rfl))
    · rintro ⟨⟨i, z⟩, hi, hF, hY⟩ K0
      simp only at hi hF hY
      rcases Nat.lt_or_ge i l.length with hc | hc
      · have g1 : decide ((i : Int) < (l.length : Int)) = true := decide_eq_true (by omega)
        have g2 := ints_getD .i64 l i hc
        rw [drop_getD 0 hc, List.any_cons] at hF
        rw [drop_getD 0 hc, List.any_cons, ← Bool.or_assoc] at hY
        generalize l.getD i 0 = d at g2 hF hY
        rw [show badD d = (decide (d < 0) || decide (d > 4096)) from rfl] at hF
        by_cases d1 : d < 0
        · have d1' : decide (d < 0) = true := decide_eq_true d1
          have : Bb = true := by rw [← hF, d1']; rfl
          subst this
          repeat' (first
           | (with_reducible first | refine t_seq fun K => ?_ | refine t_block ?_ | refine t_scope ?_ | refine t_label ?_ | refine t_skip ?_ | refine t_exit ?_ | refine t_ret ?_ | refine t_k ?_ | refine t_gF ?_ | exact kp_nil | exact Kp.refl _ | exact kp_to | refine kp_cons ?_ | refine kp_arr ?_ | refine kp_app ?_ | refine t_p ?_ | refine t_br (fun hc => ?_) fun hc => ?_)
           | ((with_reducible first | refine t_kE ?_ | refine t_kD ?_ | refine t_gS ?_ | refine t_kL ?_ | refine t_kLF ?_ ?_ | refine t_region fun K => ?_ | refine t_cond fun A B => ?_ | refine t_draw (by kernel_rfl) fun K => ?_); simp only [go_sem, geff, g1, g2, d1', Int.toNat_natCast])
           | ((with_reducible refine kp_skip ?_ ?_); rfl) | simp only [thenQ, blockQ, scopeQ, Nat.reduceEqDiff, reduceIte] | (with_reducible first | refine And.intro ?_ ?_ | intro vr))
          all_goals try (intros; (try simp only [Bool.and_eq_true, Bool.or_eq_true, Bool.not_eq_true', decide_eq_true_eq, decide_eq_false_iff_not, beq_iff_eq, bne_iff_ne, ne_eq, inI64, List.length_append] at *) <;> omega)
          refine end_ret rfl ?_
          simp only [fin, go_sem, szV]
          exact LeA.refl _
        · have d1' : decide (d < 0) = false := decide_eq_false d1
          by_cases d2 : d > 4096
          · have d2' : decide (d > 4096) = true := decide_eq_true d2
            have : Bb = true := by rw [← hF, d1', d2']; rfl
            subst this
            repeat' (first
             | (with_reducible first | refine t_seq fun K => ?_ | refine t_block ?_ | refine t_scope ?_ | refine t_label ?_ | refine t_skip ?_ | refine t_exit ?_ | refine t_ret ?_ | refine t_k ?_ | refine t_gF ?_ | exact kp_nil | exact Kp.refl _ | exact kp_to | refine kp_cons ?_ | refine kp_arr ?_ | refine kp_app ?_ | refine t_p ?_ | refine t_br (fun hc => ?_) fun hc => ?_)
             | ((with_reducible first | refine t_kE ?_ | refine t_kD ?_ | refine t_gS ?_ | refine t_kL ?_ | refine t_kLF ?_ ?_ | refine t_region fun K => ?_ | refine t_cond fun A B => ?_ | refine t_draw (by kernel_rfl) fun K => ?_); simp only [go_sem, geff, g1, g2, d1', d2', Int.toNat_natCast])
             | ((with_reducible refine kp_skip ?_ ?_); rfl) | simp only [thenQ, blockQ, scopeQ, Nat.reduceEqDiff, reduceIte] | (with_reducible first | refine And.intro ?_ ?_ | intro vr))
            all_goals try (intros; (try simp only [Bool.and_eq_true, Bool.or_eq_true, Bool.not_eq_true', decide_eq_true_eq, decide_eq_false_iff_not, beq_iff_eq, bne_iff_ne, ne_eq, inI64, List.length_append] at *) <;> omega)
            refine end_ret rfl ?_
            simp only [fin, go_sem, szV]
            exact LeA.refl _
          · have d2' : decide (d > 4096) = false := decide_eq_false d2
            rw [d1', d2', Bool.false_or, Bool.false_or] at hF
            cases z
            · by_cases e0 : (d == 0) = true
              · have e1 : (0 == d) = true := by rw [beq_iff_eq] at e0 ⊢; exact e0.symm
                rw [e1] at hY
                repeat' (first
                 | (with_reducible first | refine t_seq fun K => ?_ | refine t_block ?_ | refine t_scope ?_ | refine t_label ?_ | refine t_skip ?_ | refine t_exit ?_ | refine t_ret ?_ | refine t_k ?_ | refine t_gF ?_ | exact kp_nil | exact Kp.refl _ | exact kp_to | refine kp_cons ?_ | refine kp_arr ?_ | refine kp_app ?_ | refine t_p ?_ | refine t_br (fun hc => ?_) fun hc => ?_)
                 | ((with_reducible first | refine t_kE ?_ | refine t_kD ?_ | refine t_gS ?_ | refine t_kL ?_ | refine t_kLF ?_ ?_ | refine t_region fun K => ?_ | refine t_cond fun A B => ?_ | refine t_draw (by kernel_rfl) fun K => ?_); simp only [go_sem, geff, g1, g2, d1', d2', e0, Int.toNat_natCast])
                 | ((with_reducible refine kp_skip ?_ ?_); rfl) | simp only [thenQ, blockQ, scopeQ, Nat.reduceEqDiff, reduceIte] | (with_reducible first | refine And.intro ?_ ?_ | intro vr))
                all_goals try (intros; (try simp only [Bool.and_eq_true, Bool.or_eq_true, Bool.not_eq_true', decide_eq_true_eq, decide_eq_false_iff_not, beq_iff_eq, bne_iff_ne, ne_eq, inI64, List.length_append] at *) <;> omega)
                refine ⟨⟨(i + 1, true), by simp only; omega, hF, hY⟩, by simp only; omega, ?_⟩
                (refine Le.frame ?_; repeat' (first | exact leF_top _ | (with_reducible refine leF_sl ?_ ?_) | (refine leF_upd (LeR.of_eq ?_) ?_))) <;> (try (simp only [go_sem]; try rfl))
              · have e0' : (d == 0) = false := by simpa using e0
                have e1 : (0 == d) = false := by rw [beq_eq_false_iff_ne] at e0' ⊢; exact fun h => e0' h.symm
                rw [e1] at hY
                repeat' (first
                 | (with_reducible first | refine t_seq fun K => ?_ | refine t_block ?_ | refine t_scope ?_ | refine t_label ?_ | refine t_skip ?_ | refine t_exit ?_ | refine t_ret ?_ | refine t_k ?_ | refine t_gF ?_ | exact kp_nil | exact Kp.refl _ | exact kp_to | refine kp_cons ?_ | refine kp_arr ?_ | refine kp_app ?_ | refine t_p ?_ | refine t_br (fun hc => ?_) fun hc => ?_)
                 | ((with_reducible first | refine t_kE ?_ | refine t_kD ?_ | refine t_gS ?_ | refine t_kL ?_ | refine t_kLF ?_ ?_ | refine t_region fun K => ?_ | refine t_cond fun A B => ?_ | refine t_draw (by kernel_rfl) fun K => ?_); simp only [go_sem, geff, g1, g2, d1', d2', e0', Int.toNat_natCast])
                 | ((with_reducible refine kp_skip ?_ ?_); rfl) | simp only [thenQ, blockQ, scopeQ, Nat.reduceEqDiff, reduceIte] | (with_reducible first | refine And.intro ?_ ?_ | intro vr))
                all_goals try (intros; (try simp only [Bool.and_eq_true, Bool.or_eq_true, Bool.not_eq_true', decide_eq_true_eq, decide_eq_false_iff_not, beq_iff_eq, bne_iff_ne, ne_eq, inI64, List.length_append] at *) <;> omega)
                refine ⟨⟨(i + 1, false), by simp only; omega, hF, hY⟩, by simp only; omega, ?_⟩
                (refine Le.frame ?_; repeat' (first | exact leF_top _ | (with_reducible refine leF_sl ?_ ?_) | (refine leF_upd (LeR.of_eq ?_) ?_))) <;> (try (simp only [go_sem]; try rfl))
            · skip
              repeat' (first
               | (with_reducible first | refine t_seq fun K => ?_ | refine t_block ?_ | refine t_scope ?_ | refine t_label ?_ | refine t_skip ?_ | refine t_exit ?_ | refine t_ret ?_ | refine t_k ?_ | refine t_gF ?_ | exact kp_nil | exact Kp.refl _ | exact kp_to | refine kp_cons ?_ | refine kp_arr ?_ | refine kp_app ?_ | refine t_p ?_ | refine t_br (fun hc => ?_) fun hc => ?_)
               | ((with_reducible first | refine t_kE ?_ | refine t_kD ?_ | refine t_gS ?_ | refine t_kL ?_ | refine t_kLF ?_ ?_ | refine t_region fun K => ?_ | refine t_cond fun A B => ?_ | refine t_draw (by kernel_rfl) fun K => ?_); simp only [go_sem, geff, g1, g2, d1', d2', Int.toNat_natCast])
               | ((with_reducible refine kp_skip ?_ ?_); rfl) | simp only [thenQ, blockQ, scopeQ, Nat.reduceEqDiff, reduceIte] | (with_reducible first | refine And.intro ?_ ?_ | intro vr))
              all_goals try (intros; (try simp only [Bool.and_eq_true, Bool.or_eq_true, Bool.not_eq_true', decide_eq_true_eq, decide_eq_false_iff_not, beq_iff_eq, bne_iff_ne, ne_eq, inI64, List.length_append] at *) <;> omega)
              refine ⟨⟨(i + 1, true), by simp only; omega, hF, by rw [← hY]; simp⟩, by simp only; omega, ?_⟩
              (refine Le.frame ?_; repeat' (first | exact leF_top _ | (with_reducible refine leF_sl ?_ ?_) | (refine leF_upd (LeR.of_eq ?_) ?_))) <;> (try (simp only [go_sem]; try rfl))
      · have g1 : decide ((i : Int) < (l.length : Int)) = false := decide_eq_false (by omega)
        rw [List.drop_eq_nil_of_le hc, List.any_nil] at hF
        rw [List.drop_eq_nil_of_le hc, List.any_nil, Bool.or_false] at hY
        subst hF
        have hd := bad_no (by rw [hB]; simp)
        cases z
        · subst hY
          repeat' (first
           | (with_reducible first | refine t_seq fun K => ?_ | refine t_block ?_ | refine t_scope ?_ | refine t_label ?_ | refine t_skip ?_ | refine t_exit ?_ | refine t_ret ?_ | refine t_k ?_ | refine t_gF ?_ | exact kp_nil | exact Kp.refl _ | exact kp_to | refine kp_cons ?_ | refine kp_arr ?_ | refine kp_app ?_ | refine t_p ?_ | refine t_br (fun hc => ?_) fun hc => ?_)
           | ((with_reducible first | refine t_kE ?_ | refine t_kD ?_ | refine t_gS ?_ | refine t_kL ?_ | refine t_kLF ?_ ?_ | refine t_region fun K => ?_ | refine t_cond fun A B => ?_ | refine t_draw (by kernel_rfl) fun K => ?_); simp only [go_sem, geff, g1])
           | ((with_reducible refine kp_skip ?_ ?_); rfl) | simp only [thenQ, blockQ, scopeQ, Nat.reduceEqDiff, reduceIte] | (with_reducible first | refine And.intro ?_ ?_ | intro vr))
          refine t_loop (ι := Ls l G) (fun i => ⟨upd (upd (upd topF 7 (.lit (.int .i64 i.i))) 6 (.lit (.int .i64 i.n))) 0 (.sl false 1 (ints .i64 l)), []⟩) (fun i => l.length - i.i) ⟨0, 1, by omega, by omega, hG⟩ ?_ ?_
          · skip
            (refine Le.frame ?_; repeat' (first | exact leF_top _ | (with_reducible refine leF_sl ?_ ?_) | (refine leF_upd (LeR.of_eq ?_) ?_))) <;> (try (simp only [go_sem]; try rfl))
          · rintro ⟨i, n, hi, hn, hF⟩ K1
            rcases Nat.lt_or_ge i l.length with hc | hc
            · have g1 : decide ((i : Int) < (l.length : Int)) = true := decide_eq_true (by omega)
              have g2 := ints_getD .i64 l i hc
              have hd' := hd (l.getD i 0) (by rw [List.getD_eq_getElem?_getD, List.getElem?_eq_getElem hc]; exact List.getElem_mem _)
              rw [drop_getD 0 hc, prodS] at hF
              generalize l.getD i 0 = d at g2 hF hd'
              have hb := mul_bd hn hd'
              by_cases hp : n * d > 4096
              · have hp' : decide (n * d > 4096) = true := decide_eq_true hp
                rw [if_pos hp] at hF
                subst hF
                repeat' (first
                 | (with_reducible first | refine t_seq fun K => ?_ | refine t_block ?_ | refine t_scope ?_ | refine t_label ?_ | refine t_skip ?_ | refine t_exit ?_ | refine t_ret ?_ | refine t_k ?_ | refine t_gF ?_ | exact kp_nil | exact Kp.refl _ | exact kp_to | refine kp_cons ?_ | refine kp_arr ?_ | refine kp_app ?_ | refine t_p ?_ | refine t_br (fun hc => ?_) fun hc => ?_)
                 | ((with_reducible first | refine t_kE ?_ | refine t_kD ?_ | refine t_gS ?_ | refine t_kL ?_ | refine t_kLF ?_ ?_ | refine t_region fun K => ?_ | refine t_cond fun A B => ?_ | refine t_draw (by kernel_rfl) fun K => ?_); simp only [go_sem, geff, g1, g2, hp', Int.toNat_natCast])
                 | ((with_reducible refine kp_skip ?_ ?_); rfl) | simp only [thenQ, blockQ, scopeQ, Nat.reduceEqDiff, reduceIte] | (with_reducible first | refine And.intro ?_ ?_ | intro vr))
                all_goals try (intros; (try simp only [Bool.and_eq_true, Bool.or_eq_true, Bool.not_eq_true', decide_eq_true_eq, decide_eq_false_iff_not, beq_iff_eq, bne_iff_ne, ne_eq, inI64, List.length_append] at *) <;> omega)
                refine end_ret rfl ?_
                simp only [fin, go_sem, szV, Bool.false_eq_true]
                exact LeA.refl _
              · have hp' : decide (n * d > 4096) = false := decide_eq_false hp
                rw [if_neg hp] at hF
                repeat' (first
                 | (with_reducible first | refine t_seq fun K => ?_ | refine t_block ?_ | refine t_scope ?_ | refine t_label ?_ | refine t_skip ?_ | refine t_exit ?_ | refine t_ret ?_ | refine t_k ?_ | refine t_gF ?_ | exact kp_nil | exact Kp.refl _ | exact kp_to | refine kp_cons ?_ | refine kp_arr ?_ | refine kp_app ?_ | refine t_p ?_ | refine t_br (fun hc => ?_) fun hc => ?_)
                 | ((with_reducible first | refine t_kE ?_ | refine t_kD ?_ | refine t_gS ?_ | refine t_kL ?_ | refine t_kLF ?_ ?_ | refine t_region fun K => ?_ | refine t_cond fun A B => ?_ | refine t_draw (by kernel_rfl) fun K => ?_); simp only [go_sem, geff, g1, g2, hp', Int.toNat_natCast])
                 | ((with_reducible refine kp_skip ?_ ?_); rfl) | simp only [thenQ, blockQ, scopeQ, Nat.reduceEqDiff, reduceIte] | (with_reducible first | refine And.intro ?_ ?_ | intro vr))
                all_goals try (intros; (try simp only [Bool.and_eq_true, Bool.or_eq_true, Bool.not_eq_true', decide_eq_true_eq, decide_eq_false_iff_not, beq_iff_eq, bne_iff_ne, ne_eq, inI64, List.length_append] at *) <;> omega)
                refine ⟨⟨i + 1, n * d, by omega, by omega, hF⟩, by simp only; omega, ?_⟩
                (refine Le.frame ?_; repeat' (first | exact leF_top _ | (with_reducible refine leF_sl ?_ ?_) | (refine leF_upd (LeR.of_eq ?_) ?_))) <;> (try (simp only [go_sem]; try rfl))
            · have g1 : decide ((i : Int) < (l.length : Int)) = false := decide_eq_false (by omega)
              rw [List.drop_eq_nil_of_le hc, prodS] at hF
              subst hF
              repeat' (first
               | (with_reducible first | refine t_seq fun K => ?_ | refine t_block ?_ | refine t_scope ?_ | refine t_label ?_ | refine t_skip ?_ | refine t_exit ?_ | refine t_ret ?_ | refine t_k ?_ | refine t_gF ?_ | exact kp_nil | exact Kp.refl _ | exact kp_to | refine kp_cons ?_ | refine kp_arr ?_ | refine kp_app ?_ | refine t_p ?_ | refine t_br (fun hc => ?_) fun hc => ?_)
               | ((with_reducible first | refine t_kE ?_ | refine t_kD ?_ | refine t_gS ?_ | refine t_kL ?_ | refine t_kLF ?_ ?_ | refine t_region fun K => ?_ | refine t_cond fun A B => ?_ | refine t_draw (by kernel_rfl) fun K => ?_); simp only [go_sem, geff, g1])
               | ((with_reducible refine kp_skip ?_ ?_); rfl) | simp only [thenQ, blockQ, scopeQ, Nat.reduceEqDiff, reduceIte] | (with_reducible first | refine And.intro ?_ ?_ | intro vr))
              refine end_ret rfl ?_
              simp only [fin, go_sem, szV, Bool.false_eq_true]
              exact LeA.refl _
        · subst hY
          repeat' (first
           | (with_reducible first | refine t_seq fun K => ?_ | refine t_block ?_ | refine t_scope ?_ | refine t_label ?_ | refine t_skip ?_ | refine t_exit ?_ | refine t_ret ?_ | refine t_k ?_ | refine t_gF ?_ | exact kp_nil | exact Kp.refl _ | exact kp_to | refine kp_cons ?_ | refine kp_arr ?_ | refine kp_app ?_ | refine t_p ?_ | refine t_br (fun hc => ?_) fun hc => ?_)
           | ((with_reducible first | refine t_kE ?_ | refine t_kD ?_ | refine t_gS ?_ | refine t_kL ?_ | refine t_kLF ?_ ?_ | refine t_region fun K => ?_ | refine t_cond fun A B => ?_ | refine t_draw (by kernel_rfl) fun K => ?_); simp only [go_sem, geff, g1])
           | ((with_reducible refine kp_skip ?_ ?_); rfl) | simp only [thenQ, blockQ, scopeQ, Nat.reduceEqDiff, reduceIte] | (with_reducible first | refine And.intro ?_ ?_ | intro vr))
          refine end_ret rfl ?_
          simp only [fin, go_sem, szV, Bool.false_eq_true]
          exact LeA.refl _
noncomputable def con30 : PCon Try.prog where
  f := 30
  c := fun
    | [xl] => match slK .i64 xl with | some l => some (l.length ≤ 1000000, szV (sizeS l)) | _ => none
    | _ => none
  ok := by
    intro args p r hc hp
    split at hc
    · split at hc
      · rename_i hl
        cases hc
        exact PC.weak (rsize_pc hp) ⟨slK_le hl, trivial⟩
      · cases hc
    · cases hc
  fk := fk30
theorem con30_f : con30.f = 30 := rfl
theorem con30_c {xl : AV} : con30.c [xl] = match slK .i64 xl with | some l => some (l.length ≤ 1000000, szV (sizeS l)) | _ => none := rfl
end Go.Proofs.Ytcjjakhmpffopaa

/- Arguments that are arrays, and lists of arrays. -/
namespace Go.Proofs.Ytcjjakhmpffopaa
open Go Go.Fw

theorem LeL.len : ∀ {xs ys : List AV}, LeL xs ys → xs.length = ys.length
  | [], [], _ => rfl
  | _ :: _, _ :: _, h => by simp [LeL.len h.2]
  | [], _ :: _, h => h.elim
  | _ :: _, [], h => h.elim
theorem LeA.agg {xs ys : List AV} (h : LeL xs ys) : LeA (.agg xs) (.agg ys) := fun C v hv => by
  cases hv with
  | agg _ vs hl h1 hh => exact .agg ys vs (h.rl ⟨hl, hh⟩).1 (fun i hi => h1 i (by rw [LeL.len h]; exact hi)) (h.rl ⟨hl, hh⟩).2
theorem LeL.refl : ∀ (xs : List AV), LeL xs xs
  | [] => trivial
  | x :: xs => ⟨LeA.refl x, LeL.refl xs⟩
theorem LeL.append : ∀ {xs ys us vs : List AV}, LeL xs ys → LeL us vs → LeL (xs ++ us) (ys ++ vs)
  | [], [], _, _, _, h => h
  | _ :: _, _ :: _, _, _, h, h' => ⟨h.1, LeL.append h.2 h'⟩
  | [], _ :: _, _, _, h, _ => h.elim
  | _ :: _, [], _, _, h, _ => h.elim
theorem LeL.get : ∀ {xs ys : List AV}, LeL xs ys → ∀ i, LeA (xs.getD i .top) (ys.getD i .top)
  | [], [], _, _ => LeA.refl _
  | x :: xs, y :: ys, h, 0 => by simpa using h.1
  | x :: xs, y :: ys, h, i + 1 => by simpa using LeL.get h.2 i
  | [], _ :: _, h, _ => h.elim
  | _ :: _, [], h, _ => h.elim
theorem LeA.sl {b : Bool} {sz : Nat} {xs ys : List AV} (hl : xs.length = ys.length) (hw : ∀ y ∈ ys, y.cells.length = sz) (h : LeL (flat xs) (flat ys)) : LeA (.sl b sz xs) (.sl false sz ys) := fun C v hv => by
  cases hv with
  | nil full sz a =>
    have : ys = [] := List.eq_nil_of_length_eq_zero (by simpa using hl.symm)
    subst this
    exact .nil false sz a
  | sl full sz xs bb off cap f hc hm hf hw' hC h1 hR =>
    rw [hl]
    exact .sl false sz ys bb off cap f (by rw [← hl]; exact hc) hm (by simp) hw (fun j hj => hC j (by rw [LeL.len h]; exact hj)) (fun j hj => h1 j (by rw [LeL.len h]; exact hj))
      (fun j hj => LeL.get h j _ _ (hR j (by rw [LeL.len h]; exact hj)))

def arrOf : AV → Option Arr
  | .agg [.lit (.string e), x, y] => match slK .i64 x, slK .i64 y with
    | some d, some w => some ⟨e, d, w⟩
    | _, _ => none
  | _ => none
theorem arrOf_agg {e : ByteArray} {x y : AV} : arrOf (.agg [.lit (.string e), x, y]) = match slK .i64 x, slK .i64 y with
    | some d, some w => some ⟨e, d, w⟩
    | _, _ => none := rfl
theorem arrOf_V (a : Arr) : arrOf (arrV a) = some a := by simp [arrV, arrOf, slK_sl]
theorem arrOf_inv {x : AV} {a : Arr} (h : arrOf x = some a) : ∃ p q, x = .agg [.lit (.string a.e), p, q] ∧ LeA p (.sl false 1 (ints .i64 a.d)) ∧ LeA q (.sl false 1 (ints .i64 a.x)) := by
  unfold arrOf at h
  split at h
  · split at h
    · rename_i h1 h2
      cases h
      exact ⟨_, _, rfl, slK_le h1, slK_le h2⟩
    · cases h
  · cases h
theorem arrOf_le {x : AV} {a : Arr} (h : arrOf x = some a) : LeA x (arrV a) := by
  obtain ⟨p, q, rfl, h1, h2⟩ := arrOf_inv h
  exact LeA.agg ⟨LeA.refl _, h1, h2, trivial⟩
def arrL : List AV → Option (List Arr)
  | [] => some []
  | x :: xs => match arrOf x, arrL xs with
    | some a, some l => some (a :: l)
    | _, _ => none
theorem arrL_nil : arrL [] = some [] := rfl
theorem arrL_cons {x : AV} {xs : List AV} : arrL (x :: xs) = match arrOf x, arrL xs with
    | some a, some l => some (a :: l)
    | _, _ => none := rfl
theorem arrL_arrs : ∀ l : List Arr, arrL (arrs l) = some l
  | [] => rfl
  | a :: l => by
    have := arrL_arrs l
    unfold arrs at this ⊢
    rw [List.map_cons, arrL_cons, arrOf_V, this]
theorem arrL_inv : ∀ {xs : List AV} {l : List Arr}, arrL xs = some l → xs.length = l.length ∧ LeL (flat xs) (flat (arrs l))
  | [], l, h => by cases h; exact ⟨rfl, trivial⟩
  | x :: xs, l, h => by
    rw [arrL_cons] at h
    split at h
    · rename_i a m h1 h2
      cases h
      obtain ⟨e1, e2⟩ := arrL_inv h2
      obtain ⟨p, q, rfl, g1, g2⟩ := arrOf_inv h1
      refine ⟨by simp [e1], ?_⟩
      have : LeL (AV.cells (.agg [.lit (.string a.e), p, q])) (AV.cells (arrV a)) := ⟨LeA.refl _, g1, g2, trivial⟩
      exact LeL.append this e2
    · cases h
theorem arrs_wid (l : List Arr) : ∀ y ∈ arrs l, y.cells.length = 3 := by
  intro y hy
  obtain ⟨a, _, rfl⟩ := List.mem_map.1 hy
  rfl
def arrsOf (x : AV) : Option (List Arr) := (slA 3 x).bind arrL
theorem arrsOf_le {x : AV} {l : List Arr} (h : arrsOf x = some l) : LeA x (.sl false 3 (arrs l)) := by
  unfold arrsOf at h
  cases hx : slA 3 x with
  | none => rw [hx] at h; cases h
  | some xs =>
    rw [hx] at h
    obtain ⟨h1, h2⟩ := arrL_inv (l := l) h
    intro C v hv
    exact LeA.sl (b := false) (by rw [arrs_length]; exact h1) (arrs_wid l) h2 C v (slA_le hx C v hv)
theorem arrsOf_nil : arrsOf (.lit (.slice none 0 0)) = some [] := rfl
theorem arrsOf_sl {b : Bool} {l : List Arr} : arrsOf (.sl b 3 (arrs l)) = some l := by simp [arrsOf, slA, arrL_arrs]
theorem arrsOf_x {b : Bool} {xs : List AV} : arrsOf (.sl b 3 xs) = arrL xs := by simp [arrsOf, slA]
def aeV (p : Arr × Int) : AV := .tup [arrV p.1, .lit (.int .i64 p.2)]
end Go.Proofs.Ytcjjakhmpffopaa

/- Validity of arrays. -/
namespace Go.Proofs.Ytcjjakhmpffopaa
open Go Go.Fw

noncomputable def E3 : Env := envOf (P := Try.prog) zer (fun _ => false) (fun _ => false) [con129] []
theorem E3_ok : EnvOk Try.prog E3 := envOk zer_ok
theorem notel_ec {σ : List AObj} {o : Nat} {e : ByteArray} {n : Int} (ho : σ[o]? = some (.box 9 [.lit (.string e)])) {k : AV → List AObj → Prop} (hk : k (.lit (.bool (!vld e n))) σ) : EC Try.prog 128 [.lit (.int .i64 n), .ref o 0] σ k := by
  refine ec_of E3_ok mixed (fun _ => [0, 1, 3]) Try.func128 rfl (by kernel_rfl) (Nat.le_of_ble_eq_true rfl) ?_
  simp only [initF_cons, initF_nil, Nat.reduceAdd]
  refine t_name fun KF => ?_
  unfold E3
  repeat' (first
   | (with_reducible first | refine t_seq fun K => ?_ | refine t_block ?_ | refine t_scope ?_ | refine t_label ?_ | refine t_skip ?_ | refine t_exit ?_ | refine t_ret ?_ | refine t_k ?_ | refine t_gF ?_ | exact kp_nil | exact Kp.refl _ | exact kp_to | refine kp_cons ?_ | refine kp_arr ?_ | refine kp_app ?_ | refine t_p ?_ | refine t_br (fun hc => ?_) fun hc => ?_)
   | ((with_reducible first | refine t_kE ?_ | refine t_kD ?_ | refine t_gS ?_ | refine t_kL ?_ | refine t_kLF ?_ ?_ | refine t_region fun K => ?_ | refine t_cond fun A B => ?_ | refine t_draw (by kernel_rfl) fun K => ?_); simp only [go_sem, geff, con129_f, con129_c, ho])
   | ((with_reducible refine kp_skip ?_ ?_); rfl) | simp only [thenQ, blockQ, scopeQ, Nat.reduceEqDiff, reduceIte] | (with_reducible first | refine And.intro ?_ ?_ | intro vr))
  refine end_ret rfl ?_
  simp only [go_sem]
  exact hk
noncomputable def con128 : ECon Try.prog where
  f := 128
  c := fun args σ k => match args with
    | [.lit (.int .i64 n), .ref o 0] => match σ[o]? with
      | some (.box 9 [.lit (.string e)]) => k (.lit (.bool (!vld e n))) σ
      | _ => False
    | _ => False
  ok := by
    intro args σ k h
    split at h
    · split at h
      · rename_i ho
        exact notel_ec ho h
      · exact h.elim
    · exact h.elim
  fk := fk128
theorem con128_f : con128.f = 128 := rfl
theorem con128_c {σ : List AObj} {k : AV → List AObj → Prop} {o : Nat} {n : Int} : con128.c [.lit (.int .i64 n), .ref o 0] σ k = match σ[o]? with
      | some (.box 9 [.lit (.string e)]) => k (.lit (.bool (!vld e n))) σ
      | _ => False := rfl
noncomputable def E4 : Env := envOf (P := Try.prog) zer (fun _ => false) (fun _ => false) [] [con128]
theorem E4_ok : EnvOk Try.prog E4 := envOk zer_ok
theorem indexf_ec {σ : List AObj} {o : Nat} {e : ByteArray} {l : List Int} (hl : l.length ≤ 1000000) (ho : σ[o]? = some (.box 9 [.lit (.string e)])) {k : AV → List AObj → Prop} (hk : k (.lit (.int .i64 (idxG (fun n => !vld e n) l 0))) σ) :
    EC Try.prog 130 [.sl false 1 (ints .i64 l), .fn (.func 128) [] [.ref o 0]] σ k := by
  generalize hR : idxG (fun n => !vld e n) l 0 = R at hk
  refine ec_of E4_ok mixed (fun _ => [0, 1, 4, 5, 7, 8, 9, 16]) Try.func130 rfl (by kernel_rfl) (Nat.le_of_ble_eq_true rfl) ?_
  simp only [initF_cons, initF_nil, Nat.reduceAdd]
  refine t_name fun KF => ?_
  unfold E4
  repeat' (first
   | (with_reducible first | refine t_seq fun K => ?_ | refine t_block ?_ | refine t_scope ?_ | refine t_label ?_ | refine t_skip ?_ | refine t_exit ?_ | refine t_ret ?_ | refine t_k ?_ | refine t_gF ?_ | exact kp_nil | exact Kp.refl _ | exact kp_to | refine kp_cons ?_ | refine kp_arr ?_ | refine kp_app ?_ | refine t_p ?_ | refine t_br (fun hc => ?_) fun hc => ?_)
   | ((with_reducible first | refine t_kE ?_ | refine t_kD ?_ | refine t_gS ?_ | refine t_kL ?_ | refine t_kLF ?_ ?_ | refine t_region fun K => ?_ | refine t_cond fun A B => ?_ | refine t_draw (by kernel_rfl) fun K => ?_); simp only [go_sem, geff, con128_f])
   | ((with_reducible refine kp_skip ?_ ?_); rfl) | simp only [thenQ, blockQ, scopeQ, Nat.reduceEqDiff, reduceIte] | (with_reducible first | refine And.intro ?_ ?_ | intro vr))
  refine t_loop (ι := { i : Nat // i ≤ l.length ∧ idxG (fun n => !vld e n) (l.drop i) i = R }) (fun i => ⟨upd (upd (upd (upd topF 8 (.lit (.int .i64 i.1))) 7 (.lit (.int .i64 l.length))) 1 (.fn (.func 128) [] [.ref o 0])) 0 (.sl false 1 (ints .i64 l)), σ⟩) (fun i => l.length - i.1) ⟨0, by omega, hR⟩ ?_ ?_
  · skip
    (refine Le.frame ?_; repeat' (first | exact leF_top _ | (with_reducible refine leF_sl ?_ ?_) | (refine leF_upd (LeR.of_eq ?_) ?_))) <;> (try (simp only [go_sem]; try rfl))
  · rintro ⟨i, hi, hF⟩ K0
    rcases Nat.lt_or_ge i l.length with hc | hc
    · have g1 : decide ((i : Int) < (l.length : Int)) = true := decide_eq_true (by omega)
      have g2 := ints_getD .i64 l i hc
      rw [drop_getD 0 hc, idxG] at hF
      generalize l.getD i 0 = d at g2 hF
      by_cases he : vld e d = true
      · rw [if_neg (by simp [he])] at hF
        repeat' (first
         | (with_reducible first | refine t_seq fun K => ?_ | refine t_block ?_ | refine t_scope ?_ | refine t_label ?_ | refine t_skip ?_ | refine t_exit ?_ | refine t_ret ?_ | refine t_k ?_ | refine t_gF ?_ | exact kp_nil | exact Kp.refl _ | exact kp_to | refine kp_cons ?_ | refine kp_arr ?_ | refine kp_app ?_ | refine t_p ?_ | refine t_br (fun hc => ?_) fun hc => ?_)
         | ((with_reducible first | refine t_kE ?_ | refine t_kD ?_ | refine t_gS ?_ | refine t_kL ?_ | refine t_kLF ?_ ?_ | refine t_region fun K => ?_ | refine t_cond fun A B => ?_ | refine t_draw (by kernel_rfl) fun K => ?_); simp only [go_sem, geff, con128_f, con128_c, ho, g1, g2, he, Int.toNat_natCast, Bool.not_true])
         | ((with_reducible refine kp_skip ?_ ?_); rfl) | simp only [thenQ, blockQ, scopeQ, Nat.reduceEqDiff, reduceIte] | (with_reducible first | refine And.intro ?_ ?_ | intro vr))
        all_goals try (intros; (try simp only [Bool.and_eq_true, Bool.or_eq_true, Bool.not_eq_true', decide_eq_true_eq, decide_eq_false_iff_not, beq_iff_eq, bne_iff_ne, ne_eq, inI64, List.length_append] at *) <;> omega)
        refine ⟨⟨i + 1, by omega, by rw [← hF]; congr 1⟩, by simp only; omega, ?_⟩
        (refine Le.frame ?_; repeat' (first | exact leF_top _ | (with_reducible refine leF_sl ?_ ?_) | (refine leF_upd (LeR.of_eq ?_) ?_))) <;> (try (simp only [go_sem]; try rfl))
      · have he' : vld e d = false := by simpa using he
        rw [if_pos (by simp [he'])] at hF
        subst hF
        repeat' (first
         | (with_reducible first | refine t_seq fun K => ?_ | refine t_block ?_ | refine t_scope ?_ | refine t_label ?_ | refine t_skip ?_ | refine t_exit ?_ | refine t_ret ?_ | refine t_k ?_ | refine t_gF ?_ | exact kp_nil | exact Kp.refl _ | exact kp_to | refine kp_cons ?_ | refine kp_arr ?_ | refine kp_app ?_ | refine t_p ?_ | refine t_br (fun hc => ?_) fun hc => ?_)
         | ((with_reducible first | refine t_kE ?_ | refine t_kD ?_ | refine t_gS ?_ | refine t_kL ?_ | refine t_kLF ?_ ?_ | refine t_region fun K => ?_ | refine t_cond fun A B => ?_ | refine t_draw (by kernel_rfl) fun K => ?_); simp only [go_sem, geff, con128_f, con128_c, ho, g1, g2, he', Int.toNat_natCast, Bool.not_false])
         | ((with_reducible refine kp_skip ?_ ?_); rfl) | simp only [thenQ, blockQ, scopeQ, Nat.reduceEqDiff, reduceIte] | (with_reducible first | refine And.intro ?_ ?_ | intro vr))
        all_goals try (intros; (try simp only [Bool.and_eq_true, Bool.or_eq_true, Bool.not_eq_true', decide_eq_true_eq, decide_eq_false_iff_not, beq_iff_eq, bne_iff_ne, ne_eq, inI64, List.length_append] at *) <;> omega)
        refine end_ret rfl ?_
        simp only [go_sem]
        exact hk
    · have g1 : decide ((i : Int) < (l.length : Int)) = false := decide_eq_false (by omega)
      rw [List.drop_eq_nil_of_le hc, idxG] at hF
      subst hF
      repeat' (first
       | (with_reducible first | refine t_seq fun K => ?_ | refine t_block ?_ | refine t_scope ?_ | refine t_label ?_ | refine t_skip ?_ | refine t_exit ?_ | refine t_ret ?_ | refine t_k ?_ | refine t_gF ?_ | exact kp_nil | exact Kp.refl _ | exact kp_to | refine kp_cons ?_ | refine kp_arr ?_ | refine kp_app ?_ | refine t_p ?_ | refine t_br (fun hc => ?_) fun hc => ?_)
       | ((with_reducible first | refine t_kE ?_ | refine t_kD ?_ | refine t_gS ?_ | refine t_kL ?_ | refine t_kLF ?_ ?_ | refine t_region fun K => ?_ | refine t_cond fun A B => ?_ | refine t_draw (by kernel_rfl) fun K => ?_); simp only [go_sem, geff, con128_f, g1])
       | ((with_reducible refine kp_skip ?_ ?_); rfl) | simp only [thenQ, blockQ, scopeQ, Nat.reduceEqDiff, reduceIte] | (with_reducible first | refine And.intro ?_ ?_ | intro vr))
      refine end_ret rfl ?_
      simp only [go_sem]
      exact hk
noncomputable def con130 : ECon Try.prog where
  f := 130
  c := fun args σ k => match args with
    | [x, .fn (.func 128) [] [.ref o 0]] => match slK .i64 x, σ[o]? with
      | some l, some (.box 9 [.lit (.string e)]) => l.length ≤ 1000000 ∧ k (.lit (.int .i64 (idxG (fun n => !vld e n) l 0))) σ
      | _, _ => False
    | _ => False
  ok := by
    intro args σ k h
    split at h
    · split at h
      · rename_i hx ho
        exact EC.weak (indexf_ec h.1 ho h.2) (LeRL.cons (slK_leR hx) (LeRL.cons (LeR.refl _) LeRL.nil))
      · exact h.elim
    · exact h.elim
  fk := fk130
theorem con130_f : con130.f = 130 := rfl
theorem con130_c {σ : List AObj} {k : AV → List AObj → Prop} {x : AV} {o : Nat} : con130.c [x, .fn (.func 128) [] [.ref o 0]] σ k = match slK .i64 x, σ[o]? with
      | some l, some (.box 9 [.lit (.string e)]) => l.length ≤ 1000000 ∧ k (.lit (.int .i64 (idxG (fun n => !vld e n) l 0))) σ
      | _, _ => False := rfl
noncomputable def E5 : Env := envOf (P := Try.prog) zer (fun _ => false) (fun _ => false) [] [con130]
theorem E5_ok : EnvOk Try.prog E5 := envOk zer_ok
theorem containsf_ec {σ : List AObj} {o : Nat} {e : ByteArray} {l : List Int} (hl : l.length ≤ 1000000) (ho : σ[o]? = some (.box 9 [.lit (.string e)])) {k : AV → List AObj → Prop} (hk : k (.lit (.bool (l.any fun n => !vld e n))) σ) :
    EC Try.prog 127 [.sl false 1 (ints .i64 l), .fn (.func 128) [] [.ref o 0]] σ k := by
  rw [← idxG_any _ l 0 (by omega)] at hk
  refine ec_of E5_ok mixed (fun _ => [0, 1, 4]) Try.func127 rfl (by kernel_rfl) (Nat.le_of_ble_eq_true rfl) ?_
  simp only [initF_cons, initF_nil, Nat.reduceAdd]
  refine t_name fun KF => ?_
  unfold E5
  repeat' (first
   | (with_reducible first | refine t_seq fun K => ?_ | refine t_block ?_ | refine t_scope ?_ | refine t_label ?_ | refine t_skip ?_ | refine t_exit ?_ | refine t_ret ?_ | refine t_k ?_ | refine t_gF ?_ | exact kp_nil | exact Kp.refl _ | exact kp_to | refine kp_cons ?_ | refine kp_arr ?_ | refine kp_app ?_ | refine t_p ?_ | refine t_br (fun hc => ?_) fun hc => ?_)
   | ((with_reducible first | refine t_kE ?_ | refine t_kD ?_ | refine t_gS ?_ | refine t_kL ?_ | refine t_kLF ?_ ?_ | refine t_region fun K => ?_ | refine t_cond fun A B => ?_ | refine t_draw (by kernel_rfl) fun K => ?_); simp only [go_sem, geff, con130_f, con130_c, slK_sl, ho])
   | ((with_reducible refine kp_skip ?_ ?_); rfl) | simp only [thenQ, blockQ, scopeQ, Nat.reduceEqDiff, reduceIte] | (with_reducible first | refine And.intro ?_ ?_ | intro vr))
  all_goals try (intros; (try simp only [Bool.and_eq_true, Bool.or_eq_true, Bool.not_eq_true', decide_eq_true_eq, decide_eq_false_iff_not, beq_iff_eq, bne_iff_ne, ne_eq, inI64, List.length_append] at *) <;> omega)
  refine end_ret rfl ?_
  simp only [go_sem]
  exact hk
noncomputable def con127 : ECon Try.prog where
  f := 127
  c := fun args σ k => match args with
    | [x, .fn (.func 128) [] [.ref o 0]] => match slK .i64 x, σ[o]? with
      | some l, some (.box 9 [.lit (.string e)]) => l.length ≤ 1000000 ∧ k (.lit (.bool (l.any fun n => !vld e n))) σ
      | _, _ => False
    | _ => False
  ok := by
    intro args σ k h
    split at h
    · split at h
      · rename_i hx ho
        exact EC.weak (containsf_ec h.1 ho h.2) (LeRL.cons (slK_leR hx) (LeRL.cons (LeR.refl _) LeRL.nil))
      · exact h.elim
    · exact h.elim
  fk := fk127
theorem con127_f : con127.f = 127 := rfl
theorem con127_c {σ : List AObj} {k : AV → List AObj → Prop} {x : AV} {o : Nat} : con127.c [x, .fn (.func 128) [] [.ref o 0]] σ k = match slK .i64 x, σ[o]? with
      | some l, some (.box 9 [.lit (.string e)]) => l.length ≤ 1000000 ∧ k (.lit (.bool (l.any fun n => !vld e n))) σ
      | _, _ => False := rfl
noncomputable def E6 : Env := envOf (P := Try.prog) zer (fun _ => false) (fun _ => false) [] [con127]
theorem E6_ok : EnvOk Try.prog E6 := envOk zer_ok
theorem elements_pc {e : ByteArray} {l : List Int} (hl : l.length ≤ 1000000) : PC Try.prog 122 [.lit (.string e), .sl false 1 (ints .i64 l)] (.lit (.bool (!(l.any fun n => !vld e n)))) := by
  refine pc_of E6_ok mixed (fun _ => [0, 1, 2, 4]) Try.func122 rfl (by kernel_rfl) (Nat.le_of_ble_eq_true rfl) ?_
  simp only [initF_cons, initF_nil, Nat.reduceAdd]
  refine t_name fun KF => ?_
  unfold E6
  repeat' (first
   | (with_reducible first | refine t_seq fun K => ?_ | refine t_block ?_ | refine t_scope ?_ | refine t_label ?_ | refine t_skip ?_ | refine t_exit ?_ | refine t_ret ?_ | refine t_k ?_ | refine t_gF ?_ | exact kp_nil | exact Kp.refl _ | exact kp_to | refine kp_cons ?_ | refine kp_arr ?_ | refine kp_app ?_ | refine t_p ?_ | refine t_br (fun hc => ?_) fun hc => ?_)
   | ((with_reducible first | refine t_kE ?_ | refine t_kD ?_ | refine t_gS ?_ | refine t_kL ?_ | refine t_kLF ?_ ?_ | refine t_region fun K => ?_ | refine t_cond fun A B => ?_ | refine t_draw (by kernel_rfl) fun K => ?_); simp only [go_sem, geff, con127_f, con127_c, slK_sl])
   | ((with_reducible refine kp_skip ?_ ?_); rfl) | simp only [thenQ, blockQ, scopeQ, Nat.reduceEqDiff, reduceIte] | (with_reducible first | refine And.intro ?_ ?_ | intro vr))
  all_goals try (intros; (try simp only [Bool.and_eq_true, Bool.or_eq_true, Bool.not_eq_true', decide_eq_true_eq, decide_eq_false_iff_not, beq_iff_eq, bne_iff_ne, ne_eq, inI64, List.length_append] at *) <;> omega)
  refine end_ret rfl ?_
  simp only [fin, go_sem]
  exact LeA.refl _
noncomputable def con122 : PCon Try.prog where
  f := 122
  c := fun
    | [.lit (.string e), xl] => match slK .i64 xl with | some l => some (l.length ≤ 1000000, .lit (.bool (!(l.any fun n => !vld e n)))) | _ => none
    | _ => none
  ok := by
    intro args p r hc hp
    split at hc
    · split at hc
      · rename_i hl
        cases hc
        exact PC.weak (elements_pc hp) ⟨LeA.refl _, slK_le hl, trivial⟩
      · cases hc
    · cases hc
  fk := fk122
theorem con122_f : con122.f = 122 := rfl
theorem con122_c {e : ByteArray} {xl : AV} : con122.c [.lit (.string e), xl] = match slK .i64 xl with | some l => some (l.length ≤ 1000000, .lit (.bool (!(l.any fun n => !vld e n)))) | _ => none := rfl
theorem szV_def {p : Int × Int} : szV p = .tup [.lit (.int .i64 p.1), .lit (.int .i64 p.2)] := rfl
theorem arrV_def {a : Arr} : arrV a = .agg [.lit (.string a.e), .sl false 1 (ints .i64 a.d), .sl false 1 (ints .i64 a.x)] := rfl
theorem nilA_le : LeA (.agg [.lit (.string ByteArray.empty), .sl true 1 [], .sl true 1 []]) (arrV nilA) := LeA.agg ⟨LeA.of_eq rfl, LeA.full _ _ _, LeA.full _ _ _, trivial⟩
theorem nilAe_le {e : Int} : LeA (.tup [.agg [.lit (.string ByteArray.empty), .sl true 1 [], .sl true 1 []], .lit (.int .i64 e)]) (aeV (nilA, e)) := LeA.tup ⟨nilA_le, LeA.refl _, trivial⟩
def tyOk (e : ByteArray) : Bool := eqS e ⟨#[105, 110, 116]⟩ || eqS e ⟨#[98, 111, 111, 108]⟩
def bad (a : Arr) : Bool := a.x.any fun n => !vld a.e n
theorem ofE_ty {a : Arr} (h : tyOk a.e = false) : ofE a = 12 := if_pos h
theorem ofE_sz {a : Arr} (h : tyOk a.e = true) (h2 : (sizeS a.d).2 ≠ 0) : ofE a = (sizeS a.d).2 := by
  unfold ofE; rw [if_neg (show ¬ (eqS a.e sInt || eqS a.e sBool) = false from fun e => by have e : tyOk a.e = false := e; rw [h] at e; cases e), if_pos h2]
theorem ofE_len {a : Arr} (h : tyOk a.e = true) (h2 : (sizeS a.d).2 = 0) (h3 : (a.x.length : Int) ≠ (sizeS a.d).1) : ofE a = 1 := by
  unfold ofE; rw [if_neg (show ¬ (eqS a.e sInt || eqS a.e sBool) = false from fun e => by have e : tyOk a.e = false := e; rw [h] at e; cases e), if_neg (by simpa using h2), if_pos h3]
theorem ofE_el {a : Arr} (h : tyOk a.e = true) (h2 : (sizeS a.d).2 = 0) (h3 : (a.x.length : Int) = (sizeS a.d).1) : ofE a = if bad a = true then 2 else 0 := by
  unfold ofE; rw [if_neg (show ¬ (eqS a.e sInt || eqS a.e sBool) = false from fun e => by have e : tyOk a.e = false := e; rw [h] at e; cases e), if_neg (by simpa using h2), if_neg (by simpa using h3)]; rfl
theorem ofS_err {a : Arr} {e : Int} (h : ofE a = e) (h0 : e ≠ 0) : ofS a = (nilA, e) := by unfold ofS; rw [h, if_neg h0]
theorem ofS_ok {a : Arr} (h : ofE a = 0) : ofS a = (a, 0) := by unfold ofS; rw [if_pos h]
noncomputable def E7 : Env := envOf (P := Try.prog) zer (fun _ => false) (fun _ => false) [con61, con65, con122] []
theorem E7_ok : EnvOk Try.prog E7 := envOk zer_ok
set_option maxRecDepth 20000 in
set_option maxHeartbeats 2000000 in
theorem of_pc {e : ByteArray} {d x : List Int} (hd : d.length ≤ 1000000) (hx : x.length ≤ 1000000) : PC Try.prog 89 [.lit (.string e), .sl false 1 (ints .i64 d), .sl false 1 (ints .i64 x)] (aeV (ofS ⟨e, d, x⟩)) := by
  have hz := sizeS_bd d
  by_cases t : tyOk e = true
  · generalize hS : sizeS d = s at hz
    obtain ⟨n, er⟩ := s
    simp only at hz
    have hS1 : (sizeS d).1 = n := by rw [hS]
    have hS2 : (sizeS d).2 = er := by rw [hS]
    by_cases t1 : eqS e ⟨#[105, 110, 116]⟩ = true
    · skip
      by_cases e0 : er = 0
      · subst e0
        by_cases hn : (x.length : Int) = n
        · have n1 : ((x.length : Int) != n) = false := by rw [bne_eq_false_iff_eq]; exact hn
          by_cases hb : bad ⟨e, d, x⟩ = true
          · rw [ofS_err (e := 2) (by rw [ofE_el t hS2 (by rw [hS1]; exact hn), if_pos hb]) (by decide)]
            have hb' : (x.any fun n => !vld e n) = true := hb
            refine pc_of E7_ok mixed (fun _ => [0, 1, 2, 6, 7, 8, 9, 15, 22, 27, 33]) Try.func89 rfl (by kernel_rfl) (Nat.le_of_ble_eq_true rfl) ?_
            simp only [initF_cons, initF_nil, Nat.reduceAdd]
            refine t_name fun KF => ?_
            unfold E7
            repeat' (first
             | (with_reducible first | refine t_seq fun K => ?_ | refine t_block ?_ | refine t_scope ?_ | refine t_label ?_ | refine t_skip ?_ | refine t_exit ?_ | refine t_ret ?_ | refine t_k ?_ | refine t_gF ?_ | exact kp_nil | exact Kp.refl _ | exact kp_to | refine kp_cons ?_ | refine kp_arr ?_ | refine kp_app ?_ | refine t_p ?_ | refine t_br (fun hc => ?_) fun hc => ?_)
             | ((with_reducible first | refine t_kE ?_ | refine t_kD ?_ | refine t_gS ?_ | refine t_kL ?_ | refine t_kLF ?_ ?_ | refine t_region fun K => ?_ | refine t_cond fun A B => ?_ | refine t_draw (by kernel_rfl) fun K => ?_); simp only [go_sem, geff, con61_f, con65_f, con122_f, con61_c, con65_c, con122_c, slK_sl, t1, hS, szV_def, n1, hb', Bool.not_true])
             | ((with_reducible refine kp_skip ?_ ?_); rfl) | simp only [thenQ, blockQ, scopeQ, Nat.reduceEqDiff, reduceIte] | (with_reducible first | refine And.intro ?_ ?_ | intro vr))
            all_goals try (intros; (try simp only [Bool.and_eq_true, Bool.or_eq_true, Bool.not_eq_true', decide_eq_true_eq, decide_eq_false_iff_not, beq_iff_eq, bne_iff_ne, ne_eq, inI64, List.length_append] at *) <;> omega)
            refine end_ret rfl ?_
            simp only [fin, go_sem]
            exact nilAe_le
          · rw [ofS_ok (by rw [ofE_el t hS2 (by rw [hS1]; exact hn), if_neg hb])]
            have hb' : (x.any fun n => !vld e n) = false := Bool.eq_false_iff.2 hb
            refine pc_of E7_ok mixed (fun _ => [0, 1, 2, 6, 7, 8, 9, 15, 22, 27, 33]) Try.func89 rfl (by kernel_rfl) (Nat.le_of_ble_eq_true rfl) ?_
            simp only [initF_cons, initF_nil, Nat.reduceAdd]
            refine t_name fun KF => ?_
            unfold E7
            repeat' (first
             | (with_reducible first | refine t_seq fun K => ?_ | refine t_block ?_ | refine t_scope ?_ | refine t_label ?_ | refine t_skip ?_ | refine t_exit ?_ | refine t_ret ?_ | refine t_k ?_ | refine t_gF ?_ | exact kp_nil | exact Kp.refl _ | exact kp_to | refine kp_cons ?_ | refine kp_arr ?_ | refine kp_app ?_ | refine t_p ?_ | refine t_br (fun hc => ?_) fun hc => ?_)
             | ((with_reducible first | refine t_kE ?_ | refine t_kD ?_ | refine t_gS ?_ | refine t_kL ?_ | refine t_kLF ?_ ?_ | refine t_region fun K => ?_ | refine t_cond fun A B => ?_ | refine t_draw (by kernel_rfl) fun K => ?_); simp only [go_sem, geff, con61_f, con65_f, con122_f, con61_c, con65_c, con122_c, slK_sl, t1, hS, szV_def, n1, hb', Bool.not_false])
             | ((with_reducible refine kp_skip ?_ ?_); rfl) | simp only [thenQ, blockQ, scopeQ, Nat.reduceEqDiff, reduceIte] | (with_reducible first | refine And.intro ?_ ?_ | intro vr))
            all_goals try (intros; (try simp only [Bool.and_eq_true, Bool.or_eq_true, Bool.not_eq_true', decide_eq_true_eq, decide_eq_false_iff_not, beq_iff_eq, bne_iff_ne, ne_eq, inI64, List.length_append] at *) <;> omega)
            refine end_ret rfl ?_
            simp only [fin, go_sem]
            exact LeA.refl _
        · have n1 : ((x.length : Int) != n) = true := by rw [bne_iff_ne]; exact hn
          rw [ofS_err (e := 1) (ofE_len t hS2 (by rw [hS1]; exact hn)) (by decide)]
          refine pc_of E7_ok mixed (fun _ => [0, 1, 2, 6, 7, 8, 9, 15, 22, 27, 33]) Try.func89 rfl (by kernel_rfl) (Nat.le_of_ble_eq_true rfl) ?_
          simp only [initF_cons, initF_nil, Nat.reduceAdd]
          refine t_name fun KF => ?_
          unfold E7
          repeat' (first
           | (with_reducible first | refine t_seq fun K => ?_ | refine t_block ?_ | refine t_scope ?_ | refine t_label ?_ | refine t_skip ?_ | refine t_exit ?_ | refine t_ret ?_ | refine t_k ?_ | refine t_gF ?_ | exact kp_nil | exact Kp.refl _ | exact kp_to | refine kp_cons ?_ | refine kp_arr ?_ | refine kp_app ?_ | refine t_p ?_ | refine t_br (fun hc => ?_) fun hc => ?_)
           | ((with_reducible first | refine t_kE ?_ | refine t_kD ?_ | refine t_gS ?_ | refine t_kL ?_ | refine t_kLF ?_ ?_ | refine t_region fun K => ?_ | refine t_cond fun A B => ?_ | refine t_draw (by kernel_rfl) fun K => ?_); simp only [go_sem, geff, con61_f, con65_f, con122_f, con61_c, con65_c, con122_c, slK_sl, t1, hS, szV_def, n1])
           | ((with_reducible refine kp_skip ?_ ?_); rfl) | simp only [thenQ, blockQ, scopeQ, Nat.reduceEqDiff, reduceIte] | (with_reducible first | refine And.intro ?_ ?_ | intro vr))
          all_goals try (intros; (try simp only [Bool.and_eq_true, Bool.or_eq_true, Bool.not_eq_true', decide_eq_true_eq, decide_eq_false_iff_not, beq_iff_eq, bne_iff_ne, ne_eq, inI64, List.length_append] at *) <;> omega)
          refine end_ret rfl ?_
          simp only [fin, go_sem]
          exact nilAe_le
      · have e1 : (er != 0) = true := by rw [bne_iff_ne]; exact e0
        rw [ofS_err (by rw [ofE_sz t (by rw [hS2]; exact e0)]) (by rw [hS2]; exact e0)]
        refine pc_of E7_ok mixed (fun _ => [0, 1, 2, 6, 7, 8, 9, 15, 22, 27, 33]) Try.func89 rfl (by kernel_rfl) (Nat.le_of_ble_eq_true rfl) ?_
        simp only [initF_cons, initF_nil, Nat.reduceAdd]
        refine t_name fun KF => ?_
        unfold E7
        repeat' (first
         | (with_reducible first | refine t_seq fun K => ?_ | refine t_block ?_ | refine t_scope ?_ | refine t_label ?_ | refine t_skip ?_ | refine t_exit ?_ | refine t_ret ?_ | refine t_k ?_ | refine t_gF ?_ | exact kp_nil | exact Kp.refl _ | exact kp_to | refine kp_cons ?_ | refine kp_arr ?_ | refine kp_app ?_ | refine t_p ?_ | refine t_br (fun hc => ?_) fun hc => ?_)
         | ((with_reducible first | refine t_kE ?_ | refine t_kD ?_ | refine t_gS ?_ | refine t_kL ?_ | refine t_kLF ?_ ?_ | refine t_region fun K => ?_ | refine t_cond fun A B => ?_ | refine t_draw (by kernel_rfl) fun K => ?_); simp only [go_sem, geff, con61_f, con65_f, con122_f, con61_c, con65_c, con122_c, slK_sl, t1, hS, szV_def, e1])
         | ((with_reducible refine kp_skip ?_ ?_); rfl) | simp only [thenQ, blockQ, scopeQ, Nat.reduceEqDiff, reduceIte] | (with_reducible first | refine And.intro ?_ ?_ | intro vr))
        all_goals try (intros; (try simp only [Bool.and_eq_true, Bool.or_eq_true, Bool.not_eq_true', decide_eq_true_eq, decide_eq_false_iff_not, beq_iff_eq, bne_iff_ne, ne_eq, inI64, List.length_append] at *) <;> omega)
        refine end_ret rfl ?_
        simp only [fin, go_sem, hS]
        exact nilAe_le
    · have t2 : eqS e ⟨#[98, 111, 111, 108]⟩ = true := by unfold tyOk at t; rw [Bool.or_eq_true] at t; exact t.resolve_left t1
      have t1' : eqS e ⟨#[105, 110, 116]⟩ = false := by simpa using t1
      by_cases e0 : er = 0
      · subst e0
        by_cases hn : (x.length : Int) = n
        · have n1 : ((x.length : Int) != n) = false := by rw [bne_eq_false_iff_eq]; exact hn
          by_cases hb : bad ⟨e, d, x⟩ = true
          · rw [ofS_err (e := 2) (by rw [ofE_el t hS2 (by rw [hS1]; exact hn), if_pos hb]) (by decide)]
            have hb' : (x.any fun n => !vld e n) = true := hb
            refine pc_of E7_ok mixed (fun _ => [0, 1, 2, 6, 7, 8, 9, 15, 22, 27, 33]) Try.func89 rfl (by kernel_rfl) (Nat.le_of_ble_eq_true rfl) ?_
            simp only [initF_cons, initF_nil, Nat.reduceAdd]
            refine t_name fun KF => ?_
            unfold E7
            repeat' (first
             | (with_reducible first | refine t_seq fun K => ?_ | refine t_block ?_ | refine t_scope ?_ | refine t_label ?_ | refine t_skip ?_ | refine t_exit ?_ | refine t_ret ?_ | refine t_k ?_ | refine t_gF ?_ | exact kp_nil | exact Kp.refl _ | exact kp_to | refine kp_cons ?_ | refine kp_arr ?_ | refine kp_app ?_ | refine t_p ?_ | refine t_br (fun hc => ?_) fun hc => ?_)
             | ((with_reducible first | refine t_kE ?_ | refine t_kD ?_ | refine t_gS ?_ | refine t_kL ?_ | refine t_kLF ?_ ?_ | refine t_region fun K => ?_ | refine t_cond fun A B => ?_ | refine t_draw (by kernel_rfl) fun K => ?_); simp only [go_sem, geff, con61_f, con65_f, con122_f, con61_c, con65_c, con122_c, slK_sl, t1', t2, hS, szV_def, n1, hb', Bool.not_true])
             | ((with_reducible refine kp_skip ?_ ?_); rfl) | simp only [thenQ, blockQ, scopeQ, Nat.reduceEqDiff, reduceIte] | (with_reducible first | refine And.intro ?_ ?_ | intro vr))
            all_goals try (intros; (try simp only [Bool.and_eq_true, Bool.or_eq_true, Bool.not_eq_true', decide_eq_true_eq, decide_eq_false_iff_not, beq_iff_eq, bne_iff_ne, ne_eq, inI64, List.length_append] at *) <;> omega)
            refine end_ret rfl ?_
            simp only [fin, go_sem]
            exact nilAe_le
          · rw [ofS_ok (by rw [ofE_el t hS2 (by rw [hS1]; exact hn), if_neg hb])]
            have hb' : (x.any fun n => !vld e n) = false := Bool.eq_false_iff.2 hb
            refine pc_of E7_ok mixed (fun _ => [0, 1, 2, 6, 7, 8, 9, 15, 22, 27, 33]) Try.func89 rfl (by kernel_rfl) (Nat.le_of_ble_eq_true rfl) ?_
            simp only [initF_cons, initF_nil, Nat.reduceAdd]
            refine t_name fun KF => ?_
            unfold E7
            repeat' (first
             | (with_reducible first | refine t_seq fun K => ?_ | refine t_block ?_ | refine t_scope ?_ | refine t_label ?_ | refine t_skip ?_ | refine t_exit ?_ | refine t_ret ?_ | refine t_k ?_ | refine t_gF ?_ | exact kp_nil | exact Kp.refl _ | exact kp_to | refine kp_cons ?_ | refine kp_arr ?_ | refine kp_app ?_ | refine t_p ?_ | refine t_br (fun hc => ?_) fun hc => ?_)
             | ((with_reducible first | refine t_kE ?_ | refine t_kD ?_ | refine t_gS ?_ | refine t_kL ?_ | refine t_kLF ?_ ?_ | refine t_region fun K => ?_ | refine t_cond fun A B => ?_ | refine t_draw (by kernel_rfl) fun K => ?_); simp only [go_sem, geff, con61_f, con65_f, con122_f, con61_c, con65_c, con122_c, slK_sl, t1', t2, hS, szV_def, n1, hb', Bool.not_false])
             | ((with_reducible refine kp_skip ?_ ?_); rfl) | simp only [thenQ, blockQ, scopeQ, Nat.reduceEqDiff, reduceIte] | (with_reducible first | refine And.intro ?_ ?_ | intro vr))
            all_goals try (intros; (try simp only [Bool.and_eq_true, Bool.or_eq_true, Bool.not_eq_true', decide_eq_true_eq, decide_eq_false_iff_not, beq_iff_eq, bne_iff_ne, ne_eq, inI64, List.length_append] at *) <;> omega)
            refine end_ret rfl ?_
            simp only [fin, go_sem]
            exact LeA.refl _
        · have n1 : ((x.length : Int) != n) = true := by rw [bne_iff_ne]; exact hn
          rw [ofS_err (e := 1) (ofE_len t hS2 (by rw [hS1]; exact hn)) (by decide)]
          refine pc_of E7_ok mixed (fun _ => [0, 1, 2, 6, 7, 8, 9, 15, 22, 27, 33]) Try.func89 rfl (by kernel_rfl) (Nat.le_of_ble_eq_true rfl) ?_
          simp only [initF_cons, initF_nil, Nat.reduceAdd]
          refine t_name fun KF => ?_
          unfold E7
          repeat' (first
           | (with_reducible first | refine t_seq fun K => ?_ | refine t_block ?_ | refine t_scope ?_ | refine t_label ?_ | refine t_skip ?_ | refine t_exit ?_ | refine t_ret ?_ | refine t_k ?_ | refine t_gF ?_ | exact kp_nil | exact Kp.refl _ | exact kp_to | refine kp_cons ?_ | refine kp_arr ?_ | refine kp_app ?_ | refine t_p ?_ | refine t_br (fun hc => ?_) fun hc => ?_)
           | ((with_reducible first | refine t_kE ?_ | refine t_kD ?_ | refine t_gS ?_ | refine t_kL ?_ | refine t_kLF ?_ ?_ | refine t_region fun K => ?_ | refine t_cond fun A B => ?_ | refine t_draw (by kernel_rfl) fun K => ?_); simp only [go_sem, geff, con61_f, con65_f, con122_f, con61_c, con65_c, con122_c, slK_sl, t1', t2, hS, szV_def, n1])
           | ((with_reducible refine kp_skip ?_ ?_); rfl) | simp only [thenQ, blockQ, scopeQ, Nat.reduceEqDiff, reduceIte] | (with_reducible first | refine And.intro ?_ ?_ | intro vr))
          all_goals try (intros; (try simp only [Bool.and_eq_true, Bool.or_eq_true, Bool.not_eq_true', decide_eq_true_eq, decide_eq_false_iff_not, beq_iff_eq, bne_iff_ne, ne_eq, inI64, List.length_append] at *) <;> omega)
          refine end_ret rfl ?_
          simp only [fin, go_sem]
          exact nilAe_le
      · have e1 : (er != 0) = true := by rw [bne_iff_ne]; exact e0
        rw [ofS_err (by rw [ofE_sz t (by rw [hS2]; exact e0)]) (by rw [hS2]; exact e0)]
        refine pc_of E7_ok mixed (fun _ => [0, 1, 2, 6, 7, 8, 9, 15, 22, 27, 33]) Try.func89 rfl (by kernel_rfl) (Nat.le_of_ble_eq_true rfl) ?_
        simp only [initF_cons, initF_nil, Nat.reduceAdd]
        refine t_name fun KF => ?_
        unfold E7
        repeat' (first
         | (with_reducible first | refine t_seq fun K => ?_ | refine t_block ?_ | refine t_scope ?_ | refine t_label ?_ | refine t_skip ?_ | refine t_exit ?_ | refine t_ret ?_ | refine t_k ?_ | refine t_gF ?_ | exact kp_nil | exact Kp.refl _ | exact kp_to | refine kp_cons ?_ | refine kp_arr ?_ | refine kp_app ?_ | refine t_p ?_ | refine t_br (fun hc => ?_) fun hc => ?_)
         | ((with_reducible first | refine t_kE ?_ | refine t_kD ?_ | refine t_gS ?_ | refine t_kL ?_ | refine t_kLF ?_ ?_ | refine t_region fun K => ?_ | refine t_cond fun A B => ?_ | refine t_draw (by kernel_rfl) fun K => ?_); simp only [go_sem, geff, con61_f, con65_f, con122_f, con61_c, con65_c, con122_c, slK_sl, t1', t2, hS, szV_def, e1])
         | ((with_reducible refine kp_skip ?_ ?_); rfl) | simp only [thenQ, blockQ, scopeQ, Nat.reduceEqDiff, reduceIte] | (with_reducible first | refine And.intro ?_ ?_ | intro vr))
        all_goals try (intros; (try simp only [Bool.and_eq_true, Bool.or_eq_true, Bool.not_eq_true', decide_eq_true_eq, decide_eq_false_iff_not, beq_iff_eq, bne_iff_ne, ne_eq, inI64, List.length_append] at *) <;> omega)
        refine end_ret rfl ?_
        simp only [fin, go_sem, hS]
        exact nilAe_le
  · have t' : tyOk e = false := by simpa using t
    have t1 : eqS e ⟨#[105, 110, 116]⟩ = false := (Bool.or_eq_false_iff.1 t').1
    have t2 : eqS e ⟨#[98, 111, 111, 108]⟩ = false := (Bool.or_eq_false_iff.1 t').2
    rw [ofS_err (ofE_ty t') (by decide)]
    refine pc_of E7_ok mixed (fun _ => [0, 1, 2, 6, 7, 8, 9, 15, 22, 27, 33]) Try.func89 rfl (by kernel_rfl) (Nat.le_of_ble_eq_true rfl) ?_
    simp only [initF_cons, initF_nil, Nat.reduceAdd]
    refine t_name fun KF => ?_
    unfold E7
    repeat' (first
     | (with_reducible first | refine t_seq fun K => ?_ | refine t_block ?_ | refine t_scope ?_ | refine t_label ?_ | refine t_skip ?_ | refine t_exit ?_ | refine t_ret ?_ | refine t_k ?_ | refine t_gF ?_ | exact kp_nil | exact Kp.refl _ | exact kp_to | refine kp_cons ?_ | refine kp_arr ?_ | refine kp_app ?_ | refine t_p ?_ | refine t_br (fun hc => ?_) fun hc => ?_)
     | ((with_reducible first | refine t_kE ?_ | refine t_kD ?_ | refine t_gS ?_ | refine t_kL ?_ | refine t_kLF ?_ ?_ | refine t_region fun K => ?_ | refine t_cond fun A B => ?_ | refine t_draw (by kernel_rfl) fun K => ?_); simp only [go_sem, geff, con61_f, con65_f, con122_f, con61_c, con65_c, con122_c, t1, t2])
     | ((with_reducible refine kp_skip ?_ ?_); rfl) | simp only [thenQ, blockQ, scopeQ, Nat.reduceEqDiff, reduceIte] | (with_reducible first | refine And.intro ?_ ?_ | intro vr))
    all_goals try (intros; (try simp only [Bool.and_eq_true, Bool.or_eq_true, Bool.not_eq_true', decide_eq_true_eq, decide_eq_false_iff_not, beq_iff_eq, bne_iff_ne, ne_eq, inI64, List.length_append] at *) <;> omega)
    refine end_ret rfl ?_
    simp only [fin, go_sem]
    exact nilAe_le
noncomputable def con89 : PCon Try.prog where
  f := 89
  c := fun
    | [.lit (.string e), xd, xx] => match slK .i64 xd, slK .i64 xx with | some d, some x => some (d.length ≤ 1000000 ∧ x.length ≤ 1000000, aeV (ofS ⟨e, d, x⟩)) | _, _ => none
    | _ => none
  ok := by
    intro args p r hc hp
    split at hc
    · split at hc
      · rename_i hd hx
        cases hc
        exact PC.weak ((fun hp : _ ∧ _ => of_pc hp.1 hp.2) hp) ⟨LeA.refl _, slK_le hd, slK_le hx, trivial⟩
      · cases hc
    · cases hc
  fk := fk89
theorem con89_f : con89.f = 89 := rfl
theorem con89_c {e : ByteArray} {xd : AV} {xx : AV} : con89.c [.lit (.string e), xd, xx] = match slK .i64 xd, slK .i64 xx with | some d, some x => some (d.length ≤ 1000000 ∧ x.length ≤ 1000000, aeV (ofS ⟨e, d, x⟩)) | _, _ => none := rfl
noncomputable def E8 : Env := envOf (P := Try.prog) zer (fun _ => false) (fun _ => false) [con62, con30, con90] []
theorem E8_ok : EnvOk Try.prog E8 := envOk zer_ok
set_option maxRecDepth 20000 in
set_option maxHeartbeats 2000000 in
theorem rof_pc {e : ByteArray} {d x : List Int} (hd : d.length ≤ 1000000) (hx : x.length ≤ 1000000) : PC Try.prog 63 [.lit (.string e), .sl false 1 (ints .i64 d), .sl false 1 (ints .i64 x)] (aeV (ofS ⟨e, d, x⟩)) := by
  have hz := sizeS_bd d
  by_cases t : tyOk e = true
  · generalize hS : sizeS d = s at hz
    obtain ⟨n, er⟩ := s
    simp only at hz
    have hS1 : (sizeS d).1 = n := by rw [hS]
    have hS2 : (sizeS d).2 = er := by rw [hS]
    by_cases t1 : eqS e ⟨#[105, 110, 116]⟩ = true
    · skip
      by_cases e0 : er = 0
      · subst e0
        by_cases hn : (x.length : Int) = n
        · have n1 : ((x.length : Int) != n) = false := by rw [bne_eq_false_iff_eq]; exact hn
          have hO := ofE_el (a := ⟨e, d, x⟩) t hS2 (by rw [hS1]; exact hn)
          unfold bad at hO
          simp only at hO
          generalize hB : (x.any fun n => !vld e n) = Bb at hO
          generalize hG : aeV (ofS ⟨e, d, x⟩) = G
          refine pc_of E8_ok mixed (fun _ => [0, 1, 2, 6, 7, 8, 9, 10, 16, 24, 30, 35, 44]) Try.func63 rfl (by kernel_rfl) (Nat.le_of_ble_eq_true rfl) ?_
          simp only [initF_cons, initF_nil, Nat.reduceAdd]
          refine t_name fun KF => ?_
          unfold E8
          repeat' (first
           | (with_reducible first | refine t_seq fun K => ?_ | refine t_block ?_ | refine t_scope ?_ | refine t_label ?_ | refine t_skip ?_ | refine t_exit ?_ | refine t_ret ?_ | refine t_k ?_ | refine t_gF ?_ | exact kp_nil | exact Kp.refl _ | exact kp_to | refine kp_cons ?_ | refine kp_arr ?_ | refine kp_app ?_ | refine t_p ?_ | refine t_br (fun hc => ?_) fun hc => ?_)
           | ((with_reducible first | refine t_kE ?_ | refine t_kD ?_ | refine t_gS ?_ | refine t_kL ?_ | refine t_kLF ?_ ?_ | refine t_region fun K => ?_ | refine t_cond fun A B => ?_ | refine t_draw (by kernel_rfl) fun K => ?_); simp only [go_sem, geff, con62_f, con30_f, con90_f, con62_c, con30_c, con90_c, slK_sl, t1, hS, szV_def, n1])
           | ((with_reducible refine kp_skip ?_ ?_); rfl) | simp only [thenQ, blockQ, scopeQ, Nat.reduceEqDiff, reduceIte] | (with_reducible first | refine And.intro ?_ ?_ | intro vr))
          all_goals try (intros; (try simp only [Bool.and_eq_true, Bool.or_eq_true, Bool.not_eq_true', decide_eq_true_eq, decide_eq_false_iff_not, beq_iff_eq, bne_iff_ne, ne_eq, inI64, List.length_append] at *) <;> omega)
          refine t_loop (ι := { i : Nat // i ≤ x.length ∧ ((x.drop i).any fun n => !vld e n) = Bb }) (fun i => ⟨upd (upd (upd (upd (upd topF 10 (.lit (.int .i64 i.1))) 6 (.ref 0 0)) 2 (.sl false 1 (ints .i64 x))) 1 (.sl false 1 (ints .i64 d))) 0 (.lit (.string e)), [AObj.box 33 [AV.lit (Value.string ByteArray.empty), AV.sl true 1 [], AV.sl true 1 []]]⟩) (fun i => x.length - i.1) ⟨0, by omega, hB⟩ ?_ ?_
          · skip
            (refine Le.frame ?_; repeat' (first | exact leF_top _ | (with_reducible refine leF_sl ?_ ?_) | (refine leF_upd (LeR.of_eq ?_) ?_))) <;> (try (simp only [go_sem]; try rfl))
          · rintro ⟨i, hi, hF⟩ K0
            rcases Nat.lt_or_ge i x.length with hc | hc
            · have g1 : decide ((i : Int) < (x.length : Int)) = true := decide_eq_true (by omega)
              have g2 := ints_getD .i64 x i hc
              rw [drop_getD 0 hc, List.any_cons] at hF
              generalize x.getD i 0 = v at g2 hF
              by_cases hv : vld e v = true
              · rw [hv, Bool.not_true, Bool.false_or] at hF
                repeat' (first
                 | (with_reducible first | refine t_seq fun K => ?_ | refine t_block ?_ | refine t_scope ?_ | refine t_label ?_ | refine t_skip ?_ | refine t_exit ?_ | refine t_ret ?_ | refine t_k ?_ | refine t_gF ?_ | exact kp_nil | exact Kp.refl _ | exact kp_to | refine kp_cons ?_ | refine kp_arr ?_ | refine kp_app ?_ | refine t_p ?_ | refine t_br (fun hc => ?_) fun hc => ?_)
                 | ((with_reducible first | refine t_kE ?_ | refine t_kD ?_ | refine t_gS ?_ | refine t_kL ?_ | refine t_kLF ?_ ?_ | refine t_region fun K => ?_ | refine t_cond fun A B => ?_ | refine t_draw (by kernel_rfl) fun K => ?_); simp only [go_sem, geff, con62_f, con30_f, con90_f, con62_c, con30_c, con90_c, g1, g2, hv, Int.toNat_natCast, Bool.not_true])
                 | ((with_reducible refine kp_skip ?_ ?_); rfl) | simp only [thenQ, blockQ, scopeQ, Nat.reduceEqDiff, reduceIte] | (with_reducible first | refine And.intro ?_ ?_ | intro vr))
                all_goals try (intros; (try simp only [Bool.and_eq_true, Bool.or_eq_true, Bool.not_eq_true', decide_eq_true_eq, decide_eq_false_iff_not, beq_iff_eq, bne_iff_ne, ne_eq, inI64, List.length_append] at *) <;> omega)
                refine ⟨⟨i + 1, by omega, hF⟩, by simp only; omega, ?_⟩
                (refine Le.frame ?_; repeat' (first | exact leF_top _ | (with_reducible refine leF_sl ?_ ?_) | (refine leF_upd (LeR.of_eq ?_) ?_))) <;> (try (simp only [go_sem]; try rfl))
              · have hv' : vld e v = false := by simpa using hv
                rw [hv', Bool.not_false, Bool.true_or] at hF
                subst hF
                rw [if_pos rfl] at hO
                rw [ofS_err hO (by decide)] at hG
                subst hG
                repeat' (first
                 | (with_reducible first | refine t_seq fun K => ?_ | refine t_block ?_ | refine t_scope ?_ | refine t_label ?_ | refine t_skip ?_ | refine t_exit ?_ | refine t_ret ?_ | refine t_k ?_ | refine t_gF ?_ | exact kp_nil | exact Kp.refl _ | exact kp_to | refine kp_cons ?_ | refine kp_arr ?_ | refine kp_app ?_ | refine t_p ?_ | refine t_br (fun hc => ?_) fun hc => ?_)
                 | ((with_reducible first | refine t_kE ?_ | refine t_kD ?_ | refine t_gS ?_ | refine t_kL ?_ | refine t_kLF ?_ ?_ | refine t_region fun K => ?_ | refine t_cond fun A B => ?_ | refine t_draw (by kernel_rfl) fun K => ?_); simp only [go_sem, geff, con62_f, con30_f, con90_f, con62_c, con30_c, con90_c, g1, g2, hv', Int.toNat_natCast, Bool.not_false])
                 | ((with_reducible refine kp_skip ?_ ?_); rfl) | simp only [thenQ, blockQ, scopeQ, Nat.reduceEqDiff, reduceIte] | (with_reducible first | refine And.intro ?_ ?_ | intro vr))
                all_goals try (intros; (try simp only [Bool.and_eq_true, Bool.or_eq_true, Bool.not_eq_true', decide_eq_true_eq, decide_eq_false_iff_not, beq_iff_eq, bne_iff_ne, ne_eq, inI64, List.length_append] at *) <;> omega)
                refine end_ret rfl ?_
                simp only [fin, go_sem]
                exact nilAe_le
            · have g1 : decide ((i : Int) < (x.length : Int)) = false := decide_eq_false (by omega)
              rw [List.drop_eq_nil_of_le hc, List.any_nil] at hF
              subst hF
              rw [if_neg (by decide)] at hO
              rw [ofS_ok hO] at hG
              subst hG
              repeat' (first
               | (with_reducible first | refine t_seq fun K => ?_ | refine t_block ?_ | refine t_scope ?_ | refine t_label ?_ | refine t_skip ?_ | refine t_exit ?_ | refine t_ret ?_ | refine t_k ?_ | refine t_gF ?_ | exact kp_nil | exact Kp.refl _ | exact kp_to | refine kp_cons ?_ | refine kp_arr ?_ | refine kp_app ?_ | refine t_p ?_ | refine t_br (fun hc => ?_) fun hc => ?_)
               | ((with_reducible first | refine t_kE ?_ | refine t_kD ?_ | refine t_gS ?_ | refine t_kL ?_ | refine t_kLF ?_ ?_ | refine t_region fun K => ?_ | refine t_cond fun A B => ?_ | refine t_draw (by kernel_rfl) fun K => ?_); simp only [go_sem, geff, con62_f, con30_f, con90_f, con62_c, con30_c, con90_c, g1, slK_sl])
               | ((with_reducible refine kp_skip ?_ ?_); rfl) | simp only [thenQ, blockQ, scopeQ, Nat.reduceEqDiff, reduceIte] | (with_reducible first | refine And.intro ?_ ?_ | intro vr))
              all_goals try (intros; (try simp only [Bool.and_eq_true, Bool.or_eq_true, Bool.not_eq_true', decide_eq_true_eq, decide_eq_false_iff_not, beq_iff_eq, bne_iff_ne, ne_eq, inI64, List.length_append] at *) <;> omega)
              refine end_ret rfl ?_
              simp only [fin, go_sem]
              exact LeA.refl _
        · have n1 : ((x.length : Int) != n) = true := by rw [bne_iff_ne]; exact hn
          rw [ofS_err (e := 1) (ofE_len t hS2 (by rw [hS1]; exact hn)) (by decide)]
          refine pc_of E8_ok mixed (fun _ => [0, 1, 2, 6, 7, 8, 9, 10, 16, 24, 30, 35, 44]) Try.func63 rfl (by kernel_rfl) (Nat.le_of_ble_eq_true rfl) ?_
          simp only [initF_cons, initF_nil, Nat.reduceAdd]
          refine t_name fun KF => ?_
          unfold E8
          repeat' (first
           | (with_reducible first | refine t_seq fun K => ?_ | refine t_block ?_ | refine t_scope ?_ | refine t_label ?_ | refine t_skip ?_ | refine t_exit ?_ | refine t_ret ?_ | refine t_k ?_ | refine t_gF ?_ | exact kp_nil | exact Kp.refl _ | exact kp_to | refine kp_cons ?_ | refine kp_arr ?_ | refine kp_app ?_ | refine t_p ?_ | refine t_br (fun hc => ?_) fun hc => ?_)
           | ((with_reducible first | refine t_kE ?_ | refine t_kD ?_ | refine t_gS ?_ | refine t_kL ?_ | refine t_kLF ?_ ?_ | refine t_region fun K => ?_ | refine t_cond fun A B => ?_ | refine t_draw (by kernel_rfl) fun K => ?_); simp only [go_sem, geff, con62_f, con30_f, con90_f, con62_c, con30_c, con90_c, slK_sl, t1, hS, szV_def, n1])
           | ((with_reducible refine kp_skip ?_ ?_); rfl) | simp only [thenQ, blockQ, scopeQ, Nat.reduceEqDiff, reduceIte] | (with_reducible first | refine And.intro ?_ ?_ | intro vr))
          all_goals try (intros; (try simp only [Bool.and_eq_true, Bool.or_eq_true, Bool.not_eq_true', decide_eq_true_eq, decide_eq_false_iff_not, beq_iff_eq, bne_iff_ne, ne_eq, inI64, List.length_append] at *) <;> omega)
          refine end_ret rfl ?_
          simp only [fin, go_sem]
          exact nilAe_le
      · have e1 : (er != 0) = true := by rw [bne_iff_ne]; exact e0
        rw [ofS_err (by rw [ofE_sz t (by rw [hS2]; exact e0)]) (by rw [hS2]; exact e0)]
        refine pc_of E8_ok mixed (fun _ => [0, 1, 2, 6, 7, 8, 9, 10, 16, 24, 30, 35, 44]) Try.func63 rfl (by kernel_rfl) (Nat.le_of_ble_eq_true rfl) ?_
        simp only [initF_cons, initF_nil, Nat.reduceAdd]
        refine t_name fun KF => ?_
        unfold E8
        repeat' (first
         | (with_reducible first | refine t_seq fun K => ?_ | refine t_block ?_ | refine t_scope ?_ | refine t_label ?_ | refine t_skip ?_ | refine t_exit ?_ | refine t_ret ?_ | refine t_k ?_ | refine t_gF ?_ | exact kp_nil | exact Kp.refl _ | exact kp_to | refine kp_cons ?_ | refine kp_arr ?_ | refine kp_app ?_ | refine t_p ?_ | refine t_br (fun hc => ?_) fun hc => ?_)
         | ((with_reducible first | refine t_kE ?_ | refine t_kD ?_ | refine t_gS ?_ | refine t_kL ?_ | refine t_kLF ?_ ?_ | refine t_region fun K => ?_ | refine t_cond fun A B => ?_ | refine t_draw (by kernel_rfl) fun K => ?_); simp only [go_sem, geff, con62_f, con30_f, con90_f, con62_c, con30_c, con90_c, slK_sl, t1, hS, szV_def, e1])
         | ((with_reducible refine kp_skip ?_ ?_); rfl) | simp only [thenQ, blockQ, scopeQ, Nat.reduceEqDiff, reduceIte] | (with_reducible first | refine And.intro ?_ ?_ | intro vr))
        all_goals try (intros; (try simp only [Bool.and_eq_true, Bool.or_eq_true, Bool.not_eq_true', decide_eq_true_eq, decide_eq_false_iff_not, beq_iff_eq, bne_iff_ne, ne_eq, inI64, List.length_append] at *) <;> omega)
        refine end_ret rfl ?_
        simp only [fin, go_sem, hS]
        exact nilAe_le
    · have t2 : eqS e ⟨#[98, 111, 111, 108]⟩ = true := by unfold tyOk at t; rw [Bool.or_eq_true] at t; exact t.resolve_left t1
      have t1' : eqS e ⟨#[105, 110, 116]⟩ = false := by simpa using t1
      by_cases e0 : er = 0
      · subst e0
        by_cases hn : (x.length : Int) = n
        · have n1 : ((x.length : Int) != n) = false := by rw [bne_eq_false_iff_eq]; exact hn
          have hO := ofE_el (a := ⟨e, d, x⟩) t hS2 (by rw [hS1]; exact hn)
          unfold bad at hO
          simp only at hO
          generalize hB : (x.any fun n => !vld e n) = Bb at hO
          generalize hG : aeV (ofS ⟨e, d, x⟩) = G
          refine pc_of E8_ok mixed (fun _ => [0, 1, 2, 6, 7, 8, 9, 10, 16, 24, 30, 35, 44]) Try.func63 rfl (by kernel_rfl) (Nat.le_of_ble_eq_true rfl) ?_
          simp only [initF_cons, initF_nil, Nat.reduceAdd]
          refine t_name fun KF => ?_
          unfold E8
          repeat' (first
           | (with_reducible first | refine t_seq fun K => ?_ | refine t_block ?_ | refine t_scope ?_ | refine t_label ?_ | refine t_skip ?_ | refine t_exit ?_ | refine t_ret ?_ | refine t_k ?_ | refine t_gF ?_ | exact kp_nil | exact Kp.refl _ | exact kp_to | refine kp_cons ?_ | refine kp_arr ?_ | refine kp_app ?_ | refine t_p ?_ | refine t_br (fun hc => ?_) fun hc => ?_)
           | ((with_reducible first | refine t_kE ?_ | refine t_kD ?_ | refine t_gS ?_ | refine t_kL ?_ | refine t_kLF ?_ ?_ | refine t_region fun K => ?_ | refine t_cond fun A B => ?_ | refine t_draw (by kernel_rfl) fun K => ?_); simp only [go_sem, geff, con62_f, con30_f, con90_f, con62_c, con30_c, con90_c, slK_sl, t1', t2, hS, szV_def, n1])
           | ((with_reducible refine kp_skip ?_ ?_); rfl) | simp only [thenQ, blockQ, scopeQ, Nat.reduceEqDiff, reduceIte] | (with_reducible first | refine And.intro ?_ ?_ | intro vr))
          all_goals try (intros; (try simp only [Bool.and_eq_true, Bool.or_eq_true, Bool.not_eq_true', decide_eq_true_eq, decide_eq_false_iff_not, beq_iff_eq, bne_iff_ne, ne_eq, inI64, List.length_append] at *) <;> omega)
          refine t_loop (ι := { i : Nat // i ≤ x.length ∧ ((x.drop i).any fun n => !vld e n) = Bb }) (fun i => ⟨upd (upd (upd (upd (upd topF 10 (.lit (.int .i64 i.1))) 6 (.ref 0 0)) 2 (.sl false 1 (ints .i64 x))) 1 (.sl false 1 (ints .i64 d))) 0 (.lit (.string e)), [AObj.box 33 [AV.lit (Value.string ByteArray.empty), AV.sl true 1 [], AV.sl true 1 []]]⟩) (fun i => x.length - i.1) ⟨0, by omega, hB⟩ ?_ ?_
          · skip
            (refine Le.frame ?_; repeat' (first | exact leF_top _ | (with_reducible refine leF_sl ?_ ?_) | (refine leF_upd (LeR.of_eq ?_) ?_))) <;> (try (simp only [go_sem]; try rfl))
          · rintro ⟨i, hi, hF⟩ K0
            rcases Nat.lt_or_ge i x.length with hc | hc
            · have g1 : decide ((i : Int) < (x.length : Int)) = true := decide_eq_true (by omega)
              have g2 := ints_getD .i64 x i hc
              rw [drop_getD 0 hc, List.any_cons] at hF
              generalize x.getD i 0 = v at g2 hF
              by_cases hv : vld e v = true
              · rw [hv, Bool.not_true, Bool.false_or] at hF
                repeat' (first
                 | (with_reducible first | refine t_seq fun K => ?_ | refine t_block ?_ | refine t_scope ?_ | refine t_label ?_ | refine t_skip ?_ | refine t_exit ?_ | refine t_ret ?_ | refine t_k ?_ | refine t_gF ?_ | exact kp_nil | exact Kp.refl _ | exact kp_to | refine kp_cons ?_ | refine kp_arr ?_ | refine kp_app ?_ | refine t_p ?_ | refine t_br (fun hc => ?_) fun hc => ?_)
                 | ((with_reducible first | refine t_kE ?_ | refine t_kD ?_ | refine t_gS ?_ | refine t_kL ?_ | refine t_kLF ?_ ?_ | refine t_region fun K => ?_ | refine t_cond fun A B => ?_ | refine t_draw (by kernel_rfl) fun K => ?_); simp only [go_sem, geff, con62_f, con30_f, con90_f, con62_c, con30_c, con90_c, g1, g2, hv, Int.toNat_natCast, Bool.not_true])
                 | ((with_reducible refine kp_skip ?_ ?_); rfl) | simp only [thenQ, blockQ, scopeQ, Nat.reduceEqDiff, reduceIte] | (with_reducible first | refine And.intro ?_ ?_ | intro vr))
                all_goals try (intros; (try simp only [Bool.and_eq_true, Bool.or_eq_true, Bool.not_eq_true', decide_eq_true_eq, decide_eq_false_iff_not, beq_iff_eq, bne_iff_ne, ne_eq, inI64, List.length_append] at *) <;> omega)
                refine ⟨⟨i + 1, by omega, hF⟩, by simp only; omega, ?_⟩
                (refine Le.frame ?_; repeat' (first | exact leF_top _ | (with_reducible refine leF_sl ?_ ?_) | (refine leF_upd (LeR.of_eq ?_) ?_))) <;> (try (simp only [go_sem]; try rfl))
              · have hv' : vld e v = false := by simpa using hv
                rw [hv', Bool.not_false, Bool.true_or] at hF
                subst hF
                rw [if_pos rfl] at hO
                rw [ofS_err hO (by decide)] at hG
                subst hG
                repeat' (first
                 | (with_reducible first | refine t_seq fun K => ?_ | refine t_block ?_ | refine t_scope ?_ | refine t_label ?_ | refine t_skip ?_ | refine t_exit ?_ | refine t_ret ?_ | refine t_k ?_ | refine t_gF ?_ | exact kp_nil | exact Kp.refl _ | exact kp_to | refine kp_cons ?_ | refine kp_arr ?_ | refine kp_app ?_ | refine t_p ?_ | refine t_br (fun hc => ?_) fun hc => ?_)
                 | ((with_reducible first | refine t_kE ?_ | refine t_kD ?_ | refine t_gS ?_ | refine t_kL ?_ | refine t_kLF ?_ ?_ | refine t_region fun K => ?_ | refine t_cond fun A B => ?_ | refine t_draw (by kernel_rfl) fun K => ?_); simp only [go_sem, geff, con62_f, con30_f, con90_f, con62_c, con30_c, con90_c, g1, g2, hv', Int.toNat_natCast, Bool.not_false])
                 | ((with_reducible refine kp_skip ?_ ?_); rfl) | simp only [thenQ, blockQ, scopeQ, Nat.reduceEqDiff, reduceIte] | (with_reducible first | refine And.intro ?_ ?_ | intro vr))
                all_goals try (intros; (try simp only [Bool.and_eq_true, Bool.or_eq_true, Bool.not_eq_true', decide_eq_true_eq, decide_eq_false_iff_not, beq_iff_eq, bne_iff_ne, ne_eq, inI64, List.length_append] at *) <;> omega)
                refine end_ret rfl ?_
                simp only [fin, go_sem]
                exact nilAe_le
            · have g1 : decide ((i : Int) < (x.length : Int)) = false := decide_eq_false (by omega)
              rw [List.drop_eq_nil_of_le hc, List.any_nil] at hF
              subst hF
              rw [if_neg (by decide)] at hO
              rw [ofS_ok hO] at hG
              subst hG
              repeat' (first
               | (with_reducible first | refine t_seq fun K => ?_ | refine t_block ?_ | refine t_scope ?_ | refine t_label ?_ | refine t_skip ?_ | refine t_exit ?_ | refine t_ret ?_ | refine t_k ?_ | refine t_gF ?_ | exact kp_nil | exact Kp.refl _ | exact kp_to | refine kp_cons ?_ | refine kp_arr ?_ | refine kp_app ?_ | refine t_p ?_ | refine t_br (fun hc => ?_) fun hc => ?_)
               | ((with_reducible first | refine t_kE ?_ | refine t_kD ?_ | refine t_gS ?_ | refine t_kL ?_ | refine t_kLF ?_ ?_ | refine t_region fun K => ?_ | refine t_cond fun A B => ?_ | refine t_draw (by kernel_rfl) fun K => ?_); simp only [go_sem, geff, con62_f, con30_f, con90_f, con62_c, con30_c, con90_c, g1, slK_sl])
               | ((with_reducible refine kp_skip ?_ ?_); rfl) | simp only [thenQ, blockQ, scopeQ, Nat.reduceEqDiff, reduceIte] | (with_reducible first | refine And.intro ?_ ?_ | intro vr))
              all_goals try (intros; (try simp only [Bool.and_eq_true, Bool.or_eq_true, Bool.not_eq_true', decide_eq_true_eq, decide_eq_false_iff_not, beq_iff_eq, bne_iff_ne, ne_eq, inI64, List.length_append] at *) <;> omega)
              refine end_ret rfl ?_
              simp only [fin, go_sem]
              exact LeA.refl _
        · have n1 : ((x.length : Int) != n) = true := by rw [bne_iff_ne]; exact hn
          rw [ofS_err (e := 1) (ofE_len t hS2 (by rw [hS1]; exact hn)) (by decide)]
          refine pc_of E8_ok mixed (fun _ => [0, 1, 2, 6, 7, 8, 9, 10, 16, 24, 30, 35, 44]) Try.func63 rfl (by kernel_rfl) (Nat.le_of_ble_eq_true rfl) ?_
          simp only [initF_cons, initF_nil, Nat.reduceAdd]
          refine t_name fun KF => ?_
          unfold E8
          repeat' (first
           | (with_reducible first | refine t_seq fun K => ?_ | refine t_block ?_ | refine t_scope ?_ | refine t_label ?_ | refine t_skip ?_ | refine t_exit ?_ | refine t_ret ?_ | refine t_k ?_ | refine t_gF ?_ | exact kp_nil | exact Kp.refl _ | exact kp_to | refine kp_cons ?_ | refine kp_arr ?_ | refine kp_app ?_ | refine t_p ?_ | refine t_br (fun hc => ?_) fun hc => ?_)
           | ((with_reducible first | refine t_kE ?_ | refine t_kD ?_ | refine t_gS ?_ | refine t_kL ?_ | refine t_kLF ?_ ?_ | refine t_region fun K => ?_ | refine t_cond fun A B => ?_ | refine t_draw (by kernel_rfl) fun K => ?_); simp only [go_sem, geff, con62_f, con30_f, con90_f, con62_c, con30_c, con90_c, slK_sl, t1', t2, hS, szV_def, n1])
           | ((with_reducible refine kp_skip ?_ ?_); rfl) | simp only [thenQ, blockQ, scopeQ, Nat.reduceEqDiff, reduceIte] | (with_reducible first | refine And.intro ?_ ?_ | intro vr))
          all_goals try (intros; (try simp only [Bool.and_eq_true, Bool.or_eq_true, Bool.not_eq_true', decide_eq_true_eq, decide_eq_false_iff_not, beq_iff_eq, bne_iff_ne, ne_eq, inI64, List.length_append] at *) <;> omega)
          refine end_ret rfl ?_
          simp only [fin, go_sem]
          exact nilAe_le
      · have e1 : (er != 0) = true := by rw [bne_iff_ne]; exact e0
        rw [ofS_err (by rw [ofE_sz t (by rw [hS2]; exact e0)]) (by rw [hS2]; exact e0)]
        refine pc_of E8_ok mixed (fun _ => [0, 1, 2, 6, 7, 8, 9, 10, 16, 24, 30, 35, 44]) Try.func63 rfl (by kernel_rfl) (Nat.le_of_ble_eq_true rfl) ?_
        simp only [initF_cons, initF_nil, Nat.reduceAdd]
        refine t_name fun KF => ?_
        unfold E8
        repeat' (first
         | (with_reducible first | refine t_seq fun K => ?_ | refine t_block ?_ | refine t_scope ?_ | refine t_label ?_ | refine t_skip ?_ | refine t_exit ?_ | refine t_ret ?_ | refine t_k ?_ | refine t_gF ?_ | exact kp_nil | exact Kp.refl _ | exact kp_to | refine kp_cons ?_ | refine kp_arr ?_ | refine kp_app ?_ | refine t_p ?_ | refine t_br (fun hc => ?_) fun hc => ?_)
         | ((with_reducible first | refine t_kE ?_ | refine t_kD ?_ | refine t_gS ?_ | refine t_kL ?_ | refine t_kLF ?_ ?_ | refine t_region fun K => ?_ | refine t_cond fun A B => ?_ | refine t_draw (by kernel_rfl) fun K => ?_); simp only [go_sem, geff, con62_f, con30_f, con90_f, con62_c, con30_c, con90_c, slK_sl, t1', t2, hS, szV_def, e1])
         | ((with_reducible refine kp_skip ?_ ?_); rfl) | simp only [thenQ, blockQ, scopeQ, Nat.reduceEqDiff, reduceIte] | (with_reducible first | refine And.intro ?_ ?_ | intro vr))
        all_goals try (intros; (try simp only [Bool.and_eq_true, Bool.or_eq_true, Bool.not_eq_true', decide_eq_true_eq, decide_eq_false_iff_not, beq_iff_eq, bne_iff_ne, ne_eq, inI64, List.length_append] at *) <;> omega)
        refine end_ret rfl ?_
        simp only [fin, go_sem, hS]
        exact nilAe_le
  · have t' : tyOk e = false := by simpa using t
    have t1 : eqS e ⟨#[105, 110, 116]⟩ = false := (Bool.or_eq_false_iff.1 t').1
    have t2 : eqS e ⟨#[98, 111, 111, 108]⟩ = false := (Bool.or_eq_false_iff.1 t').2
    rw [ofS_err (ofE_ty t') (by decide)]
    refine pc_of E8_ok mixed (fun _ => [0, 1, 2, 6, 7, 8, 9, 10, 16, 24, 30, 35, 44]) Try.func63 rfl (by kernel_rfl) (Nat.le_of_ble_eq_true rfl) ?_
    simp only [initF_cons, initF_nil, Nat.reduceAdd]
    refine t_name fun KF => ?_
    unfold E8
    repeat' (first
     | (with_reducible first | refine t_seq fun K => ?_ | refine t_block ?_ | refine t_scope ?_ | refine t_label ?_ | refine t_skip ?_ | refine t_exit ?_ | refine t_ret ?_ | refine t_k ?_ | refine t_gF ?_ | exact kp_nil | exact Kp.refl _ | exact kp_to | refine kp_cons ?_ | refine kp_arr ?_ | refine kp_app ?_ | refine t_p ?_ | refine t_br (fun hc => ?_) fun hc => ?_)
     | ((with_reducible first | refine t_kE ?_ | refine t_kD ?_ | refine t_gS ?_ | refine t_kL ?_ | refine t_kLF ?_ ?_ | refine t_region fun K => ?_ | refine t_cond fun A B => ?_ | refine t_draw (by kernel_rfl) fun K => ?_); simp only [go_sem, geff, con62_f, con30_f, con90_f, con62_c, con30_c, con90_c, t1, t2])
     | ((with_reducible refine kp_skip ?_ ?_); rfl) | simp only [thenQ, blockQ, scopeQ, Nat.reduceEqDiff, reduceIte] | (with_reducible first | refine And.intro ?_ ?_ | intro vr))
    all_goals try (intros; (try simp only [Bool.and_eq_true, Bool.or_eq_true, Bool.not_eq_true', decide_eq_true_eq, decide_eq_false_iff_not, beq_iff_eq, bne_iff_ne, ne_eq, inI64, List.length_append] at *) <;> omega)
    refine end_ret rfl ?_
    simp only [fin, go_sem]
    exact nilAe_le
noncomputable def con63 : PCon Try.prog where
  f := 63
  c := fun
    | [.lit (.string e), xd, xx] => match slK .i64 xd, slK .i64 xx with | some d, some x => some (d.length ≤ 1000000 ∧ x.length ≤ 1000000, aeV (ofS ⟨e, d, x⟩)) | _, _ => none
    | _ => none
  ok := by
    intro args p r hc hp
    split at hc
    · split at hc
      · rename_i hd hx
        cases hc
        exact PC.weak ((fun hp : _ ∧ _ => rof_pc hp.1 hp.2) hp) ⟨LeA.refl _, slK_le hd, slK_le hx, trivial⟩
      · cases hc
    · cases hc
  fk := fk63
theorem con63_f : con63.f = 63 := rfl
theorem con63_c {e : ByteArray} {xd : AV} {xx : AV} : con63.c [.lit (.string e), xd, xx] = match slK .i64 xd, slK .i64 xx with | some d, some x => some (d.length ≤ 1000000 ∧ x.length ≤ 1000000, aeV (ofS ⟨e, d, x⟩)) | _, _ => none := rfl
theorem aeV_def {p : Arr × Int} : aeV p = .tup [arrV p.1, .lit (.int .i64 p.2)] := rfl
theorem ofS_snd (a : Arr) : (ofS a).2 = ofE a := by
  unfold ofS
  split
  · rename_i h; exact h.symm
  · rfl
noncomputable def E9 : Env := envOf (P := Try.prog) zer (fun _ => false) (fun _ => false) [con63, con89] []
theorem E9_ok : EnvOk Try.prog E9 := envOk zer_ok
theorem valid_pc {a : Arr} (hd : a.d.length ≤ 1000000) (hx : a.x.length ≤ 1000000) : PC Try.prog 60 [arrV a] (.lit (.bool (ofE a == 0))) := by
  rw [← ofS_snd]
  refine pc_of E9_ok mixed (fun _ => [0, 1, 2, 4]) Try.func60 rfl (by kernel_rfl) (Nat.le_of_ble_eq_true rfl) ?_
  simp only [initF_cons, initF_nil, Nat.reduceAdd]
  refine t_name fun KF => ?_
  unfold E9
  repeat' (first
   | (with_reducible first | refine t_seq fun K => ?_ | refine t_block ?_ | refine t_scope ?_ | refine t_label ?_ | refine t_skip ?_ | refine t_exit ?_ | refine t_ret ?_ | refine t_k ?_ | refine t_gF ?_ | exact kp_nil | exact Kp.refl _ | exact kp_to | refine kp_cons ?_ | refine kp_arr ?_ | refine kp_app ?_ | refine t_p ?_ | refine t_br (fun hc => ?_) fun hc => ?_)
   | ((with_reducible first | refine t_kE ?_ | refine t_kD ?_ | refine t_gS ?_ | refine t_kL ?_ | refine t_kLF ?_ ?_ | refine t_region fun K => ?_ | refine t_cond fun A B => ?_ | refine t_draw (by kernel_rfl) fun K => ?_); simp only [go_sem, geff, con63_f, con89_f, con89_c, slK_sl, arrV_def, aeV_def])
   | ((with_reducible refine kp_skip ?_ ?_); rfl) | simp only [thenQ, blockQ, scopeQ, Nat.reduceEqDiff, reduceIte] | (with_reducible first | refine And.intro ?_ ?_ | intro vr))
  all_goals try (intros; (try simp only [Bool.and_eq_true, Bool.or_eq_true, Bool.not_eq_true', decide_eq_true_eq, decide_eq_false_iff_not, beq_iff_eq, bne_iff_ne, ne_eq, inI64, List.length_append] at *) <;> omega)
  refine end_ret rfl ?_
  simp only [fin, go_sem]
  exact LeA.refl _
theorem rvalid_pc {a : Arr} (hd : a.d.length ≤ 1000000) (hx : a.x.length ≤ 1000000) : PC Try.prog 36 [arrV a] (.lit (.bool (ofE a == 0))) := by
  rw [← ofS_snd]
  refine pc_of E9_ok mixed (fun _ => [0, 1, 2, 4]) Try.func36 rfl (by kernel_rfl) (Nat.le_of_ble_eq_true rfl) ?_
  simp only [initF_cons, initF_nil, Nat.reduceAdd]
  refine t_name fun KF => ?_
  unfold E9
  repeat' (first
   | (with_reducible first | refine t_seq fun K => ?_ | refine t_block ?_ | refine t_scope ?_ | refine t_label ?_ | refine t_skip ?_ | refine t_exit ?_ | refine t_ret ?_ | refine t_k ?_ | refine t_gF ?_ | exact kp_nil | exact Kp.refl _ | exact kp_to | refine kp_cons ?_ | refine kp_arr ?_ | refine kp_app ?_ | refine t_p ?_ | refine t_br (fun hc => ?_) fun hc => ?_)
   | ((with_reducible first | refine t_kE ?_ | refine t_kD ?_ | refine t_gS ?_ | refine t_kL ?_ | refine t_kLF ?_ ?_ | refine t_region fun K => ?_ | refine t_cond fun A B => ?_ | refine t_draw (by kernel_rfl) fun K => ?_); simp only [go_sem, geff, con63_f, con89_f, con63_c, slK_sl, arrV_def, aeV_def])
   | ((with_reducible refine kp_skip ?_ ?_); rfl) | simp only [thenQ, blockQ, scopeQ, Nat.reduceEqDiff, reduceIte] | (with_reducible first | refine And.intro ?_ ?_ | intro vr))
  all_goals try (intros; (try simp only [Bool.and_eq_true, Bool.or_eq_true, Bool.not_eq_true', decide_eq_true_eq, decide_eq_false_iff_not, beq_iff_eq, bne_iff_ne, ne_eq, inI64, List.length_append] at *) <;> omega)
  refine end_ret rfl ?_
  simp only [fin, go_sem]
  exact LeA.refl _
noncomputable def con60 : PCon Try.prog where
  f := 60
  c := fun
    | [xa] => match arrOf xa with | some a => some (a.d.length ≤ 1000000 ∧ a.x.length ≤ 1000000, .lit (.bool (ofE a == 0))) | _ => none
    | _ => none
  ok := by
    intro args p r hc hp
    split at hc
    · split at hc
      · rename_i ha
        cases hc
        exact PC.weak ((fun hp : _ ∧ _ => valid_pc hp.1 hp.2) hp) ⟨arrOf_le ha, trivial⟩
      · cases hc
    · cases hc
  fk := fk60
theorem con60_f : con60.f = 60 := rfl
theorem con60_c {xa : AV} : con60.c [xa] = match arrOf xa with | some a => some (a.d.length ≤ 1000000 ∧ a.x.length ≤ 1000000, .lit (.bool (ofE a == 0))) | _ => none := rfl
noncomputable def con36 : PCon Try.prog where
  f := 36
  c := fun
    | [xa] => match arrOf xa with | some a => some (a.d.length ≤ 1000000 ∧ a.x.length ≤ 1000000, .lit (.bool (ofE a == 0))) | _ => none
    | _ => none
  ok := by
    intro args p r hc hp
    split at hc
    · split at hc
      · rename_i ha
        cases hc
        exact PC.weak ((fun hp : _ ∧ _ => rvalid_pc hp.1 hp.2) hp) ⟨arrOf_le ha, trivial⟩
      · cases hc
    · cases hc
  fk := fk36
theorem con36_f : con36.f = 36 := rfl
theorem con36_c {xa : AV} : con36.c [xa] = match arrOf xa with | some a => some (a.d.length ≤ 1000000 ∧ a.x.length ≤ 1000000, .lit (.bool (ofE a == 0))) | _ => none := rfl
end Go.Proofs.Ytcjjakhmpffopaa

/- Frames and cells' dimensions; small arrays; zeros. -/
namespace Go.Proofs.Ytcjjakhmpffopaa
open Go Go.Fw

def okA (a : Arr) : Prop := a.d.length ≤ 1000000 ∧ a.x.length ≤ 1000000
def spV (p : List Int × List Int × Int) : AV := .tup [.sl false 1 (ints .i64 p.1), .sl false 1 (ints .i64 p.2.1), .lit (.int .i64 p.2.2)]
theorem spV_def {p : List Int × List Int × Int} : spV p = .tup [.sl false 1 (ints .i64 p.1), .sl false 1 (ints .i64 p.2.1), .lit (.int .i64 p.2.2)] := rfl
theorem spE_le {e : Int} : LeA (.tup [.lit (.slice none 0 0), .lit (.slice none 0 0), .lit (.int .i64 e)]) (spV ([], [], e)) := LeA.tup ⟨LeA.nil _ _, LeA.nil _ _, LeA.refl _, trivial⟩
theorem bne0 {n : Int} (h : n ≠ 0) : (n == 0) = false := beq_eq_false_iff_ne.2 h
noncomputable def E10 : Env := envOf (P := Try.prog) zer (fun t => t == 15) (fun _ => false) [con60, con61] []
theorem E10_ok : EnvOk Try.prog E10 := envOk zer_ok
set_option maxRecDepth 20000 in
set_option maxHeartbeats 1000000 in
theorem split_pc {a : Arr} {r : Int} (ha : okA a) (hr : inI64 r) : PC Try.prog 20 [arrV a, .lit (.int .i64 r)] (spV (splitS a r)) := by
  obtain ⟨hd, hx⟩ := ha
  unfold splitS
  by_cases h0 : ofE a = 0
  · have e0 : (ofE a == 0) = true := by rw [h0]; rfl
    rw [if_neg (by simpa using h0)]
    by_cases h1 : r < 0
    · have r1 : decide (r < 0) = true := decide_eq_true h1
      rw [if_pos (.inl h1)]
      refine pc_of E10_ok mixed (fun _ => [0, 1, 2, 4, 5, 6, 7, 10, 21]) Try.func20 rfl (by kernel_rfl) (Nat.le_of_ble_eq_true rfl) ?_
      simp only [initF_cons, initF_nil, Nat.reduceAdd]
      refine t_name fun KF => ?_
      unfold E10
      repeat' (first
       | (with_reducible first | refine t_seq fun K => ?_ | refine t_block ?_ | refine t_scope ?_ | refine t_label ?_ | refine t_skip ?_ | refine t_exit ?_ | refine t_ret ?_ | refine t_k ?_ | refine t_gF ?_ | exact kp_nil | exact Kp.refl _ | exact kp_to | refine kp_cons ?_ | refine kp_arr ?_ | refine kp_app ?_ | refine t_p ?_ | refine t_br (fun hc => ?_) fun hc => ?_)
       | ((with_reducible first | refine t_kE ?_ | refine t_kD ?_ | refine t_gS ?_ | refine t_kL ?_ | refine t_kLF ?_ ?_ | refine t_region fun K => ?_ | refine t_cond fun A B => ?_ | refine t_draw (by kernel_rfl) fun K => ?_); simp only [go_sem, geff, con60_f, con60_c, con61_f, con61_c, arrV_def, arrOf_agg, slK_sl, e0, r1, Bool.not_true])
       | ((with_reducible refine kp_skip ?_ ?_); rfl) | simp only [thenQ, blockQ, scopeQ, Nat.reduceEqDiff, reduceIte] | (with_reducible first | refine And.intro ?_ ?_ | intro vr))
      all_goals try (intros; (try simp only [Bool.and_eq_true, Bool.or_eq_true, Bool.not_eq_true', decide_eq_true_eq, decide_eq_false_iff_not, beq_iff_eq, bne_iff_ne, ne_eq, inI64, List.length_append] at *) <;> omega)
      refine end_ret rfl ?_
      simp only [fin, go_sem]
      exact spE_le
    · have r1 : decide (r < 0) = false := decide_eq_false h1
      have hw : IntKind.i64.wrap ((a.d.length : Int) - r) = (a.d.length : Int) - r := wrap_i64 (by unfold inI64 at *; omega)
      by_cases h2 : r > a.d.length
      · have r2 : decide ((a.d.length : Int) - r < 0) = true := decide_eq_true (by omega)
        have r3 : decide (r > (a.d.length : Int)) = true := decide_eq_true (by omega)
        rw [if_pos (.inr h2)]
        refine pc_of E10_ok mixed (fun _ => [0, 1, 2, 4, 5, 6, 7, 10, 21]) Try.func20 rfl (by kernel_rfl) (Nat.le_of_ble_eq_true rfl) ?_
        simp only [initF_cons, initF_nil, Nat.reduceAdd]
        refine t_name fun KF => ?_
        unfold E10
        repeat' (first
         | (with_reducible first | refine t_seq fun K => ?_ | refine t_block ?_ | refine t_scope ?_ | refine t_label ?_ | refine t_skip ?_ | refine t_exit ?_ | refine t_ret ?_ | refine t_k ?_ | refine t_gF ?_ | exact kp_nil | exact Kp.refl _ | exact kp_to | refine kp_cons ?_ | refine kp_arr ?_ | refine kp_app ?_ | refine t_p ?_ | refine t_br (fun hc => ?_) fun hc => ?_)
         | ((with_reducible first | refine t_kE ?_ | refine t_kD ?_ | refine t_gS ?_ | refine t_kL ?_ | refine t_kLF ?_ ?_ | refine t_region fun K => ?_ | refine t_cond fun A B => ?_ | refine t_draw (by kernel_rfl) fun K => ?_); simp only [go_sem, geff, con60_f, con60_c, con61_f, con61_c, arrV_def, arrOf_agg, slK_sl, e0, r1, r2, r3, hw, Bool.not_true])
         | ((with_reducible refine kp_skip ?_ ?_); rfl) | simp only [thenQ, blockQ, scopeQ, Nat.reduceEqDiff, reduceIte] | (with_reducible first | refine And.intro ?_ ?_ | intro vr))
        all_goals try (intros; (try simp only [Bool.and_eq_true, Bool.or_eq_true, Bool.not_eq_true', decide_eq_true_eq, decide_eq_false_iff_not, beq_iff_eq, bne_iff_ne, ne_eq, inI64, List.length_append] at *) <;> omega)
        refine end_ret rfl ?_
        simp only [fin, go_sem]
        exact spE_le
      · have r2 : decide ((a.d.length : Int) - r < 0) = false := decide_eq_false (by omega)
        have r3 : decide (r > (a.d.length : Int)) = false := decide_eq_false (by omega)
        rw [if_neg (by omega)]
        have hk : ((a.d.length : Int) - r).toNat = a.d.length - r.toNat := by omega
        refine pc_of E10_ok mixed (fun _ => [0, 1, 2, 4, 5, 6, 7, 10, 21]) Try.func20 rfl (by kernel_rfl) (Nat.le_of_ble_eq_true rfl) ?_
        simp only [initF_cons, initF_nil, Nat.reduceAdd]
        refine t_name fun KF => ?_
        unfold E10
        repeat' (first
         | (with_reducible first | refine t_seq fun K => ?_ | refine t_block ?_ | refine t_scope ?_ | refine t_label ?_ | refine t_skip ?_ | refine t_exit ?_ | refine t_ret ?_ | refine t_k ?_ | refine t_gF ?_ | exact kp_nil | exact Kp.refl _ | exact kp_to | refine kp_cons ?_ | refine kp_arr ?_ | refine kp_app ?_ | refine t_p ?_ | refine t_br (fun hc => ?_) fun hc => ?_)
         | ((with_reducible first | refine t_kE ?_ | refine t_kD ?_ | refine t_gS ?_ | refine t_kL ?_ | refine t_kLF ?_ ?_ | refine t_region fun K => ?_ | refine t_cond fun A B => ?_ | refine t_draw (by kernel_rfl) fun K => ?_); simp only [go_sem, geff, con60_f, con60_c, con61_f, con61_c, arrV_def, arrOf_agg, slK_sl, e0, r1, r2, r3, hw, hk, Bool.not_true, Bool.false_and, Int.toNat_natCast, List.take_length])
         | ((with_reducible refine kp_skip ?_ ?_); rfl) | simp only [thenQ, blockQ, scopeQ, Nat.reduceEqDiff, reduceIte] | (with_reducible first | refine And.intro ?_ ?_ | intro vr))
        all_goals try (intros; (try simp only [Bool.and_eq_true, Bool.or_eq_true, Bool.not_eq_true', decide_eq_true_eq, decide_eq_false_iff_not, beq_iff_eq, bne_iff_ne, ne_eq, inI64, List.length_append] at *) <;> omega)
        all_goals try (simp only [List.length_take, List.length_drop]; omega)
        refine end_ret rfl ?_
        simp only [fin, go_sem]
        exact LeA.refl _
  · have e0 : (ofE a == 0) = false := bne0 h0
    rw [if_pos (by simpa using h0)]
    refine pc_of E10_ok mixed (fun _ => [0, 1, 2, 4, 5, 6, 7, 10, 21]) Try.func20 rfl (by kernel_rfl) (Nat.le_of_ble_eq_true rfl) ?_
    simp only [initF_cons, initF_nil, Nat.reduceAdd]
    refine t_name fun KF => ?_
    unfold E10
    repeat' (first
     | (with_reducible first | refine t_seq fun K => ?_ | refine t_block ?_ | refine t_scope ?_ | refine t_label ?_ | refine t_skip ?_ | refine t_exit ?_ | refine t_ret ?_ | refine t_k ?_ | refine t_gF ?_ | exact kp_nil | exact Kp.refl _ | exact kp_to | refine kp_cons ?_ | refine kp_arr ?_ | refine kp_app ?_ | refine t_p ?_ | refine t_br (fun hc => ?_) fun hc => ?_)
     | ((with_reducible first | refine t_kE ?_ | refine t_kD ?_ | refine t_gS ?_ | refine t_kL ?_ | refine t_kLF ?_ ?_ | refine t_region fun K => ?_ | refine t_cond fun A B => ?_ | refine t_draw (by kernel_rfl) fun K => ?_); simp only [go_sem, geff, con60_f, con60_c, con61_f, con61_c, arrV_def, arrOf_agg, slK_sl, e0, Bool.not_false])
     | ((with_reducible refine kp_skip ?_ ?_); rfl) | simp only [thenQ, blockQ, scopeQ, Nat.reduceEqDiff, reduceIte] | (with_reducible first | refine And.intro ?_ ?_ | intro vr))
    all_goals try (intros; (try simp only [Bool.and_eq_true, Bool.or_eq_true, Bool.not_eq_true', decide_eq_true_eq, decide_eq_false_iff_not, beq_iff_eq, bne_iff_ne, ne_eq, inI64, List.length_append] at *) <;> omega)
    refine end_ret rfl ?_
    simp only [fin, go_sem]
    exact spE_le
noncomputable def con20 : PCon Try.prog where
  f := 20
  c := fun
    | [xa, .lit (.int .i64 r)] => match arrOf xa with | some a => some (okA a ∧ inI64 r, spV (splitS a r)) | _ => none
    | _ => none
  ok := by
    intro args p r hc hp
    split at hc
    · split at hc
      · rename_i ha
        cases hc
        exact PC.weak ((fun hp : _ ∧ _ => split_pc hp.1 hp.2) hp) ⟨arrOf_le ha, LeA.refl _, trivial⟩
      · cases hc
    · cases hc
  fk := fk20
theorem con20_f : con20.f = 20 := rfl
theorem con20_c {xa : AV} {r : Int} : con20.c [xa, .lit (.int .i64 r)] = match arrOf xa with | some a => some (okA a ∧ inI64 r, spV (splitS a r)) | _ => none := rfl
noncomputable def E11 : Env := envOf (P := Try.prog) zer (fun t => t == 24) (fun _ => false) [con36, con62] []
theorem E11_ok : EnvOk Try.prog E11 := envOk zer_ok
set_option maxRecDepth 20000 in
set_option maxHeartbeats 1000000 in
theorem rsplit_pc {a : Arr} {r : Int} (ha : okA a) (hr : inI64 r) : PC Try.prog 21 [arrV a, .lit (.int .i64 r)] (spV (splitS a r)) := by
  obtain ⟨hd, hx⟩ := ha
  unfold splitS
  by_cases h0 : ofE a = 0
  · have e0 : (ofE a == 0) = true := by rw [h0]; rfl
    rw [if_neg (by simpa using h0)]
    by_cases h1 : r < 0
    · have r1 : decide (r < 0) = true := decide_eq_true h1
      rw [if_pos (.inl h1)]
      refine pc_of E11_ok mixed (fun _ => [0, 1, 2, 4, 5, 6, 7, 10, 19]) Try.func21 rfl (by kernel_rfl) (Nat.le_of_ble_eq_true rfl) ?_
      simp only [initF_cons, initF_nil, Nat.reduceAdd]
      refine t_name fun KF => ?_
      unfold E11
      repeat' (first
       | (with_reducible first | refine t_seq fun K => ?_ | refine t_block ?_ | refine t_scope ?_ | refine t_label ?_ | refine t_skip ?_ | refine t_exit ?_ | refine t_ret ?_ | refine t_k ?_ | refine t_gF ?_ | exact kp_nil | exact Kp.refl _ | exact kp_to | refine kp_cons ?_ | refine kp_arr ?_ | refine kp_app ?_ | refine t_p ?_ | refine t_br (fun hc => ?_) fun hc => ?_)
       | ((with_reducible first | refine t_kE ?_ | refine t_kD ?_ | refine t_gS ?_ | refine t_kL ?_ | refine t_kLF ?_ ?_ | refine t_region fun K => ?_ | refine t_cond fun A B => ?_ | refine t_draw (by kernel_rfl) fun K => ?_); simp only [go_sem, geff, con36_f, con36_c, con62_f, con62_c, arrV_def, arrOf_agg, slK_sl, e0, r1, Bool.not_true])
       | ((with_reducible refine kp_skip ?_ ?_); rfl) | simp only [thenQ, blockQ, scopeQ, Nat.reduceEqDiff, reduceIte] | (with_reducible first | refine And.intro ?_ ?_ | intro vr))
      all_goals try (intros; (try simp only [Bool.and_eq_true, Bool.or_eq_true, Bool.not_eq_true', decide_eq_true_eq, decide_eq_false_iff_not, beq_iff_eq, bne_iff_ne, ne_eq, inI64, List.length_append] at *) <;> omega)
      refine end_ret rfl ?_
      simp only [fin, go_sem]
      exact spE_le
    · have r1 : decide (r < 0) = false := decide_eq_false h1
      have hw : IntKind.i64.wrap ((a.d.length : Int) - r) = (a.d.length : Int) - r := wrap_i64 (by unfold inI64 at *; omega)
      by_cases h2 : r > a.d.length
      · have r2 : decide ((a.d.length : Int) - r < 0) = true := decide_eq_true (by omega)
        have r3 : decide (r > (a.d.length : Int)) = true := decide_eq_true (by omega)
        rw [if_pos (.inr h2)]
        refine pc_of E11_ok mixed (fun _ => [0, 1, 2, 4, 5, 6, 7, 10, 19]) Try.func21 rfl (by kernel_rfl) (Nat.le_of_ble_eq_true rfl) ?_
        simp only [initF_cons, initF_nil, Nat.reduceAdd]
        refine t_name fun KF => ?_
        unfold E11
        repeat' (first
         | (with_reducible first | refine t_seq fun K => ?_ | refine t_block ?_ | refine t_scope ?_ | refine t_label ?_ | refine t_skip ?_ | refine t_exit ?_ | refine t_ret ?_ | refine t_k ?_ | refine t_gF ?_ | exact kp_nil | exact Kp.refl _ | exact kp_to | refine kp_cons ?_ | refine kp_arr ?_ | refine kp_app ?_ | refine t_p ?_ | refine t_br (fun hc => ?_) fun hc => ?_)
         | ((with_reducible first | refine t_kE ?_ | refine t_kD ?_ | refine t_gS ?_ | refine t_kL ?_ | refine t_kLF ?_ ?_ | refine t_region fun K => ?_ | refine t_cond fun A B => ?_ | refine t_draw (by kernel_rfl) fun K => ?_); simp only [go_sem, geff, con36_f, con36_c, con62_f, con62_c, arrV_def, arrOf_agg, slK_sl, e0, r1, r2, r3, hw, Bool.not_true])
         | ((with_reducible refine kp_skip ?_ ?_); rfl) | simp only [thenQ, blockQ, scopeQ, Nat.reduceEqDiff, reduceIte] | (with_reducible first | refine And.intro ?_ ?_ | intro vr))
        all_goals try (intros; (try simp only [Bool.and_eq_true, Bool.or_eq_true, Bool.not_eq_true', decide_eq_true_eq, decide_eq_false_iff_not, beq_iff_eq, bne_iff_ne, ne_eq, inI64, List.length_append] at *) <;> omega)
        refine end_ret rfl ?_
        simp only [fin, go_sem]
        exact spE_le
      · have r2 : decide ((a.d.length : Int) - r < 0) = false := decide_eq_false (by omega)
        have r3 : decide (r > (a.d.length : Int)) = false := decide_eq_false (by omega)
        rw [if_neg (by omega)]
        have hk : ((a.d.length : Int) - r).toNat = a.d.length - r.toNat := by omega
        refine pc_of E11_ok mixed (fun _ => [0, 1, 2, 4, 5, 6, 7, 10, 19]) Try.func21 rfl (by kernel_rfl) (Nat.le_of_ble_eq_true rfl) ?_
        simp only [initF_cons, initF_nil, Nat.reduceAdd]
        refine t_name fun KF => ?_
        unfold E11
        repeat' (first
         | (with_reducible first | refine t_seq fun K => ?_ | refine t_block ?_ | refine t_scope ?_ | refine t_label ?_ | refine t_skip ?_ | refine t_exit ?_ | refine t_ret ?_ | refine t_k ?_ | refine t_gF ?_ | exact kp_nil | exact Kp.refl _ | exact kp_to | refine kp_cons ?_ | refine kp_arr ?_ | refine kp_app ?_ | refine t_p ?_ | refine t_br (fun hc => ?_) fun hc => ?_)
         | ((with_reducible first | refine t_kE ?_ | refine t_kD ?_ | refine t_gS ?_ | refine t_kL ?_ | refine t_kLF ?_ ?_ | refine t_region fun K => ?_ | refine t_cond fun A B => ?_ | refine t_draw (by kernel_rfl) fun K => ?_); simp only [go_sem, geff, con36_f, con36_c, con62_f, con62_c, arrV_def, arrOf_agg, slK_sl, e0, r1, r2, r3, hw, hk, Bool.not_true, Bool.false_and, Int.toNat_natCast, List.take_length])
         | ((with_reducible refine kp_skip ?_ ?_); rfl) | simp only [thenQ, blockQ, scopeQ, Nat.reduceEqDiff, reduceIte] | (with_reducible first | refine And.intro ?_ ?_ | intro vr))
        all_goals try (intros; (try simp only [Bool.and_eq_true, Bool.or_eq_true, Bool.not_eq_true', decide_eq_true_eq, decide_eq_false_iff_not, beq_iff_eq, bne_iff_ne, ne_eq, inI64, List.length_append] at *) <;> omega)
        all_goals try (simp only [List.length_take, List.length_drop]; omega)
        refine end_ret rfl ?_
        simp only [fin, go_sem]
        exact LeA.refl _
  · have e0 : (ofE a == 0) = false := bne0 h0
    rw [if_pos (by simpa using h0)]
    refine pc_of E11_ok mixed (fun _ => [0, 1, 2, 4, 5, 6, 7, 10, 19]) Try.func21 rfl (by kernel_rfl) (Nat.le_of_ble_eq_true rfl) ?_
    simp only [initF_cons, initF_nil, Nat.reduceAdd]
    refine t_name fun KF => ?_
    unfold E11
    repeat' (first
     | (with_reducible first | refine t_seq fun K => ?_ | refine t_block ?_ | refine t_scope ?_ | refine t_label ?_ | refine t_skip ?_ | refine t_exit ?_ | refine t_ret ?_ | refine t_k ?_ | refine t_gF ?_ | exact kp_nil | exact Kp.refl _ | exact kp_to | refine kp_cons ?_ | refine kp_arr ?_ | refine kp_app ?_ | refine t_p ?_ | refine t_br (fun hc => ?_) fun hc => ?_)
     | ((with_reducible first | refine t_kE ?_ | refine t_kD ?_ | refine t_gS ?_ | refine t_kL ?_ | refine t_kLF ?_ ?_ | refine t_region fun K => ?_ | refine t_cond fun A B => ?_ | refine t_draw (by kernel_rfl) fun K => ?_); simp only [go_sem, geff, con36_f, con36_c, con62_f, con62_c, arrV_def, arrOf_agg, slK_sl, e0, Bool.not_false])
     | ((with_reducible refine kp_skip ?_ ?_); rfl) | simp only [thenQ, blockQ, scopeQ, Nat.reduceEqDiff, reduceIte] | (with_reducible first | refine And.intro ?_ ?_ | intro vr))
    all_goals try (intros; (try simp only [Bool.and_eq_true, Bool.or_eq_true, Bool.not_eq_true', decide_eq_true_eq, decide_eq_false_iff_not, beq_iff_eq, bne_iff_ne, ne_eq, inI64, List.length_append] at *) <;> omega)
    refine end_ret rfl ?_
    simp only [fin, go_sem]
    exact spE_le
noncomputable def con21 : PCon Try.prog where
  f := 21
  c := fun
    | [xa, .lit (.int .i64 r)] => match arrOf xa with | some a => some (okA a ∧ inI64 r, spV (splitS a r)) | _ => none
    | _ => none
  ok := by
    intro args p r hc hp
    split at hc
    · split at hc
      · rename_i ha
        cases hc
        exact PC.weak ((fun hp : _ ∧ _ => rsplit_pc hp.1 hp.2) hp) ⟨arrOf_le ha, LeA.refl _, trivial⟩
      · cases hc
    · cases hc
  fk := fk21
theorem con21_f : con21.f = 21 := rfl
theorem con21_c {xa : AV} {r : Int} : con21.c [xa, .lit (.int .i64 r)] = match arrOf xa with | some a => some (okA a ∧ inI64 r, spV (splitS a r)) | _ => none := rfl
def fewA (a : Arr) (n : Int) : Bool := decide ((a.e.size : Int) ≤ 20) && (decide ((a.d.length : Int) ≤ 8) && decide ((a.x.length : Int) ≤ n))
theorem few_pc {a : Arr} {n : Int} : PC Try.prog 31 [arrV a, .lit (.int .i64 n)] (.lit (.bool (fewA a n))) := by
  unfold fewA
  by_cases h1 : (a.e.size : Int) ≤ 20
  · have e1 : decide ((a.e.size : Int) ≤ 20) = true := decide_eq_true h1
    by_cases h2 : (a.d.length : Int) ≤ 8
    · have e2 : decide ((a.d.length : Int) ≤ 8) = true := decide_eq_true h2
      rw [e1, e2]
      refine pc_of E0_ok mixed (fun _ => [0, 1, 2, 4]) Try.func31 rfl (by kernel_rfl) (Nat.le_of_ble_eq_true rfl) ?_
      simp only [initF_cons, initF_nil, Nat.reduceAdd]
      refine t_name fun KF => ?_
      unfold E0
      repeat' (first
       | (with_reducible first | refine t_seq fun K => ?_ | refine t_block ?_ | refine t_scope ?_ | refine t_label ?_ | refine t_skip ?_ | refine t_exit ?_ | refine t_ret ?_ | refine t_k ?_ | refine t_gF ?_ | exact kp_nil | exact Kp.refl _ | exact kp_to | refine kp_cons ?_ | refine kp_arr ?_ | refine kp_app ?_ | refine t_p ?_ | refine t_br (fun hc => ?_) fun hc => ?_)
       | ((with_reducible first | refine t_kE ?_ | refine t_kD ?_ | refine t_gS ?_ | refine t_kL ?_ | refine t_kLF ?_ ?_ | refine t_region fun K => ?_ | refine t_cond fun A B => ?_ | refine t_draw (by kernel_rfl) fun K => ?_); simp only [go_sem, geff, arrV_def, e1, e2])
       | ((with_reducible refine kp_skip ?_ ?_); rfl) | simp only [thenQ, blockQ, scopeQ, Nat.reduceEqDiff, reduceIte] | (with_reducible first | refine And.intro ?_ ?_ | intro vr))
      all_goals try (intros; (try simp only [Bool.and_eq_true, Bool.or_eq_true, Bool.not_eq_true', decide_eq_true_eq, decide_eq_false_iff_not, beq_iff_eq, bne_iff_ne, ne_eq, inI64, List.length_append] at *) <;> omega)
      refine end_ret rfl ?_
      simp only [fin, go_sem]
      exact LeA.refl _
    · have e2 : decide ((a.d.length : Int) ≤ 8) = false := decide_eq_false h2
      rw [e1, e2]
      refine pc_of E0_ok mixed (fun _ => [0, 1, 2, 4]) Try.func31 rfl (by kernel_rfl) (Nat.le_of_ble_eq_true rfl) ?_
      simp only [initF_cons, initF_nil, Nat.reduceAdd]
      refine t_name fun KF => ?_
      unfold E0
      repeat' (first
       | (with_reducible first | refine t_seq fun K => ?_ | refine t_block ?_ | refine t_scope ?_ | refine t_label ?_ | refine t_skip ?_ | refine t_exit ?_ | refine t_ret ?_ | refine t_k ?_ | refine t_gF ?_ | exact kp_nil | exact Kp.refl _ | exact kp_to | refine kp_cons ?_ | refine kp_arr ?_ | refine kp_app ?_ | refine t_p ?_ | refine t_br (fun hc => ?_) fun hc => ?_)
       | ((with_reducible first | refine t_kE ?_ | refine t_kD ?_ | refine t_gS ?_ | refine t_kL ?_ | refine t_kLF ?_ ?_ | refine t_region fun K => ?_ | refine t_cond fun A B => ?_ | refine t_draw (by kernel_rfl) fun K => ?_); simp only [go_sem, geff, arrV_def, e1, e2])
       | ((with_reducible refine kp_skip ?_ ?_); rfl) | simp only [thenQ, blockQ, scopeQ, Nat.reduceEqDiff, reduceIte] | (with_reducible first | refine And.intro ?_ ?_ | intro vr))
      all_goals try (intros; (try simp only [Bool.and_eq_true, Bool.or_eq_true, Bool.not_eq_true', decide_eq_true_eq, decide_eq_false_iff_not, beq_iff_eq, bne_iff_ne, ne_eq, inI64, List.length_append] at *) <;> omega)
      refine end_ret rfl ?_
      simp only [fin, go_sem]
      exact LeA.refl _
  · have e1 : decide ((a.e.size : Int) ≤ 20) = false := decide_eq_false h1
    rw [e1]
    refine pc_of E0_ok mixed (fun _ => [0, 1, 2, 4]) Try.func31 rfl (by kernel_rfl) (Nat.le_of_ble_eq_true rfl) ?_
    simp only [initF_cons, initF_nil, Nat.reduceAdd]
    refine t_name fun KF => ?_
    unfold E0
    repeat' (first
     | (with_reducible first | refine t_seq fun K => ?_ | refine t_block ?_ | refine t_scope ?_ | refine t_label ?_ | refine t_skip ?_ | refine t_exit ?_ | refine t_ret ?_ | refine t_k ?_ | refine t_gF ?_ | exact kp_nil | exact Kp.refl _ | exact kp_to | refine kp_cons ?_ | refine kp_arr ?_ | refine kp_app ?_ | refine t_p ?_ | refine t_br (fun hc => ?_) fun hc => ?_)
     | ((with_reducible first | refine t_kE ?_ | refine t_kD ?_ | refine t_gS ?_ | refine t_kL ?_ | refine t_kLF ?_ ?_ | refine t_region fun K => ?_ | refine t_cond fun A B => ?_ | refine t_draw (by kernel_rfl) fun K => ?_); simp only [go_sem, geff, arrV_def, e1])
     | ((with_reducible refine kp_skip ?_ ?_); rfl) | simp only [thenQ, blockQ, scopeQ, Nat.reduceEqDiff, reduceIte] | (with_reducible first | refine And.intro ?_ ?_ | intro vr))
    all_goals try (intros; (try simp only [Bool.and_eq_true, Bool.or_eq_true, Bool.not_eq_true', decide_eq_true_eq, decide_eq_false_iff_not, beq_iff_eq, bne_iff_ne, ne_eq, inI64, List.length_append] at *) <;> omega)
    refine end_ret rfl ?_
    simp only [fin, go_sem]
    exact LeA.refl _
noncomputable def con31 : PCon Try.prog where
  f := 31
  c := fun
    | [xa, .lit (.int .i64 n)] => match arrOf xa with | some a => some (True, .lit (.bool (fewA a n))) | _ => none
    | _ => none
  ok := by
    intro args p r hc hp
    split at hc
    · split at hc
      · rename_i ha
        cases hc
        exact PC.weak few_pc ⟨arrOf_le ha, LeA.refl _, trivial⟩
      · cases hc
    · cases hc
  fk := fk31
theorem con31_f : con31.f = 31 := rfl
theorem con31_c {xa : AV} {n : Int} : con31.c [xa, .lit (.int .i64 n)] = match arrOf xa with | some a => some (True, .lit (.bool (fewA a n))) | _ => none := rfl
def fewL (l : List Arr) : Bool := (l.all fun a => fewA a 100) && decide ((l.length : Int) ≤ 4)
noncomputable def E12 : Env := envOf (P := Try.prog) zer (fun _ => false) (fun _ => false) [con31] []
theorem E12_ok : EnvOk Try.prog E12 := envOk zer_ok
theorem fewl_pc {l : List Arr} (hm : l.length ≤ 9223372036854775807) : PC Try.prog 16 [.sl false 3 (arrs l)] (.lit (.bool (fewL l))) := by
  unfold fewL
  generalize hB : (l.all fun a => fewA a 100) = Bb
  refine pc_of E12_ok mixed (fun _ => [0, 2, 3, 7, 15]) Try.func16 rfl (by kernel_rfl) (Nat.le_of_ble_eq_true rfl) ?_
  simp only [initF_cons, initF_nil, Nat.reduceAdd]
  refine t_name fun KF => ?_
  unfold E12
  repeat' (first
   | (with_reducible first | refine t_seq fun K => ?_ | refine t_block ?_ | refine t_scope ?_ | refine t_label ?_ | refine t_skip ?_ | refine t_exit ?_ | refine t_ret ?_ | refine t_k ?_ | refine t_gF ?_ | exact kp_nil | exact Kp.refl _ | exact kp_to | refine kp_cons ?_ | refine kp_arr ?_ | refine kp_app ?_ | refine t_p ?_ | refine t_br (fun hc => ?_) fun hc => ?_)
   | ((with_reducible first | refine t_kE ?_ | refine t_kD ?_ | refine t_gS ?_ | refine t_kL ?_ | refine t_kLF ?_ ?_ | refine t_region fun K => ?_ | refine t_cond fun A B => ?_ | refine t_draw (by kernel_rfl) fun K => ?_); simp only [go_sem, geff, con31_f, arrs_length])
   | ((with_reducible refine kp_skip ?_ ?_); rfl) | simp only [thenQ, blockQ, scopeQ, Nat.reduceEqDiff, reduceIte] | (with_reducible first | refine And.intro ?_ ?_ | intro vr))
  refine t_loop (ι := { i : Nat // i ≤ l.length ∧ ((l.drop i).all fun a => fewA a 100) = Bb }) (fun i => ⟨upd (upd topF 3 (.lit (.int .i64 i.1))) 0 (.sl false 3 (arrs l)), []⟩) (fun i => l.length - i.1) ⟨0, by omega, hB⟩ ?_ ?_
  · skip
    (refine Le.frame ?_; repeat' (first | exact leF_top _ | (with_reducible refine leF_sl ?_ ?_) | (refine leF_upd (LeR.of_eq ?_) ?_))) <;> (try (simp only [go_sem]; try rfl))
  · rintro ⟨i, hi, hF⟩ K0
    rcases Nat.lt_or_ge i l.length with hc | hc
    · have g1 : decide ((i : Int) < (l.length : Int)) = true := decide_eq_true (by omega)
      have g2 := arrs_getD l i hc
      rw [drop_getD nilA hc, List.all_cons] at hF
      generalize l.getD i nilA = a at g2 hF
      by_cases hv : fewA a 100 = true
      · rw [hv, Bool.true_and] at hF
        repeat' (first
         | (with_reducible first | refine t_seq fun K => ?_ | refine t_block ?_ | refine t_scope ?_ | refine t_label ?_ | refine t_skip ?_ | refine t_exit ?_ | refine t_ret ?_ | refine t_k ?_ | refine t_gF ?_ | exact kp_nil | exact Kp.refl _ | exact kp_to | refine kp_cons ?_ | refine kp_arr ?_ | refine kp_app ?_ | refine t_p ?_ | refine t_br (fun hc => ?_) fun hc => ?_)
         | ((with_reducible first | refine t_kE ?_ | refine t_kD ?_ | refine t_gS ?_ | refine t_kL ?_ | refine t_kLF ?_ ?_ | refine t_region fun K => ?_ | refine t_cond fun A B => ?_ | refine t_draw (by kernel_rfl) fun K => ?_); simp only [go_sem, geff, con31_f, con31_c, g1, g2, hv, arrs_length, arrV_def, arrOf_agg, slK_sl, Int.toNat_natCast, Bool.not_true])
         | ((with_reducible refine kp_skip ?_ ?_); rfl) | simp only [thenQ, blockQ, scopeQ, Nat.reduceEqDiff, reduceIte] | (with_reducible first | refine And.intro ?_ ?_ | intro vr))
        all_goals try (intros; (try simp only [Bool.and_eq_true, Bool.or_eq_true, Bool.not_eq_true', decide_eq_true_eq, decide_eq_false_iff_not, beq_iff_eq, bne_iff_ne, ne_eq, inI64, List.length_append] at *) <;> omega)
        refine ⟨⟨i + 1, by omega, hF⟩, by simp only; omega, ?_⟩
        (refine Le.frame ?_; repeat' (first | exact leF_top _ | (with_reducible refine leF_sl ?_ ?_) | (refine leF_upd (LeR.of_eq ?_) ?_))) <;> (try (simp only [go_sem]; try rfl))
      · have hv' : fewA a 100 = false := by simpa using hv
        rw [hv', Bool.false_and] at hF
        subst hF
        repeat' (first
         | (with_reducible first | refine t_seq fun K => ?_ | refine t_block ?_ | refine t_scope ?_ | refine t_label ?_ | refine t_skip ?_ | refine t_exit ?_ | refine t_ret ?_ | refine t_k ?_ | refine t_gF ?_ | exact kp_nil | exact Kp.refl _ | exact kp_to | refine kp_cons ?_ | refine kp_arr ?_ | refine kp_app ?_ | refine t_p ?_ | refine t_br (fun hc => ?_) fun hc => ?_)
         | ((with_reducible first | refine t_kE ?_ | refine t_kD ?_ | refine t_gS ?_ | refine t_kL ?_ | refine t_kLF ?_ ?_ | refine t_region fun K => ?_ | refine t_cond fun A B => ?_ | refine t_draw (by kernel_rfl) fun K => ?_); simp only [go_sem, geff, con31_f, con31_c, g1, g2, hv', arrs_length, arrV_def, arrOf_agg, slK_sl, Int.toNat_natCast, Bool.not_false])
         | ((with_reducible refine kp_skip ?_ ?_); rfl) | simp only [thenQ, blockQ, scopeQ, Nat.reduceEqDiff, reduceIte] | (with_reducible first | refine And.intro ?_ ?_ | intro vr))
        all_goals try (intros; (try simp only [Bool.and_eq_true, Bool.or_eq_true, Bool.not_eq_true', decide_eq_true_eq, decide_eq_false_iff_not, beq_iff_eq, bne_iff_ne, ne_eq, inI64, List.length_append] at *) <;> omega)
        refine end_ret rfl ?_
        simp only [fin, go_sem]
        exact LeA.refl _
    · have g1 : decide ((i : Int) < (l.length : Int)) = false := decide_eq_false (by omega)
      rw [List.drop_eq_nil_of_le hc, List.all_nil] at hF
      subst hF
      repeat' (first
       | (with_reducible first | refine t_seq fun K => ?_ | refine t_block ?_ | refine t_scope ?_ | refine t_label ?_ | refine t_skip ?_ | refine t_exit ?_ | refine t_ret ?_ | refine t_k ?_ | refine t_gF ?_ | exact kp_nil | exact Kp.refl _ | exact kp_to | refine kp_cons ?_ | refine kp_arr ?_ | refine kp_app ?_ | refine t_p ?_ | refine t_br (fun hc => ?_) fun hc => ?_)
       | ((with_reducible first | refine t_kE ?_ | refine t_kD ?_ | refine t_gS ?_ | refine t_kL ?_ | refine t_kLF ?_ ?_ | refine t_region fun K => ?_ | refine t_cond fun A B => ?_ | refine t_draw (by kernel_rfl) fun K => ?_); simp only [go_sem, geff, con31_f, g1, arrs_length])
       | ((with_reducible refine kp_skip ?_ ?_); rfl) | simp only [thenQ, blockQ, scopeQ, Nat.reduceEqDiff, reduceIte] | (with_reducible first | refine And.intro ?_ ?_ | intro vr))
      refine end_ret rfl ?_
      simp only [fin, go_sem]
      exact LeA.refl _
noncomputable def con16 : PCon Try.prog where
  f := 16
  c := fun
    | [xl] => match arrsOf xl with | some l => some (l.length ≤ 9223372036854775807, .lit (.bool (fewL l))) | _ => none
    | _ => none
  ok := by
    intro args p r hc hp
    split at hc
    · split at hc
      · rename_i hl
        cases hc
        exact PC.weak (fewl_pc hp) ⟨arrsOf_le hl, trivial⟩
      · cases hc
    · cases hc
  fk := fk16
theorem con16_f : con16.f = 16 := rfl
theorem con16_c {xl : AV} : con16.c [xl] = match arrsOf xl with | some l => some (l.length ≤ 9223372036854775807, .lit (.bool (fewL l))) | _ => none := rfl
/-- Zeros, with an error. -/
def zerosS (e : ByteArray) (d : List Int) : Arr × Int := if tyOk e = false then (nilA, 12) else if (sizeS d).2 ≠ 0 then (nilA, (sizeS d).2) else ofS ⟨e, d, List.replicate (sizeS d).1.toNat 0⟩
noncomputable def E13 : Env := envOf (P := Try.prog) zer (fun _ => false) (fun _ => false) [con30, con63] []
theorem E13_ok : EnvOk Try.prog E13 := envOk zer_ok
theorem rep_ints (m : Nat) : List.replicate m (AV.lit (.int .i64 0)) = ints .i64 (List.replicate m 0) := by simp [ints]
set_option maxRecDepth 20000 in
set_option maxHeartbeats 1000000 in
theorem zeros_pc {e : ByteArray} {d : List Int} (hd : d.length ≤ 1000000) : PC Try.prog 37 [.lit (.string e), .sl false 1 (ints .i64 d)] (aeV (zerosS e d)) := by
  have hz := sizeS_bd d
  unfold zerosS
  by_cases t : tyOk e = true
  · rw [if_neg (by rw [t]; decide)]
    generalize hS : sizeS d = s at hz
    obtain ⟨n, er⟩ := s
    simp only at hz
    by_cases t1 : eqS e ⟨#[105, 110, 116]⟩ = true
    · skip
      by_cases e0 : er = 0
      · subst e0
        rw [if_neg (by simp)]
        have hr : n.toNat ≤ 1000000 := by omega
        refine pc_of E13_ok mixed (fun _ => [0, 1, 4, 5, 6, 7, 13, 21]) Try.func37 rfl (by kernel_rfl) (Nat.le_of_ble_eq_true rfl) ?_
        simp only [initF_cons, initF_nil, Nat.reduceAdd]
        refine t_name fun KF => ?_
        unfold E13
        repeat' (first
         | (with_reducible first | refine t_seq fun K => ?_ | refine t_block ?_ | refine t_scope ?_ | refine t_label ?_ | refine t_skip ?_ | refine t_exit ?_ | refine t_ret ?_ | refine t_k ?_ | refine t_gF ?_ | exact kp_nil | exact Kp.refl _ | exact kp_to | refine kp_cons ?_ | refine kp_arr ?_ | refine kp_app ?_ | refine t_p ?_ | refine t_br (fun hc => ?_) fun hc => ?_)
         | ((with_reducible first | refine t_kE ?_ | refine t_kD ?_ | refine t_gS ?_ | refine t_kL ?_ | refine t_kLF ?_ ?_ | refine t_region fun K => ?_ | refine t_cond fun A B => ?_ | refine t_draw (by kernel_rfl) fun K => ?_); simp only [go_sem, geff, con30_f, con63_f, con30_c, con63_c, slK_sl, szV_def, hS, t1, rep_ints, aeV_def, arrV_def, List.length_replicate])
         | ((with_reducible refine kp_skip ?_ ?_); rfl) | simp only [thenQ, blockQ, scopeQ, Nat.reduceEqDiff, reduceIte] | (with_reducible first | refine And.intro ?_ ?_ | intro vr))
        all_goals try (intros; (try simp only [Bool.and_eq_true, Bool.or_eq_true, Bool.not_eq_true', decide_eq_true_eq, decide_eq_false_iff_not, beq_iff_eq, bne_iff_ne, ne_eq, inI64, List.length_append] at *) <;> omega)
        refine end_ret rfl ?_
        simp only [fin, go_sem]
        exact LeA.refl _
      · have e1 : (er != 0) = true := by rw [bne_iff_ne]; exact e0
        rw [if_pos (by simpa using e0)]
        refine pc_of E13_ok mixed (fun _ => [0, 1, 4, 5, 6, 7, 13, 21]) Try.func37 rfl (by kernel_rfl) (Nat.le_of_ble_eq_true rfl) ?_
        simp only [initF_cons, initF_nil, Nat.reduceAdd]
        refine t_name fun KF => ?_
        unfold E13
        repeat' (first
         | (with_reducible first | refine t_seq fun K => ?_ | refine t_block ?_ | refine t_scope ?_ | refine t_label ?_ | refine t_skip ?_ | refine t_exit ?_ | refine t_ret ?_ | refine t_k ?_ | refine t_gF ?_ | exact kp_nil | exact Kp.refl _ | exact kp_to | refine kp_cons ?_ | refine kp_arr ?_ | refine kp_app ?_ | refine t_p ?_ | refine t_br (fun hc => ?_) fun hc => ?_)
         | ((with_reducible first | refine t_kE ?_ | refine t_kD ?_ | refine t_gS ?_ | refine t_kL ?_ | refine t_kLF ?_ ?_ | refine t_region fun K => ?_ | refine t_cond fun A B => ?_ | refine t_draw (by kernel_rfl) fun K => ?_); simp only [go_sem, geff, con30_f, con63_f, con30_c, con63_c, slK_sl, szV_def, hS, t1, e1])
         | ((with_reducible refine kp_skip ?_ ?_); rfl) | simp only [thenQ, blockQ, scopeQ, Nat.reduceEqDiff, reduceIte] | (with_reducible first | refine And.intro ?_ ?_ | intro vr))
        all_goals try (intros; (try simp only [Bool.and_eq_true, Bool.or_eq_true, Bool.not_eq_true', decide_eq_true_eq, decide_eq_false_iff_not, beq_iff_eq, bne_iff_ne, ne_eq, inI64, List.length_append] at *) <;> omega)
        refine end_ret rfl ?_
        simp only [fin, go_sem]
        exact nilAe_le
    · have t2 : eqS e ⟨#[98, 111, 111, 108]⟩ = true := by unfold tyOk at t; rw [Bool.or_eq_true] at t; exact t.resolve_left t1
      have t1' : eqS e ⟨#[105, 110, 116]⟩ = false := by simpa using t1
      by_cases e0 : er = 0
      · subst e0
        rw [if_neg (by simp)]
        have hr : n.toNat ≤ 1000000 := by omega
        refine pc_of E13_ok mixed (fun _ => [0, 1, 4, 5, 6, 7, 13, 21]) Try.func37 rfl (by kernel_rfl) (Nat.le_of_ble_eq_true rfl) ?_
        simp only [initF_cons, initF_nil, Nat.reduceAdd]
        refine t_name fun KF => ?_
        unfold E13
        repeat' (first
         | (with_reducible first | refine t_seq fun K => ?_ | refine t_block ?_ | refine t_scope ?_ | refine t_label ?_ | refine t_skip ?_ | refine t_exit ?_ | refine t_ret ?_ | refine t_k ?_ | refine t_gF ?_ | exact kp_nil | exact Kp.refl _ | exact kp_to | refine kp_cons ?_ | refine kp_arr ?_ | refine kp_app ?_ | refine t_p ?_ | refine t_br (fun hc => ?_) fun hc => ?_)
         | ((with_reducible first | refine t_kE ?_ | refine t_kD ?_ | refine t_gS ?_ | refine t_kL ?_ | refine t_kLF ?_ ?_ | refine t_region fun K => ?_ | refine t_cond fun A B => ?_ | refine t_draw (by kernel_rfl) fun K => ?_); simp only [go_sem, geff, con30_f, con63_f, con30_c, con63_c, slK_sl, szV_def, hS, t1', t2, rep_ints, aeV_def, arrV_def, List.length_replicate])
         | ((with_reducible refine kp_skip ?_ ?_); rfl) | simp only [thenQ, blockQ, scopeQ, Nat.reduceEqDiff, reduceIte] | (with_reducible first | refine And.intro ?_ ?_ | intro vr))
        all_goals try (intros; (try simp only [Bool.and_eq_true, Bool.or_eq_true, Bool.not_eq_true', decide_eq_true_eq, decide_eq_false_iff_not, beq_iff_eq, bne_iff_ne, ne_eq, inI64, List.length_append] at *) <;> omega)
        refine end_ret rfl ?_
        simp only [fin, go_sem]
        exact LeA.refl _
      · have e1 : (er != 0) = true := by rw [bne_iff_ne]; exact e0
        rw [if_pos (by simpa using e0)]
        refine pc_of E13_ok mixed (fun _ => [0, 1, 4, 5, 6, 7, 13, 21]) Try.func37 rfl (by kernel_rfl) (Nat.le_of_ble_eq_true rfl) ?_
        simp only [initF_cons, initF_nil, Nat.reduceAdd]
        refine t_name fun KF => ?_
        unfold E13
        repeat' (first
         | (with_reducible first | refine t_seq fun K => ?_ | refine t_block ?_ | refine t_scope ?_ | refine t_label ?_ | refine t_skip ?_ | refine t_exit ?_ | refine t_ret ?_ | refine t_k ?_ | refine t_gF ?_ | exact kp_nil | exact Kp.refl _ | exact kp_to | refine kp_cons ?_ | refine kp_arr ?_ | refine kp_app ?_ | refine t_p ?_ | refine t_br (fun hc => ?_) fun hc => ?_)
         | ((with_reducible first | refine t_kE ?_ | refine t_kD ?_ | refine t_gS ?_ | refine t_kL ?_ | refine t_kLF ?_ ?_ | refine t_region fun K => ?_ | refine t_cond fun A B => ?_ | refine t_draw (by kernel_rfl) fun K => ?_); simp only [go_sem, geff, con30_f, con63_f, con30_c, con63_c, slK_sl, szV_def, hS, t1', t2, e1])
         | ((with_reducible refine kp_skip ?_ ?_); rfl) | simp only [thenQ, blockQ, scopeQ, Nat.reduceEqDiff, reduceIte] | (with_reducible first | refine And.intro ?_ ?_ | intro vr))
        all_goals try (intros; (try simp only [Bool.and_eq_true, Bool.or_eq_true, Bool.not_eq_true', decide_eq_true_eq, decide_eq_false_iff_not, beq_iff_eq, bne_iff_ne, ne_eq, inI64, List.length_append] at *) <;> omega)
        refine end_ret rfl ?_
        simp only [fin, go_sem]
        exact nilAe_le
  · have t' : tyOk e = false := by simpa using t
    have t1 : eqS e ⟨#[105, 110, 116]⟩ = false := (Bool.or_eq_false_iff.1 t').1
    have t2 : eqS e ⟨#[98, 111, 111, 108]⟩ = false := (Bool.or_eq_false_iff.1 t').2
    rw [if_pos t']
    refine pc_of E13_ok mixed (fun _ => [0, 1, 4, 5, 6, 7, 13, 21]) Try.func37 rfl (by kernel_rfl) (Nat.le_of_ble_eq_true rfl) ?_
    simp only [initF_cons, initF_nil, Nat.reduceAdd]
    refine t_name fun KF => ?_
    unfold E13
    repeat' (first
     | (with_reducible first | refine t_seq fun K => ?_ | refine t_block ?_ | refine t_scope ?_ | refine t_label ?_ | refine t_skip ?_ | refine t_exit ?_ | refine t_ret ?_ | refine t_k ?_ | refine t_gF ?_ | exact kp_nil | exact Kp.refl _ | exact kp_to | refine kp_cons ?_ | refine kp_arr ?_ | refine kp_app ?_ | refine t_p ?_ | refine t_br (fun hc => ?_) fun hc => ?_)
     | ((with_reducible first | refine t_kE ?_ | refine t_kD ?_ | refine t_gS ?_ | refine t_kL ?_ | refine t_kLF ?_ ?_ | refine t_region fun K => ?_ | refine t_cond fun A B => ?_ | refine t_draw (by kernel_rfl) fun K => ?_); simp only [go_sem, geff, con30_f, con63_f, t1, t2])
     | ((with_reducible refine kp_skip ?_ ?_); rfl) | simp only [thenQ, blockQ, scopeQ, Nat.reduceEqDiff, reduceIte] | (with_reducible first | refine And.intro ?_ ?_ | intro vr))
    all_goals try (intros; (try simp only [Bool.and_eq_true, Bool.or_eq_true, Bool.not_eq_true', decide_eq_true_eq, decide_eq_false_iff_not, beq_iff_eq, bne_iff_ne, ne_eq, inI64, List.length_append] at *) <;> omega)
    refine end_ret rfl ?_
    simp only [fin, go_sem]
    exact nilAe_le
noncomputable def con37 : PCon Try.prog where
  f := 37
  c := fun
    | [.lit (.string e), xd] => match slK .i64 xd with | some d => some (d.length ≤ 1000000, aeV (zerosS e d)) | _ => none
    | _ => none
  ok := by
    intro args p r hc hp
    split at hc
    · split at hc
      · rename_i hd
        cases hc
        exact PC.weak (zeros_pc hp) ⟨LeA.refl _, slK_le hd, trivial⟩
      · cases hc
    · cases hc
  fk := fk37
theorem con37_f : con37.f = 37 := rfl
theorem con37_c {e : ByteArray} {xd : AV} : con37.c [.lit (.string e), xd] = match slK .i64 xd with | some d => some (d.length ≤ 1000000, aeV (zerosS e d)) | _ => none := rfl
noncomputable def E14 : Env := envOf (P := Try.prog) zer (fun _ => false) (fun _ => false) [con37] []
theorem E14_ok : EnvOk Try.prog E14 := envOk zer_ok
set_option maxRecDepth 20000 in
theorem zeros20_pc {d : List Int} (hd : d.length ≤ 1000000) : PC Try.prog 29 [.sl false 1 (ints .i64 d)] (arrV (zerosS sInt d).1) := by
  unfold sInt
  refine pc_of E14_ok mixed (fun _ => [0, 2, 3]) Try.func29 rfl (by kernel_rfl) (Nat.le_of_ble_eq_true rfl) ?_
  simp only [initF_cons, initF_nil, Nat.reduceAdd]
  refine t_name fun KF => ?_
  unfold E14
  repeat' (first
   | (with_reducible first | refine t_seq fun K => ?_ | refine t_block ?_ | refine t_scope ?_ | refine t_label ?_ | refine t_skip ?_ | refine t_exit ?_ | refine t_ret ?_ | refine t_k ?_ | refine t_gF ?_ | exact kp_nil | exact Kp.refl _ | exact kp_to | refine kp_cons ?_ | refine kp_arr ?_ | refine kp_app ?_ | refine t_p ?_ | refine t_br (fun hc => ?_) fun hc => ?_)
   | ((with_reducible first | refine t_kE ?_ | refine t_kD ?_ | refine t_gS ?_ | refine t_kL ?_ | refine t_kLF ?_ ?_ | refine t_region fun K => ?_ | refine t_cond fun A B => ?_ | refine t_draw (by kernel_rfl) fun K => ?_); simp only [go_sem, geff, con37_f, con37_c, slK_sl, aeV_def, arrV_def])
   | ((with_reducible refine kp_skip ?_ ?_); rfl) | simp only [thenQ, blockQ, scopeQ, Nat.reduceEqDiff, reduceIte] | (with_reducible first | refine And.intro ?_ ?_ | intro vr))
  all_goals try (intros; (try simp only [Bool.and_eq_true, Bool.or_eq_true, Bool.not_eq_true', decide_eq_true_eq, decide_eq_false_iff_not, beq_iff_eq, bne_iff_ne, ne_eq, inI64, List.length_append] at *) <;> omega)
  refine end_ret rfl ?_
  simp only [fin, go_sem]
  exact LeA.refl _
noncomputable def con29 : PCon Try.prog where
  f := 29
  c := fun
    | [xd] => match slK .i64 xd with | some d => some (d.length ≤ 1000000, arrV (zerosS sInt d).1) | _ => none
    | _ => none
  ok := by
    intro args p r hc hp
    split at hc
    · split at hc
      · rename_i hd
        cases hc
        exact PC.weak (zeros20_pc hp) ⟨slK_le hd, trivial⟩
      · cases hc
    · cases hc
  fk := fk29
theorem con29_f : con29.f = 29 := rfl
theorem con29_c {xd : AV} : con29.c [xd] = match slK .i64 xd with | some d => some (d.length ≤ 1000000, arrV (zerosS sInt d).1) | _ => none := rfl
end Go.Proofs.Ytcjjakhmpffopaa
