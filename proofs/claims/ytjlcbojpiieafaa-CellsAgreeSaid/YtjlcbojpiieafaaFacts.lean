/- Closed facts on the types of this seat's program, made by program (facts.py). -/
import Derived.Test.YtjlcbojpiieafaaRows
import Derived.Test.YtjlcbojpiieafaaFwB

set_option linter.all false

namespace Go.Proofs.Ytjlcbojpiieafaa
open Go Go.Fw

theorem u2 : Try.prog.underlying 2 = some (.int .i64) := by kernel_rfl
theorem sz2 : szT Try.prog 2 = 1 := by kernel_rfl
theorem by2 : byT Try.prog 2 = 8 := by kernel_rfl
theorem ag2 : aggT Try.prog 2 = some false := by kernel_rfl
theorem so2 : structOk Try.prog 2 = false := by kernel_rfl
theorem iz2 : (zeroT Try.prog 2).isSome = true := by kernel_rfl
theorem zk2 : zOk Try.prog 2 = true := by kernel_rfl
theorem iu2 : (Try.prog.underlying 2).isSome = true := by kernel_rfl
theorem u3 : Try.prog.underlying 3 = some (.int .i64) := by kernel_rfl
theorem sz3 : szT Try.prog 3 = 1 := by kernel_rfl
theorem by3 : byT Try.prog 3 = 8 := by kernel_rfl
theorem ag3 : aggT Try.prog 3 = some false := by kernel_rfl
theorem so3 : structOk Try.prog 3 = false := by kernel_rfl
theorem iz3 : (zeroT Try.prog 3).isSome = true := by kernel_rfl
theorem zk3 : zOk Try.prog 3 = true := by kernel_rfl
theorem iu3 : (Try.prog.underlying 3).isSome = true := by kernel_rfl
theorem u4 : Try.prog.underlying 4 = some .bool := by kernel_rfl
theorem sz4 : szT Try.prog 4 = 1 := by kernel_rfl
theorem by4 : byT Try.prog 4 = 1 := by kernel_rfl
theorem ag4 : aggT Try.prog 4 = some false := by kernel_rfl
theorem so4 : structOk Try.prog 4 = false := by kernel_rfl
theorem iz4 : (zeroT Try.prog 4).isSome = true := by kernel_rfl
theorem zk4 : zOk Try.prog 4 = true := by kernel_rfl
theorem iu4 : (Try.prog.underlying 4).isSome = true := by kernel_rfl
theorem u5 : Try.prog.underlying 5 = some (.int .u8) := by kernel_rfl
theorem sz5 : szT Try.prog 5 = 1 := by kernel_rfl
theorem by5 : byT Try.prog 5 = 1 := by kernel_rfl
theorem ag5 : aggT Try.prog 5 = some false := by kernel_rfl
theorem so5 : structOk Try.prog 5 = false := by kernel_rfl
theorem iz5 : (zeroT Try.prog 5).isSome = true := by kernel_rfl
theorem zk5 : zOk Try.prog 5 = true := by kernel_rfl
theorem iu5 : (Try.prog.underlying 5).isSome = true := by kernel_rfl
theorem u6 : Try.prog.underlying 6 = some (.int .u8) := by kernel_rfl
theorem sz6 : szT Try.prog 6 = 1 := by kernel_rfl
theorem by6 : byT Try.prog 6 = 1 := by kernel_rfl
theorem ag6 : aggT Try.prog 6 = some false := by kernel_rfl
theorem so6 : structOk Try.prog 6 = false := by kernel_rfl
theorem iz6 : (zeroT Try.prog 6).isSome = true := by kernel_rfl
theorem zk6 : zOk Try.prog 6 = true := by kernel_rfl
theorem iu6 : (Try.prog.underlying 6).isSome = true := by kernel_rfl
theorem sz7 : szT Try.prog 7 = 4 := by kernel_rfl
theorem by7 : byT Try.prog 7 = 24 := by kernel_rfl
theorem ag7 : aggT Try.prog 7 = some true := by kernel_rfl
theorem so7 : structOk Try.prog 7 = true := by kernel_rfl
theorem fl7_0 : fieldT Try.prog 7 0 = some (2, 0) := by kernel_rfl
theorem fl7_1 : fieldT Try.prog 7 1 = some (3, 1) := by kernel_rfl
theorem fl7_2 : fieldT Try.prog 7 2 = some (4, 2) := by kernel_rfl
theorem fl7_3 : fieldT Try.prog 7 3 = some (6, 3) := by kernel_rfl
theorem iz7 : (zeroT Try.prog 7).isSome = true := by kernel_rfl
theorem zk7 : zOk Try.prog 7 = true := by kernel_rfl
theorem iu7 : (Try.prog.underlying 7).isSome = true := by kernel_rfl
theorem sz8 : szT Try.prog 8 = 4 := by kernel_rfl
theorem by8 : byT Try.prog 8 = 24 := by kernel_rfl
theorem ag8 : aggT Try.prog 8 = some true := by kernel_rfl
theorem so8 : structOk Try.prog 8 = true := by kernel_rfl
theorem fl8_0 : fieldT Try.prog 8 0 = some (2, 0) := by kernel_rfl
theorem fl8_1 : fieldT Try.prog 8 1 = some (3, 1) := by kernel_rfl
theorem fl8_2 : fieldT Try.prog 8 2 = some (4, 2) := by kernel_rfl
theorem fl8_3 : fieldT Try.prog 8 3 = some (6, 3) := by kernel_rfl
theorem iz8 : (zeroT Try.prog 8).isSome = true := by kernel_rfl
theorem zk8 : zOk Try.prog 8 = true := by kernel_rfl
theorem iu8 : (Try.prog.underlying 8).isSome = true := by kernel_rfl
theorem u9 : Try.prog.underlying 9 = some .string := by kernel_rfl
theorem sz9 : szT Try.prog 9 = 1 := by kernel_rfl
theorem by9 : byT Try.prog 9 = 16 := by kernel_rfl
theorem ag9 : aggT Try.prog 9 = some false := by kernel_rfl
theorem so9 : structOk Try.prog 9 = false := by kernel_rfl
theorem iz9 : (zeroT Try.prog 9).isSome = true := by kernel_rfl
theorem zk9 : zOk Try.prog 9 = true := by kernel_rfl
theorem iu9 : (Try.prog.underlying 9).isSome = true := by kernel_rfl
theorem u10 : Try.prog.underlying 10 = some .string := by kernel_rfl
theorem sz10 : szT Try.prog 10 = 1 := by kernel_rfl
theorem by10 : byT Try.prog 10 = 16 := by kernel_rfl
theorem ag10 : aggT Try.prog 10 = some false := by kernel_rfl
theorem so10 : structOk Try.prog 10 = false := by kernel_rfl
theorem iz10 : (zeroT Try.prog 10).isSome = true := by kernel_rfl
theorem zk10 : zOk Try.prog 10 = true := by kernel_rfl
theorem iu10 : (Try.prog.underlying 10).isSome = true := by kernel_rfl
theorem u11 : Try.prog.underlying 11 = some .string := by kernel_rfl
theorem sz11 : szT Try.prog 11 = 1 := by kernel_rfl
theorem by11 : byT Try.prog 11 = 16 := by kernel_rfl
theorem ag11 : aggT Try.prog 11 = some false := by kernel_rfl
theorem so11 : structOk Try.prog 11 = false := by kernel_rfl
theorem iz11 : (zeroT Try.prog 11).isSome = true := by kernel_rfl
theorem zk11 : zOk Try.prog 11 = true := by kernel_rfl
theorem iu11 : (Try.prog.underlying 11).isSome = true := by kernel_rfl
theorem u12 : Try.prog.underlying 12 = some (.int .u64) := by kernel_rfl
theorem sz12 : szT Try.prog 12 = 1 := by kernel_rfl
theorem by12 : byT Try.prog 12 = 8 := by kernel_rfl
theorem ag12 : aggT Try.prog 12 = some false := by kernel_rfl
theorem so12 : structOk Try.prog 12 = false := by kernel_rfl
theorem iz12 : (zeroT Try.prog 12).isSome = true := by kernel_rfl
theorem zk12 : zOk Try.prog 12 = true := by kernel_rfl
theorem iu12 : (Try.prog.underlying 12).isSome = true := by kernel_rfl
theorem sz13 : szT Try.prog 13 = 2 := by kernel_rfl
theorem by13 : byT Try.prog 13 = 24 := by kernel_rfl
theorem ag13 : aggT Try.prog 13 = some true := by kernel_rfl
theorem so13 : structOk Try.prog 13 = true := by kernel_rfl
theorem fl13_0 : fieldT Try.prog 13 0 = some (9, 0) := by kernel_rfl
theorem fl13_1 : fieldT Try.prog 13 1 = some (12, 1) := by kernel_rfl
theorem iz13 : (zeroT Try.prog 13).isSome = true := by kernel_rfl
theorem zk13 : zOk Try.prog 13 = true := by kernel_rfl
theorem iu13 : (Try.prog.underlying 13).isSome = true := by kernel_rfl
theorem sz14 : szT Try.prog 14 = 2 := by kernel_rfl
theorem by14 : byT Try.prog 14 = 24 := by kernel_rfl
theorem ag14 : aggT Try.prog 14 = some true := by kernel_rfl
theorem so14 : structOk Try.prog 14 = true := by kernel_rfl
theorem fl14_0 : fieldT Try.prog 14 0 = some (9, 0) := by kernel_rfl
theorem fl14_1 : fieldT Try.prog 14 1 = some (12, 1) := by kernel_rfl
theorem iz14 : (zeroT Try.prog 14).isSome = true := by kernel_rfl
theorem zk14 : zOk Try.prog 14 = true := by kernel_rfl
theorem iu14 : (Try.prog.underlying 14).isSome = true := by kernel_rfl
theorem u15 : Try.prog.underlying 15 = some (.pointer 132) := by kernel_rfl
theorem sz15 : szT Try.prog 15 = 1 := by kernel_rfl
theorem by15 : byT Try.prog 15 = 8 := by kernel_rfl
theorem ag15 : aggT Try.prog 15 = some false := by kernel_rfl
theorem so15 : structOk Try.prog 15 = false := by kernel_rfl
theorem iz15 : (zeroT Try.prog 15).isSome = true := by kernel_rfl
theorem zk15 : zOk Try.prog 15 = true := by kernel_rfl
theorem iu15 : (Try.prog.underlying 15).isSome = true := by kernel_rfl
theorem u16 : Try.prog.underlying 16 = some (.pointer 135) := by kernel_rfl
theorem sz16 : szT Try.prog 16 = 1 := by kernel_rfl
theorem by16 : byT Try.prog 16 = 8 := by kernel_rfl
theorem ag16 : aggT Try.prog 16 = some false := by kernel_rfl
theorem so16 : structOk Try.prog 16 = false := by kernel_rfl
theorem iz16 : (zeroT Try.prog 16).isSome = true := by kernel_rfl
theorem zk16 : zOk Try.prog 16 = true := by kernel_rfl
theorem iu16 : (Try.prog.underlying 16).isSome = true := by kernel_rfl
theorem u17 : Try.prog.underlying 17 = some (.pointer 145) := by kernel_rfl
theorem sz17 : szT Try.prog 17 = 1 := by kernel_rfl
theorem by17 : byT Try.prog 17 = 8 := by kernel_rfl
theorem ag17 : aggT Try.prog 17 = some false := by kernel_rfl
theorem so17 : structOk Try.prog 17 = false := by kernel_rfl
theorem iz17 : (zeroT Try.prog 17).isSome = true := by kernel_rfl
theorem zk17 : zOk Try.prog 17 = true := by kernel_rfl
theorem iu17 : (Try.prog.underlying 17).isSome = true := by kernel_rfl
theorem sz18 : szT Try.prog 18 = 1 := by kernel_rfl
theorem by18 : byT Try.prog 18 = 8 := by kernel_rfl
theorem ag18 : aggT Try.prog 18 = some true := by kernel_rfl
theorem so18 : structOk Try.prog 18 = true := by kernel_rfl
theorem fl18_0 : fieldT Try.prog 18 0 = some (17, 0) := by kernel_rfl
theorem iz18 : (zeroT Try.prog 18).isSome = true := by kernel_rfl
theorem zk18 : zOk Try.prog 18 = true := by kernel_rfl
theorem iu18 : (Try.prog.underlying 18).isSome = true := by kernel_rfl
theorem sz19 : szT Try.prog 19 = 1 := by kernel_rfl
theorem by19 : byT Try.prog 19 = 8 := by kernel_rfl
theorem ag19 : aggT Try.prog 19 = some true := by kernel_rfl
theorem so19 : structOk Try.prog 19 = true := by kernel_rfl
theorem fl19_0 : fieldT Try.prog 19 0 = some (17, 0) := by kernel_rfl
theorem iz19 : (zeroT Try.prog 19).isSome = true := by kernel_rfl
theorem zk19 : zOk Try.prog 19 = true := by kernel_rfl
theorem iu19 : (Try.prog.underlying 19).isSome = true := by kernel_rfl
theorem u21 : Try.prog.underlying 21 = some (.int .i32) := by kernel_rfl
theorem sz21 : szT Try.prog 21 = 1 := by kernel_rfl
theorem by21 : byT Try.prog 21 = 4 := by kernel_rfl
theorem ag21 : aggT Try.prog 21 = some false := by kernel_rfl
theorem so21 : structOk Try.prog 21 = false := by kernel_rfl
theorem iz21 : (zeroT Try.prog 21).isSome = true := by kernel_rfl
theorem zk21 : zOk Try.prog 21 = true := by kernel_rfl
theorem iu21 : (Try.prog.underlying 21).isSome = true := by kernel_rfl
theorem u22 : Try.prog.underlying 22 = some (.slice 33) := by kernel_rfl
theorem sz22 : szT Try.prog 22 = 1 := by kernel_rfl
theorem by22 : byT Try.prog 22 = 24 := by kernel_rfl
theorem ag22 : aggT Try.prog 22 = some false := by kernel_rfl
theorem so22 : structOk Try.prog 22 = false := by kernel_rfl
theorem iz22 : (zeroT Try.prog 22).isSome = true := by kernel_rfl
theorem zk22 : zOk Try.prog 22 = true := by kernel_rfl
theorem iu22 : (Try.prog.underlying 22).isSome = true := by kernel_rfl
theorem ap22 : appT Try.prog #[22, 22] = some 33 := by kernel_rfl
theorem u23 : Try.prog.underlying 23 = some (.slice 3) := by kernel_rfl
theorem sz23 : szT Try.prog 23 = 1 := by kernel_rfl
theorem by23 : byT Try.prog 23 = 24 := by kernel_rfl
theorem ag23 : aggT Try.prog 23 = some false := by kernel_rfl
theorem so23 : structOk Try.prog 23 = false := by kernel_rfl
theorem iz23 : (zeroT Try.prog 23).isSome = true := by kernel_rfl
theorem zk23 : zOk Try.prog 23 = true := by kernel_rfl
theorem iu23 : (Try.prog.underlying 23).isSome = true := by kernel_rfl
theorem ap23 : appT Try.prog #[23, 23] = some 3 := by kernel_rfl
theorem u26 : Try.prog.underlying 26 = some (.slice 4) := by kernel_rfl
theorem sz26 : szT Try.prog 26 = 1 := by kernel_rfl
theorem by26 : byT Try.prog 26 = 24 := by kernel_rfl
theorem ag26 : aggT Try.prog 26 = some false := by kernel_rfl
theorem so26 : structOk Try.prog 26 = false := by kernel_rfl
theorem iz26 : (zeroT Try.prog 26).isSome = true := by kernel_rfl
theorem zk26 : zOk Try.prog 26 = true := by kernel_rfl
theorem iu26 : (Try.prog.underlying 26).isSome = true := by kernel_rfl
theorem ap26 : appT Try.prog #[26, 26] = some 4 := by kernel_rfl
theorem u27 : Try.prog.underlying 27 = some (.int .i64) := by kernel_rfl
theorem sz27 : szT Try.prog 27 = 1 := by kernel_rfl
theorem by27 : byT Try.prog 27 = 8 := by kernel_rfl
theorem ag27 : aggT Try.prog 27 = some false := by kernel_rfl
theorem so27 : structOk Try.prog 27 = false := by kernel_rfl
theorem iz27 : (zeroT Try.prog 27).isSome = true := by kernel_rfl
theorem zk27 : zOk Try.prog 27 = true := by kernel_rfl
theorem iu27 : (Try.prog.underlying 27).isSome = true := by kernel_rfl
theorem sz32 : szT Try.prog 32 = 3 := by kernel_rfl
theorem by32 : byT Try.prog 32 = 64 := by kernel_rfl
theorem ag32 : aggT Try.prog 32 = some true := by kernel_rfl
theorem so32 : structOk Try.prog 32 = true := by kernel_rfl
theorem fl32_0 : fieldT Try.prog 32 0 = some (9, 0) := by kernel_rfl
theorem fl32_1 : fieldT Try.prog 32 1 = some (23, 1) := by kernel_rfl
theorem fl32_2 : fieldT Try.prog 32 2 = some (23, 2) := by kernel_rfl
theorem iz32 : (zeroT Try.prog 32).isSome = true := by kernel_rfl
theorem zk32 : zOk Try.prog 32 = true := by kernel_rfl
theorem iu32 : (Try.prog.underlying 32).isSome = true := by kernel_rfl
theorem sz33 : szT Try.prog 33 = 3 := by kernel_rfl
theorem by33 : byT Try.prog 33 = 64 := by kernel_rfl
theorem ag33 : aggT Try.prog 33 = some true := by kernel_rfl
theorem so33 : structOk Try.prog 33 = true := by kernel_rfl
theorem fl33_0 : fieldT Try.prog 33 0 = some (9, 0) := by kernel_rfl
theorem fl33_1 : fieldT Try.prog 33 1 = some (23, 1) := by kernel_rfl
theorem fl33_2 : fieldT Try.prog 33 2 = some (23, 2) := by kernel_rfl
theorem iz33 : (zeroT Try.prog 33).isSome = true := by kernel_rfl
theorem zk33 : zOk Try.prog 33 = true := by kernel_rfl
theorem iu33 : (Try.prog.underlying 33).isSome = true := by kernel_rfl
theorem u40 : Try.prog.underlying 40 = some (.slice 23) := by kernel_rfl
theorem sz40 : szT Try.prog 40 = 1 := by kernel_rfl
theorem by40 : byT Try.prog 40 = 24 := by kernel_rfl
theorem ag40 : aggT Try.prog 40 = some false := by kernel_rfl
theorem so40 : structOk Try.prog 40 = false := by kernel_rfl
theorem iz40 : (zeroT Try.prog 40).isSome = true := by kernel_rfl
theorem zk40 : zOk Try.prog 40 = true := by kernel_rfl
theorem iu40 : (Try.prog.underlying 40).isSome = true := by kernel_rfl
theorem ap40 : appT Try.prog #[40, 40] = some 23 := by kernel_rfl
theorem sz41 : szT Try.prog 41 = 2 := by kernel_rfl
theorem by41 : byT Try.prog 41 = 48 := by kernel_rfl
theorem ag41 : aggT Try.prog 41 = some true := by kernel_rfl
theorem so41 : structOk Try.prog 41 = true := by kernel_rfl
theorem fl41_0 : fieldT Try.prog 41 0 = some (40, 0) := by kernel_rfl
theorem fl41_1 : fieldT Try.prog 41 1 = some (23, 1) := by kernel_rfl
theorem iz41 : (zeroT Try.prog 41).isSome = true := by kernel_rfl
theorem zk41 : zOk Try.prog 41 = true := by kernel_rfl
theorem iu41 : (Try.prog.underlying 41).isSome = true := by kernel_rfl
theorem sz42 : szT Try.prog 42 = 2 := by kernel_rfl
theorem by42 : byT Try.prog 42 = 48 := by kernel_rfl
theorem ag42 : aggT Try.prog 42 = some true := by kernel_rfl
theorem so42 : structOk Try.prog 42 = true := by kernel_rfl
theorem fl42_0 : fieldT Try.prog 42 0 = some (40, 0) := by kernel_rfl
theorem fl42_1 : fieldT Try.prog 42 1 = some (23, 1) := by kernel_rfl
theorem iz42 : (zeroT Try.prog 42).isSome = true := by kernel_rfl
theorem zk42 : zOk Try.prog 42 = true := by kernel_rfl
theorem iu42 : (Try.prog.underlying 42).isSome = true := by kernel_rfl
theorem sz58 : szT Try.prog 58 = 2 := by kernel_rfl
theorem by58 : byT Try.prog 58 = 32 := by kernel_rfl
theorem ag58 : aggT Try.prog 58 = some true := by kernel_rfl
theorem so58 : structOk Try.prog 58 = true := by kernel_rfl
theorem fl58_0 : fieldT Try.prog 58 0 = some (23, 0) := by kernel_rfl
theorem fl58_1 : fieldT Try.prog 58 1 = some (3, 1) := by kernel_rfl
theorem iz58 : (zeroT Try.prog 58).isSome = true := by kernel_rfl
theorem zk58 : zOk Try.prog 58 = true := by kernel_rfl
theorem iu58 : (Try.prog.underlying 58).isSome = true := by kernel_rfl
theorem sz59 : szT Try.prog 59 = 2 := by kernel_rfl
theorem by59 : byT Try.prog 59 = 32 := by kernel_rfl
theorem ag59 : aggT Try.prog 59 = some true := by kernel_rfl
theorem so59 : structOk Try.prog 59 = true := by kernel_rfl
theorem fl59_0 : fieldT Try.prog 59 0 = some (23, 0) := by kernel_rfl
theorem fl59_1 : fieldT Try.prog 59 1 = some (3, 1) := by kernel_rfl
theorem iz59 : (zeroT Try.prog 59).isSome = true := by kernel_rfl
theorem zk59 : zOk Try.prog 59 = true := by kernel_rfl
theorem iu59 : (Try.prog.underlying 59).isSome = true := by kernel_rfl
theorem u62 : Try.prog.underlying 62 = some (.slice 9) := by kernel_rfl
theorem sz62 : szT Try.prog 62 = 1 := by kernel_rfl
theorem by62 : byT Try.prog 62 = 24 := by kernel_rfl
theorem ag62 : aggT Try.prog 62 = some false := by kernel_rfl
theorem so62 : structOk Try.prog 62 = false := by kernel_rfl
theorem iz62 : (zeroT Try.prog 62).isSome = true := by kernel_rfl
theorem zk62 : zOk Try.prog 62 = true := by kernel_rfl
theorem iu62 : (Try.prog.underlying 62).isSome = true := by kernel_rfl
theorem ap62 : appT Try.prog #[62, 62] = some 9 := by kernel_rfl
theorem u71 : Try.prog.underlying 71 = some (.array 2 21) := by kernel_rfl
theorem sz71 : szT Try.prog 71 = 2 := by kernel_rfl
theorem by71 : byT Try.prog 71 = 8 := by kernel_rfl
theorem ag71 : aggT Try.prog 71 = some true := by kernel_rfl
theorem so71 : structOk Try.prog 71 = false := by kernel_rfl
theorem iz71 : (zeroT Try.prog 71).isSome = true := by kernel_rfl
theorem zk71 : zOk Try.prog 71 = true := by kernel_rfl
theorem iu71 : (Try.prog.underlying 71).isSome = true := by kernel_rfl
theorem sz91 : szT Try.prog 91 = 5 := by kernel_rfl
theorem by91 : byT Try.prog 91 = 64 := by kernel_rfl
theorem ag91 : aggT Try.prog 91 = some true := by kernel_rfl
theorem so91 : structOk Try.prog 91 = true := by kernel_rfl
theorem fl91_0 : fieldT Try.prog 91 0 = some (9, 0) := by kernel_rfl
theorem fl91_1 : fieldT Try.prog 91 1 = some (4, 1) := by kernel_rfl
theorem fl91_2 : fieldT Try.prog 91 2 = some (23, 2) := by kernel_rfl
theorem fl91_3 : fieldT Try.prog 91 3 = some (89, 3) := by kernel_rfl
theorem fl91_4 : fieldT Try.prog 91 4 = some (90, 4) := by kernel_rfl
theorem iz91 : (zeroT Try.prog 91).isSome = true := by kernel_rfl
theorem zk91 : zOk Try.prog 91 = true := by kernel_rfl
theorem iu91 : (Try.prog.underlying 91).isSome = true := by kernel_rfl
theorem sz92 : szT Try.prog 92 = 5 := by kernel_rfl
theorem by92 : byT Try.prog 92 = 64 := by kernel_rfl
theorem ag92 : aggT Try.prog 92 = some true := by kernel_rfl
theorem so92 : structOk Try.prog 92 = true := by kernel_rfl
theorem fl92_0 : fieldT Try.prog 92 0 = some (9, 0) := by kernel_rfl
theorem fl92_1 : fieldT Try.prog 92 1 = some (4, 1) := by kernel_rfl
theorem fl92_2 : fieldT Try.prog 92 2 = some (23, 2) := by kernel_rfl
theorem fl92_3 : fieldT Try.prog 92 3 = some (89, 3) := by kernel_rfl
theorem fl92_4 : fieldT Try.prog 92 4 = some (90, 4) := by kernel_rfl
theorem iz92 : (zeroT Try.prog 92).isSome = true := by kernel_rfl
theorem zk92 : zOk Try.prog 92 = true := by kernel_rfl
theorem iu92 : (Try.prog.underlying 92).isSome = true := by kernel_rfl
theorem u109 : Try.prog.underlying 109 = some (.slice 92) := by kernel_rfl
theorem sz109 : szT Try.prog 109 = 1 := by kernel_rfl
theorem by109 : byT Try.prog 109 = 24 := by kernel_rfl
theorem ag109 : aggT Try.prog 109 = some false := by kernel_rfl
theorem so109 : structOk Try.prog 109 = false := by kernel_rfl
theorem iz109 : (zeroT Try.prog 109).isSome = true := by kernel_rfl
theorem zk109 : zOk Try.prog 109 = true := by kernel_rfl
theorem iu109 : (Try.prog.underlying 109).isSome = true := by kernel_rfl
theorem ap109 : appT Try.prog #[109, 109] = some 92 := by kernel_rfl
theorem sz131 : szT Try.prog 131 = 4 := by kernel_rfl
theorem by131 : byT Try.prog 131 = 40 := by kernel_rfl
theorem ag131 : aggT Try.prog 131 = some true := by kernel_rfl
theorem so131 : structOk Try.prog 131 = true := by kernel_rfl
theorem fl131_0 : fieldT Try.prog 131 0 = some (17, 0) := by kernel_rfl
theorem fl131_1 : fieldT Try.prog 131 1 = some (17, 1) := by kernel_rfl
theorem fl131_2 : fieldT Try.prog 131 2 = some (17, 2) := by kernel_rfl
theorem fl131_3 : fieldT Try.prog 131 3 = some (9, 3) := by kernel_rfl
theorem iz131 : (zeroT Try.prog 131).isSome = true := by kernel_rfl
theorem zk131 : zOk Try.prog 131 = true := by kernel_rfl
theorem iu131 : (Try.prog.underlying 131).isSome = true := by kernel_rfl
theorem sz132 : szT Try.prog 132 = 4 := by kernel_rfl
theorem by132 : byT Try.prog 132 = 40 := by kernel_rfl
theorem ag132 : aggT Try.prog 132 = some true := by kernel_rfl
theorem so132 : structOk Try.prog 132 = true := by kernel_rfl
theorem fl132_0 : fieldT Try.prog 132 0 = some (17, 0) := by kernel_rfl
theorem fl132_1 : fieldT Try.prog 132 1 = some (17, 1) := by kernel_rfl
theorem fl132_2 : fieldT Try.prog 132 2 = some (17, 2) := by kernel_rfl
theorem fl132_3 : fieldT Try.prog 132 3 = some (9, 3) := by kernel_rfl
theorem iz132 : (zeroT Try.prog 132).isSome = true := by kernel_rfl
theorem zk132 : zOk Try.prog 132 = true := by kernel_rfl
theorem iu132 : (Try.prog.underlying 132).isSome = true := by kernel_rfl
theorem u133 : Try.prog.underlying 133 = some (.array 0 16) := by kernel_rfl
theorem sz133 : szT Try.prog 133 = 0 := by kernel_rfl
theorem by133 : byT Try.prog 133 = 0 := by kernel_rfl
theorem ag133 : aggT Try.prog 133 = some true := by kernel_rfl
theorem so133 : structOk Try.prog 133 = false := by kernel_rfl
theorem iz133 : (zeroT Try.prog 133).isSome = true := by kernel_rfl
theorem zk133 : zOk Try.prog 133 = true := by kernel_rfl
theorem iu133 : (Try.prog.underlying 133).isSome = true := by kernel_rfl
theorem sz134 : szT Try.prog 134 = 0 := by kernel_rfl
theorem by134 : byT Try.prog 134 = 0 := by kernel_rfl
theorem ag134 : aggT Try.prog 134 = some true := by kernel_rfl
theorem so134 : structOk Try.prog 134 = true := by kernel_rfl
theorem fl134_0 : fieldT Try.prog 134 0 = some (133, 0) := by kernel_rfl
theorem iz134 : (zeroT Try.prog 134).isSome = true := by kernel_rfl
theorem zk134 : zOk Try.prog 134 = true := by kernel_rfl
theorem iu134 : (Try.prog.underlying 134).isSome = true := by kernel_rfl
theorem sz135 : szT Try.prog 135 = 0 := by kernel_rfl
theorem by135 : byT Try.prog 135 = 0 := by kernel_rfl
theorem ag135 : aggT Try.prog 135 = some true := by kernel_rfl
theorem so135 : structOk Try.prog 135 = true := by kernel_rfl
theorem fl135_0 : fieldT Try.prog 135 0 = some (133, 0) := by kernel_rfl
theorem iz135 : (zeroT Try.prog 135).isSome = true := by kernel_rfl
theorem zk135 : zOk Try.prog 135 = true := by kernel_rfl
theorem iu135 : (Try.prog.underlying 135).isSome = true := by kernel_rfl
theorem u137 : Try.prog.underlying 137 = some (.int .u32) := by kernel_rfl
theorem sz137 : szT Try.prog 137 = 1 := by kernel_rfl
theorem by137 : byT Try.prog 137 = 4 := by kernel_rfl
theorem ag137 : aggT Try.prog 137 = some false := by kernel_rfl
theorem so137 : structOk Try.prog 137 = false := by kernel_rfl
theorem iz137 : (zeroT Try.prog 137).isSome = true := by kernel_rfl
theorem zk137 : zOk Try.prog 137 = true := by kernel_rfl
theorem iu137 : (Try.prog.underlying 137).isSome = true := by kernel_rfl
theorem u138 : Try.prog.underlying 138 = some (.int .u8) := by kernel_rfl
theorem sz138 : szT Try.prog 138 = 1 := by kernel_rfl
theorem by138 : byT Try.prog 138 = 1 := by kernel_rfl
theorem ag138 : aggT Try.prog 138 = some false := by kernel_rfl
theorem so138 : structOk Try.prog 138 = false := by kernel_rfl
theorem iz138 : (zeroT Try.prog 138).isSome = true := by kernel_rfl
theorem zk138 : zOk Try.prog 138 = true := by kernel_rfl
theorem iu138 : (Try.prog.underlying 138).isSome = true := by kernel_rfl
theorem u139 : Try.prog.underlying 139 = some (.int .u8) := by kernel_rfl
theorem sz139 : szT Try.prog 139 = 1 := by kernel_rfl
theorem by139 : byT Try.prog 139 = 1 := by kernel_rfl
theorem ag139 : aggT Try.prog 139 = some false := by kernel_rfl
theorem so139 : structOk Try.prog 139 = false := by kernel_rfl
theorem iz139 : (zeroT Try.prog 139).isSome = true := by kernel_rfl
theorem zk139 : zOk Try.prog 139 = true := by kernel_rfl
theorem iu139 : (Try.prog.underlying 139).isSome = true := by kernel_rfl
theorem u141 : Try.prog.underlying 141 = some (.pointer 5) := by kernel_rfl
theorem sz141 : szT Try.prog 141 = 1 := by kernel_rfl
theorem by141 : byT Try.prog 141 = 8 := by kernel_rfl
theorem ag141 : aggT Try.prog 141 = some false := by kernel_rfl
theorem so141 : structOk Try.prog 141 = false := by kernel_rfl
theorem iz141 : (zeroT Try.prog 141).isSome = true := by kernel_rfl
theorem zk141 : zOk Try.prog 141 = true := by kernel_rfl
theorem iu141 : (Try.prog.underlying 141).isSome = true := by kernel_rfl
theorem u142 : Try.prog.underlying 142 = some (.int .i32) := by kernel_rfl
theorem sz142 : szT Try.prog 142 = 1 := by kernel_rfl
theorem by142 : byT Try.prog 142 = 4 := by kernel_rfl
theorem ag142 : aggT Try.prog 142 = some false := by kernel_rfl
theorem so142 : structOk Try.prog 142 = false := by kernel_rfl
theorem iz142 : (zeroT Try.prog 142).isSome = true := by kernel_rfl
theorem zk142 : zOk Try.prog 142 = true := by kernel_rfl
theorem iu142 : (Try.prog.underlying 142).isSome = true := by kernel_rfl
theorem u143 : Try.prog.underlying 143 = some (.int .i32) := by kernel_rfl
theorem sz143 : szT Try.prog 143 = 1 := by kernel_rfl
theorem by143 : byT Try.prog 143 = 4 := by kernel_rfl
theorem ag143 : aggT Try.prog 143 = some false := by kernel_rfl
theorem so143 : structOk Try.prog 143 = false := by kernel_rfl
theorem iz143 : (zeroT Try.prog 143).isSome = true := by kernel_rfl
theorem zk143 : zOk Try.prog 143 = true := by kernel_rfl
theorem iu143 : (Try.prog.underlying 143).isSome = true := by kernel_rfl
theorem sz144 : szT Try.prog 144 = 11 := by kernel_rfl
theorem by144 : byT Try.prog 144 = 48 := by kernel_rfl
theorem ag144 : aggT Try.prog 144 = some true := by kernel_rfl
theorem so144 : structOk Try.prog 144 = true := by kernel_rfl
theorem fl144_0 : fieldT Try.prog 144 0 = some (12, 0) := by kernel_rfl
theorem fl144_1 : fieldT Try.prog 144 1 = some (12, 1) := by kernel_rfl
theorem fl144_2 : fieldT Try.prog 144 2 = some (137, 2) := by kernel_rfl
theorem fl144_3 : fieldT Try.prog 144 3 = some (138, 3) := by kernel_rfl
theorem fl144_4 : fieldT Try.prog 144 4 = some (5, 4) := by kernel_rfl
theorem fl144_5 : fieldT Try.prog 144 5 = some (5, 5) := by kernel_rfl
theorem fl144_6 : fieldT Try.prog 144 6 = some (139, 6) := by kernel_rfl
theorem fl144_7 : fieldT Try.prog 144 7 = some (140, 7) := by kernel_rfl
theorem fl144_8 : fieldT Try.prog 144 8 = some (141, 8) := by kernel_rfl
theorem fl144_9 : fieldT Try.prog 144 9 = some (142, 9) := by kernel_rfl
theorem fl144_10 : fieldT Try.prog 144 10 = some (143, 10) := by kernel_rfl
theorem iz144 : (zeroT Try.prog 144).isSome = true := by kernel_rfl
theorem zk144 : zOk Try.prog 144 = true := by kernel_rfl
theorem iu144 : (Try.prog.underlying 144).isSome = true := by kernel_rfl
theorem sz145 : szT Try.prog 145 = 11 := by kernel_rfl
theorem by145 : byT Try.prog 145 = 48 := by kernel_rfl
theorem ag145 : aggT Try.prog 145 = some true := by kernel_rfl
theorem so145 : structOk Try.prog 145 = true := by kernel_rfl
theorem fl145_0 : fieldT Try.prog 145 0 = some (12, 0) := by kernel_rfl
theorem fl145_1 : fieldT Try.prog 145 1 = some (12, 1) := by kernel_rfl
theorem fl145_2 : fieldT Try.prog 145 2 = some (137, 2) := by kernel_rfl
theorem fl145_3 : fieldT Try.prog 145 3 = some (138, 3) := by kernel_rfl
theorem fl145_4 : fieldT Try.prog 145 4 = some (5, 4) := by kernel_rfl
theorem fl145_5 : fieldT Try.prog 145 5 = some (5, 5) := by kernel_rfl
theorem fl145_6 : fieldT Try.prog 145 6 = some (139, 6) := by kernel_rfl
theorem fl145_7 : fieldT Try.prog 145 7 = some (140, 7) := by kernel_rfl
theorem fl145_8 : fieldT Try.prog 145 8 = some (141, 8) := by kernel_rfl
theorem fl145_9 : fieldT Try.prog 145 9 = some (142, 9) := by kernel_rfl
theorem fl145_10 : fieldT Try.prog 145 10 = some (143, 10) := by kernel_rfl
theorem iz145 : (zeroT Try.prog 145).isSome = true := by kernel_rfl
theorem zk145 : zOk Try.prog 145 = true := by kernel_rfl
theorem iu145 : (Try.prog.underlying 145).isSome = true := by kernel_rfl
def zerL : List (Nat × AV) := [(2, .lit (.int .i64 0)),
  (3, .lit (.int .i64 0)),
  (4, .lit (.bool false)),
  (5, .lit (.int .u8 0)),
  (6, .lit (.int .u8 0)),
  (7, .agg [.lit (.int .i64 0), .lit (.int .i64 0), .lit (.bool false), .lit (.int .u8 0)]),
  (8, .agg [.lit (.int .i64 0), .lit (.int .i64 0), .lit (.bool false), .lit (.int .u8 0)]),
  (9, .lit (.string ByteArray.empty)),
  (10, .lit (.string ByteArray.empty)),
  (11, .lit (.string ByteArray.empty)),
  (12, .lit (.int .u64 0)),
  (13, .agg [.lit (.string ByteArray.empty), .lit (.int .u64 0)]),
  (14, .agg [.lit (.string ByteArray.empty), .lit (.int .u64 0)]),
  (15, .lit (.pointer none)),
  (16, .lit (.pointer none)),
  (17, .lit (.pointer none)),
  (18, .agg [.lit (.pointer none)]),
  (19, .agg [.lit (.pointer none)]),
  (21, .lit (.int .i32 0)),
  (22, .sl true 3 []),
  (23, .sl true 1 []),
  (26, .sl true 1 []),
  (27, .lit (.int .i64 0)),
  (32, .agg [.lit (.string ByteArray.empty), .sl true 1 [], .sl true 1 []]),
  (33, .agg [.lit (.string ByteArray.empty), .sl true 1 [], .sl true 1 []]),
  (40, .sl true 1 []),
  (41, .agg [.sl true 1 [], .sl true 1 []]),
  (42, .agg [.sl true 1 [], .sl true 1 []]),
  (58, .agg [.sl true 1 [], .lit (.int .i64 0)]),
  (59, .agg [.sl true 1 [], .lit (.int .i64 0)]),
  (62, .sl true 1 []),
  (71, .agg [.lit (.int .i32 0), .lit (.int .i32 0)]),
  (91, .agg [.lit (.string ByteArray.empty), .lit (.bool false), .sl true 1 [], .lit .nilFunc, .lit .nilFunc]),
  (92, .agg [.lit (.string ByteArray.empty), .lit (.bool false), .sl true 1 [], .lit .nilFunc, .lit .nilFunc]),
  (109, .sl true 5 []),
  (131, .agg [.lit (.pointer none), .lit (.pointer none), .lit (.pointer none), .lit (.string ByteArray.empty)]),
  (132, .agg [.lit (.pointer none), .lit (.pointer none), .lit (.pointer none), .lit (.string ByteArray.empty)]),
  (137, .lit (.int .u32 0)),
  (138, .lit (.int .u8 0)),
  (139, .lit (.int .u8 0)),
  (141, .lit (.pointer none)),
  (142, .lit (.int .i32 0)),
  (143, .lit (.int .i32 0)),
  (144, .agg [.lit (.int .u64 0), .lit (.int .u64 0), .lit (.int .u32 0), .lit (.int .u8 0), .lit (.int .u8 0), .lit (.int .u8 0), .lit (.int .u8 0), .lit .nilFunc, .lit (.pointer none), .lit (.int .i32 0), .lit (.int .i32 0)]),
  (145, .agg [.lit (.int .u64 0), .lit (.int .u64 0), .lit (.int .u32 0), .lit (.int .u8 0), .lit (.int .u8 0), .lit (.int .u8 0), .lit (.int .u8 0), .lit .nilFunc, .lit (.pointer none), .lit (.int .i32 0), .lit (.int .i32 0)])]
def zer (t : TypeId) : AV := lookZ zerL t
theorem zr2 : ZerOk Try.prog (2, .lit (.int .i64 0)) := fun v h => by
  rw [show zeroT Try.prog 2 = some (.int .i64 0) from by kernel_rfl] at h; cases h; exact .lit _
theorem zv2 : zer 2 = .lit (.int .i64 0) := rfl
theorem zr3 : ZerOk Try.prog (3, .lit (.int .i64 0)) := fun v h => by
  rw [show zeroT Try.prog 3 = some (.int .i64 0) from by kernel_rfl] at h; cases h; exact .lit _
theorem zv3 : zer 3 = .lit (.int .i64 0) := rfl
theorem zr4 : ZerOk Try.prog (4, .lit (.bool false)) := fun v h => by
  rw [show zeroT Try.prog 4 = some (.bool false) from by kernel_rfl] at h; cases h; exact .lit _
theorem zv4 : zer 4 = .lit (.bool false) := rfl
theorem zr5 : ZerOk Try.prog (5, .lit (.int .u8 0)) := fun v h => by
  rw [show zeroT Try.prog 5 = some (.int .u8 0) from by kernel_rfl] at h; cases h; exact .lit _
theorem zv5 : zer 5 = .lit (.int .u8 0) := rfl
theorem zr6 : ZerOk Try.prog (6, .lit (.int .u8 0)) := fun v h => by
  rw [show zeroT Try.prog 6 = some (.int .u8 0) from by kernel_rfl] at h; cases h; exact .lit _
theorem zv6 : zer 6 = .lit (.int .u8 0) := rfl
theorem zr7 : ZerOk Try.prog (7, .agg [.lit (.int .i64 0), .lit (.int .i64 0), .lit (.bool false), .lit (.int .u8 0)]) := fun v h => by
  rw [show zeroT Try.prog 7 = some (.agg #[(.int .i64 0), (.int .i64 0), (.bool false), (.int .u8 0)]) from by kernel_rfl] at h; cases h
  exact zr_agg _ _ (zl_cons (.lit _) rfl (zl_cons (.lit _) rfl (zl_cons (.lit _) rfl (zl_cons (.lit _) rfl (zl_nil)))))
theorem zv7 : zer 7 = .agg [.lit (.int .i64 0), .lit (.int .i64 0), .lit (.bool false), .lit (.int .u8 0)] := rfl
theorem zr8 : ZerOk Try.prog (8, .agg [.lit (.int .i64 0), .lit (.int .i64 0), .lit (.bool false), .lit (.int .u8 0)]) := fun v h => by
  rw [show zeroT Try.prog 8 = some (.agg #[(.int .i64 0), (.int .i64 0), (.bool false), (.int .u8 0)]) from by kernel_rfl] at h; cases h
  exact zr_agg _ _ (zl_cons (.lit _) rfl (zl_cons (.lit _) rfl (zl_cons (.lit _) rfl (zl_cons (.lit _) rfl (zl_nil)))))
theorem zv8 : zer 8 = .agg [.lit (.int .i64 0), .lit (.int .i64 0), .lit (.bool false), .lit (.int .u8 0)] := rfl
theorem zr9 : ZerOk Try.prog (9, .lit (.string ByteArray.empty)) := fun v h => by
  rw [show zeroT Try.prog 9 = some (.string ByteArray.empty) from by kernel_rfl] at h; cases h; exact .lit _
theorem zv9 : zer 9 = .lit (.string ByteArray.empty) := rfl
theorem zr10 : ZerOk Try.prog (10, .lit (.string ByteArray.empty)) := fun v h => by
  rw [show zeroT Try.prog 10 = some (.string ByteArray.empty) from by kernel_rfl] at h; cases h; exact .lit _
theorem zv10 : zer 10 = .lit (.string ByteArray.empty) := rfl
theorem zr11 : ZerOk Try.prog (11, .lit (.string ByteArray.empty)) := fun v h => by
  rw [show zeroT Try.prog 11 = some (.string ByteArray.empty) from by kernel_rfl] at h; cases h; exact .lit _
theorem zv11 : zer 11 = .lit (.string ByteArray.empty) := rfl
theorem zr12 : ZerOk Try.prog (12, .lit (.int .u64 0)) := fun v h => by
  rw [show zeroT Try.prog 12 = some (.int .u64 0) from by kernel_rfl] at h; cases h; exact .lit _
theorem zv12 : zer 12 = .lit (.int .u64 0) := rfl
theorem zr13 : ZerOk Try.prog (13, .agg [.lit (.string ByteArray.empty), .lit (.int .u64 0)]) := fun v h => by
  rw [show zeroT Try.prog 13 = some (.agg #[(.string ByteArray.empty), (.int .u64 0)]) from by kernel_rfl] at h; cases h
  exact zr_agg _ _ (zl_cons (.lit _) rfl (zl_cons (.lit _) rfl (zl_nil)))
theorem zv13 : zer 13 = .agg [.lit (.string ByteArray.empty), .lit (.int .u64 0)] := rfl
theorem zr14 : ZerOk Try.prog (14, .agg [.lit (.string ByteArray.empty), .lit (.int .u64 0)]) := fun v h => by
  rw [show zeroT Try.prog 14 = some (.agg #[(.string ByteArray.empty), (.int .u64 0)]) from by kernel_rfl] at h; cases h
  exact zr_agg _ _ (zl_cons (.lit _) rfl (zl_cons (.lit _) rfl (zl_nil)))
theorem zv14 : zer 14 = .agg [.lit (.string ByteArray.empty), .lit (.int .u64 0)] := rfl
theorem zr15 : ZerOk Try.prog (15, .lit (.pointer none)) := fun v h => by
  rw [show zeroT Try.prog 15 = some (.pointer none) from by kernel_rfl] at h; cases h; exact .lit _
theorem zv15 : zer 15 = .lit (.pointer none) := rfl
theorem zr16 : ZerOk Try.prog (16, .lit (.pointer none)) := fun v h => by
  rw [show zeroT Try.prog 16 = some (.pointer none) from by kernel_rfl] at h; cases h; exact .lit _
theorem zv16 : zer 16 = .lit (.pointer none) := rfl
theorem zr17 : ZerOk Try.prog (17, .lit (.pointer none)) := fun v h => by
  rw [show zeroT Try.prog 17 = some (.pointer none) from by kernel_rfl] at h; cases h; exact .lit _
theorem zv17 : zer 17 = .lit (.pointer none) := rfl
theorem zr18 : ZerOk Try.prog (18, .agg [.lit (.pointer none)]) := fun v h => by
  rw [show zeroT Try.prog 18 = some (.agg #[(.pointer none)]) from by kernel_rfl] at h; cases h
  exact zr_agg _ _ (zl_cons (.lit _) rfl (zl_nil))
theorem zv18 : zer 18 = .agg [.lit (.pointer none)] := rfl
theorem zr19 : ZerOk Try.prog (19, .agg [.lit (.pointer none)]) := fun v h => by
  rw [show zeroT Try.prog 19 = some (.agg #[(.pointer none)]) from by kernel_rfl] at h; cases h
  exact zr_agg _ _ (zl_cons (.lit _) rfl (zl_nil))
theorem zv19 : zer 19 = .agg [.lit (.pointer none)] := rfl
theorem zr21 : ZerOk Try.prog (21, .lit (.int .i32 0)) := fun v h => by
  rw [show zeroT Try.prog 21 = some (.int .i32 0) from by kernel_rfl] at h; cases h; exact .lit _
theorem zv21 : zer 21 = .lit (.int .i32 0) := rfl
theorem zr22 : ZerOk Try.prog (22, .sl true 3 []) := fun v h => by
  rw [show zeroT Try.prog 22 = some (.slice none 0 0) from by kernel_rfl] at h; cases h; exact .nil _ _ _
theorem zv22 : zer 22 = .sl true 3 [] := rfl
theorem zr23 : ZerOk Try.prog (23, .sl true 1 []) := fun v h => by
  rw [show zeroT Try.prog 23 = some (.slice none 0 0) from by kernel_rfl] at h; cases h; exact .nil _ _ _
theorem zv23 : zer 23 = .sl true 1 [] := rfl
theorem zr26 : ZerOk Try.prog (26, .sl true 1 []) := fun v h => by
  rw [show zeroT Try.prog 26 = some (.slice none 0 0) from by kernel_rfl] at h; cases h; exact .nil _ _ _
theorem zv26 : zer 26 = .sl true 1 [] := rfl
theorem zr27 : ZerOk Try.prog (27, .lit (.int .i64 0)) := fun v h => by
  rw [show zeroT Try.prog 27 = some (.int .i64 0) from by kernel_rfl] at h; cases h; exact .lit _
theorem zv27 : zer 27 = .lit (.int .i64 0) := rfl
theorem zr32 : ZerOk Try.prog (32, .agg [.lit (.string ByteArray.empty), .sl true 1 [], .sl true 1 []]) := fun v h => by
  rw [show zeroT Try.prog 32 = some (.agg #[(.string ByteArray.empty), (.slice none 0 0), (.slice none 0 0)]) from by kernel_rfl] at h; cases h
  exact zr_agg _ _ (zl_cons (.lit _) rfl (zl_cons (.nil _ _ _) rfl (zl_cons (.nil _ _ _) rfl (zl_nil))))
theorem zv32 : zer 32 = .agg [.lit (.string ByteArray.empty), .sl true 1 [], .sl true 1 []] := rfl
theorem zr33 : ZerOk Try.prog (33, .agg [.lit (.string ByteArray.empty), .sl true 1 [], .sl true 1 []]) := fun v h => by
  rw [show zeroT Try.prog 33 = some (.agg #[(.string ByteArray.empty), (.slice none 0 0), (.slice none 0 0)]) from by kernel_rfl] at h; cases h
  exact zr_agg _ _ (zl_cons (.lit _) rfl (zl_cons (.nil _ _ _) rfl (zl_cons (.nil _ _ _) rfl (zl_nil))))
theorem zv33 : zer 33 = .agg [.lit (.string ByteArray.empty), .sl true 1 [], .sl true 1 []] := rfl
theorem zr40 : ZerOk Try.prog (40, .sl true 1 []) := fun v h => by
  rw [show zeroT Try.prog 40 = some (.slice none 0 0) from by kernel_rfl] at h; cases h; exact .nil _ _ _
theorem zv40 : zer 40 = .sl true 1 [] := rfl
theorem zr41 : ZerOk Try.prog (41, .agg [.sl true 1 [], .sl true 1 []]) := fun v h => by
  rw [show zeroT Try.prog 41 = some (.agg #[(.slice none 0 0), (.slice none 0 0)]) from by kernel_rfl] at h; cases h
  exact zr_agg _ _ (zl_cons (.nil _ _ _) rfl (zl_cons (.nil _ _ _) rfl (zl_nil)))
theorem zv41 : zer 41 = .agg [.sl true 1 [], .sl true 1 []] := rfl
theorem zr42 : ZerOk Try.prog (42, .agg [.sl true 1 [], .sl true 1 []]) := fun v h => by
  rw [show zeroT Try.prog 42 = some (.agg #[(.slice none 0 0), (.slice none 0 0)]) from by kernel_rfl] at h; cases h
  exact zr_agg _ _ (zl_cons (.nil _ _ _) rfl (zl_cons (.nil _ _ _) rfl (zl_nil)))
theorem zv42 : zer 42 = .agg [.sl true 1 [], .sl true 1 []] := rfl
theorem zr58 : ZerOk Try.prog (58, .agg [.sl true 1 [], .lit (.int .i64 0)]) := fun v h => by
  rw [show zeroT Try.prog 58 = some (.agg #[(.slice none 0 0), (.int .i64 0)]) from by kernel_rfl] at h; cases h
  exact zr_agg _ _ (zl_cons (.nil _ _ _) rfl (zl_cons (.lit _) rfl (zl_nil)))
theorem zv58 : zer 58 = .agg [.sl true 1 [], .lit (.int .i64 0)] := rfl
theorem zr59 : ZerOk Try.prog (59, .agg [.sl true 1 [], .lit (.int .i64 0)]) := fun v h => by
  rw [show zeroT Try.prog 59 = some (.agg #[(.slice none 0 0), (.int .i64 0)]) from by kernel_rfl] at h; cases h
  exact zr_agg _ _ (zl_cons (.nil _ _ _) rfl (zl_cons (.lit _) rfl (zl_nil)))
theorem zv59 : zer 59 = .agg [.sl true 1 [], .lit (.int .i64 0)] := rfl
theorem zr62 : ZerOk Try.prog (62, .sl true 1 []) := fun v h => by
  rw [show zeroT Try.prog 62 = some (.slice none 0 0) from by kernel_rfl] at h; cases h; exact .nil _ _ _
theorem zv62 : zer 62 = .sl true 1 [] := rfl
theorem zr71 : ZerOk Try.prog (71, .agg [.lit (.int .i32 0), .lit (.int .i32 0)]) := fun v h => by
  rw [show zeroT Try.prog 71 = some (.agg #[(.int .i32 0), (.int .i32 0)]) from by kernel_rfl] at h; cases h
  exact zr_agg _ _ (zl_cons (.lit _) rfl (zl_cons (.lit _) rfl (zl_nil)))
theorem zv71 : zer 71 = .agg [.lit (.int .i32 0), .lit (.int .i32 0)] := rfl
theorem zr91 : ZerOk Try.prog (91, .agg [.lit (.string ByteArray.empty), .lit (.bool false), .sl true 1 [], .lit .nilFunc, .lit .nilFunc]) := fun v h => by
  rw [show zeroT Try.prog 91 = some (.agg #[(.string ByteArray.empty), (.bool false), (.slice none 0 0), .nilFunc, .nilFunc]) from by kernel_rfl] at h; cases h
  exact zr_agg _ _ (zl_cons (.lit _) rfl (zl_cons (.lit _) rfl (zl_cons (.nil _ _ _) rfl (zl_cons (.lit _) rfl (zl_cons (.lit _) rfl (zl_nil))))))
theorem zv91 : zer 91 = .agg [.lit (.string ByteArray.empty), .lit (.bool false), .sl true 1 [], .lit .nilFunc, .lit .nilFunc] := rfl
theorem zr92 : ZerOk Try.prog (92, .agg [.lit (.string ByteArray.empty), .lit (.bool false), .sl true 1 [], .lit .nilFunc, .lit .nilFunc]) := fun v h => by
  rw [show zeroT Try.prog 92 = some (.agg #[(.string ByteArray.empty), (.bool false), (.slice none 0 0), .nilFunc, .nilFunc]) from by kernel_rfl] at h; cases h
  exact zr_agg _ _ (zl_cons (.lit _) rfl (zl_cons (.lit _) rfl (zl_cons (.nil _ _ _) rfl (zl_cons (.lit _) rfl (zl_cons (.lit _) rfl (zl_nil))))))
theorem zv92 : zer 92 = .agg [.lit (.string ByteArray.empty), .lit (.bool false), .sl true 1 [], .lit .nilFunc, .lit .nilFunc] := rfl
theorem zr109 : ZerOk Try.prog (109, .sl true 5 []) := fun v h => by
  rw [show zeroT Try.prog 109 = some (.slice none 0 0) from by kernel_rfl] at h; cases h; exact .nil _ _ _
theorem zv109 : zer 109 = .sl true 5 [] := rfl
theorem zr131 : ZerOk Try.prog (131, .agg [.lit (.pointer none), .lit (.pointer none), .lit (.pointer none), .lit (.string ByteArray.empty)]) := fun v h => by
  rw [show zeroT Try.prog 131 = some (.agg #[(.pointer none), (.pointer none), (.pointer none), (.string ByteArray.empty)]) from by kernel_rfl] at h; cases h
  exact zr_agg _ _ (zl_cons (.lit _) rfl (zl_cons (.lit _) rfl (zl_cons (.lit _) rfl (zl_cons (.lit _) rfl (zl_nil)))))
theorem zv131 : zer 131 = .agg [.lit (.pointer none), .lit (.pointer none), .lit (.pointer none), .lit (.string ByteArray.empty)] := rfl
theorem zr132 : ZerOk Try.prog (132, .agg [.lit (.pointer none), .lit (.pointer none), .lit (.pointer none), .lit (.string ByteArray.empty)]) := fun v h => by
  rw [show zeroT Try.prog 132 = some (.agg #[(.pointer none), (.pointer none), (.pointer none), (.string ByteArray.empty)]) from by kernel_rfl] at h; cases h
  exact zr_agg _ _ (zl_cons (.lit _) rfl (zl_cons (.lit _) rfl (zl_cons (.lit _) rfl (zl_cons (.lit _) rfl (zl_nil)))))
theorem zv132 : zer 132 = .agg [.lit (.pointer none), .lit (.pointer none), .lit (.pointer none), .lit (.string ByteArray.empty)] := rfl
theorem zr137 : ZerOk Try.prog (137, .lit (.int .u32 0)) := fun v h => by
  rw [show zeroT Try.prog 137 = some (.int .u32 0) from by kernel_rfl] at h; cases h; exact .lit _
theorem zv137 : zer 137 = .lit (.int .u32 0) := rfl
theorem zr138 : ZerOk Try.prog (138, .lit (.int .u8 0)) := fun v h => by
  rw [show zeroT Try.prog 138 = some (.int .u8 0) from by kernel_rfl] at h; cases h; exact .lit _
theorem zv138 : zer 138 = .lit (.int .u8 0) := rfl
theorem zr139 : ZerOk Try.prog (139, .lit (.int .u8 0)) := fun v h => by
  rw [show zeroT Try.prog 139 = some (.int .u8 0) from by kernel_rfl] at h; cases h; exact .lit _
theorem zv139 : zer 139 = .lit (.int .u8 0) := rfl
theorem zr141 : ZerOk Try.prog (141, .lit (.pointer none)) := fun v h => by
  rw [show zeroT Try.prog 141 = some (.pointer none) from by kernel_rfl] at h; cases h; exact .lit _
theorem zv141 : zer 141 = .lit (.pointer none) := rfl
theorem zr142 : ZerOk Try.prog (142, .lit (.int .i32 0)) := fun v h => by
  rw [show zeroT Try.prog 142 = some (.int .i32 0) from by kernel_rfl] at h; cases h; exact .lit _
theorem zv142 : zer 142 = .lit (.int .i32 0) := rfl
theorem zr143 : ZerOk Try.prog (143, .lit (.int .i32 0)) := fun v h => by
  rw [show zeroT Try.prog 143 = some (.int .i32 0) from by kernel_rfl] at h; cases h; exact .lit _
theorem zv143 : zer 143 = .lit (.int .i32 0) := rfl
theorem zr144 : ZerOk Try.prog (144, .agg [.lit (.int .u64 0), .lit (.int .u64 0), .lit (.int .u32 0), .lit (.int .u8 0), .lit (.int .u8 0), .lit (.int .u8 0), .lit (.int .u8 0), .lit .nilFunc, .lit (.pointer none), .lit (.int .i32 0), .lit (.int .i32 0)]) := fun v h => by
  rw [show zeroT Try.prog 144 = some (.agg #[(.int .u64 0), (.int .u64 0), (.int .u32 0), (.int .u8 0), (.int .u8 0), (.int .u8 0), (.int .u8 0), .nilFunc, (.pointer none), (.int .i32 0), (.int .i32 0)]) from by kernel_rfl] at h; cases h
  exact zr_agg _ _ (zl_cons (.lit _) rfl (zl_cons (.lit _) rfl (zl_cons (.lit _) rfl (zl_cons (.lit _) rfl (zl_cons (.lit _) rfl (zl_cons (.lit _) rfl (zl_cons (.lit _) rfl (zl_cons (.lit _) rfl (zl_cons (.lit _) rfl (zl_cons (.lit _) rfl (zl_cons (.lit _) rfl (zl_nil))))))))))))
theorem zv144 : zer 144 = .agg [.lit (.int .u64 0), .lit (.int .u64 0), .lit (.int .u32 0), .lit (.int .u8 0), .lit (.int .u8 0), .lit (.int .u8 0), .lit (.int .u8 0), .lit .nilFunc, .lit (.pointer none), .lit (.int .i32 0), .lit (.int .i32 0)] := rfl
theorem zr145 : ZerOk Try.prog (145, .agg [.lit (.int .u64 0), .lit (.int .u64 0), .lit (.int .u32 0), .lit (.int .u8 0), .lit (.int .u8 0), .lit (.int .u8 0), .lit (.int .u8 0), .lit .nilFunc, .lit (.pointer none), .lit (.int .i32 0), .lit (.int .i32 0)]) := fun v h => by
  rw [show zeroT Try.prog 145 = some (.agg #[(.int .u64 0), (.int .u64 0), (.int .u32 0), (.int .u8 0), (.int .u8 0), (.int .u8 0), (.int .u8 0), .nilFunc, (.pointer none), (.int .i32 0), (.int .i32 0)]) from by kernel_rfl] at h; cases h
  exact zr_agg _ _ (zl_cons (.lit _) rfl (zl_cons (.lit _) rfl (zl_cons (.lit _) rfl (zl_cons (.lit _) rfl (zl_cons (.lit _) rfl (zl_cons (.lit _) rfl (zl_cons (.lit _) rfl (zl_cons (.lit _) rfl (zl_cons (.lit _) rfl (zl_cons (.lit _) rfl (zl_cons (.lit _) rfl (zl_nil))))))))))))
theorem zv145 : zer 145 = .agg [.lit (.int .u64 0), .lit (.int .u64 0), .lit (.int .u32 0), .lit (.int .u8 0), .lit (.int .u8 0), .lit (.int .u8 0), .lit (.int .u8 0), .lit .nilFunc, .lit (.pointer none), .lit (.int .i32 0), .lit (.int .i32 0)] := rfl
theorem zer_ok : ∀ t v, zeroT Try.prog t = some v → RC (fun _ _ => none) (zer t) v := zer_sound zerL (zs_cons zr2 (zs_cons zr3 (zs_cons zr4 (zs_cons zr5 (zs_cons zr6 (zs_cons zr7 (zs_cons zr8 (zs_cons zr9 (zs_cons zr10 (zs_cons zr11 (zs_cons zr12 (zs_cons zr13 (zs_cons zr14 (zs_cons zr15 (zs_cons zr16 (zs_cons zr17 (zs_cons zr18 (zs_cons zr19 (zs_cons zr21 (zs_cons zr22 (zs_cons zr23 (zs_cons zr26 (zs_cons zr27 (zs_cons zr32 (zs_cons zr33 (zs_cons zr40 (zs_cons zr41 (zs_cons zr42 (zs_cons zr58 (zs_cons zr59 (zs_cons zr62 (zs_cons zr71 (zs_cons zr91 (zs_cons zr92 (zs_cons zr109 (zs_cons zr131 (zs_cons zr132 (zs_cons zr137 (zs_cons zr138 (zs_cons zr139 (zs_cons zr141 (zs_cons zr142 (zs_cons zr143 (zs_cons zr144 (zs_cons zr145 (zs_nil))))))))))))))))))))))))))))))))))))))))))))))
theorem mixed : Try.prog.follows .mixedOrders = true := by kernel_rfl
theorem fk3 : fok Try.prog 3 = true := by kernel_rfl -- framewise/framewiselaw20.CellsFrame
theorem fk4 : fok Try.prog 4 = true := by kernel_rfl -- framewise/framewiselaw20.CellsSplit
theorem fk5 : fok Try.prog 5 = true := by kernel_rfl -- framewise/framewiselaw20.CellsCheck
theorem fk6 : fok Try.prog 6 = true := by kernel_rfl -- framewise/framewiselaw20.CellsAgree
theorem fk7 : fok Try.prog 7 = true := by kernel_rfl -- framewise/framewiselaw20.CellsJoin
theorem fk8 : fok Try.prog 8 = true := by kernel_rfl -- framewise/framewiselaw20.CellsBack
theorem fk9 : fok Try.prog 9 = true := by kernel_rfl -- framewise/framewiselaw21.StructureApply
theorem fk10 : fok Try.prog 10 = true := by kernel_rfl -- framewise/framewiselaw21.StructureLists
theorem fk11 : fok Try.prog 11 = true := by kernel_rfl -- framewise/framewiselaw21.StructureMatrices
theorem fk12 : fok Try.prog 12 = true := by kernel_rfl -- framewise/framewiselaw21.StructureElements
theorem fk13 : fok Try.prog 13 = true := by kernel_rfl -- framewise/framewiselaw21.StructureRenames
theorem fk14 : fok Try.prog 14 = true := by kernel_rfl -- framewise/framewiselaw21.StructureForms
theorem fk15 : fok Try.prog 15 = true := by kernel_rfl -- framewise/framewiselaw20.awake
theorem fk16 : fok Try.prog 16 = true := by kernel_rfl -- framewise/framewiseref20.Few
theorem fk17 : fok Try.prog 17 = true := by kernel_rfl -- framewise/cells.Frame
theorem fk18 : fok Try.prog 18 = true := by kernel_rfl -- framewise/framewiseref20.Frame
theorem fk19 : fok Try.prog 19 = true := by kernel_rfl -- framewise/framewiseref17.SameInts
theorem fk20 : fok Try.prog 20 = true := by kernel_rfl -- framewise/cells.Split
theorem fk21 : fok Try.prog 21 = true := by kernel_rfl -- framewise/framewiseref20.Split
theorem fk22 : fok Try.prog 22 = true := by kernel_rfl -- framewise/cells.Cell
theorem fk23 : fok Try.prog 23 = true := by kernel_rfl -- framewise/framewiseref20.Cell
theorem fk24 : fok Try.prog 24 = true := by kernel_rfl -- framewise/framewiseref18.Equal
theorem fk25 : fok Try.prog 25 = true := by kernel_rfl -- framewise/cells.Pick
theorem fk26 : fok Try.prog 26 = true := by kernel_rfl -- framewise/framewiseref20.Pick
theorem fk27 : fok Try.prog 27 = true := by kernel_rfl -- framewise/cells.Check
theorem fk28 : fok Try.prog 28 = true := by kernel_rfl -- framewise/framewiseref20.Check
theorem fk29 : fok Try.prog 29 = true := by kernel_rfl -- framewise/framewiselaw20.zeros
theorem fk30 : fok Try.prog 30 = true := by kernel_rfl -- framewise/framewiseref18.Size
theorem fk31 : fok Try.prog 31 = true := by kernel_rfl -- framewise/framewiseref18.Few
theorem fk32 : fok Try.prog 32 = true := by kernel_rfl -- framewise/cells.Join
theorem fk33 : fok Try.prog 33 = true := by kernel_rfl -- framewise/framewiseref20.Join
theorem fk34 : fok Try.prog 34 = true := by kernel_rfl -- framewise/cells.Indices
theorem fk35 : fok Try.prog 35 = true := by kernel_rfl -- framewise/framewiseref20.Indices
theorem fk36 : fok Try.prog 36 = true := by kernel_rfl -- framewise/framewiseref18.Valid
theorem fk37 : fok Try.prog 37 = true := by kernel_rfl -- framewise/framewiseref18.Zeros
theorem fk38 : fok Try.prog 38 = true := by kernel_rfl -- framewise/framewiselaw21.awake
theorem fk39 : fok Try.prog 39 = true := by kernel_rfl -- framewise/framewiselaw21.few
theorem fk40 : fok Try.prog 40 = true := by kernel_rfl -- framewise/structure.Apply
theorem fk41 : fok Try.prog 41 = true := by kernel_rfl -- framewise/framewiseref21.Apply
theorem fk42 : fok Try.prog 42 = true := by kernel_rfl -- framewise/structure.Result
theorem fk43 : fok Try.prog 43 = true := by kernel_rfl -- framewise/structure.Dims
theorem fk44 : fok Try.prog 44 = true := by kernel_rfl -- framewise/framewiselaw21.lists
theorem fk45 : fok Try.prog 45 = true := by kernel_rfl -- framewise/framewiselaw21.list
theorem fk46 : fok Try.prog 46 = true := by kernel_rfl -- framewise/framewiselaw21.do
theorem fk47 : fok Try.prog 47 = true := by kernel_rfl -- framewise/framewiselaw21.same
theorem fk48 : fok Try.prog 48 = true := by kernel_rfl -- framewise/framewiselaw21.scalar
theorem fk49 : fok Try.prog 49 = true := by kernel_rfl -- framewise/framewiselaw21.opposite
theorem fk50 : fok Try.prog 50 = true := by kernel_rfl -- framewise/structure.Ranks
theorem fk51 : fok Try.prog 51 = true := by kernel_rfl -- framewise/framewiseref21.Ranks
theorem fk52 : fok Try.prog 52 = true := by kernel_rfl -- framewise/framewiseref21.Result
theorem fk53 : fok Try.prog 53 = true := by kernel_rfl -- framewise/framewiseref21.Dims
theorem fk54 : fok Try.prog 54 = true := by kernel_rfl -- framewise/structure.Is
theorem fk55 : fok Try.prog 55 = true := by kernel_rfl -- framewise/framewiseref21.Is
theorem fk56 : fok Try.prog 56 = true := by kernel_rfl -- framewise/framewiseref17.SameTexts
theorem fk57 : fok Try.prog 57 = true := by kernel_rfl -- framewise/structure.Ops
theorem fk58 : fok Try.prog 58 = true := by kernel_rfl -- framewise/framewiseref21.Ops
theorem fk59 : fok Try.prog 59 = true := by kernel_rfl -- slices.Equal[[]int,int]
theorem fk60 : fok Try.prog 60 = true := by kernel_rfl -- framewise/array.Valid
theorem fk61 : fok Try.prog 61 = true := by kernel_rfl -- slices.Clone[[]int,int]
theorem fk62 : fok Try.prog 62 = true := by kernel_rfl -- framewise/framewiseref18.Copy
theorem fk63 : fok Try.prog 63 = true := by kernel_rfl -- framewise/framewiseref18.Of
theorem fk64 : fok Try.prog 64 = true := by kernel_rfl -- framewise/framewiseref20.Axes
theorem fk65 : fok Try.prog 65 = true := by kernel_rfl -- framewise/array.Size
theorem fk66 : fok Try.prog 66 = true := by kernel_rfl -- framewise/cells.check
theorem fk67 : fok Try.prog 67 = true := by kernel_rfl -- slices.ContainsFunc[[]framewise/api.Array,framewise/api.Array]
theorem fk68 : fok Try.prog 68 = true := by kernel_rfl -- framewise/cells.Join$1
theorem fk69 : fok Try.prog 69 = true := by kernel_rfl -- slices.Concat[[]int,int]
theorem fk70 : fok Try.prog 70 = true := by kernel_rfl -- framewise/cells.all
theorem fk71 : fok Try.prog 71 = true := by kernel_rfl -- framewise/framewiseref18.Index
theorem fk72 : fok Try.prog 72 = true := by kernel_rfl -- framewise/structure.given
theorem fk73 : fok Try.prog 73 = true := by kernel_rfl -- framewise/structure.checked
theorem fk74 : fok Try.prog 74 = true := by kernel_rfl -- framewise/structure.gathered
theorem fk75 : fok Try.prog 75 = true := by kernel_rfl -- framewise/structure.size
theorem fk76 : fok Try.prog 76 = true := by kernel_rfl -- framewise/framewiseref21.right
theorem fk77 : fok Try.prog 77 = true := by kernel_rfl -- framewise/framewiseref21.chosen
theorem fk78 : fok Try.prog 78 = true := by kernel_rfl -- framewise/framewiseref21.element
theorem fk79 : fok Try.prog 79 = true := by kernel_rfl -- slices.ContainsFunc[[]string,string]
theorem fk80 : fok Try.prog 80 = true := by kernel_rfl -- framewise/structure.Result$1
theorem fk81 : fok Try.prog 81 = true := by kernel_rfl -- slices.Clone[[]string,string]
theorem fk82 : fok Try.prog 82 = true := by kernel_rfl -- slices.Delete[[]string,string]
theorem fk83 : fok Try.prog 83 = true := by kernel_rfl -- framewise/structure.Result$2
theorem fk84 : fok Try.prog 84 = true := by kernel_rfl -- framewise/framewiseref21.Sized
theorem fk85 : fok Try.prog 85 = true := by kernel_rfl -- framewise/framewiseref17.Apply
theorem fk86 : fok Try.prog 86 = true := by kernel_rfl -- framewise/structure.find
theorem fk87 : fok Try.prog 87 = true := by kernel_rfl -- slices.Contains[[]string,string]
theorem fk88 : fok Try.prog 88 = true := by kernel_rfl -- framewise/structure.entries
theorem fk89 : fok Try.prog 89 = true := by kernel_rfl -- framewise/array.Of
theorem fk90 : fok Try.prog 90 = true := by kernel_rfl -- framewise/framewiseref17.Valid
theorem fk91 : fok Try.prog 91 = true := by kernel_rfl -- slices.Contains[[]int,int]
theorem fk92 : fok Try.prog 92 = true := by kernel_rfl -- slices.IndexFunc[[]framewise/api.Array,framewise/api.Array]
theorem fk93 : fok Try.prog 93 = true := by kernel_rfl -- slices.Grow[[]int,int]
theorem fk94 : fok Try.prog 94 = true := by kernel_rfl -- framewise/cells.all$1
theorem fk95 : fok Try.prog 95 = true := by kernel_rfl -- framewise/array.Index
theorem fk96 : fok Try.prog 96 = true := by kernel_rfl -- framewise/structure.gathered$1
theorem fk97 : fok Try.prog 97 = true := by kernel_rfl -- slices.IndexFunc[[]string,string]
theorem fk98 : fok Try.prog 98 = true := by kernel_rfl -- framewise/framewiseref17.Types
theorem fk99 : fok Try.prog 99 = true := by kernel_rfl -- framewise/framewiseref17.one
theorem fk100 : fok Try.prog 100 = true := by kernel_rfl -- framewise/framewiseref17.two
theorem fk101 : fok Try.prog 101 = true := by kernel_rfl -- framewise/structure.find$1
theorem fk102 : fok Try.prog 102 = true := by kernel_rfl -- slices.Index[[]string,string]
theorem fk103 : fok Try.prog 103 = true := by kernel_rfl -- framewise/structure.made
theorem fk104 : fok Try.prog 104 = true := by kernel_rfl -- framewise/structure.entries$1
theorem fk105 : fok Try.prog 105 = true := by kernel_rfl -- framewise/structure.entries$2
theorem fk106 : fok Try.prog 106 = true := by kernel_rfl -- framewise/structure.part
theorem fk107 : fok Try.prog 107 = true := by kernel_rfl -- framewise/structure.entries$3
theorem fk108 : fok Try.prog 108 = true := by kernel_rfl -- framewise/structure.entries$4
theorem fk109 : fok Try.prog 109 = true := by kernel_rfl -- framewise/structure.entries$5
theorem fk110 : fok Try.prog 110 = true := by kernel_rfl -- framewise/structure.same
theorem fk111 : fok Try.prog 111 = true := by kernel_rfl -- framewise/structure.entries$6
theorem fk112 : fok Try.prog 112 = true := by kernel_rfl -- framewise/structure.entries$7
theorem fk113 : fok Try.prog 113 = true := by kernel_rfl -- framewise/structure.entries$8
theorem fk114 : fok Try.prog 114 = true := by kernel_rfl -- framewise/structure.entries$9
theorem fk115 : fok Try.prog 115 = true := by kernel_rfl -- framewise/structure.diagonal
theorem fk116 : fok Try.prog 116 = true := by kernel_rfl -- framewise/structure.entries$10
theorem fk117 : fok Try.prog 117 = true := by kernel_rfl -- framewise/structure.entries$11
theorem fk118 : fok Try.prog 118 = true := by kernel_rfl -- framewise/structure.entries$12
theorem fk119 : fok Try.prog 119 = true := by kernel_rfl -- framewise/structure.chunk
theorem fk120 : fok Try.prog 120 = true := by kernel_rfl -- framewise/structure.entries$13
theorem fk121 : fok Try.prog 121 = true := by kernel_rfl -- framewise/structure.entries$14
theorem fk122 : fok Try.prog 122 = true := by kernel_rfl -- framewise/array.elements
theorem fk123 : fok Try.prog 123 = true := by kernel_rfl -- slices.Index[[]int,int]
theorem fk124 : fok Try.prog 124 = true := by kernel_rfl -- framewise/framewiseref17.Wrap
theorem fk125 : fok Try.prog 125 = true := by kernel_rfl -- framewise/framewiseref17.truth
theorem fk126 : fok Try.prog 126 = true := by kernel_rfl -- framewise/framewiseref17.Floor
theorem fk127 : fok Try.prog 127 = true := by kernel_rfl -- slices.ContainsFunc[[]int,int]
theorem fk128 : fok Try.prog 128 = true := by kernel_rfl -- framewise/array.elements$1
theorem fk129 : fok Try.prog 129 = true := by kernel_rfl -- framewise/element.Valid
theorem fk130 : fok Try.prog 130 = true := by kernel_rfl -- slices.IndexFunc[[]int,int]
attribute [go_sem] u2 sz2 by2 ag2 so2 iz2 zk2 iu2 u3 sz3 by3 ag3 so3 iz3 zk3 iu3 u4 sz4 by4 ag4 so4 iz4 zk4 iu4 u5 sz5 by5 ag5 so5 iz5 zk5 iu5 u6 sz6 by6 ag6 so6 iz6 zk6 iu6 sz7 by7 ag7 so7 fl7_0 fl7_1 fl7_2 fl7_3 iz7 zk7 iu7 sz8 by8 ag8 so8 fl8_0 fl8_1 fl8_2 fl8_3 iz8 zk8 iu8 u9 sz9 by9 ag9 so9 iz9 zk9 iu9 u10 sz10 by10 ag10 so10 iz10 zk10 iu10 u11 sz11 by11 ag11 so11 iz11 zk11 iu11 u12 sz12 by12 ag12 so12 iz12 zk12 iu12 sz13 by13 ag13 so13 fl13_0 fl13_1 iz13 zk13 iu13 sz14 by14 ag14 so14 fl14_0 fl14_1 iz14 zk14 iu14 u15 sz15 by15 ag15 so15 iz15 zk15 iu15 u16 sz16 by16 ag16 so16 iz16 zk16 iu16 u17 sz17 by17 ag17 so17 iz17 zk17 iu17 sz18 by18 ag18 so18 fl18_0 iz18 zk18 iu18 sz19 by19 ag19 so19 fl19_0 iz19 zk19 iu19 u21 sz21 by21 ag21 so21 iz21 zk21 iu21 u22 sz22 by22 ag22 so22 iz22 zk22 iu22 ap22 u23 sz23 by23 ag23 so23 iz23 zk23 iu23 ap23 u26 sz26 by26 ag26 so26 iz26 zk26 iu26 ap26 u27 sz27 by27 ag27 so27 iz27 zk27 iu27 sz32 by32 ag32 so32 fl32_0 fl32_1 fl32_2 iz32 zk32 iu32 sz33 by33 ag33 so33 fl33_0 fl33_1 fl33_2 iz33 zk33 iu33 u40 sz40 by40 ag40 so40 iz40 zk40 iu40 ap40 sz41 by41 ag41 so41 fl41_0 fl41_1 iz41 zk41 iu41 sz42 by42 ag42 so42 fl42_0 fl42_1 iz42 zk42 iu42 sz58 by58 ag58 so58 fl58_0 fl58_1 iz58 zk58 iu58 sz59 by59 ag59 so59 fl59_0 fl59_1 iz59 zk59 iu59 u62 sz62 by62 ag62 so62 iz62 zk62 iu62 ap62 u71 sz71 by71 ag71 so71 iz71 zk71 iu71 sz91 by91 ag91 so91 fl91_0 fl91_1 fl91_2 fl91_3 fl91_4 iz91 zk91 iu91 sz92 by92 ag92 so92 fl92_0 fl92_1 fl92_2 fl92_3 fl92_4 iz92 zk92 iu92 u109 sz109 by109 ag109 so109 iz109 zk109 iu109 ap109 sz131 by131 ag131 so131 fl131_0 fl131_1 fl131_2 fl131_3 iz131 zk131 iu131 sz132 by132 ag132 so132 fl132_0 fl132_1 fl132_2 fl132_3 iz132 zk132 iu132 u133 sz133 by133 ag133 so133 iz133 zk133 iu133 sz134 by134 ag134 so134 fl134_0 iz134 zk134 iu134 sz135 by135 ag135 so135 fl135_0 iz135 zk135 iu135 u137 sz137 by137 ag137 so137 iz137 zk137 iu137 u138 sz138 by138 ag138 so138 iz138 zk138 iu138 u139 sz139 by139 ag139 so139 iz139 zk139 iu139 u141 sz141 by141 ag141 so141 iz141 zk141 iu141 u142 sz142 by142 ag142 so142 iz142 zk142 iu142 u143 sz143 by143 ag143 so143 iz143 zk143 iu143 sz144 by144 ag144 so144 fl144_0 fl144_1 fl144_2 fl144_3 fl144_4 fl144_5 fl144_6 fl144_7 fl144_8 fl144_9 fl144_10 iz144 zk144 iu144 sz145 by145 ag145 so145 fl145_0 fl145_1 fl145_2 fl145_3 fl145_4 fl145_5 fl145_6 fl145_7 fl145_8 fl145_9 fl145_10 iz145 zk145 iu145 zv2 zv3 zv4 zv5 zv6 zv7 zv8 zv9 zv10 zv11 zv12 zv13 zv14 zv15 zv16 zv17 zv18 zv19 zv21 zv22 zv23 zv26 zv27 zv32 zv33 zv40 zv41 zv42 zv58 zv59 zv62 zv71 zv91 zv92 zv109 zv131 zv132 zv137 zv138 zv139 zv141 zv142 zv143 zv144 zv145
end Go.Proofs.Ytjlcbojpiieafaa
