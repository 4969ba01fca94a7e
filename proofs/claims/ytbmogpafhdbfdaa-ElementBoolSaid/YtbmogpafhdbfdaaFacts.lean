/- Closed facts on the types of this seat's program, made by program (facts.py). -/
import Derived.Test.YtbmogpafhdbfdaaRows
import Derived.Test.YtbmogpafhdbfdaaFwB

set_option linter.all false

namespace Go.Proofs.Ytbmogpafhdbfdaa
open Go Go.Fw

theorem u2 : Try.prog.underlying 2 = some (.int .i64) := by kernel_rfl
theorem sz2 : szT Try.prog 2 = 1 := by kernel_rfl
theorem by2 : byT Try.prog 2 = 8 := by kernel_rfl
theorem ag2 : aggT Try.prog 2 = some false := by kernel_rfl
theorem so2 : structOk Try.prog 2 = false := by kernel_rfl
theorem iz2 : (zeroT Try.prog 2).isSome = true := by kernel_rfl
theorem zk2 : zOk Try.prog 2 = true := by kernel_rfl
theorem iu2 : (Try.prog.underlying 2).isSome = true := by kernel_rfl
theorem u3 : Try.prog.underlying 3 = some (.int .i64) := by kernel_rfl
theorem sz3 : szT Try.prog 3 = 1 := by kernel_rfl
theorem by3 : byT Try.prog 3 = 8 := by kernel_rfl
theorem ag3 : aggT Try.prog 3 = some false := by kernel_rfl
theorem so3 : structOk Try.prog 3 = false := by kernel_rfl
theorem iz3 : (zeroT Try.prog 3).isSome = true := by kernel_rfl
theorem zk3 : zOk Try.prog 3 = true := by kernel_rfl
theorem iu3 : (Try.prog.underlying 3).isSome = true := by kernel_rfl
theorem u4 : Try.prog.underlying 4 = some .bool := by kernel_rfl
theorem sz4 : szT Try.prog 4 = 1 := by kernel_rfl
theorem by4 : byT Try.prog 4 = 1 := by kernel_rfl
theorem ag4 : aggT Try.prog 4 = some false := by kernel_rfl
theorem so4 : structOk Try.prog 4 = false := by kernel_rfl
theorem iz4 : (zeroT Try.prog 4).isSome = true := by kernel_rfl
theorem zk4 : zOk Try.prog 4 = true := by kernel_rfl
theorem iu4 : (Try.prog.underlying 4).isSome = true := by kernel_rfl
theorem u5 : Try.prog.underlying 5 = some (.int .u8) := by kernel_rfl
theorem sz5 : szT Try.prog 5 = 1 := by kernel_rfl
theorem by5 : byT Try.prog 5 = 1 := by kernel_rfl
theorem ag5 : aggT Try.prog 5 = some false := by kernel_rfl
theorem so5 : structOk Try.prog 5 = false := by kernel_rfl
theorem iz5 : (zeroT Try.prog 5).isSome = true := by kernel_rfl
theorem zk5 : zOk Try.prog 5 = true := by kernel_rfl
theorem iu5 : (Try.prog.underlying 5).isSome = true := by kernel_rfl
theorem u6 : Try.prog.underlying 6 = some (.int .u8) := by kernel_rfl
theorem sz6 : szT Try.prog 6 = 1 := by kernel_rfl
theorem by6 : byT Try.prog 6 = 1 := by kernel_rfl
theorem ag6 : aggT Try.prog 6 = some false := by kernel_rfl
theorem so6 : structOk Try.prog 6 = false := by kernel_rfl
theorem iz6 : (zeroT Try.prog 6).isSome = true := by kernel_rfl
theorem zk6 : zOk Try.prog 6 = true := by kernel_rfl
theorem iu6 : (Try.prog.underlying 6).isSome = true := by kernel_rfl
theorem sz7 : szT Try.prog 7 = 4 := by kernel_rfl
theorem by7 : byT Try.prog 7 = 24 := by kernel_rfl
theorem ag7 : aggT Try.prog 7 = some true := by kernel_rfl
theorem so7 : structOk Try.prog 7 = true := by kernel_rfl
theorem fl7_0 : fieldT Try.prog 7 0 = some (2, 0) := by kernel_rfl
theorem fl7_1 : fieldT Try.prog 7 1 = some (3, 1) := by kernel_rfl
theorem fl7_2 : fieldT Try.prog 7 2 = some (4, 2) := by kernel_rfl
theorem fl7_3 : fieldT Try.prog 7 3 = some (6, 3) := by kernel_rfl
theorem iz7 : (zeroT Try.prog 7).isSome = true := by kernel_rfl
theorem zk7 : zOk Try.prog 7 = true := by kernel_rfl
theorem iu7 : (Try.prog.underlying 7).isSome = true := by kernel_rfl
theorem sz8 : szT Try.prog 8 = 4 := by kernel_rfl
theorem by8 : byT Try.prog 8 = 24 := by kernel_rfl
theorem ag8 : aggT Try.prog 8 = some true := by kernel_rfl
theorem so8 : structOk Try.prog 8 = true := by kernel_rfl
theorem fl8_0 : fieldT Try.prog 8 0 = some (2, 0) := by kernel_rfl
theorem fl8_1 : fieldT Try.prog 8 1 = some (3, 1) := by kernel_rfl
theorem fl8_2 : fieldT Try.prog 8 2 = some (4, 2) := by kernel_rfl
theorem fl8_3 : fieldT Try.prog 8 3 = some (6, 3) := by kernel_rfl
theorem iz8 : (zeroT Try.prog 8).isSome = true := by kernel_rfl
theorem zk8 : zOk Try.prog 8 = true := by kernel_rfl
theorem iu8 : (Try.prog.underlying 8).isSome = true := by kernel_rfl
theorem u9 : Try.prog.underlying 9 = some .string := by kernel_rfl
theorem sz9 : szT Try.prog 9 = 1 := by kernel_rfl
theorem by9 : byT Try.prog 9 = 16 := by kernel_rfl
theorem ag9 : aggT Try.prog 9 = some false := by kernel_rfl
theorem so9 : structOk Try.prog 9 = false := by kernel_rfl
theorem iz9 : (zeroT Try.prog 9).isSome = true := by kernel_rfl
theorem zk9 : zOk Try.prog 9 = true := by kernel_rfl
theorem iu9 : (Try.prog.underlying 9).isSome = true := by kernel_rfl
theorem u10 : Try.prog.underlying 10 = some .string := by kernel_rfl
theorem sz10 : szT Try.prog 10 = 1 := by kernel_rfl
theorem by10 : byT Try.prog 10 = 16 := by kernel_rfl
theorem ag10 : aggT Try.prog 10 = some false := by kernel_rfl
theorem so10 : structOk Try.prog 10 = false := by kernel_rfl
theorem iz10 : (zeroT Try.prog 10).isSome = true := by kernel_rfl
theorem zk10 : zOk Try.prog 10 = true := by kernel_rfl
theorem iu10 : (Try.prog.underlying 10).isSome = true := by kernel_rfl
theorem u11 : Try.prog.underlying 11 = some .string := by kernel_rfl
theorem sz11 : szT Try.prog 11 = 1 := by kernel_rfl
theorem by11 : byT Try.prog 11 = 16 := by kernel_rfl
theorem ag11 : aggT Try.prog 11 = some false := by kernel_rfl
theorem so11 : structOk Try.prog 11 = false := by kernel_rfl
theorem iz11 : (zeroT Try.prog 11).isSome = true := by kernel_rfl
theorem zk11 : zOk Try.prog 11 = true := by kernel_rfl
theorem iu11 : (Try.prog.underlying 11).isSome = true := by kernel_rfl
theorem u12 : Try.prog.underlying 12 = some (.int .u64) := by kernel_rfl
theorem sz12 : szT Try.prog 12 = 1 := by kernel_rfl
theorem by12 : byT Try.prog 12 = 8 := by kernel_rfl
theorem ag12 : aggT Try.prog 12 = some false := by kernel_rfl
theorem so12 : structOk Try.prog 12 = false := by kernel_rfl
theorem iz12 : (zeroT Try.prog 12).isSome = true := by kernel_rfl
theorem zk12 : zOk Try.prog 12 = true := by kernel_rfl
theorem iu12 : (Try.prog.underlying 12).isSome = true := by kernel_rfl
theorem sz13 : szT Try.prog 13 = 2 := by kernel_rfl
theorem by13 : byT Try.prog 13 = 24 := by kernel_rfl
theorem ag13 : aggT Try.prog 13 = some true := by kernel_rfl
theorem so13 : structOk Try.prog 13 = true := by kernel_rfl
theorem fl13_0 : fieldT Try.prog 13 0 = some (9, 0) := by kernel_rfl
theorem fl13_1 : fieldT Try.prog 13 1 = some (12, 1) := by kernel_rfl
theorem iz13 : (zeroT Try.prog 13).isSome = true := by kernel_rfl
theorem zk13 : zOk Try.prog 13 = true := by kernel_rfl
theorem iu13 : (Try.prog.underlying 13).isSome = true := by kernel_rfl
theorem sz14 : szT Try.prog 14 = 2 := by kernel_rfl
theorem by14 : byT Try.prog 14 = 24 := by kernel_rfl
theorem ag14 : aggT Try.prog 14 = some true := by kernel_rfl
theorem so14 : structOk Try.prog 14 = true := by kernel_rfl
theorem fl14_0 : fieldT Try.prog 14 0 = some (9, 0) := by kernel_rfl
theorem fl14_1 : fieldT Try.prog 14 1 = some (12, 1) := by kernel_rfl
theorem iz14 : (zeroT Try.prog 14).isSome = true := by kernel_rfl
theorem zk14 : zOk Try.prog 14 = true := by kernel_rfl
theorem iu14 : (Try.prog.underlying 14).isSome = true := by kernel_rfl
theorem u15 : Try.prog.underlying 15 = some (.pointer 60) := by kernel_rfl
theorem sz15 : szT Try.prog 15 = 1 := by kernel_rfl
theorem by15 : byT Try.prog 15 = 8 := by kernel_rfl
theorem ag15 : aggT Try.prog 15 = some false := by kernel_rfl
theorem so15 : structOk Try.prog 15 = false := by kernel_rfl
theorem iz15 : (zeroT Try.prog 15).isSome = true := by kernel_rfl
theorem zk15 : zOk Try.prog 15 = true := by kernel_rfl
theorem iu15 : (Try.prog.underlying 15).isSome = true := by kernel_rfl
theorem u16 : Try.prog.underlying 16 = some (.pointer 63) := by kernel_rfl
theorem sz16 : szT Try.prog 16 = 1 := by kernel_rfl
theorem by16 : byT Try.prog 16 = 8 := by kernel_rfl
theorem ag16 : aggT Try.prog 16 = some false := by kernel_rfl
theorem so16 : structOk Try.prog 16 = false := by kernel_rfl
theorem iz16 : (zeroT Try.prog 16).isSome = true := by kernel_rfl
theorem zk16 : zOk Try.prog 16 = true := by kernel_rfl
theorem iu16 : (Try.prog.underlying 16).isSome = true := by kernel_rfl
theorem u17 : Try.prog.underlying 17 = some (.pointer 73) := by kernel_rfl
theorem sz17 : szT Try.prog 17 = 1 := by kernel_rfl
theorem by17 : byT Try.prog 17 = 8 := by kernel_rfl
theorem ag17 : aggT Try.prog 17 = some false := by kernel_rfl
theorem so17 : structOk Try.prog 17 = false := by kernel_rfl
theorem iz17 : (zeroT Try.prog 17).isSome = true := by kernel_rfl
theorem zk17 : zOk Try.prog 17 = true := by kernel_rfl
theorem iu17 : (Try.prog.underlying 17).isSome = true := by kernel_rfl
theorem sz18 : szT Try.prog 18 = 1 := by kernel_rfl
theorem by18 : byT Try.prog 18 = 8 := by kernel_rfl
theorem ag18 : aggT Try.prog 18 = some true := by kernel_rfl
theorem so18 : structOk Try.prog 18 = true := by kernel_rfl
theorem fl18_0 : fieldT Try.prog 18 0 = some (17, 0) := by kernel_rfl
theorem iz18 : (zeroT Try.prog 18).isSome = true := by kernel_rfl
theorem zk18 : zOk Try.prog 18 = true := by kernel_rfl
theorem iu18 : (Try.prog.underlying 18).isSome = true := by kernel_rfl
theorem sz19 : szT Try.prog 19 = 1 := by kernel_rfl
theorem by19 : byT Try.prog 19 = 8 := by kernel_rfl
theorem ag19 : aggT Try.prog 19 = some true := by kernel_rfl
theorem so19 : structOk Try.prog 19 = true := by kernel_rfl
theorem fl19_0 : fieldT Try.prog 19 0 = some (17, 0) := by kernel_rfl
theorem iz19 : (zeroT Try.prog 19).isSome = true := by kernel_rfl
theorem zk19 : zOk Try.prog 19 = true := by kernel_rfl
theorem iu19 : (Try.prog.underlying 19).isSome = true := by kernel_rfl
theorem u21 : Try.prog.underlying 21 = some (.int .i32) := by kernel_rfl
theorem sz21 : szT Try.prog 21 = 1 := by kernel_rfl
theorem by21 : byT Try.prog 21 = 4 := by kernel_rfl
theorem ag21 : aggT Try.prog 21 = some false := by kernel_rfl
theorem so21 : structOk Try.prog 21 = false := by kernel_rfl
theorem iz21 : (zeroT Try.prog 21).isSome = true := by kernel_rfl
theorem zk21 : zOk Try.prog 21 = true := by kernel_rfl
theorem iu21 : (Try.prog.underlying 21).isSome = true := by kernel_rfl
theorem u22 : Try.prog.underlying 22 = some (.slice 3) := by kernel_rfl
theorem sz22 : szT Try.prog 22 = 1 := by kernel_rfl
theorem by22 : byT Try.prog 22 = 24 := by kernel_rfl
theorem ag22 : aggT Try.prog 22 = some false := by kernel_rfl
theorem so22 : structOk Try.prog 22 = false := by kernel_rfl
theorem iz22 : (zeroT Try.prog 22).isSome = true := by kernel_rfl
theorem zk22 : zOk Try.prog 22 = true := by kernel_rfl
theorem iu22 : (Try.prog.underlying 22).isSome = true := by kernel_rfl
theorem ap22 : appT Try.prog #[22, 22] = some 3 := by kernel_rfl
theorem u26 : Try.prog.underlying 26 = some (.slice 9) := by kernel_rfl
theorem sz26 : szT Try.prog 26 = 1 := by kernel_rfl
theorem by26 : byT Try.prog 26 = 24 := by kernel_rfl
theorem ag26 : aggT Try.prog 26 = some false := by kernel_rfl
theorem so26 : structOk Try.prog 26 = false := by kernel_rfl
theorem iz26 : (zeroT Try.prog 26).isSome = true := by kernel_rfl
theorem zk26 : zOk Try.prog 26 = true := by kernel_rfl
theorem iu26 : (Try.prog.underlying 26).isSome = true := by kernel_rfl
theorem ap26 : appT Try.prog #[26, 26] = some 9 := by kernel_rfl
theorem u35 : Try.prog.underlying 35 = some (.array 3 4) := by kernel_rfl
theorem sz35 : szT Try.prog 35 = 3 := by kernel_rfl
theorem by35 : byT Try.prog 35 = 3 := by kernel_rfl
theorem ag35 : aggT Try.prog 35 = some true := by kernel_rfl
theorem so35 : structOk Try.prog 35 = false := by kernel_rfl
theorem iz35 : (zeroT Try.prog 35).isSome = true := by kernel_rfl
theorem zk35 : zOk Try.prog 35 = true := by kernel_rfl
theorem iu35 : (Try.prog.underlying 35).isSome = true := by kernel_rfl
theorem u36 : Try.prog.underlying 36 = some (.array 2 21) := by kernel_rfl
theorem sz36 : szT Try.prog 36 = 2 := by kernel_rfl
theorem by36 : byT Try.prog 36 = 8 := by kernel_rfl
theorem ag36 : aggT Try.prog 36 = some true := by kernel_rfl
theorem so36 : structOk Try.prog 36 = false := by kernel_rfl
theorem iz36 : (zeroT Try.prog 36).isSome = true := by kernel_rfl
theorem zk36 : zOk Try.prog 36 = true := by kernel_rfl
theorem iu36 : (Try.prog.underlying 36).isSome = true := by kernel_rfl
theorem u39 : Try.prog.underlying 39 = some (.int .i16) := by kernel_rfl
theorem sz39 : szT Try.prog 39 = 1 := by kernel_rfl
theorem by39 : byT Try.prog 39 = 2 := by kernel_rfl
theorem ag39 : aggT Try.prog 39 = some false := by kernel_rfl
theorem so39 : structOk Try.prog 39 = false := by kernel_rfl
theorem iz39 : (zeroT Try.prog 39).isSome = true := by kernel_rfl
theorem zk39 : zOk Try.prog 39 = true := by kernel_rfl
theorem iu39 : (Try.prog.underlying 39).isSome = true := by kernel_rfl
theorem u40 : Try.prog.underlying 40 = some (.int .u64) := by kernel_rfl
theorem sz40 : szT Try.prog 40 = 1 := by kernel_rfl
theorem by40 : byT Try.prog 40 = 8 := by kernel_rfl
theorem ag40 : aggT Try.prog 40 = some false := by kernel_rfl
theorem so40 : structOk Try.prog 40 = false := by kernel_rfl
theorem iz40 : (zeroT Try.prog 40).isSome = true := by kernel_rfl
theorem zk40 : zOk Try.prog 40 = true := by kernel_rfl
theorem iu40 : (Try.prog.underlying 40).isSome = true := by kernel_rfl
theorem sz50 : szT Try.prog 50 = 3 := by kernel_rfl
theorem by50 : byT Try.prog 50 = 56 := by kernel_rfl
theorem ag50 : aggT Try.prog 50 = some true := by kernel_rfl
theorem so50 : structOk Try.prog 50 = true := by kernel_rfl
theorem fl50_0 : fieldT Try.prog 50 0 = some (9, 0) := by kernel_rfl
theorem fl50_1 : fieldT Try.prog 50 1 = some (26, 1) := by kernel_rfl
theorem fl50_2 : fieldT Try.prog 50 2 = some (9, 2) := by kernel_rfl
theorem iz50 : (zeroT Try.prog 50).isSome = true := by kernel_rfl
theorem zk50 : zOk Try.prog 50 = true := by kernel_rfl
theorem iu50 : (Try.prog.underlying 50).isSome = true := by kernel_rfl
theorem sz51 : szT Try.prog 51 = 3 := by kernel_rfl
theorem by51 : byT Try.prog 51 = 56 := by kernel_rfl
theorem ag51 : aggT Try.prog 51 = some true := by kernel_rfl
theorem so51 : structOk Try.prog 51 = true := by kernel_rfl
theorem fl51_0 : fieldT Try.prog 51 0 = some (9, 0) := by kernel_rfl
theorem fl51_1 : fieldT Try.prog 51 1 = some (26, 1) := by kernel_rfl
theorem fl51_2 : fieldT Try.prog 51 2 = some (9, 2) := by kernel_rfl
theorem iz51 : (zeroT Try.prog 51).isSome = true := by kernel_rfl
theorem zk51 : zOk Try.prog 51 = true := by kernel_rfl
theorem iu51 : (Try.prog.underlying 51).isSome = true := by kernel_rfl
theorem u52 : Try.prog.underlying 52 = some (.array 22 51) := by kernel_rfl
theorem sz52 : szT Try.prog 52 = 66 := by kernel_rfl
theorem by52 : byT Try.prog 52 = 1232 := by kernel_rfl
theorem ag52 : aggT Try.prog 52 = some true := by kernel_rfl
theorem so52 : structOk Try.prog 52 = false := by kernel_rfl
theorem iz52 : (zeroT Try.prog 52).isSome = true := by kernel_rfl
theorem zk52 : zOk Try.prog 52 = true := by kernel_rfl
theorem iu52 : (Try.prog.underlying 52).isSome = true := by kernel_rfl
theorem sz59 : szT Try.prog 59 = 4 := by kernel_rfl
theorem by59 : byT Try.prog 59 = 40 := by kernel_rfl
theorem ag59 : aggT Try.prog 59 = some true := by kernel_rfl
theorem so59 : structOk Try.prog 59 = true := by kernel_rfl
theorem fl59_0 : fieldT Try.prog 59 0 = some (17, 0) := by kernel_rfl
theorem fl59_1 : fieldT Try.prog 59 1 = some (17, 1) := by kernel_rfl
theorem fl59_2 : fieldT Try.prog 59 2 = some (17, 2) := by kernel_rfl
theorem fl59_3 : fieldT Try.prog 59 3 = some (9, 3) := by kernel_rfl
theorem iz59 : (zeroT Try.prog 59).isSome = true := by kernel_rfl
theorem zk59 : zOk Try.prog 59 = true := by kernel_rfl
theorem iu59 : (Try.prog.underlying 59).isSome = true := by kernel_rfl
theorem sz60 : szT Try.prog 60 = 4 := by kernel_rfl
theorem by60 : byT Try.prog 60 = 40 := by kernel_rfl
theorem ag60 : aggT Try.prog 60 = some true := by kernel_rfl
theorem so60 : structOk Try.prog 60 = true := by kernel_rfl
theorem fl60_0 : fieldT Try.prog 60 0 = some (17, 0) := by kernel_rfl
theorem fl60_1 : fieldT Try.prog 60 1 = some (17, 1) := by kernel_rfl
theorem fl60_2 : fieldT Try.prog 60 2 = some (17, 2) := by kernel_rfl
theorem fl60_3 : fieldT Try.prog 60 3 = some (9, 3) := by kernel_rfl
theorem iz60 : (zeroT Try.prog 60).isSome = true := by kernel_rfl
theorem zk60 : zOk Try.prog 60 = true := by kernel_rfl
theorem iu60 : (Try.prog.underlying 60).isSome = true := by kernel_rfl
theorem u61 : Try.prog.underlying 61 = some (.array 0 16) := by kernel_rfl
theorem sz61 : szT Try.prog 61 = 0 := by kernel_rfl
theorem by61 : byT Try.prog 61 = 0 := by kernel_rfl
theorem ag61 : aggT Try.prog 61 = some true := by kernel_rfl
theorem so61 : structOk Try.prog 61 = false := by kernel_rfl
theorem iz61 : (zeroT Try.prog 61).isSome = true := by kernel_rfl
theorem zk61 : zOk Try.prog 61 = true := by kernel_rfl
theorem iu61 : (Try.prog.underlying 61).isSome = true := by kernel_rfl
theorem sz62 : szT Try.prog 62 = 0 := by kernel_rfl
theorem by62 : byT Try.prog 62 = 0 := by kernel_rfl
theorem ag62 : aggT Try.prog 62 = some true := by kernel_rfl
theorem so62 : structOk Try.prog 62 = true := by kernel_rfl
theorem fl62_0 : fieldT Try.prog 62 0 = some (61, 0) := by kernel_rfl
theorem iz62 : (zeroT Try.prog 62).isSome = true := by kernel_rfl
theorem zk62 : zOk Try.prog 62 = true := by kernel_rfl
theorem iu62 : (Try.prog.underlying 62).isSome = true := by kernel_rfl
theorem sz63 : szT Try.prog 63 = 0 := by kernel_rfl
theorem by63 : byT Try.prog 63 = 0 := by kernel_rfl
theorem ag63 : aggT Try.prog 63 = some true := by kernel_rfl
theorem so63 : structOk Try.prog 63 = true := by kernel_rfl
theorem fl63_0 : fieldT Try.prog 63 0 = some (61, 0) := by kernel_rfl
theorem iz63 : (zeroT Try.prog 63).isSome = true := by kernel_rfl
theorem zk63 : zOk Try.prog 63 = true := by kernel_rfl
theorem iu63 : (Try.prog.underlying 63).isSome = true := by kernel_rfl
theorem u65 : Try.prog.underlying 65 = some (.int .u32) := by kernel_rfl
theorem sz65 : szT Try.prog 65 = 1 := by kernel_rfl
theorem by65 : byT Try.prog 65 = 4 := by kernel_rfl
theorem ag65 : aggT Try.prog 65 = some false := by kernel_rfl
theorem so65 : structOk Try.prog 65 = false := by kernel_rfl
theorem iz65 : (zeroT Try.prog 65).isSome = true := by kernel_rfl
theorem zk65 : zOk Try.prog 65 = true := by kernel_rfl
theorem iu65 : (Try.prog.underlying 65).isSome = true := by kernel_rfl
theorem u66 : Try.prog.underlying 66 = some (.int .u8) := by kernel_rfl
theorem sz66 : szT Try.prog 66 = 1 := by kernel_rfl
theorem by66 : byT Try.prog 66 = 1 := by kernel_rfl
theorem ag66 : aggT Try.prog 66 = some false := by kernel_rfl
theorem so66 : structOk Try.prog 66 = false := by kernel_rfl
theorem iz66 : (zeroT Try.prog 66).isSome = true := by kernel_rfl
theorem zk66 : zOk Try.prog 66 = true := by kernel_rfl
theorem iu66 : (Try.prog.underlying 66).isSome = true := by kernel_rfl
theorem u67 : Try.prog.underlying 67 = some (.int .u8) := by kernel_rfl
theorem sz67 : szT Try.prog 67 = 1 := by kernel_rfl
theorem by67 : byT Try.prog 67 = 1 := by kernel_rfl
theorem ag67 : aggT Try.prog 67 = some false := by kernel_rfl
theorem so67 : structOk Try.prog 67 = false := by kernel_rfl
theorem iz67 : (zeroT Try.prog 67).isSome = true := by kernel_rfl
theorem zk67 : zOk Try.prog 67 = true := by kernel_rfl
theorem iu67 : (Try.prog.underlying 67).isSome = true := by kernel_rfl
theorem u69 : Try.prog.underlying 69 = some (.pointer 5) := by kernel_rfl
theorem sz69 : szT Try.prog 69 = 1 := by kernel_rfl
theorem by69 : byT Try.prog 69 = 8 := by kernel_rfl
theorem ag69 : aggT Try.prog 69 = some false := by kernel_rfl
theorem so69 : structOk Try.prog 69 = false := by kernel_rfl
theorem iz69 : (zeroT Try.prog 69).isSome = true := by kernel_rfl
theorem zk69 : zOk Try.prog 69 = true := by kernel_rfl
theorem iu69 : (Try.prog.underlying 69).isSome = true := by kernel_rfl
theorem u70 : Try.prog.underlying 70 = some (.int .i32) := by kernel_rfl
theorem sz70 : szT Try.prog 70 = 1 := by kernel_rfl
theorem by70 : byT Try.prog 70 = 4 := by kernel_rfl
theorem ag70 : aggT Try.prog 70 = some false := by kernel_rfl
theorem so70 : structOk Try.prog 70 = false := by kernel_rfl
theorem iz70 : (zeroT Try.prog 70).isSome = true := by kernel_rfl
theorem zk70 : zOk Try.prog 70 = true := by kernel_rfl
theorem iu70 : (Try.prog.underlying 70).isSome = true := by kernel_rfl
theorem u71 : Try.prog.underlying 71 = some (.int .i32) := by kernel_rfl
theorem sz71 : szT Try.prog 71 = 1 := by kernel_rfl
theorem by71 : byT Try.prog 71 = 4 := by kernel_rfl
theorem ag71 : aggT Try.prog 71 = some false := by kernel_rfl
theorem so71 : structOk Try.prog 71 = false := by kernel_rfl
theorem iz71 : (zeroT Try.prog 71).isSome = true := by kernel_rfl
theorem zk71 : zOk Try.prog 71 = true := by kernel_rfl
theorem iu71 : (Try.prog.underlying 71).isSome = true := by kernel_rfl
theorem sz72 : szT Try.prog 72 = 11 := by kernel_rfl
theorem by72 : byT Try.prog 72 = 48 := by kernel_rfl
theorem ag72 : aggT Try.prog 72 = some true := by kernel_rfl
theorem so72 : structOk Try.prog 72 = true := by kernel_rfl
theorem fl72_0 : fieldT Try.prog 72 0 = some (12, 0) := by kernel_rfl
theorem fl72_1 : fieldT Try.prog 72 1 = some (12, 1) := by kernel_rfl
theorem fl72_2 : fieldT Try.prog 72 2 = some (65, 2) := by kernel_rfl
theorem fl72_3 : fieldT Try.prog 72 3 = some (66, 3) := by kernel_rfl
theorem fl72_4 : fieldT Try.prog 72 4 = some (5, 4) := by kernel_rfl
theorem fl72_5 : fieldT Try.prog 72 5 = some (5, 5) := by kernel_rfl
theorem fl72_6 : fieldT Try.prog 72 6 = some (67, 6) := by kernel_rfl
theorem fl72_7 : fieldT Try.prog 72 7 = some (68, 7) := by kernel_rfl
theorem fl72_8 : fieldT Try.prog 72 8 = some (69, 8) := by kernel_rfl
theorem fl72_9 : fieldT Try.prog 72 9 = some (70, 9) := by kernel_rfl
theorem fl72_10 : fieldT Try.prog 72 10 = some (71, 10) := by kernel_rfl
theorem iz72 : (zeroT Try.prog 72).isSome = true := by kernel_rfl
theorem zk72 : zOk Try.prog 72 = true := by kernel_rfl
theorem iu72 : (Try.prog.underlying 72).isSome = true := by kernel_rfl
theorem sz73 : szT Try.prog 73 = 11 := by kernel_rfl
theorem by73 : byT Try.prog 73 = 48 := by kernel_rfl
theorem ag73 : aggT Try.prog 73 = some true := by kernel_rfl
theorem so73 : structOk Try.prog 73 = true := by kernel_rfl
theorem fl73_0 : fieldT Try.prog 73 0 = some (12, 0) := by kernel_rfl
theorem fl73_1 : fieldT Try.prog 73 1 = some (12, 1) := by kernel_rfl
theorem fl73_2 : fieldT Try.prog 73 2 = some (65, 2) := by kernel_rfl
theorem fl73_3 : fieldT Try.prog 73 3 = some (66, 3) := by kernel_rfl
theorem fl73_4 : fieldT Try.prog 73 4 = some (5, 4) := by kernel_rfl
theorem fl73_5 : fieldT Try.prog 73 5 = some (5, 5) := by kernel_rfl
theorem fl73_6 : fieldT Try.prog 73 6 = some (67, 6) := by kernel_rfl
theorem fl73_7 : fieldT Try.prog 73 7 = some (68, 7) := by kernel_rfl
theorem fl73_8 : fieldT Try.prog 73 8 = some (69, 8) := by kernel_rfl
theorem fl73_9 : fieldT Try.prog 73 9 = some (70, 9) := by kernel_rfl
theorem fl73_10 : fieldT Try.prog 73 10 = some (71, 10) := by kernel_rfl
theorem iz73 : (zeroT Try.prog 73).isSome = true := by kernel_rfl
theorem zk73 : zOk Try.prog 73 = true := by kernel_rfl
theorem iu73 : (Try.prog.underlying 73).isSome = true := by kernel_rfl
def zerL : List (Nat × AV) := [(2, .lit (.int .i64 0)),
  (3, .lit (.int .i64 0)),
  (4, .lit (.bool false)),
  (5, .lit (.int .u8 0)),
  (6, .lit (.int .u8 0)),
  (7, .agg [.lit (.int .i64 0), .lit (.int .i64 0), .lit (.bool false), .lit (.int .u8 0)]),
  (8, .agg [.lit (.int .i64 0), .lit (.int .i64 0), .lit (.bool false), .lit (.int .u8 0)]),
  (9, .lit (.string ByteArray.empty)),
  (10, .lit (.string ByteArray.empty)),
  (11, .lit (.string ByteArray.empty)),
  (12, .lit (.int .u64 0)),
  (13, .agg [.lit (.string ByteArray.empty), .lit (.int .u64 0)]),
  (14, .agg [.lit (.string ByteArray.empty), .lit (.int .u64 0)]),
  (15, .lit (.pointer none)),
  (16, .lit (.pointer none)),
  (17, .lit (.pointer none)),
  (18, .agg [.lit (.pointer none)]),
  (19, .agg [.lit (.pointer none)]),
  (21, .lit (.int .i32 0)),
  (22, .sl true 1 []),
  (26, .sl true 1 []),
  (35, .agg [.lit (.bool false), .lit (.bool false), .lit (.bool false)]),
  (36, .agg [.lit (.int .i32 0), .lit (.int .i32 0)]),
  (39, .lit (.int .i16 0)),
  (40, .lit (.int .u64 0)),
  (50, .agg [.lit (.string ByteArray.empty), .sl true 1 [], .lit (.string ByteArray.empty)]),
  (51, .agg [.lit (.string ByteArray.empty), .sl true 1 [], .lit (.string ByteArray.empty)]),
  (52, .agg [.lit (.string ByteArray.empty), .sl true 1 [], .lit (.string ByteArray.empty), .lit (.string ByteArray.empty), .sl true 1 [], .lit (.string ByteArray.empty), .lit (.string ByteArray.empty), .sl true 1 [], .lit (.string ByteArray.empty), .lit (.string ByteArray.empty), .sl true 1 [], .lit (.string ByteArray.empty), .lit (.string ByteArray.empty), .sl true 1 [], .lit (.string ByteArray.empty), .lit (.string ByteArray.empty), .sl true 1 [], .lit (.string ByteArray.empty), .lit (.string ByteArray.empty), .sl true 1 [], .lit (.string ByteArray.empty), .lit (.string ByteArray.empty), .sl true 1 [], .lit (.string ByteArray.empty), .lit (.string ByteArray.empty), .sl true 1 [], .lit (.string ByteArray.empty), .lit (.string ByteArray.empty), .sl true 1 [], .lit (.string ByteArray.empty), .lit (.string ByteArray.empty), .sl true 1 [], .lit (.string ByteArray.empty), .lit (.string ByteArray.empty), .sl true 1 [], .lit (.string ByteArray.empty), .lit (.string ByteArray.empty), .sl true 1 [], .lit (.string ByteArray.empty), .lit (.string ByteArray.empty), .sl true 1 [], .lit (.string ByteArray.empty), .lit (.string ByteArray.empty), .sl true 1 [], .lit (.string ByteArray.empty), .lit (.string ByteArray.empty), .sl true 1 [], .lit (.string ByteArray.empty), .lit (.string ByteArray.empty), .sl true 1 [], .lit (.string ByteArray.empty), .lit (.string ByteArray.empty), .sl true 1 [], .lit (.string ByteArray.empty), .lit (.string ByteArray.empty), .sl true 1 [], .lit (.string ByteArray.empty), .lit (.string ByteArray.empty), .sl true 1 [], .lit (.string ByteArray.empty), .lit (.string ByteArray.empty), .sl true 1 [], .lit (.string ByteArray.empty), .lit (.string ByteArray.empty), .sl true 1 [], .lit (.string ByteArray.empty)]),
  (59, .agg [.lit (.pointer none), .lit (.pointer none), .lit (.pointer none), .lit (.string ByteArray.empty)]),
  (60, .agg [.lit (.pointer none), .lit (.pointer none), .lit (.pointer none), .lit (.string ByteArray.empty)]),
  (65, .lit (.int .u32 0)),
  (66, .lit (.int .u8 0)),
  (67, .lit (.int .u8 0)),
  (69, .lit (.pointer none)),
  (70, .lit (.int .i32 0)),
  (71, .lit (.int .i32 0)),
  (72, .agg [.lit (.int .u64 0), .lit (.int .u64 0), .lit (.int .u32 0), .lit (.int .u8 0), .lit (.int .u8 0), .lit (.int .u8 0), .lit (.int .u8 0), .lit .nilFunc, .lit (.pointer none), .lit (.int .i32 0), .lit (.int .i32 0)]),
  (73, .agg [.lit (.int .u64 0), .lit (.int .u64 0), .lit (.int .u32 0), .lit (.int .u8 0), .lit (.int .u8 0), .lit (.int .u8 0), .lit (.int .u8 0), .lit .nilFunc, .lit (.pointer none), .lit (.int .i32 0), .lit (.int .i32 0)])]
def zer (t : TypeId) : AV := lookZ zerL t
theorem zr2 : ZerOk Try.prog (2, .lit (.int .i64 0)) := fun v h => by
  rw [show zeroT Try.prog 2 = some (.int .i64 0) from by kernel_rfl] at h; cases h; exact .lit _
theorem zv2 : zer 2 = .lit (.int .i64 0) := rfl
theorem zr3 : ZerOk Try.prog (3, .lit (.int .i64 0)) := fun v h => by
  rw [show zeroT Try.prog 3 = some (.int .i64 0) from by kernel_rfl] at h; cases h; exact .lit _
theorem zv3 : zer 3 = .lit (.int .i64 0) := rfl
theorem zr4 : ZerOk Try.prog (4, .lit (.bool false)) := fun v h => by
  rw [show zeroT Try.prog 4 = some (.bool false) from by kernel_rfl] at h; cases h; exact .lit _
theorem zv4 : zer 4 = .lit (.bool false) := rfl
theorem zr5 : ZerOk Try.prog (5, .lit (.int .u8 0)) := fun v h => by
  rw [show zeroT Try.prog 5 = some (.int .u8 0) from by kernel_rfl] at h; cases h; exact .lit _
theorem zv5 : zer 5 = .lit (.int .u8 0) := rfl
theorem zr6 : ZerOk Try.prog (6, .lit (.int .u8 0)) := fun v h => by
  rw [show zeroT Try.prog 6 = some (.int .u8 0) from by kernel_rfl] at h; cases h; exact .lit _
theorem zv6 : zer 6 = .lit (.int .u8 0) := rfl
theorem zr7 : ZerOk Try.prog (7, .agg [.lit (.int .i64 0), .lit (.int .i64 0), .lit (.bool false), .lit (.int .u8 0)]) := fun v h => by
  rw [show zeroT Try.prog 7 = some (.agg #[(.int .i64 0), (.int .i64 0), (.bool false), (.int .u8 0)]) from by kernel_rfl] at h; cases h
  exact zr_agg _ _ (zl_cons (.lit _) rfl (zl_cons (.lit _) rfl (zl_cons (.lit _) rfl (zl_cons (.lit _) rfl (zl_nil)))))
theorem zv7 : zer 7 = .agg [.lit (.int .i64 0), .lit (.int .i64 0), .lit (.bool false), .lit (.int .u8 0)] := rfl
theorem zr8 : ZerOk Try.prog (8, .agg [.lit (.int .i64 0), .lit (.int .i64 0), .lit (.bool false), .lit (.int .u8 0)]) := fun v h => by
  rw [show zeroT Try.prog 8 = some (.agg #[(.int .i64 0), (.int .i64 0), (.bool false), (.int .u8 0)]) from by kernel_rfl] at h; cases h
  exact zr_agg _ _ (zl_cons (.lit _) rfl (zl_cons (.lit _) rfl (zl_cons (.lit _) rfl (zl_cons (.lit _) rfl (zl_nil)))))
theorem zv8 : zer 8 = .agg [.lit (.int .i64 0), .lit (.int .i64 0), .lit (.bool false), .lit (.int .u8 0)] := rfl
theorem zr9 : ZerOk Try.prog (9, .lit (.string ByteArray.empty)) := fun v h => by
  rw [show zeroT Try.prog 9 = some (.string ByteArray.empty) from by kernel_rfl] at h; cases h; exact .lit _
theorem zv9 : zer 9 = .lit (.string ByteArray.empty) := rfl
theorem zr10 : ZerOk Try.prog (10, .lit (.string ByteArray.empty)) := fun v h => by
  rw [show zeroT Try.prog 10 = some (.string ByteArray.empty) from by kernel_rfl] at h; cases h; exact .lit _
theorem zv10 : zer 10 = .lit (.string ByteArray.empty) := rfl
theorem zr11 : ZerOk Try.prog (11, .lit (.string ByteArray.empty)) := fun v h => by
  rw [show zeroT Try.prog 11 = some (.string ByteArray.empty) from by kernel_rfl] at h; cases h; exact .lit _
theorem zv11 : zer 11 = .lit (.string ByteArray.empty) := rfl
theorem zr12 : ZerOk Try.prog (12, .lit (.int .u64 0)) := fun v h => by
  rw [show zeroT Try.prog 12 = some (.int .u64 0) from by kernel_rfl] at h; cases h; exact .lit _
theorem zv12 : zer 12 = .lit (.int .u64 0) := rfl
theorem zr13 : ZerOk Try.prog (13, .agg [.lit (.string ByteArray.empty), .lit (.int .u64 0)]) := fun v h => by
  rw [show zeroT Try.prog 13 = some (.agg #[(.string ByteArray.empty), (.int .u64 0)]) from by kernel_rfl] at h; cases h
  exact zr_agg _ _ (zl_cons (.lit _) rfl (zl_cons (.lit _) rfl (zl_nil)))
theorem zv13 : zer 13 = .agg [.lit (.string ByteArray.empty), .lit (.int .u64 0)] := rfl
theorem zr14 : ZerOk Try.prog (14, .agg [.lit (.string ByteArray.empty), .lit (.int .u64 0)]) := fun v h => by
  rw [show zeroT Try.prog 14 = some (.agg #[(.string ByteArray.empty), (.int .u64 0)]) from by kernel_rfl] at h; cases h
  exact zr_agg _ _ (zl_cons (.lit _) rfl (zl_cons (.lit _) rfl (zl_nil)))
theorem zv14 : zer 14 = .agg [.lit (.string ByteArray.empty), .lit (.int .u64 0)] := rfl
theorem zr15 : ZerOk Try.prog (15, .lit (.pointer none)) := fun v h => by
  rw [show zeroT Try.prog 15 = some (.pointer none) from by kernel_rfl] at h; cases h; exact .lit _
theorem zv15 : zer 15 = .lit (.pointer none) := rfl
theorem zr16 : ZerOk Try.prog (16, .lit (.pointer none)) := fun v h => by
  rw [show zeroT Try.prog 16 = some (.pointer none) from by kernel_rfl] at h; cases h; exact .lit _
theorem zv16 : zer 16 = .lit (.pointer none) := rfl
theorem zr17 : ZerOk Try.prog (17, .lit (.pointer none)) := fun v h => by
  rw [show zeroT Try.prog 17 = some (.pointer none) from by kernel_rfl] at h; cases h; exact .lit _
theorem zv17 : zer 17 = .lit (.pointer none) := rfl
theorem zr18 : ZerOk Try.prog (18, .agg [.lit (.pointer none)]) := fun v h => by
  rw [show zeroT Try.prog 18 = some (.agg #[(.pointer none)]) from by kernel_rfl] at h; cases h
  exact zr_agg _ _ (zl_cons (.lit _) rfl (zl_nil))
theorem zv18 : zer 18 = .agg [.lit (.pointer none)] := rfl
theorem zr19 : ZerOk Try.prog (19, .agg [.lit (.pointer none)]) := fun v h => by
  rw [show zeroT Try.prog 19 = some (.agg #[(.pointer none)]) from by kernel_rfl] at h; cases h
  exact zr_agg _ _ (zl_cons (.lit _) rfl (zl_nil))
theorem zv19 : zer 19 = .agg [.lit (.pointer none)] := rfl
theorem zr21 : ZerOk Try.prog (21, .lit (.int .i32 0)) := fun v h => by
  rw [show zeroT Try.prog 21 = some (.int .i32 0) from by kernel_rfl] at h; cases h; exact .lit _
theorem zv21 : zer 21 = .lit (.int .i32 0) := rfl
theorem zr22 : ZerOk Try.prog (22, .sl true 1 []) := fun v h => by
  rw [show zeroT Try.prog 22 = some (.slice none 0 0) from by kernel_rfl] at h; cases h; exact .nil _ _ _
theorem zv22 : zer 22 = .sl true 1 [] := rfl
theorem zr26 : ZerOk Try.prog (26, .sl true 1 []) := fun v h => by
  rw [show zeroT Try.prog 26 = some (.slice none 0 0) from by kernel_rfl] at h; cases h; exact .nil _ _ _
theorem zv26 : zer 26 = .sl true 1 [] := rfl
theorem zr35 : ZerOk Try.prog (35, .agg [.lit (.bool false), .lit (.bool false), .lit (.bool false)]) := fun v h => by
  rw [show zeroT Try.prog 35 = some (.agg #[(.bool false), (.bool false), (.bool false)]) from by kernel_rfl] at h; cases h
  exact zr_agg _ _ (zl_cons (.lit _) rfl (zl_cons (.lit _) rfl (zl_cons (.lit _) rfl (zl_nil))))
theorem zv35 : zer 35 = .agg [.lit (.bool false), .lit (.bool false), .lit (.bool false)] := rfl
theorem zr36 : ZerOk Try.prog (36, .agg [.lit (.int .i32 0), .lit (.int .i32 0)]) := fun v h => by
  rw [show zeroT Try.prog 36 = some (.agg #[(.int .i32 0), (.int .i32 0)]) from by kernel_rfl] at h; cases h
  exact zr_agg _ _ (zl_cons (.lit _) rfl (zl_cons (.lit _) rfl (zl_nil)))
theorem zv36 : zer 36 = .agg [.lit (.int .i32 0), .lit (.int .i32 0)] := rfl
theorem zr39 : ZerOk Try.prog (39, .lit (.int .i16 0)) := fun v h => by
  rw [show zeroT Try.prog 39 = some (.int .i16 0) from by kernel_rfl] at h; cases h; exact .lit _
theorem zv39 : zer 39 = .lit (.int .i16 0) := rfl
theorem zr40 : ZerOk Try.prog (40, .lit (.int .u64 0)) := fun v h => by
  rw [show zeroT Try.prog 40 = some (.int .u64 0) from by kernel_rfl] at h; cases h; exact .lit _
theorem zv40 : zer 40 = .lit (.int .u64 0) := rfl
theorem zr50 : ZerOk Try.prog (50, .agg [.lit (.string ByteArray.empty), .sl true 1 [], .lit (.string ByteArray.empty)]) := fun v h => by
  rw [show zeroT Try.prog 50 = some (.agg #[(.string ByteArray.empty), (.slice none 0 0), (.string ByteArray.empty)]) from by kernel_rfl] at h; cases h
  exact zr_agg _ _ (zl_cons (.lit _) rfl (zl_cons (.nil _ _ _) rfl (zl_cons (.lit _) rfl (zl_nil))))
theorem zv50 : zer 50 = .agg [.lit (.string ByteArray.empty), .sl true 1 [], .lit (.string ByteArray.empty)] := rfl
theorem zr51 : ZerOk Try.prog (51, .agg [.lit (.string ByteArray.empty), .sl true 1 [], .lit (.string ByteArray.empty)]) := fun v h => by
  rw [show zeroT Try.prog 51 = some (.agg #[(.string ByteArray.empty), (.slice none 0 0), (.string ByteArray.empty)]) from by kernel_rfl] at h; cases h
  exact zr_agg _ _ (zl_cons (.lit _) rfl (zl_cons (.nil _ _ _) rfl (zl_cons (.lit _) rfl (zl_nil))))
theorem zv51 : zer 51 = .agg [.lit (.string ByteArray.empty), .sl true 1 [], .lit (.string ByteArray.empty)] := rfl
theorem zr52 : ZerOk Try.prog (52, .agg [.lit (.string ByteArray.empty), .sl true 1 [], .lit (.string ByteArray.empty), .lit (.string ByteArray.empty), .sl true 1 [], .lit (.string ByteArray.empty), .lit (.string ByteArray.empty), .sl true 1 [], .lit (.string ByteArray.empty), .lit (.string ByteArray.empty), .sl true 1 [], .lit (.string ByteArray.empty), .lit (.string ByteArray.empty), .sl true 1 [], .lit (.string ByteArray.empty), .lit (.string ByteArray.empty), .sl true 1 [], .lit (.string ByteArray.empty), .lit (.string ByteArray.empty), .sl true 1 [], .lit (.string ByteArray.empty), .lit (.string ByteArray.empty), .sl true 1 [], .lit (.string ByteArray.empty), .lit (.string ByteArray.empty), .sl true 1 [], .lit (.string ByteArray.empty), .lit (.string ByteArray.empty), .sl true 1 [], .lit (.string ByteArray.empty), .lit (.string ByteArray.empty), .sl true 1 [], .lit (.string ByteArray.empty), .lit (.string ByteArray.empty), .sl true 1 [], .lit (.string ByteArray.empty), .lit (.string ByteArray.empty), .sl true 1 [], .lit (.string ByteArray.empty), .lit (.string ByteArray.empty), .sl true 1 [], .lit (.string ByteArray.empty), .lit (.string ByteArray.empty), .sl true 1 [], .lit (.string ByteArray.empty), .lit (.string ByteArray.empty), .sl true 1 [], .lit (.string ByteArray.empty), .lit (.string ByteArray.empty), .sl true 1 [], .lit (.string ByteArray.empty), .lit (.string ByteArray.empty), .sl true 1 [], .lit (.string ByteArray.empty), .lit (.string ByteArray.empty), .sl true 1 [], .lit (.string ByteArray.empty), .lit (.string ByteArray.empty), .sl true 1 [], .lit (.string ByteArray.empty), .lit (.string ByteArray.empty), .sl true 1 [], .lit (.string ByteArray.empty), .lit (.string ByteArray.empty), .sl true 1 [], .lit (.string ByteArray.empty)]) := fun v h => by
  rw [show zeroT Try.prog 52 = some (.agg #[(.string ByteArray.empty), (.slice none 0 0), (.string ByteArray.empty), (.string ByteArray.empty), (.slice none 0 0), (.string ByteArray.empty), (.string ByteArray.empty), (.slice none 0 0), (.string ByteArray.empty), (.string ByteArray.empty), (.slice none 0 0), (.string ByteArray.empty), (.string ByteArray.empty), (.slice none 0 0), (.string ByteArray.empty), (.string ByteArray.empty), (.slice none 0 0), (.string ByteArray.empty), (.string ByteArray.empty), (.slice none 0 0), (.string ByteArray.empty), (.string ByteArray.empty), (.slice none 0 0), (.string ByteArray.empty), (.string ByteArray.empty), (.slice none 0 0), (.string ByteArray.empty), (.string ByteArray.empty), (.slice none 0 0), (.string ByteArray.empty), (.string ByteArray.empty), (.slice none 0 0), (.string ByteArray.empty), (.string ByteArray.empty), (.slice none 0 0), (.string ByteArray.empty), (.string ByteArray.empty), (.slice none 0 0), (.string ByteArray.empty), (.string ByteArray.empty), (.slice none 0 0), (.string ByteArray.empty), (.string ByteArray.empty), (.slice none 0 0), (.string ByteArray.empty), (.string ByteArray.empty), (.slice none 0 0), (.string ByteArray.empty), (.string ByteArray.empty), (.slice none 0 0), (.string ByteArray.empty), (.string ByteArray.empty), (.slice none 0 0), (.string ByteArray.empty), (.string ByteArray.empty), (.slice none 0 0), (.string ByteArray.empty), (.string ByteArray.empty), (.slice none 0 0), (.string ByteArray.empty), (.string ByteArray.empty), (.slice none 0 0), (.string ByteArray.empty), (.string ByteArray.empty), (.slice none 0 0), (.string ByteArray.empty)]) from by kernel_rfl] at h; cases h
  exact zr_agg _ _ (zl_cons (.lit _) rfl (zl_cons (.nil _ _ _) rfl (zl_cons (.lit _) rfl (zl_cons (.lit _) rfl (zl_cons (.nil _ _ _) rfl (zl_cons (.lit _) rfl (zl_cons (.lit _) rfl (zl_cons (.nil _ _ _) rfl (zl_cons (.lit _) rfl (zl_cons (.lit _) rfl (zl_cons (.nil _ _ _) rfl (zl_cons (.lit _) rfl (zl_cons (.lit _) rfl (zl_cons (.nil _ _ _) rfl (zl_cons (.lit _) rfl (zl_cons (.lit _) rfl (zl_cons (.nil _ _ _) rfl (zl_cons (.lit _) rfl (zl_cons (.lit _) rfl (zl_cons (.nil _ _ _) rfl (zl_cons (.lit _) rfl (zl_cons (.lit _) rfl (zl_cons (.nil _ _ _) rfl (zl_cons (.lit _) rfl (zl_cons (.lit _) rfl (zl_cons (.nil _ _ _) rfl (zl_cons (.lit _) rfl (zl_cons (.lit _) rfl (zl_cons (.nil _ _ _) rfl (zl_cons (.lit _) rfl (zl_cons (.lit _) rfl (zl_cons (.nil _ _ _) rfl (zl_cons (.lit _) rfl (zl_cons (.lit _) rfl (zl_cons (.nil _ _ _) rfl (zl_cons (.lit _) rfl (zl_cons (.lit _) rfl (zl_cons (.nil _ _ _) rfl (zl_cons (.lit _) rfl (zl_cons (.lit _) rfl (zl_cons (.nil _ _ _) rfl (zl_cons (.lit _) rfl (zl_cons (.lit _) rfl (zl_cons (.nil _ _ _) rfl (zl_cons (.lit _) rfl (zl_cons (.lit _) rfl (zl_cons (.nil _ _ _) rfl (zl_cons (.lit _) rfl (zl_cons (.lit _) rfl (zl_cons (.nil _ _ _) rfl (zl_cons (.lit _) rfl (zl_cons (.lit _) rfl (zl_cons (.nil _ _ _) rfl (zl_cons (.lit _) rfl (zl_cons (.lit _) rfl (zl_cons (.nil _ _ _) rfl (zl_cons (.lit _) rfl (zl_cons (.lit _) rfl (zl_cons (.nil _ _ _) rfl (zl_cons (.lit _) rfl (zl_cons (.lit _) rfl (zl_cons (.nil _ _ _) rfl (zl_cons (.lit _) rfl (zl_cons (.lit _) rfl (zl_cons (.nil _ _ _) rfl (zl_cons (.lit _) rfl (zl_nil)))))))))))))))))))))))))))))))))))))))))))))))))))))))))))))))))))
theorem zv52 : zer 52 = .agg [.lit (.string ByteArray.empty), .sl true 1 [], .lit (.string ByteArray.empty), .lit (.string ByteArray.empty), .sl true 1 [], .lit (.string ByteArray.empty), .lit (.string ByteArray.empty), .sl true 1 [], .lit (.string ByteArray.empty), .lit (.string ByteArray.empty), .sl true 1 [], .lit (.string ByteArray.empty), .lit (.string ByteArray.empty), .sl true 1 [], .lit (.string ByteArray.empty), .lit (.string ByteArray.empty), .sl true 1 [], .lit (.string ByteArray.empty), .lit (.string ByteArray.empty), .sl true 1 [], .lit (.string ByteArray.empty), .lit (.string ByteArray.empty), .sl true 1 [], .lit (.string ByteArray.empty), .lit (.string ByteArray.empty), .sl true 1 [], .lit (.string ByteArray.empty), .lit (.string ByteArray.empty), .sl true 1 [], .lit (.string ByteArray.empty), .lit (.string ByteArray.empty), .sl true 1 [], .lit (.string ByteArray.empty), .lit (.string ByteArray.empty), .sl true 1 [], .lit (.string ByteArray.empty), .lit (.string ByteArray.empty), .sl true 1 [], .lit (.string ByteArray.empty), .lit (.string ByteArray.empty), .sl true 1 [], .lit (.string ByteArray.empty), .lit (.string ByteArray.empty), .sl true 1 [], .lit (.string ByteArray.empty), .lit (.string ByteArray.empty), .sl true 1 [], .lit (.string ByteArray.empty), .lit (.string ByteArray.empty), .sl true 1 [], .lit (.string ByteArray.empty), .lit (.string ByteArray.empty), .sl true 1 [], .lit (.string ByteArray.empty), .lit (.string ByteArray.empty), .sl true 1 [], .lit (.string ByteArray.empty), .lit (.string ByteArray.empty), .sl true 1 [], .lit (.string ByteArray.empty), .lit (.string ByteArray.empty), .sl true 1 [], .lit (.string ByteArray.empty), .lit (.string ByteArray.empty), .sl true 1 [], .lit (.string ByteArray.empty)] := rfl
theorem zr59 : ZerOk Try.prog (59, .agg [.lit (.pointer none), .lit (.pointer none), .lit (.pointer none), .lit (.string ByteArray.empty)]) := fun v h => by
  rw [show zeroT Try.prog 59 = some (.agg #[(.pointer none), (.pointer none), (.pointer none), (.string ByteArray.empty)]) from by kernel_rfl] at h; cases h
  exact zr_agg _ _ (zl_cons (.lit _) rfl (zl_cons (.lit _) rfl (zl_cons (.lit _) rfl (zl_cons (.lit _) rfl (zl_nil)))))
theorem zv59 : zer 59 = .agg [.lit (.pointer none), .lit (.pointer none), .lit (.pointer none), .lit (.string ByteArray.empty)] := rfl
theorem zr60 : ZerOk Try.prog (60, .agg [.lit (.pointer none), .lit (.pointer none), .lit (.pointer none), .lit (.string ByteArray.empty)]) := fun v h => by
  rw [show zeroT Try.prog 60 = some (.agg #[(.pointer none), (.pointer none), (.pointer none), (.string ByteArray.empty)]) from by kernel_rfl] at h; cases h
  exact zr_agg _ _ (zl_cons (.lit _) rfl (zl_cons (.lit _) rfl (zl_cons (.lit _) rfl (zl_cons (.lit _) rfl (zl_nil)))))
theorem zv60 : zer 60 = .agg [.lit (.pointer none), .lit (.pointer none), .lit (.pointer none), .lit (.string ByteArray.empty)] := rfl
theorem zr65 : ZerOk Try.prog (65, .lit (.int .u32 0)) := fun v h => by
  rw [show zeroT Try.prog 65 = some (.int .u32 0) from by kernel_rfl] at h; cases h; exact .lit _
theorem zv65 : zer 65 = .lit (.int .u32 0) := rfl
theorem zr66 : ZerOk Try.prog (66, .lit (.int .u8 0)) := fun v h => by
  rw [show zeroT Try.prog 66 = some (.int .u8 0) from by kernel_rfl] at h; cases h; exact .lit _
theorem zv66 : zer 66 = .lit (.int .u8 0) := rfl
theorem zr67 : ZerOk Try.prog (67, .lit (.int .u8 0)) := fun v h => by
  rw [show zeroT Try.prog 67 = some (.int .u8 0) from by kernel_rfl] at h; cases h; exact .lit _
theorem zv67 : zer 67 = .lit (.int .u8 0) := rfl
theorem zr69 : ZerOk Try.prog (69, .lit (.pointer none)) := fun v h => by
  rw [show zeroT Try.prog 69 = some (.pointer none) from by kernel_rfl] at h; cases h; exact .lit _
theorem zv69 : zer 69 = .lit (.pointer none) := rfl
theorem zr70 : ZerOk Try.prog (70, .lit (.int .i32 0)) := fun v h => by
  rw [show zeroT Try.prog 70 = some (.int .i32 0) from by kernel_rfl] at h; cases h; exact .lit _
theorem zv70 : zer 70 = .lit (.int .i32 0) := rfl
theorem zr71 : ZerOk Try.prog (71, .lit (.int .i32 0)) := fun v h => by
  rw [show zeroT Try.prog 71 = some (.int .i32 0) from by kernel_rfl] at h; cases h; exact .lit _
theorem zv71 : zer 71 = .lit (.int .i32 0) := rfl
theorem zr72 : ZerOk Try.prog (72, .agg [.lit (.int .u64 0), .lit (.int .u64 0), .lit (.int .u32 0), .lit (.int .u8 0), .lit (.int .u8 0), .lit (.int .u8 0), .lit (.int .u8 0), .lit .nilFunc, .lit (.pointer none), .lit (.int .i32 0), .lit (.int .i32 0)]) := fun v h => by
  rw [show zeroT Try.prog 72 = some (.agg #[(.int .u64 0), (.int .u64 0), (.int .u32 0), (.int .u8 0), (.int .u8 0), (.int .u8 0), (.int .u8 0), .nilFunc, (.pointer none), (.int .i32 0), (.int .i32 0)]) from by kernel_rfl] at h; cases h
  exact zr_agg _ _ (zl_cons (.lit _) rfl (zl_cons (.lit _) rfl (zl_cons (.lit _) rfl (zl_cons (.lit _) rfl (zl_cons (.lit _) rfl (zl_cons (.lit _) rfl (zl_cons (.lit _) rfl (zl_cons (.lit _) rfl (zl_cons (.lit _) rfl (zl_cons (.lit _) rfl (zl_cons (.lit _) rfl (zl_nil))))))))))))
theorem zv72 : zer 72 = .agg [.lit (.int .u64 0), .lit (.int .u64 0), .lit (.int .u32 0), .lit (.int .u8 0), .lit (.int .u8 0), .lit (.int .u8 0), .lit (.int .u8 0), .lit .nilFunc, .lit (.pointer none), .lit (.int .i32 0), .lit (.int .i32 0)] := rfl
theorem zr73 : ZerOk Try.prog (73, .agg [.lit (.int .u64 0), .lit (.int .u64 0), .lit (.int .u32 0), .lit (.int .u8 0), .lit (.int .u8 0), .lit (.int .u8 0), .lit (.int .u8 0), .lit .nilFunc, .lit (.pointer none), .lit (.int .i32 0), .lit (.int .i32 0)]) := fun v h => by
  rw [show zeroT Try.prog 73 = some (.agg #[(.int .u64 0), (.int .u64 0), (.int .u32 0), (.int .u8 0), (.int .u8 0), (.int .u8 0), (.int .u8 0), .nilFunc, (.pointer none), (.int .i32 0), (.int .i32 0)]) from by kernel_rfl] at h; cases h
  exact zr_agg _ _ (zl_cons (.lit _) rfl (zl_cons (.lit _) rfl (zl_cons (.lit _) rfl (zl_cons (.lit _) rfl (zl_cons (.lit _) rfl (zl_cons (.lit _) rfl (zl_cons (.lit _) rfl (zl_cons (.lit _) rfl (zl_cons (.lit _) rfl (zl_cons (.lit _) rfl (zl_cons (.lit _) rfl (zl_nil))))))))))))
theorem zv73 : zer 73 = .agg [.lit (.int .u64 0), .lit (.int .u64 0), .lit (.int .u32 0), .lit (.int .u8 0), .lit (.int .u8 0), .lit (.int .u8 0), .lit (.int .u8 0), .lit .nilFunc, .lit (.pointer none), .lit (.int .i32 0), .lit (.int .i32 0)] := rfl
theorem zer_ok : ∀ t v, zeroT Try.prog t = some v → RC (fun _ _ => none) (zer t) v := zer_sound zerL (zs_cons zr2 (zs_cons zr3 (zs_cons zr4 (zs_cons zr5 (zs_cons zr6 (zs_cons zr7 (zs_cons zr8 (zs_cons zr9 (zs_cons zr10 (zs_cons zr11 (zs_cons zr12 (zs_cons zr13 (zs_cons zr14 (zs_cons zr15 (zs_cons zr16 (zs_cons zr17 (zs_cons zr18 (zs_cons zr19 (zs_cons zr21 (zs_cons zr22 (zs_cons zr26 (zs_cons zr35 (zs_cons zr36 (zs_cons zr39 (zs_cons zr40 (zs_cons zr50 (zs_cons zr51 (zs_cons zr52 (zs_cons zr59 (zs_cons zr60 (zs_cons zr65 (zs_cons zr66 (zs_cons zr67 (zs_cons zr69 (zs_cons zr70 (zs_cons zr71 (zs_cons zr72 (zs_cons zr73 (zs_nil)))))))))))))))))))))))))))))))))))))))
theorem mixed : Try.prog.follows .mixedOrders = true := by kernel_rfl
theorem fk3 : fok Try.prog 3 = true := by kernel_rfl -- framewise/framewiselaw17.ElementApply
theorem fk4 : fok Try.prog 4 = true := by kernel_rfl -- framewise/framewiselaw17.ElementRing
theorem fk5 : fok Try.prog 5 = true := by kernel_rfl -- framewise/framewiselaw17.ElementDivision
theorem fk6 : fok Try.prog 6 = true := by kernel_rfl -- framewise/framewiselaw17.ElementOrder
theorem fk7 : fok Try.prog 7 = true := by kernel_rfl -- framewise/framewiselaw17.ElementBool
theorem fk8 : fok Try.prog 8 = true := by kernel_rfl -- framewise/framewiselaw17.ElementWrap
theorem fk9 : fok Try.prog 9 = true := by kernel_rfl -- framewise/framewiselaw17.ElementTypes
theorem fk10 : fok Try.prog 10 = true := by kernel_rfl -- framewise/framewiselaw17.awake
theorem fk11 : fok Try.prog 11 = true := by kernel_rfl -- framewise/element.Apply
theorem fk12 : fok Try.prog 12 = true := by kernel_rfl -- framewise/framewiseref17.Apply
theorem fk13 : fok Try.prog 13 = true := by kernel_rfl -- framewise/framewiseref17.Types
theorem fk14 : fok Try.prog 14 = true := by kernel_rfl -- framewise/element.Valid
theorem fk15 : fok Try.prog 15 = true := by kernel_rfl -- framewise/framewiselaw17.apply
theorem fk16 : fok Try.prog 16 = true := by kernel_rfl -- framewise/element.Wrap
theorem fk17 : fok Try.prog 17 = true := by kernel_rfl -- framewise/framewiselaw17.bit
theorem fk18 : fok Try.prog 18 = true := by kernel_rfl -- framewise/framewiseref17.Wrap
theorem fk19 : fok Try.prog 19 = true := by kernel_rfl -- framewise/framewiseref17.Valid
theorem fk20 : fok Try.prog 20 = true := by kernel_rfl -- framewise/element.Types
theorem fk21 : fok Try.prog 21 = true := by kernel_rfl -- framewise/element.Result
theorem fk22 : fok Try.prog 22 = true := by kernel_rfl -- framewise/framewiseref17.Result
theorem fk23 : fok Try.prog 23 = true := by kernel_rfl -- framewise/framewiseref17.SameTexts
theorem fk24 : fok Try.prog 24 = true := by kernel_rfl -- framewise/element.Ops
theorem fk25 : fok Try.prog 25 = true := by kernel_rfl -- framewise/framewiseref17.Ops
theorem fk26 : fok Try.prog 26 = true := by kernel_rfl -- framewise/element.value
theorem fk27 : fok Try.prog 27 = true := by kernel_rfl -- framewise/framewiseref17.one
theorem fk28 : fok Try.prog 28 = true := by kernel_rfl -- framewise/framewiseref17.two
theorem fk29 : fok Try.prog 29 = true := by kernel_rfl -- framewise/element.rows
theorem fk30 : fok Try.prog 30 = true := by kernel_rfl -- slices.Clone[[]string,string]
theorem fk31 : fok Try.prog 31 = true := by kernel_rfl -- cmp.Or[string]
theorem fk32 : fok Try.prog 32 = true := by kernel_rfl -- framewise/element.floor
theorem fk33 : fok Try.prog 33 = true := by kernel_rfl -- cmp.Compare[int]
theorem fk34 : fok Try.prog 34 = true := by kernel_rfl -- framewise/element.compare
theorem fk35 : fok Try.prog 35 = true := by kernel_rfl -- framewise/framewiseref17.truth
theorem fk36 : fok Try.prog 36 = true := by kernel_rfl -- framewise/framewiseref17.Floor
theorem fk37 : fok Try.prog 37 = true := by kernel_rfl -- cmp.isNaN[int]
theorem fk38 : fok Try.prog 38 = true := by kernel_rfl -- framewise/element.truth
attribute [go_sem] u2 sz2 by2 ag2 so2 iz2 zk2 iu2 u3 sz3 by3 ag3 so3 iz3 zk3 iu3 u4 sz4 by4 ag4 so4 iz4 zk4 iu4 u5 sz5 by5 ag5 so5 iz5 zk5 iu5 u6 sz6 by6 ag6 so6 iz6 zk6 iu6 sz7 by7 ag7 so7 fl7_0 fl7_1 fl7_2 fl7_3 iz7 zk7 iu7 sz8 by8 ag8 so8 fl8_0 fl8_1 fl8_2 fl8_3 iz8 zk8 iu8 u9 sz9 by9 ag9 so9 iz9 zk9 iu9 u10 sz10 by10 ag10 so10 iz10 zk10 iu10 u11 sz11 by11 ag11 so11 iz11 zk11 iu11 u12 sz12 by12 ag12 so12 iz12 zk12 iu12 sz13 by13 ag13 so13 fl13_0 fl13_1 iz13 zk13 iu13 sz14 by14 ag14 so14 fl14_0 fl14_1 iz14 zk14 iu14 u15 sz15 by15 ag15 so15 iz15 zk15 iu15 u16 sz16 by16 ag16 so16 iz16 zk16 iu16 u17 sz17 by17 ag17 so17 iz17 zk17 iu17 sz18 by18 ag18 so18 fl18_0 iz18 zk18 iu18 sz19 by19 ag19 so19 fl19_0 iz19 zk19 iu19 u21 sz21 by21 ag21 so21 iz21 zk21 iu21 u22 sz22 by22 ag22 so22 iz22 zk22 iu22 ap22 u26 sz26 by26 ag26 so26 iz26 zk26 iu26 ap26 u35 sz35 by35 ag35 so35 iz35 zk35 iu35 u36 sz36 by36 ag36 so36 iz36 zk36 iu36 u39 sz39 by39 ag39 so39 iz39 zk39 iu39 u40 sz40 by40 ag40 so40 iz40 zk40 iu40 sz50 by50 ag50 so50 fl50_0 fl50_1 fl50_2 iz50 zk50 iu50 sz51 by51 ag51 so51 fl51_0 fl51_1 fl51_2 iz51 zk51 iu51 u52 sz52 by52 ag52 so52 iz52 zk52 iu52 sz59 by59 ag59 so59 fl59_0 fl59_1 fl59_2 fl59_3 iz59 zk59 iu59 sz60 by60 ag60 so60 fl60_0 fl60_1 fl60_2 fl60_3 iz60 zk60 iu60 u61 sz61 by61 ag61 so61 iz61 zk61 iu61 sz62 by62 ag62 so62 fl62_0 iz62 zk62 iu62 sz63 by63 ag63 so63 fl63_0 iz63 zk63 iu63 u65 sz65 by65 ag65 so65 iz65 zk65 iu65 u66 sz66 by66 ag66 so66 iz66 zk66 iu66 u67 sz67 by67 ag67 so67 iz67 zk67 iu67 u69 sz69 by69 ag69 so69 iz69 zk69 iu69 u70 sz70 by70 ag70 so70 iz70 zk70 iu70 u71 sz71 by71 ag71 so71 iz71 zk71 iu71 sz72 by72 ag72 so72 fl72_0 fl72_1 fl72_2 fl72_3 fl72_4 fl72_5 fl72_6 fl72_7 fl72_8 fl72_9 fl72_10 iz72 zk72 iu72 sz73 by73 ag73 so73 fl73_0 fl73_1 fl73_2 fl73_3 fl73_4 fl73_5 fl73_6 fl73_7 fl73_8 fl73_9 fl73_10 iz73 zk73 iu73 zv2 zv3 zv4 zv5 zv6 zv7 zv8 zv9 zv10 zv11 zv12 zv13 zv14 zv15 zv16 zv17 zv18 zv19 zv21 zv22 zv26 zv35 zv36 zv39 zv40 zv50 zv51 zv52 zv59 zv60 zv65 zv66 zv67 zv69 zv70 zv71 zv72 zv73
end Go.Proofs.Ytbmogpafhdbfdaa
