/- Closed facts on the types of this seat's program, made by program (facts.py). -/
import Derived.Test.YtgkjocnfdllieaaRows
import Derived.Test.YtgkjocnfdllieaaFwB

set_option linter.all false

namespace Go.Proofs.Ytgkjocnfdllieaa
open Go Go.Fw

theorem u2 : Try.prog.underlying 2 = some (.int .i64) := by kernel_rfl
theorem sz2 : szT Try.prog 2 = 1 := by kernel_rfl
theorem by2 : byT Try.prog 2 = 8 := by kernel_rfl
theorem ag2 : aggT Try.prog 2 = some false := by kernel_rfl
theorem so2 : structOk Try.prog 2 = false := by kernel_rfl
theorem iz2 : (zeroT Try.prog 2).isSome = true := by kernel_rfl
theorem zk2 : zOk Try.prog 2 = true := by kernel_rfl
theorem iu2 : (Try.prog.underlying 2).isSome = true := by kernel_rfl
theorem u3 : Try.prog.underlying 3 = some (.int .i64) := by kernel_rfl
theorem sz3 : szT Try.prog 3 = 1 := by kernel_rfl
theorem by3 : byT Try.prog 3 = 8 := by kernel_rfl
theorem ag3 : aggT Try.prog 3 = some false := by kernel_rfl
theorem so3 : structOk Try.prog 3 = false := by kernel_rfl
theorem iz3 : (zeroT Try.prog 3).isSome = true := by kernel_rfl
theorem zk3 : zOk Try.prog 3 = true := by kernel_rfl
theorem iu3 : (Try.prog.underlying 3).isSome = true := by kernel_rfl
theorem u4 : Try.prog.underlying 4 = some .bool := by kernel_rfl
theorem sz4 : szT Try.prog 4 = 1 := by kernel_rfl
theorem by4 : byT Try.prog 4 = 1 := by kernel_rfl
theorem ag4 : aggT Try.prog 4 = some false := by kernel_rfl
theorem so4 : structOk Try.prog 4 = false := by kernel_rfl
theorem iz4 : (zeroT Try.prog 4).isSome = true := by kernel_rfl
theorem zk4 : zOk Try.prog 4 = true := by kernel_rfl
theorem iu4 : (Try.prog.underlying 4).isSome = true := by kernel_rfl
theorem u5 : Try.prog.underlying 5 = some (.int .u8) := by kernel_rfl
theorem sz5 : szT Try.prog 5 = 1 := by kernel_rfl
theorem by5 : byT Try.prog 5 = 1 := by kernel_rfl
theorem ag5 : aggT Try.prog 5 = some false := by kernel_rfl
theorem so5 : structOk Try.prog 5 = false := by kernel_rfl
theorem iz5 : (zeroT Try.prog 5).isSome = true := by kernel_rfl
theorem zk5 : zOk Try.prog 5 = true := by kernel_rfl
theorem iu5 : (Try.prog.underlying 5).isSome = true := by kernel_rfl
theorem u6 : Try.prog.underlying 6 = some (.int .u8) := by kernel_rfl
theorem sz6 : szT Try.prog 6 = 1 := by kernel_rfl
theorem by6 : byT Try.prog 6 = 1 := by kernel_rfl
theorem ag6 : aggT Try.prog 6 = some false := by kernel_rfl
theorem so6 : structOk Try.prog 6 = false := by kernel_rfl
theorem iz6 : (zeroT Try.prog 6).isSome = true := by kernel_rfl
theorem zk6 : zOk Try.prog 6 = true := by kernel_rfl
theorem iu6 : (Try.prog.underlying 6).isSome = true := by kernel_rfl
theorem sz7 : szT Try.prog 7 = 4 := by kernel_rfl
theorem by7 : byT Try.prog 7 = 24 := by kernel_rfl
theorem ag7 : aggT Try.prog 7 = some true := by kernel_rfl
theorem so7 : structOk Try.prog 7 = true := by kernel_rfl
theorem fl7_0 : fieldT Try.prog 7 0 = some (2, 0) := by kernel_rfl
theorem fl7_1 : fieldT Try.prog 7 1 = some (3, 1) := by kernel_rfl
theorem fl7_2 : fieldT Try.prog 7 2 = some (4, 2) := by kernel_rfl
theorem fl7_3 : fieldT Try.prog 7 3 = some (6, 3) := by kernel_rfl
theorem iz7 : (zeroT Try.prog 7).isSome = true := by kernel_rfl
theorem zk7 : zOk Try.prog 7 = true := by kernel_rfl
theorem iu7 : (Try.prog.underlying 7).isSome = true := by kernel_rfl
theorem sz8 : szT Try.prog 8 = 4 := by kernel_rfl
theorem by8 : byT Try.prog 8 = 24 := by kernel_rfl
theorem ag8 : aggT Try.prog 8 = some true := by kernel_rfl
theorem so8 : structOk Try.prog 8 = true := by kernel_rfl
theorem fl8_0 : fieldT Try.prog 8 0 = some (2, 0) := by kernel_rfl
theorem fl8_1 : fieldT Try.prog 8 1 = some (3, 1) := by kernel_rfl
theorem fl8_2 : fieldT Try.prog 8 2 = some (4, 2) := by kernel_rfl
theorem fl8_3 : fieldT Try.prog 8 3 = some (6, 3) := by kernel_rfl
theorem iz8 : (zeroT Try.prog 8).isSome = true := by kernel_rfl
theorem zk8 : zOk Try.prog 8 = true := by kernel_rfl
theorem iu8 : (Try.prog.underlying 8).isSome = true := by kernel_rfl
theorem u9 : Try.prog.underlying 9 = some .string := by kernel_rfl
theorem sz9 : szT Try.prog 9 = 1 := by kernel_rfl
theorem by9 : byT Try.prog 9 = 16 := by kernel_rfl
theorem ag9 : aggT Try.prog 9 = some false := by kernel_rfl
theorem so9 : structOk Try.prog 9 = false := by kernel_rfl
theorem iz9 : (zeroT Try.prog 9).isSome = true := by kernel_rfl
theorem zk9 : zOk Try.prog 9 = true := by kernel_rfl
theorem iu9 : (Try.prog.underlying 9).isSome = true := by kernel_rfl
theorem u10 : Try.prog.underlying 10 = some .string := by kernel_rfl
theorem sz10 : szT Try.prog 10 = 1 := by kernel_rfl
theorem by10 : byT Try.prog 10 = 16 := by kernel_rfl
theorem ag10 : aggT Try.prog 10 = some false := by kernel_rfl
theorem so10 : structOk Try.prog 10 = false := by kernel_rfl
theorem iz10 : (zeroT Try.prog 10).isSome = true := by kernel_rfl
theorem zk10 : zOk Try.prog 10 = true := by kernel_rfl
theorem iu10 : (Try.prog.underlying 10).isSome = true := by kernel_rfl
theorem u11 : Try.prog.underlying 11 = some .string := by kernel_rfl
theorem sz11 : szT Try.prog 11 = 1 := by kernel_rfl
theorem by11 : byT Try.prog 11 = 16 := by kernel_rfl
theorem ag11 : aggT Try.prog 11 = some false := by kernel_rfl
theorem so11 : structOk Try.prog 11 = false := by kernel_rfl
theorem iz11 : (zeroT Try.prog 11).isSome = true := by kernel_rfl
theorem zk11 : zOk Try.prog 11 = true := by kernel_rfl
theorem iu11 : (Try.prog.underlying 11).isSome = true := by kernel_rfl
theorem u12 : Try.prog.underlying 12 = some (.int .u64) := by kernel_rfl
theorem sz12 : szT Try.prog 12 = 1 := by kernel_rfl
theorem by12 : byT Try.prog 12 = 8 := by kernel_rfl
theorem ag12 : aggT Try.prog 12 = some false := by kernel_rfl
theorem so12 : structOk Try.prog 12 = false := by kernel_rfl
theorem iz12 : (zeroT Try.prog 12).isSome = true := by kernel_rfl
theorem zk12 : zOk Try.prog 12 = true := by kernel_rfl
theorem iu12 : (Try.prog.underlying 12).isSome = true := by kernel_rfl
theorem sz13 : szT Try.prog 13 = 2 := by kernel_rfl
theorem by13 : byT Try.prog 13 = 24 := by kernel_rfl
theorem ag13 : aggT Try.prog 13 = some true := by kernel_rfl
theorem so13 : structOk Try.prog 13 = true := by kernel_rfl
theorem fl13_0 : fieldT Try.prog 13 0 = some (9, 0) := by kernel_rfl
theorem fl13_1 : fieldT Try.prog 13 1 = some (12, 1) := by kernel_rfl
theorem iz13 : (zeroT Try.prog 13).isSome = true := by kernel_rfl
theorem zk13 : zOk Try.prog 13 = true := by kernel_rfl
theorem iu13 : (Try.prog.underlying 13).isSome = true := by kernel_rfl
theorem sz14 : szT Try.prog 14 = 2 := by kernel_rfl
theorem by14 : byT Try.prog 14 = 24 := by kernel_rfl
theorem ag14 : aggT Try.prog 14 = some true := by kernel_rfl
theorem so14 : structOk Try.prog 14 = true := by kernel_rfl
theorem fl14_0 : fieldT Try.prog 14 0 = some (9, 0) := by kernel_rfl
theorem fl14_1 : fieldT Try.prog 14 1 = some (12, 1) := by kernel_rfl
theorem iz14 : (zeroT Try.prog 14).isSome = true := by kernel_rfl
theorem zk14 : zOk Try.prog 14 = true := by kernel_rfl
theorem iu14 : (Try.prog.underlying 14).isSome = true := by kernel_rfl
theorem u15 : Try.prog.underlying 15 = some (.pointer 88) := by kernel_rfl
theorem sz15 : szT Try.prog 15 = 1 := by kernel_rfl
theorem by15 : byT Try.prog 15 = 8 := by kernel_rfl
theorem ag15 : aggT Try.prog 15 = some false := by kernel_rfl
theorem so15 : structOk Try.prog 15 = false := by kernel_rfl
theorem iz15 : (zeroT Try.prog 15).isSome = true := by kernel_rfl
theorem zk15 : zOk Try.prog 15 = true := by kernel_rfl
theorem iu15 : (Try.prog.underlying 15).isSome = true := by kernel_rfl
theorem u16 : Try.prog.underlying 16 = some (.pointer 91) := by kernel_rfl
theorem sz16 : szT Try.prog 16 = 1 := by kernel_rfl
theorem by16 : byT Try.prog 16 = 8 := by kernel_rfl
theorem ag16 : aggT Try.prog 16 = some false := by kernel_rfl
theorem so16 : structOk Try.prog 16 = false := by kernel_rfl
theorem iz16 : (zeroT Try.prog 16).isSome = true := by kernel_rfl
theorem zk16 : zOk Try.prog 16 = true := by kernel_rfl
theorem iu16 : (Try.prog.underlying 16).isSome = true := by kernel_rfl
theorem u17 : Try.prog.underlying 17 = some (.pointer 100) := by kernel_rfl
theorem sz17 : szT Try.prog 17 = 1 := by kernel_rfl
theorem by17 : byT Try.prog 17 = 8 := by kernel_rfl
theorem ag17 : aggT Try.prog 17 = some false := by kernel_rfl
theorem so17 : structOk Try.prog 17 = false := by kernel_rfl
theorem iz17 : (zeroT Try.prog 17).isSome = true := by kernel_rfl
theorem zk17 : zOk Try.prog 17 = true := by kernel_rfl
theorem iu17 : (Try.prog.underlying 17).isSome = true := by kernel_rfl
theorem sz18 : szT Try.prog 18 = 1 := by kernel_rfl
theorem by18 : byT Try.prog 18 = 8 := by kernel_rfl
theorem ag18 : aggT Try.prog 18 = some true := by kernel_rfl
theorem so18 : structOk Try.prog 18 = true := by kernel_rfl
theorem fl18_0 : fieldT Try.prog 18 0 = some (17, 0) := by kernel_rfl
theorem iz18 : (zeroT Try.prog 18).isSome = true := by kernel_rfl
theorem zk18 : zOk Try.prog 18 = true := by kernel_rfl
theorem iu18 : (Try.prog.underlying 18).isSome = true := by kernel_rfl
theorem sz19 : szT Try.prog 19 = 1 := by kernel_rfl
theorem by19 : byT Try.prog 19 = 8 := by kernel_rfl
theorem ag19 : aggT Try.prog 19 = some true := by kernel_rfl
theorem so19 : structOk Try.prog 19 = true := by kernel_rfl
theorem fl19_0 : fieldT Try.prog 19 0 = some (17, 0) := by kernel_rfl
theorem iz19 : (zeroT Try.prog 19).isSome = true := by kernel_rfl
theorem zk19 : zOk Try.prog 19 = true := by kernel_rfl
theorem iu19 : (Try.prog.underlying 19).isSome = true := by kernel_rfl
theorem u21 : Try.prog.underlying 21 = some (.int .i32) := by kernel_rfl
theorem sz21 : szT Try.prog 21 = 1 := by kernel_rfl
theorem by21 : byT Try.prog 21 = 4 := by kernel_rfl
theorem ag21 : aggT Try.prog 21 = some false := by kernel_rfl
theorem so21 : structOk Try.prog 21 = false := by kernel_rfl
theorem iz21 : (zeroT Try.prog 21).isSome = true := by kernel_rfl
theorem zk21 : zOk Try.prog 21 = true := by kernel_rfl
theorem iu21 : (Try.prog.underlying 21).isSome = true := by kernel_rfl
theorem u22 : Try.prog.underlying 22 = some (.slice 5) := by kernel_rfl
theorem sz22 : szT Try.prog 22 = 1 := by kernel_rfl
theorem by22 : byT Try.prog 22 = 24 := by kernel_rfl
theorem ag22 : aggT Try.prog 22 = some false := by kernel_rfl
theorem so22 : structOk Try.prog 22 = false := by kernel_rfl
theorem iz22 : (zeroT Try.prog 22).isSome = true := by kernel_rfl
theorem zk22 : zOk Try.prog 22 = true := by kernel_rfl
theorem iu22 : (Try.prog.underlying 22).isSome = true := by kernel_rfl
theorem ap22 : appT Try.prog #[22, 22] = some 5 := by kernel_rfl
theorem aps22 : appT Try.prog #[22, 9] = some 5 := by kernel_rfl
theorem u24 : Try.prog.underlying 24 = some (.int .i64) := by kernel_rfl
theorem sz24 : szT Try.prog 24 = 1 := by kernel_rfl
theorem by24 : byT Try.prog 24 = 8 := by kernel_rfl
theorem ag24 : aggT Try.prog 24 = some false := by kernel_rfl
theorem so24 : structOk Try.prog 24 = false := by kernel_rfl
theorem iz24 : (zeroT Try.prog 24).isSome = true := by kernel_rfl
theorem zk24 : zOk Try.prog 24 = true := by kernel_rfl
theorem iu24 : (Try.prog.underlying 24).isSome = true := by kernel_rfl
theorem sz25 : szT Try.prog 25 = 2 := by kernel_rfl
theorem by25 : byT Try.prog 25 = 32 := by kernel_rfl
theorem ag25 : aggT Try.prog 25 = some true := by kernel_rfl
theorem so25 : structOk Try.prog 25 = true := by kernel_rfl
theorem fl25_0 : fieldT Try.prog 25 0 = some (22, 0) := by kernel_rfl
theorem fl25_1 : fieldT Try.prog 25 1 = some (24, 1) := by kernel_rfl
theorem iz25 : (zeroT Try.prog 25).isSome = true := by kernel_rfl
theorem zk25 : zOk Try.prog 25 = true := by kernel_rfl
theorem iu25 : (Try.prog.underlying 25).isSome = true := by kernel_rfl
theorem sz26 : szT Try.prog 26 = 2 := by kernel_rfl
theorem by26 : byT Try.prog 26 = 32 := by kernel_rfl
theorem ag26 : aggT Try.prog 26 = some true := by kernel_rfl
theorem so26 : structOk Try.prog 26 = true := by kernel_rfl
theorem fl26_0 : fieldT Try.prog 26 0 = some (22, 0) := by kernel_rfl
theorem fl26_1 : fieldT Try.prog 26 1 = some (24, 1) := by kernel_rfl
theorem iz26 : (zeroT Try.prog 26).isSome = true := by kernel_rfl
theorem zk26 : zOk Try.prog 26 = true := by kernel_rfl
theorem iu26 : (Try.prog.underlying 26).isSome = true := by kernel_rfl
theorem u32 : Try.prog.underlying 32 = some (.slice 3) := by kernel_rfl
theorem sz32 : szT Try.prog 32 = 1 := by kernel_rfl
theorem by32 : byT Try.prog 32 = 24 := by kernel_rfl
theorem ag32 : aggT Try.prog 32 = some false := by kernel_rfl
theorem so32 : structOk Try.prog 32 = false := by kernel_rfl
theorem iz32 : (zeroT Try.prog 32).isSome = true := by kernel_rfl
theorem zk32 : zOk Try.prog 32 = true := by kernel_rfl
theorem iu32 : (Try.prog.underlying 32).isSome = true := by kernel_rfl
theorem ap32 : appT Try.prog #[32, 32] = some 3 := by kernel_rfl
theorem u33 : Try.prog.underlying 33 = some (.slice 9) := by kernel_rfl
theorem sz33 : szT Try.prog 33 = 1 := by kernel_rfl
theorem by33 : byT Try.prog 33 = 24 := by kernel_rfl
theorem ag33 : aggT Try.prog 33 = some false := by kernel_rfl
theorem so33 : structOk Try.prog 33 = false := by kernel_rfl
theorem iz33 : (zeroT Try.prog 33).isSome = true := by kernel_rfl
theorem zk33 : zOk Try.prog 33 = true := by kernel_rfl
theorem iu33 : (Try.prog.underlying 33).isSome = true := by kernel_rfl
theorem ap33 : appT Try.prog #[33, 33] = some 9 := by kernel_rfl
theorem u42 : Try.prog.underlying 42 = some (.slice 48) := by kernel_rfl
theorem sz42 : szT Try.prog 42 = 1 := by kernel_rfl
theorem by42 : byT Try.prog 42 = 24 := by kernel_rfl
theorem ag42 : aggT Try.prog 42 = some false := by kernel_rfl
theorem so42 : structOk Try.prog 42 = false := by kernel_rfl
theorem iz42 : (zeroT Try.prog 42).isSome = true := by kernel_rfl
theorem zk42 : zOk Try.prog 42 = true := by kernel_rfl
theorem iu42 : (Try.prog.underlying 42).isSome = true := by kernel_rfl
theorem ap42 : appT Try.prog #[42, 42] = some 48 := by kernel_rfl
theorem sz43 : szT Try.prog 43 = 2 := by kernel_rfl
theorem by43 : byT Try.prog 43 = 32 := by kernel_rfl
theorem ag43 : aggT Try.prog 43 = some true := by kernel_rfl
theorem so43 : structOk Try.prog 43 = true := by kernel_rfl
theorem fl43_0 : fieldT Try.prog 43 0 = some (22, 0) := by kernel_rfl
theorem fl43_1 : fieldT Try.prog 43 1 = some (24, 1) := by kernel_rfl
theorem iz43 : (zeroT Try.prog 43).isSome = true := by kernel_rfl
theorem zk43 : zOk Try.prog 43 = true := by kernel_rfl
theorem iu43 : (Try.prog.underlying 43).isSome = true := by kernel_rfl
theorem u45 : Try.prog.underlying 45 = some (.pointer 26) := by kernel_rfl
theorem sz45 : szT Try.prog 45 = 1 := by kernel_rfl
theorem by45 : byT Try.prog 45 = 8 := by kernel_rfl
theorem ag45 : aggT Try.prog 45 = some false := by kernel_rfl
theorem so45 : structOk Try.prog 45 = false := by kernel_rfl
theorem iz45 : (zeroT Try.prog 45).isSome = true := by kernel_rfl
theorem zk45 : zOk Try.prog 45 = true := by kernel_rfl
theorem iu45 : (Try.prog.underlying 45).isSome = true := by kernel_rfl
theorem u46 : Try.prog.underlying 46 = some (.pointer 43) := by kernel_rfl
theorem sz46 : szT Try.prog 46 = 1 := by kernel_rfl
theorem by46 : byT Try.prog 46 = 8 := by kernel_rfl
theorem ag46 : aggT Try.prog 46 = some false := by kernel_rfl
theorem so46 : structOk Try.prog 46 = false := by kernel_rfl
theorem iz46 : (zeroT Try.prog 46).isSome = true := by kernel_rfl
theorem zk46 : zOk Try.prog 46 = true := by kernel_rfl
theorem iu46 : (Try.prog.underlying 46).isSome = true := by kernel_rfl
theorem sz47 : szT Try.prog 47 = 4 := by kernel_rfl
theorem by47 : byT Try.prog 47 = 32 := by kernel_rfl
theorem ag47 : aggT Try.prog 47 = some true := by kernel_rfl
theorem so47 : structOk Try.prog 47 = true := by kernel_rfl
theorem fl47_0 : fieldT Try.prog 47 0 = some (3, 0) := by kernel_rfl
theorem fl47_1 : fieldT Try.prog 47 1 = some (3, 1) := by kernel_rfl
theorem fl47_2 : fieldT Try.prog 47 2 = some (3, 2) := by kernel_rfl
theorem fl47_3 : fieldT Try.prog 47 3 = some (3, 3) := by kernel_rfl
theorem iz47 : (zeroT Try.prog 47).isSome = true := by kernel_rfl
theorem zk47 : zOk Try.prog 47 = true := by kernel_rfl
theorem iu47 : (Try.prog.underlying 47).isSome = true := by kernel_rfl
theorem sz48 : szT Try.prog 48 = 4 := by kernel_rfl
theorem by48 : byT Try.prog 48 = 32 := by kernel_rfl
theorem ag48 : aggT Try.prog 48 = some true := by kernel_rfl
theorem so48 : structOk Try.prog 48 = true := by kernel_rfl
theorem fl48_0 : fieldT Try.prog 48 0 = some (3, 0) := by kernel_rfl
theorem fl48_1 : fieldT Try.prog 48 1 = some (3, 1) := by kernel_rfl
theorem fl48_2 : fieldT Try.prog 48 2 = some (3, 2) := by kernel_rfl
theorem fl48_3 : fieldT Try.prog 48 3 = some (3, 3) := by kernel_rfl
theorem iz48 : (zeroT Try.prog 48).isSome = true := by kernel_rfl
theorem zk48 : zOk Try.prog 48 = true := by kernel_rfl
theorem iu48 : (Try.prog.underlying 48).isSome = true := by kernel_rfl
theorem u62 : Try.prog.underlying 62 = some (.int .u64) := by kernel_rfl
theorem sz62 : szT Try.prog 62 = 1 := by kernel_rfl
theorem by62 : byT Try.prog 62 = 8 := by kernel_rfl
theorem ag62 : aggT Try.prog 62 = some false := by kernel_rfl
theorem so62 : structOk Try.prog 62 = false := by kernel_rfl
theorem iz62 : (zeroT Try.prog 62).isSome = true := by kernel_rfl
theorem zk62 : zOk Try.prog 62 = true := by kernel_rfl
theorem iu62 : (Try.prog.underlying 62).isSome = true := by kernel_rfl
theorem u85 : Try.prog.underlying 85 = some (.int .u64) := by kernel_rfl
theorem sz85 : szT Try.prog 85 = 1 := by kernel_rfl
theorem by85 : byT Try.prog 85 = 8 := by kernel_rfl
theorem ag85 : aggT Try.prog 85 = some false := by kernel_rfl
theorem so85 : structOk Try.prog 85 = false := by kernel_rfl
theorem iz85 : (zeroT Try.prog 85).isSome = true := by kernel_rfl
theorem zk85 : zOk Try.prog 85 = true := by kernel_rfl
theorem iu85 : (Try.prog.underlying 85).isSome = true := by kernel_rfl
theorem sz87 : szT Try.prog 87 = 4 := by kernel_rfl
theorem by87 : byT Try.prog 87 = 40 := by kernel_rfl
theorem ag87 : aggT Try.prog 87 = some true := by kernel_rfl
theorem so87 : structOk Try.prog 87 = true := by kernel_rfl
theorem fl87_0 : fieldT Try.prog 87 0 = some (17, 0) := by kernel_rfl
theorem fl87_1 : fieldT Try.prog 87 1 = some (17, 1) := by kernel_rfl
theorem fl87_2 : fieldT Try.prog 87 2 = some (17, 2) := by kernel_rfl
theorem fl87_3 : fieldT Try.prog 87 3 = some (9, 3) := by kernel_rfl
theorem iz87 : (zeroT Try.prog 87).isSome = true := by kernel_rfl
theorem zk87 : zOk Try.prog 87 = true := by kernel_rfl
theorem iu87 : (Try.prog.underlying 87).isSome = true := by kernel_rfl
theorem sz88 : szT Try.prog 88 = 4 := by kernel_rfl
theorem by88 : byT Try.prog 88 = 40 := by kernel_rfl
theorem ag88 : aggT Try.prog 88 = some true := by kernel_rfl
theorem so88 : structOk Try.prog 88 = true := by kernel_rfl
theorem fl88_0 : fieldT Try.prog 88 0 = some (17, 0) := by kernel_rfl
theorem fl88_1 : fieldT Try.prog 88 1 = some (17, 1) := by kernel_rfl
theorem fl88_2 : fieldT Try.prog 88 2 = some (17, 2) := by kernel_rfl
theorem fl88_3 : fieldT Try.prog 88 3 = some (9, 3) := by kernel_rfl
theorem iz88 : (zeroT Try.prog 88).isSome = true := by kernel_rfl
theorem zk88 : zOk Try.prog 88 = true := by kernel_rfl
theorem iu88 : (Try.prog.underlying 88).isSome = true := by kernel_rfl
theorem u89 : Try.prog.underlying 89 = some (.array 0 16) := by kernel_rfl
theorem sz89 : szT Try.prog 89 = 0 := by kernel_rfl
theorem by89 : byT Try.prog 89 = 0 := by kernel_rfl
theorem ag89 : aggT Try.prog 89 = some true := by kernel_rfl
theorem so89 : structOk Try.prog 89 = false := by kernel_rfl
theorem iz89 : (zeroT Try.prog 89).isSome = true := by kernel_rfl
theorem zk89 : zOk Try.prog 89 = true := by kernel_rfl
theorem iu89 : (Try.prog.underlying 89).isSome = true := by kernel_rfl
theorem sz90 : szT Try.prog 90 = 0 := by kernel_rfl
theorem by90 : byT Try.prog 90 = 0 := by kernel_rfl
theorem ag90 : aggT Try.prog 90 = some true := by kernel_rfl
theorem so90 : structOk Try.prog 90 = true := by kernel_rfl
theorem fl90_0 : fieldT Try.prog 90 0 = some (89, 0) := by kernel_rfl
theorem iz90 : (zeroT Try.prog 90).isSome = true := by kernel_rfl
theorem zk90 : zOk Try.prog 90 = true := by kernel_rfl
theorem iu90 : (Try.prog.underlying 90).isSome = true := by kernel_rfl
theorem sz91 : szT Try.prog 91 = 0 := by kernel_rfl
theorem by91 : byT Try.prog 91 = 0 := by kernel_rfl
theorem ag91 : aggT Try.prog 91 = some true := by kernel_rfl
theorem so91 : structOk Try.prog 91 = true := by kernel_rfl
theorem fl91_0 : fieldT Try.prog 91 0 = some (89, 0) := by kernel_rfl
theorem iz91 : (zeroT Try.prog 91).isSome = true := by kernel_rfl
theorem zk91 : zOk Try.prog 91 = true := by kernel_rfl
theorem iu91 : (Try.prog.underlying 91).isSome = true := by kernel_rfl
theorem u92 : Try.prog.underlying 92 = some (.int .u32) := by kernel_rfl
theorem sz92 : szT Try.prog 92 = 1 := by kernel_rfl
theorem by92 : byT Try.prog 92 = 4 := by kernel_rfl
theorem ag92 : aggT Try.prog 92 = some false := by kernel_rfl
theorem so92 : structOk Try.prog 92 = false := by kernel_rfl
theorem iz92 : (zeroT Try.prog 92).isSome = true := by kernel_rfl
theorem zk92 : zOk Try.prog 92 = true := by kernel_rfl
theorem iu92 : (Try.prog.underlying 92).isSome = true := by kernel_rfl
theorem u93 : Try.prog.underlying 93 = some (.int .u8) := by kernel_rfl
theorem sz93 : szT Try.prog 93 = 1 := by kernel_rfl
theorem by93 : byT Try.prog 93 = 1 := by kernel_rfl
theorem ag93 : aggT Try.prog 93 = some false := by kernel_rfl
theorem so93 : structOk Try.prog 93 = false := by kernel_rfl
theorem iz93 : (zeroT Try.prog 93).isSome = true := by kernel_rfl
theorem zk93 : zOk Try.prog 93 = true := by kernel_rfl
theorem iu93 : (Try.prog.underlying 93).isSome = true := by kernel_rfl
theorem u94 : Try.prog.underlying 94 = some (.int .u8) := by kernel_rfl
theorem sz94 : szT Try.prog 94 = 1 := by kernel_rfl
theorem by94 : byT Try.prog 94 = 1 := by kernel_rfl
theorem ag94 : aggT Try.prog 94 = some false := by kernel_rfl
theorem so94 : structOk Try.prog 94 = false := by kernel_rfl
theorem iz94 : (zeroT Try.prog 94).isSome = true := by kernel_rfl
theorem zk94 : zOk Try.prog 94 = true := by kernel_rfl
theorem iu94 : (Try.prog.underlying 94).isSome = true := by kernel_rfl
theorem u96 : Try.prog.underlying 96 = some (.pointer 5) := by kernel_rfl
theorem sz96 : szT Try.prog 96 = 1 := by kernel_rfl
theorem by96 : byT Try.prog 96 = 8 := by kernel_rfl
theorem ag96 : aggT Try.prog 96 = some false := by kernel_rfl
theorem so96 : structOk Try.prog 96 = false := by kernel_rfl
theorem iz96 : (zeroT Try.prog 96).isSome = true := by kernel_rfl
theorem zk96 : zOk Try.prog 96 = true := by kernel_rfl
theorem iu96 : (Try.prog.underlying 96).isSome = true := by kernel_rfl
theorem u97 : Try.prog.underlying 97 = some (.int .i32) := by kernel_rfl
theorem sz97 : szT Try.prog 97 = 1 := by kernel_rfl
theorem by97 : byT Try.prog 97 = 4 := by kernel_rfl
theorem ag97 : aggT Try.prog 97 = some false := by kernel_rfl
theorem so97 : structOk Try.prog 97 = false := by kernel_rfl
theorem iz97 : (zeroT Try.prog 97).isSome = true := by kernel_rfl
theorem zk97 : zOk Try.prog 97 = true := by kernel_rfl
theorem iu97 : (Try.prog.underlying 97).isSome = true := by kernel_rfl
theorem u98 : Try.prog.underlying 98 = some (.int .i32) := by kernel_rfl
theorem sz98 : szT Try.prog 98 = 1 := by kernel_rfl
theorem by98 : byT Try.prog 98 = 4 := by kernel_rfl
theorem ag98 : aggT Try.prog 98 = some false := by kernel_rfl
theorem so98 : structOk Try.prog 98 = false := by kernel_rfl
theorem iz98 : (zeroT Try.prog 98).isSome = true := by kernel_rfl
theorem zk98 : zOk Try.prog 98 = true := by kernel_rfl
theorem iu98 : (Try.prog.underlying 98).isSome = true := by kernel_rfl
theorem sz99 : szT Try.prog 99 = 11 := by kernel_rfl
theorem by99 : byT Try.prog 99 = 48 := by kernel_rfl
theorem ag99 : aggT Try.prog 99 = some true := by kernel_rfl
theorem so99 : structOk Try.prog 99 = true := by kernel_rfl
theorem fl99_0 : fieldT Try.prog 99 0 = some (12, 0) := by kernel_rfl
theorem fl99_1 : fieldT Try.prog 99 1 = some (12, 1) := by kernel_rfl
theorem fl99_2 : fieldT Try.prog 99 2 = some (92, 2) := by kernel_rfl
theorem fl99_3 : fieldT Try.prog 99 3 = some (93, 3) := by kernel_rfl
theorem fl99_4 : fieldT Try.prog 99 4 = some (5, 4) := by kernel_rfl
theorem fl99_5 : fieldT Try.prog 99 5 = some (5, 5) := by kernel_rfl
theorem fl99_6 : fieldT Try.prog 99 6 = some (94, 6) := by kernel_rfl
theorem fl99_7 : fieldT Try.prog 99 7 = some (95, 7) := by kernel_rfl
theorem fl99_8 : fieldT Try.prog 99 8 = some (96, 8) := by kernel_rfl
theorem fl99_9 : fieldT Try.prog 99 9 = some (97, 9) := by kernel_rfl
theorem fl99_10 : fieldT Try.prog 99 10 = some (98, 10) := by kernel_rfl
theorem iz99 : (zeroT Try.prog 99).isSome = true := by kernel_rfl
theorem zk99 : zOk Try.prog 99 = true := by kernel_rfl
theorem iu99 : (Try.prog.underlying 99).isSome = true := by kernel_rfl
theorem sz100 : szT Try.prog 100 = 11 := by kernel_rfl
theorem by100 : byT Try.prog 100 = 48 := by kernel_rfl
theorem ag100 : aggT Try.prog 100 = some true := by kernel_rfl
theorem so100 : structOk Try.prog 100 = true := by kernel_rfl
theorem fl100_0 : fieldT Try.prog 100 0 = some (12, 0) := by kernel_rfl
theorem fl100_1 : fieldT Try.prog 100 1 = some (12, 1) := by kernel_rfl
theorem fl100_2 : fieldT Try.prog 100 2 = some (92, 2) := by kernel_rfl
theorem fl100_3 : fieldT Try.prog 100 3 = some (93, 3) := by kernel_rfl
theorem fl100_4 : fieldT Try.prog 100 4 = some (5, 4) := by kernel_rfl
theorem fl100_5 : fieldT Try.prog 100 5 = some (5, 5) := by kernel_rfl
theorem fl100_6 : fieldT Try.prog 100 6 = some (94, 6) := by kernel_rfl
theorem fl100_7 : fieldT Try.prog 100 7 = some (95, 7) := by kernel_rfl
theorem fl100_8 : fieldT Try.prog 100 8 = some (96, 8) := by kernel_rfl
theorem fl100_9 : fieldT Try.prog 100 9 = some (97, 9) := by kernel_rfl
theorem fl100_10 : fieldT Try.prog 100 10 = some (98, 10) := by kernel_rfl
theorem iz100 : (zeroT Try.prog 100).isSome = true := by kernel_rfl
theorem zk100 : zOk Try.prog 100 = true := by kernel_rfl
theorem iu100 : (Try.prog.underlying 100).isSome = true := by kernel_rfl
def zerL : List (Nat × AV) := [(2, .lit (.int .i64 0)),
  (3, .lit (.int .i64 0)),
  (4, .lit (.bool false)),
  (5, .lit (.int .u8 0)),
  (6, .lit (.int .u8 0)),
  (7, .agg [.lit (.int .i64 0), .lit (.int .i64 0), .lit (.bool false), .lit (.int .u8 0)]),
  (8, .agg [.lit (.int .i64 0), .lit (.int .i64 0), .lit (.bool false), .lit (.int .u8 0)]),
  (9, .lit (.string ByteArray.empty)),
  (10, .lit (.string ByteArray.empty)),
  (11, .lit (.string ByteArray.empty)),
  (12, .lit (.int .u64 0)),
  (13, .agg [.lit (.string ByteArray.empty), .lit (.int .u64 0)]),
  (14, .agg [.lit (.string ByteArray.empty), .lit (.int .u64 0)]),
  (15, .lit (.pointer none)),
  (16, .lit (.pointer none)),
  (17, .lit (.pointer none)),
  (18, .agg [.lit (.pointer none)]),
  (19, .agg [.lit (.pointer none)]),
  (21, .lit (.int .i32 0)),
  (22, .sl true 1 []),
  (24, .lit (.int .i64 0)),
  (25, .agg [.sl true 1 [], .lit (.int .i64 0)]),
  (26, .agg [.sl true 1 [], .lit (.int .i64 0)]),
  (32, .sl true 1 []),
  (33, .sl true 1 []),
  (42, .sl true 4 []),
  (43, .agg [.sl true 1 [], .lit (.int .i64 0)]),
  (45, .lit (.pointer none)),
  (46, .lit (.pointer none)),
  (47, .agg [.lit (.int .i64 0), .lit (.int .i64 0), .lit (.int .i64 0), .lit (.int .i64 0)]),
  (48, .agg [.lit (.int .i64 0), .lit (.int .i64 0), .lit (.int .i64 0), .lit (.int .i64 0)]),
  (62, .lit (.int .u64 0)),
  (85, .lit (.int .u64 0)),
  (87, .agg [.lit (.pointer none), .lit (.pointer none), .lit (.pointer none), .lit (.string ByteArray.empty)]),
  (88, .agg [.lit (.pointer none), .lit (.pointer none), .lit (.pointer none), .lit (.string ByteArray.empty)]),
  (92, .lit (.int .u32 0)),
  (93, .lit (.int .u8 0)),
  (94, .lit (.int .u8 0)),
  (96, .lit (.pointer none)),
  (97, .lit (.int .i32 0)),
  (98, .lit (.int .i32 0)),
  (99, .agg [.lit (.int .u64 0), .lit (.int .u64 0), .lit (.int .u32 0), .lit (.int .u8 0), .lit (.int .u8 0), .lit (.int .u8 0), .lit (.int .u8 0), .lit .nilFunc, .lit (.pointer none), .lit (.int .i32 0), .lit (.int .i32 0)]),
  (100, .agg [.lit (.int .u64 0), .lit (.int .u64 0), .lit (.int .u32 0), .lit (.int .u8 0), .lit (.int .u8 0), .lit (.int .u8 0), .lit (.int .u8 0), .lit .nilFunc, .lit (.pointer none), .lit (.int .i32 0), .lit (.int .i32 0)])]
def zer (t : TypeId) : AV := lookZ zerL t
theorem zr2 : ZerOk Try.prog (2, .lit (.int .i64 0)) := fun v h => by
  rw [show zeroT Try.prog 2 = some (.int .i64 0) from by kernel_rfl] at h; cases h; exact .lit _
theorem zv2 : zer 2 = .lit (.int .i64 0) := rfl
theorem zr3 : ZerOk Try.prog (3, .lit (.int .i64 0)) := fun v h => by
  rw [show zeroT Try.prog 3 = some (.int .i64 0) from by kernel_rfl] at h; cases h; exact .lit _
theorem zv3 : zer 3 = .lit (.int .i64 0) := rfl
theorem zr4 : ZerOk Try.prog (4, .lit (.bool false)) := fun v h => by
  rw [show zeroT Try.prog 4 = some (.bool false) from by kernel_rfl] at h; cases h; exact .lit _
theorem zv4 : zer 4 = .lit (.bool false) := rfl
theorem zr5 : ZerOk Try.prog (5, .lit (.int .u8 0)) := fun v h => by
  rw [show zeroT Try.prog 5 = some (.int .u8 0) from by kernel_rfl] at h; cases h; exact .lit _
theorem zv5 : zer 5 = .lit (.int .u8 0) := rfl
theorem zr6 : ZerOk Try.prog (6, .lit (.int .u8 0)) := fun v h => by
  rw [show zeroT Try.prog 6 = some (.int .u8 0) from by kernel_rfl] at h; cases h; exact .lit _
theorem zv6 : zer 6 = .lit (.int .u8 0) := rfl
theorem zr7 : ZerOk Try.prog (7, .agg [.lit (.int .i64 0), .lit (.int .i64 0), .lit (.bool false), .lit (.int .u8 0)]) := fun v h => by
  rw [show zeroT Try.prog 7 = some (.agg #[(.int .i64 0), (.int .i64 0), (.bool false), (.int .u8 0)]) from by kernel_rfl] at h; cases h
  exact zr_agg _ _ (zl_cons (.lit _) rfl (zl_cons (.lit _) rfl (zl_cons (.lit _) rfl (zl_cons (.lit _) rfl (zl_nil)))))
theorem zv7 : zer 7 = .agg [.lit (.int .i64 0), .lit (.int .i64 0), .lit (.bool false), .lit (.int .u8 0)] := rfl
theorem zr8 : ZerOk Try.prog (8, .agg [.lit (.int .i64 0), .lit (.int .i64 0), .lit (.bool false), .lit (.int .u8 0)]) := fun v h => by
  rw [show zeroT Try.prog 8 = some (.agg #[(.int .i64 0), (.int .i64 0), (.bool false), (.int .u8 0)]) from by kernel_rfl] at h; cases h
  exact zr_agg _ _ (zl_cons (.lit _) rfl (zl_cons (.lit _) rfl (zl_cons (.lit _) rfl (zl_cons (.lit _) rfl (zl_nil)))))
theorem zv8 : zer 8 = .agg [.lit (.int .i64 0), .lit (.int .i64 0), .lit (.bool false), .lit (.int .u8 0)] := rfl
theorem zr9 : ZerOk Try.prog (9, .lit (.string ByteArray.empty)) := fun v h => by
  rw [show zeroT Try.prog 9 = some (.string ByteArray.empty) from by kernel_rfl] at h; cases h; exact .lit _
theorem zv9 : zer 9 = .lit (.string ByteArray.empty) := rfl
theorem zr10 : ZerOk Try.prog (10, .lit (.string ByteArray.empty)) := fun v h => by
  rw [show zeroT Try.prog 10 = some (.string ByteArray.empty) from by kernel_rfl] at h; cases h; exact .lit _
theorem zv10 : zer 10 = .lit (.string ByteArray.empty) := rfl
theorem zr11 : ZerOk Try.prog (11, .lit (.string ByteArray.empty)) := fun v h => by
  rw [show zeroT Try.prog 11 = some (.string ByteArray.empty) from by kernel_rfl] at h; cases h; exact .lit _
theorem zv11 : zer 11 = .lit (.string ByteArray.empty) := rfl
theorem zr12 : ZerOk Try.prog (12, .lit (.int .u64 0)) := fun v h => by
  rw [show zeroT Try.prog 12 = some (.int .u64 0) from by kernel_rfl] at h; cases h; exact .lit _
theorem zv12 : zer 12 = .lit (.int .u64 0) := rfl
theorem zr13 : ZerOk Try.prog (13, .agg [.lit (.string ByteArray.empty), .lit (.int .u64 0)]) := fun v h => by
  rw [show zeroT Try.prog 13 = some (.agg #[(.string ByteArray.empty), (.int .u64 0)]) from by kernel_rfl] at h; cases h
  exact zr_agg _ _ (zl_cons (.lit _) rfl (zl_cons (.lit _) rfl (zl_nil)))
theorem zv13 : zer 13 = .agg [.lit (.string ByteArray.empty), .lit (.int .u64 0)] := rfl
theorem zr14 : ZerOk Try.prog (14, .agg [.lit (.string ByteArray.empty), .lit (.int .u64 0)]) := fun v h => by
  rw [show zeroT Try.prog 14 = some (.agg #[(.string ByteArray.empty), (.int .u64 0)]) from by kernel_rfl] at h; cases h
  exact zr_agg _ _ (zl_cons (.lit _) rfl (zl_cons (.lit _) rfl (zl_nil)))
theorem zv14 : zer 14 = .agg [.lit (.string ByteArray.empty), .lit (.int .u64 0)] := rfl
theorem zr15 : ZerOk Try.prog (15, .lit (.pointer none)) := fun v h => by
  rw [show zeroT Try.prog 15 = some (.pointer none) from by kernel_rfl] at h; cases h; exact .lit _
theorem zv15 : zer 15 = .lit (.pointer none) := rfl
theorem zr16 : ZerOk Try.prog (16, .lit (.pointer none)) := fun v h => by
  rw [show zeroT Try.prog 16 = some (.pointer none) from by kernel_rfl] at h; cases h; exact .lit _
theorem zv16 : zer 16 = .lit (.pointer none) := rfl
theorem zr17 : ZerOk Try.prog (17, .lit (.pointer none)) := fun v h => by
  rw [show zeroT Try.prog 17 = some (.pointer none) from by kernel_rfl] at h; cases h; exact .lit _
theorem zv17 : zer 17 = .lit (.pointer none) := rfl
theorem zr18 : ZerOk Try.prog (18, .agg [.lit (.pointer none)]) := fun v h => by
  rw [show zeroT Try.prog 18 = some (.agg #[(.pointer none)]) from by kernel_rfl] at h; cases h
  exact zr_agg _ _ (zl_cons (.lit _) rfl (zl_nil))
theorem zv18 : zer 18 = .agg [.lit (.pointer none)] := rfl
theorem zr19 : ZerOk Try.prog (19, .agg [.lit (.pointer none)]) := fun v h => by
  rw [show zeroT Try.prog 19 = some (.agg #[(.pointer none)]) from by kernel_rfl] at h; cases h
  exact zr_agg _ _ (zl_cons (.lit _) rfl (zl_nil))
theorem zv19 : zer 19 = .agg [.lit (.pointer none)] := rfl
theorem zr21 : ZerOk Try.prog (21, .lit (.int .i32 0)) := fun v h => by
  rw [show zeroT Try.prog 21 = some (.int .i32 0) from by kernel_rfl] at h; cases h; exact .lit _
theorem zv21 : zer 21 = .lit (.int .i32 0) := rfl
theorem zr22 : ZerOk Try.prog (22, .sl true 1 []) := fun v h => by
  rw [show zeroT Try.prog 22 = some (.slice none 0 0) from by kernel_rfl] at h; cases h; exact .nil _ _ _
theorem zv22 : zer 22 = .sl true 1 [] := rfl
theorem zr24 : ZerOk Try.prog (24, .lit (.int .i64 0)) := fun v h => by
  rw [show zeroT Try.prog 24 = some (.int .i64 0) from by kernel_rfl] at h; cases h; exact .lit _
theorem zv24 : zer 24 = .lit (.int .i64 0) := rfl
theorem zr25 : ZerOk Try.prog (25, .agg [.sl true 1 [], .lit (.int .i64 0)]) := fun v h => by
  rw [show zeroT Try.prog 25 = some (.agg #[(.slice none 0 0), (.int .i64 0)]) from by kernel_rfl] at h; cases h
  exact zr_agg _ _ (zl_cons (.nil _ _ _) rfl (zl_cons (.lit _) rfl (zl_nil)))
theorem zv25 : zer 25 = .agg [.sl true 1 [], .lit (.int .i64 0)] := rfl
theorem zr26 : ZerOk Try.prog (26, .agg [.sl true 1 [], .lit (.int .i64 0)]) := fun v h => by
  rw [show zeroT Try.prog 26 = some (.agg #[(.slice none 0 0), (.int .i64 0)]) from by kernel_rfl] at h; cases h
  exact zr_agg _ _ (zl_cons (.nil _ _ _) rfl (zl_cons (.lit _) rfl (zl_nil)))
theorem zv26 : zer 26 = .agg [.sl true 1 [], .lit (.int .i64 0)] := rfl
theorem zr32 : ZerOk Try.prog (32, .sl true 1 []) := fun v h => by
  rw [show zeroT Try.prog 32 = some (.slice none 0 0) from by kernel_rfl] at h; cases h; exact .nil _ _ _
theorem zv32 : zer 32 = .sl true 1 [] := rfl
theorem zr33 : ZerOk Try.prog (33, .sl true 1 []) := fun v h => by
  rw [show zeroT Try.prog 33 = some (.slice none 0 0) from by kernel_rfl] at h; cases h; exact .nil _ _ _
theorem zv33 : zer 33 = .sl true 1 [] := rfl
theorem zr42 : ZerOk Try.prog (42, .sl true 4 []) := fun v h => by
  rw [show zeroT Try.prog 42 = some (.slice none 0 0) from by kernel_rfl] at h; cases h; exact .nil _ _ _
theorem zv42 : zer 42 = .sl true 4 [] := rfl
theorem zr43 : ZerOk Try.prog (43, .agg [.sl true 1 [], .lit (.int .i64 0)]) := fun v h => by
  rw [show zeroT Try.prog 43 = some (.agg #[(.slice none 0 0), (.int .i64 0)]) from by kernel_rfl] at h; cases h
  exact zr_agg _ _ (zl_cons (.nil _ _ _) rfl (zl_cons (.lit _) rfl (zl_nil)))
theorem zv43 : zer 43 = .agg [.sl true 1 [], .lit (.int .i64 0)] := rfl
theorem zr45 : ZerOk Try.prog (45, .lit (.pointer none)) := fun v h => by
  rw [show zeroT Try.prog 45 = some (.pointer none) from by kernel_rfl] at h; cases h; exact .lit _
theorem zv45 : zer 45 = .lit (.pointer none) := rfl
theorem zr46 : ZerOk Try.prog (46, .lit (.pointer none)) := fun v h => by
  rw [show zeroT Try.prog 46 = some (.pointer none) from by kernel_rfl] at h; cases h; exact .lit _
theorem zv46 : zer 46 = .lit (.pointer none) := rfl
theorem zr47 : ZerOk Try.prog (47, .agg [.lit (.int .i64 0), .lit (.int .i64 0), .lit (.int .i64 0), .lit (.int .i64 0)]) := fun v h => by
  rw [show zeroT Try.prog 47 = some (.agg #[(.int .i64 0), (.int .i64 0), (.int .i64 0), (.int .i64 0)]) from by kernel_rfl] at h; cases h
  exact zr_agg _ _ (zl_cons (.lit _) rfl (zl_cons (.lit _) rfl (zl_cons (.lit _) rfl (zl_cons (.lit _) rfl (zl_nil)))))
theorem zv47 : zer 47 = .agg [.lit (.int .i64 0), .lit (.int .i64 0), .lit (.int .i64 0), .lit (.int .i64 0)] := rfl
theorem zr48 : ZerOk Try.prog (48, .agg [.lit (.int .i64 0), .lit (.int .i64 0), .lit (.int .i64 0), .lit (.int .i64 0)]) := fun v h => by
  rw [show zeroT Try.prog 48 = some (.agg #[(.int .i64 0), (.int .i64 0), (.int .i64 0), (.int .i64 0)]) from by kernel_rfl] at h; cases h
  exact zr_agg _ _ (zl_cons (.lit _) rfl (zl_cons (.lit _) rfl (zl_cons (.lit _) rfl (zl_cons (.lit _) rfl (zl_nil)))))
theorem zv48 : zer 48 = .agg [.lit (.int .i64 0), .lit (.int .i64 0), .lit (.int .i64 0), .lit (.int .i64 0)] := rfl
theorem zr62 : ZerOk Try.prog (62, .lit (.int .u64 0)) := fun v h => by
  rw [show zeroT Try.prog 62 = some (.int .u64 0) from by kernel_rfl] at h; cases h; exact .lit _
theorem zv62 : zer 62 = .lit (.int .u64 0) := rfl
theorem zr85 : ZerOk Try.prog (85, .lit (.int .u64 0)) := fun v h => by
  rw [show zeroT Try.prog 85 = some (.int .u64 0) from by kernel_rfl] at h; cases h; exact .lit _
theorem zv85 : zer 85 = .lit (.int .u64 0) := rfl
theorem zr87 : ZerOk Try.prog (87, .agg [.lit (.pointer none), .lit (.pointer none), .lit (.pointer none), .lit (.string ByteArray.empty)]) := fun v h => by
  rw [show zeroT Try.prog 87 = some (.agg #[(.pointer none), (.pointer none), (.pointer none), (.string ByteArray.empty)]) from by kernel_rfl] at h; cases h
  exact zr_agg _ _ (zl_cons (.lit _) rfl (zl_cons (.lit _) rfl (zl_cons (.lit _) rfl (zl_cons (.lit _) rfl (zl_nil)))))
theorem zv87 : zer 87 = .agg [.lit (.pointer none), .lit (.pointer none), .lit (.pointer none), .lit (.string ByteArray.empty)] := rfl
theorem zr88 : ZerOk Try.prog (88, .agg [.lit (.pointer none), .lit (.pointer none), .lit (.pointer none), .lit (.string ByteArray.empty)]) := fun v h => by
  rw [show zeroT Try.prog 88 = some (.agg #[(.pointer none), (.pointer none), (.pointer none), (.string ByteArray.empty)]) from by kernel_rfl] at h; cases h
  exact zr_agg _ _ (zl_cons (.lit _) rfl (zl_cons (.lit _) rfl (zl_cons (.lit _) rfl (zl_cons (.lit _) rfl (zl_nil)))))
theorem zv88 : zer 88 = .agg [.lit (.pointer none), .lit (.pointer none), .lit (.pointer none), .lit (.string ByteArray.empty)] := rfl
theorem zr92 : ZerOk Try.prog (92, .lit (.int .u32 0)) := fun v h => by
  rw [show zeroT Try.prog 92 = some (.int .u32 0) from by kernel_rfl] at h; cases h; exact .lit _
theorem zv92 : zer 92 = .lit (.int .u32 0) := rfl
theorem zr93 : ZerOk Try.prog (93, .lit (.int .u8 0)) := fun v h => by
  rw [show zeroT Try.prog 93 = some (.int .u8 0) from by kernel_rfl] at h; cases h; exact .lit _
theorem zv93 : zer 93 = .lit (.int .u8 0) := rfl
theorem zr94 : ZerOk Try.prog (94, .lit (.int .u8 0)) := fun v h => by
  rw [show zeroT Try.prog 94 = some (.int .u8 0) from by kernel_rfl] at h; cases h; exact .lit _
theorem zv94 : zer 94 = .lit (.int .u8 0) := rfl
theorem zr96 : ZerOk Try.prog (96, .lit (.pointer none)) := fun v h => by
  rw [show zeroT Try.prog 96 = some (.pointer none) from by kernel_rfl] at h; cases h; exact .lit _
theorem zv96 : zer 96 = .lit (.pointer none) := rfl
theorem zr97 : ZerOk Try.prog (97, .lit (.int .i32 0)) := fun v h => by
  rw [show zeroT Try.prog 97 = some (.int .i32 0) from by kernel_rfl] at h; cases h; exact .lit _
theorem zv97 : zer 97 = .lit (.int .i32 0) := rfl
theorem zr98 : ZerOk Try.prog (98, .lit (.int .i32 0)) := fun v h => by
  rw [show zeroT Try.prog 98 = some (.int .i32 0) from by kernel_rfl] at h; cases h; exact .lit _
theorem zv98 : zer 98 = .lit (.int .i32 0) := rfl
theorem zr99 : ZerOk Try.prog (99, .agg [.lit (.int .u64 0), .lit (.int .u64 0), .lit (.int .u32 0), .lit (.int .u8 0), .lit (.int .u8 0), .lit (.int .u8 0), .lit (.int .u8 0), .lit .nilFunc, .lit (.pointer none), .lit (.int .i32 0), .lit (.int .i32 0)]) := fun v h => by
  rw [show zeroT Try.prog 99 = some (.agg #[(.int .u64 0), (.int .u64 0), (.int .u32 0), (.int .u8 0), (.int .u8 0), (.int .u8 0), (.int .u8 0), .nilFunc, (.pointer none), (.int .i32 0), (.int .i32 0)]) from by kernel_rfl] at h; cases h
  exact zr_agg _ _ (zl_cons (.lit _) rfl (zl_cons (.lit _) rfl (zl_cons (.lit _) rfl (zl_cons (.lit _) rfl (zl_cons (.lit _) rfl (zl_cons (.lit _) rfl (zl_cons (.lit _) rfl (zl_cons (.lit _) rfl (zl_cons (.lit _) rfl (zl_cons (.lit _) rfl (zl_cons (.lit _) rfl (zl_nil))))))))))))
theorem zv99 : zer 99 = .agg [.lit (.int .u64 0), .lit (.int .u64 0), .lit (.int .u32 0), .lit (.int .u8 0), .lit (.int .u8 0), .lit (.int .u8 0), .lit (.int .u8 0), .lit .nilFunc, .lit (.pointer none), .lit (.int .i32 0), .lit (.int .i32 0)] := rfl
theorem zr100 : ZerOk Try.prog (100, .agg [.lit (.int .u64 0), .lit (.int .u64 0), .lit (.int .u32 0), .lit (.int .u8 0), .lit (.int .u8 0), .lit (.int .u8 0), .lit (.int .u8 0), .lit .nilFunc, .lit (.pointer none), .lit (.int .i32 0), .lit (.int .i32 0)]) := fun v h => by
  rw [show zeroT Try.prog 100 = some (.agg #[(.int .u64 0), (.int .u64 0), (.int .u32 0), (.int .u8 0), (.int .u8 0), (.int .u8 0), (.int .u8 0), .nilFunc, (.pointer none), (.int .i32 0), (.int .i32 0)]) from by kernel_rfl] at h; cases h
  exact zr_agg _ _ (zl_cons (.lit _) rfl (zl_cons (.lit _) rfl (zl_cons (.lit _) rfl (zl_cons (.lit _) rfl (zl_cons (.lit _) rfl (zl_cons (.lit _) rfl (zl_cons (.lit _) rfl (zl_cons (.lit _) rfl (zl_cons (.lit _) rfl (zl_cons (.lit _) rfl (zl_cons (.lit _) rfl (zl_nil))))))))))))
theorem zv100 : zer 100 = .agg [.lit (.int .u64 0), .lit (.int .u64 0), .lit (.int .u32 0), .lit (.int .u8 0), .lit (.int .u8 0), .lit (.int .u8 0), .lit (.int .u8 0), .lit .nilFunc, .lit (.pointer none), .lit (.int .i32 0), .lit (.int .i32 0)] := rfl
theorem zer_ok : ∀ t v, zeroT Try.prog t = some v → RC (fun _ _ => none) (zer t) v := zer_sound zerL (zs_cons zr2 (zs_cons zr3 (zs_cons zr4 (zs_cons zr5 (zs_cons zr6 (zs_cons zr7 (zs_cons zr8 (zs_cons zr9 (zs_cons zr10 (zs_cons zr11 (zs_cons zr12 (zs_cons zr13 (zs_cons zr14 (zs_cons zr15 (zs_cons zr16 (zs_cons zr17 (zs_cons zr18 (zs_cons zr19 (zs_cons zr21 (zs_cons zr22 (zs_cons zr24 (zs_cons zr25 (zs_cons zr26 (zs_cons zr32 (zs_cons zr33 (zs_cons zr42 (zs_cons zr43 (zs_cons zr45 (zs_cons zr46 (zs_cons zr47 (zs_cons zr48 (zs_cons zr62 (zs_cons zr85 (zs_cons zr87 (zs_cons zr88 (zs_cons zr92 (zs_cons zr93 (zs_cons zr94 (zs_cons zr96 (zs_cons zr97 (zs_cons zr98 (zs_cons zr99 (zs_cons zr100 (zs_nil))))))))))))))))))))))))))))))))))))))))))))
theorem mixed : Try.prog.follows .mixedOrders = true := by kernel_rfl
theorem fk3 : fok Try.prog 3 = true := by kernel_rfl -- framewise/framewiselaw01.WireCanonical
theorem fk4 : fok Try.prog 4 = true := by kernel_rfl -- framewise/framewiselaw01.WireOrder
theorem fk5 : fok Try.prog 5 = true := by kernel_rfl -- framewise/framewiselaw01.WireWrites
theorem fk6 : fok Try.prog 6 = true := by kernel_rfl -- framewise/framewiselaw01.WireLimits
theorem fk7 : fok Try.prog 7 = true := by kernel_rfl -- framewise/framewiselaw01.WireReads
theorem fk8 : fok Try.prog 8 = true := by kernel_rfl -- framewise/framewiselaw01.WireErrors
theorem fk9 : fok Try.prog 9 = true := by kernel_rfl -- framewise/framewiselaw01.WireInverse
theorem fk10 : fok Try.prog 10 = true := by kernel_rfl -- framewise/framewiselaw01.awake
theorem fk11 : fok Try.prog 11 = true := by kernel_rfl -- (*framewise/wire.Source).Int
theorem fk12 : fok Try.prog 12 = true := by kernel_rfl -- framewise/framewiseref01.Same
theorem fk13 : fok Try.prog 13 = true := by kernel_rfl -- framewise/wire.Int
theorem fk14 : fok Try.prog 14 = true := by kernel_rfl -- framewise/framewiseref01.Few
theorem fk15 : fok Try.prog 15 = true := by kernel_rfl -- framewise/framewiseref01.Int
theorem fk16 : fok Try.prog 16 = true := by kernel_rfl -- framewise/wire.Size
theorem fk17 : fok Try.prog 17 = true := by kernel_rfl -- framewise/wire.Text
theorem fk18 : fok Try.prog 18 = true := by kernel_rfl -- framewise/framewiseref01.Text
theorem fk19 : fok Try.prog 19 = true := by kernel_rfl -- framewise/wire.Bool
theorem fk20 : fok Try.prog 20 = true := by kernel_rfl -- framewise/framewiseref01.Bool
theorem fk21 : fok Try.prog 21 = true := by kernel_rfl -- framewise/wire.Ints
theorem fk22 : fok Try.prog 22 = true := by kernel_rfl -- framewise/framewiseref01.Ints
theorem fk23 : fok Try.prog 23 = true := by kernel_rfl -- framewise/wire.Texts
theorem fk24 : fok Try.prog 24 = true := by kernel_rfl -- framewise/framewiseref01.Texts
theorem fk25 : fok Try.prog 25 = true := by kernel_rfl -- (*framewise/wire.Source).Texts
theorem fk26 : fok Try.prog 26 = true := by kernel_rfl -- framewise/framewiselaw01.read
theorem fk27 : fok Try.prog 27 = true := by kernel_rfl -- framewise/framewiselaw01.same
theorem fk28 : fok Try.prog 28 = true := by kernel_rfl -- (*framewise/wire.Source).End
theorem fk29 : fok Try.prog 29 = true := by kernel_rfl -- (*framewise/framewiseref01.Source).End
theorem fk30 : fok Try.prog 30 = true := by kernel_rfl -- (*framewise/wire.Source).Bool
theorem fk31 : fok Try.prog 31 = true := by kernel_rfl -- (*framewise/wire.Source).Text
theorem fk32 : fok Try.prog 32 = true := by kernel_rfl -- (*framewise/wire.Source).Ints
theorem fk33 : fok Try.prog 33 = true := by kernel_rfl -- framewise/framewiseref01.SameInts
theorem fk34 : fok Try.prog 34 = true := by kernel_rfl -- framewise/framewiseref01.SameTexts
theorem fk35 : fok Try.prog 35 = true := by kernel_rfl -- framewise/wire.run[int]
theorem fk36 : fok Try.prog 36 = true := by kernel_rfl -- (*framewise/wire.Source).Int$1
theorem fk37 : fok Try.prog 37 = true := by kernel_rfl -- (*framewise/wire.Source).number
theorem fk38 : fok Try.prog 38 = true := by kernel_rfl -- framewise/wire.put
theorem fk39 : fok Try.prog 39 = true := by kernel_rfl -- framewise/wire.copied
theorem fk40 : fok Try.prog 40 = true := by kernel_rfl -- framewise/framewiseref01.split
theorem fk41 : fok Try.prog 41 = true := by kernel_rfl -- framewise/wire.text
theorem fk42 : fok Try.prog 42 = true := by kernel_rfl -- framewise/wire.list[int]
theorem fk43 : fok Try.prog 43 = true := by kernel_rfl -- framewise/wire.list[string]
theorem fk44 : fok Try.prog 44 = true := by kernel_rfl -- framewise/wire.run[[]string]
theorem fk45 : fok Try.prog 45 = true := by kernel_rfl -- (*framewise/wire.Source).Texts$1
theorem fk46 : fok Try.prog 46 = true := by kernel_rfl -- framewise/wire.many[string]
theorem fk47 : fok Try.prog 47 = true := by kernel_rfl -- (*framewise/wire.Source).Texts$1$1
theorem fk48 : fok Try.prog 48 = true := by kernel_rfl -- (*framewise/wire.Source).word
theorem fk49 : fok Try.prog 49 = true := by kernel_rfl -- (*framewise/framewiseref01.Source).Int
theorem fk50 : fok Try.prog 50 = true := by kernel_rfl -- (*framewise/framewiseref01.Source).Bool
theorem fk51 : fok Try.prog 51 = true := by kernel_rfl -- (*framewise/framewiseref01.Source).Text
theorem fk52 : fok Try.prog 52 = true := by kernel_rfl -- (*framewise/framewiseref01.Source).Ints
theorem fk53 : fok Try.prog 53 = true := by kernel_rfl -- (*framewise/framewiseref01.Source).Texts
theorem fk54 : fok Try.prog 54 = true := by kernel_rfl -- framewise/wire.run[bool]
theorem fk55 : fok Try.prog 55 = true := by kernel_rfl -- (*framewise/wire.Source).Bool$1
theorem fk56 : fok Try.prog 56 = true := by kernel_rfl -- framewise/wire.run[string]
theorem fk57 : fok Try.prog 57 = true := by kernel_rfl -- (*framewise/wire.Source).Text$1
theorem fk58 : fok Try.prog 58 = true := by kernel_rfl -- framewise/wire.run[[]int]
theorem fk59 : fok Try.prog 59 = true := by kernel_rfl -- (*framewise/wire.Source).Ints$1
theorem fk60 : fok Try.prog 60 = true := by kernel_rfl -- framewise/wire.many[int]
theorem fk61 : fok Try.prog 61 = true := by kernel_rfl -- (*framewise/wire.Source).Ints$1$1
theorem fk62 : fok Try.prog 62 = true := by kernel_rfl -- framewise/wire.whole
theorem fk63 : fok Try.prog 63 = true := by kernel_rfl -- (*framewise/wire.Source).fail
theorem fk64 : fok Try.prog 64 = true := by kernel_rfl -- framewise/wire.width
theorem fk65 : fok Try.prog 65 = true := by kernel_rfl -- framewise/wire.bytes
theorem fk66 : fok Try.prog 66 = true := by kernel_rfl -- framewise/wire.same
theorem fk67 : fok Try.prog 67 = true := by kernel_rfl -- framewise/wire.turned
theorem fk68 : fok Try.prog 68 = true := by kernel_rfl -- (*framewise/framewiseref01.Source).raw
theorem fk69 : fok Try.prog 69 = true := by kernel_rfl -- (*framewise/framewiseref01.Source).fail
theorem fk70 : fok Try.prog 70 = true := by kernel_rfl -- framewise/framewiseref01.integer
attribute [go_sem] u2 sz2 by2 ag2 so2 iz2 zk2 iu2 u3 sz3 by3 ag3 so3 iz3 zk3 iu3 u4 sz4 by4 ag4 so4 iz4 zk4 iu4 u5 sz5 by5 ag5 so5 iz5 zk5 iu5 u6 sz6 by6 ag6 so6 iz6 zk6 iu6 sz7 by7 ag7 so7 fl7_0 fl7_1 fl7_2 fl7_3 iz7 zk7 iu7 sz8 by8 ag8 so8 fl8_0 fl8_1 fl8_2 fl8_3 iz8 zk8 iu8 u9 sz9 by9 ag9 so9 iz9 zk9 iu9 u10 sz10 by10 ag10 so10 iz10 zk10 iu10 u11 sz11 by11 ag11 so11 iz11 zk11 iu11 u12 sz12 by12 ag12 so12 iz12 zk12 iu12 sz13 by13 ag13 so13 fl13_0 fl13_1 iz13 zk13 iu13 sz14 by14 ag14 so14 fl14_0 fl14_1 iz14 zk14 iu14 u15 sz15 by15 ag15 so15 iz15 zk15 iu15 u16 sz16 by16 ag16 so16 iz16 zk16 iu16 u17 sz17 by17 ag17 so17 iz17 zk17 iu17 sz18 by18 ag18 so18 fl18_0 iz18 zk18 iu18 sz19 by19 ag19 so19 fl19_0 iz19 zk19 iu19 u21 sz21 by21 ag21 so21 iz21 zk21 iu21 u22 sz22 by22 ag22 so22 iz22 zk22 iu22 ap22 aps22 u24 sz24 by24 ag24 so24 iz24 zk24 iu24 sz25 by25 ag25 so25 fl25_0 fl25_1 iz25 zk25 iu25 sz26 by26 ag26 so26 fl26_0 fl26_1 iz26 zk26 iu26 u32 sz32 by32 ag32 so32 iz32 zk32 iu32 ap32 u33 sz33 by33 ag33 so33 iz33 zk33 iu33 ap33 u42 sz42 by42 ag42 so42 iz42 zk42 iu42 ap42 sz43 by43 ag43 so43 fl43_0 fl43_1 iz43 zk43 iu43 u45 sz45 by45 ag45 so45 iz45 zk45 iu45 u46 sz46 by46 ag46 so46 iz46 zk46 iu46 sz47 by47 ag47 so47 fl47_0 fl47_1 fl47_2 fl47_3 iz47 zk47 iu47 sz48 by48 ag48 so48 fl48_0 fl48_1 fl48_2 fl48_3 iz48 zk48 iu48 u62 sz62 by62 ag62 so62 iz62 zk62 iu62 u85 sz85 by85 ag85 so85 iz85 zk85 iu85 sz87 by87 ag87 so87 fl87_0 fl87_1 fl87_2 fl87_3 iz87 zk87 iu87 sz88 by88 ag88 so88 fl88_0 fl88_1 fl88_2 fl88_3 iz88 zk88 iu88 u89 sz89 by89 ag89 so89 iz89 zk89 iu89 sz90 by90 ag90 so90 fl90_0 iz90 zk90 iu90 sz91 by91 ag91 so91 fl91_0 iz91 zk91 iu91 u92 sz92 by92 ag92 so92 iz92 zk92 iu92 u93 sz93 by93 ag93 so93 iz93 zk93 iu93 u94 sz94 by94 ag94 so94 iz94 zk94 iu94 u96 sz96 by96 ag96 so96 iz96 zk96 iu96 u97 sz97 by97 ag97 so97 iz97 zk97 iu97 u98 sz98 by98 ag98 so98 iz98 zk98 iu98 sz99 by99 ag99 so99 fl99_0 fl99_1 fl99_2 fl99_3 fl99_4 fl99_5 fl99_6 fl99_7 fl99_8 fl99_9 fl99_10 iz99 zk99 iu99 sz100 by100 ag100 so100 fl100_0 fl100_1 fl100_2 fl100_3 fl100_4 fl100_5 fl100_6 fl100_7 fl100_8 fl100_9 fl100_10 iz100 zk100 iu100 zv2 zv3 zv4 zv5 zv6 zv7 zv8 zv9 zv10 zv11 zv12 zv13 zv14 zv15 zv16 zv17 zv18 zv19 zv21 zv22 zv24 zv25 zv26 zv32 zv33 zv42 zv43 zv45 zv46 zv47 zv48 zv62 zv85 zv87 zv88 zv92 zv93 zv94 zv96 zv97 zv98 zv99 zv100
end Go.Proofs.Ytgkjocnfdllieaa
