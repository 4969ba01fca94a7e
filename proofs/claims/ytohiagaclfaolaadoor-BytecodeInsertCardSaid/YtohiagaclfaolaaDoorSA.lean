/- No tables. -/
import Derived.Test.YtohiagaclfaolaaDoorFwC
import Derived.Test.YtohiagaclfaolaaDoorRows

set_option linter.all false

namespace Go.Fw
open Go
instance : TB := ⟨[]⟩
theorem tb_nil {C : Nat → Nat → Option Value} : TbIn C := fun p hp => by cases hp
end Go.Fw

/- Closed facts on the types of this seat's program, made by program (facts.py). -/
namespace Go.Proofs.YtohiagaclfaolaaDoor
open Go Go.Fw

theorem u2 : Tryd.prog.underlying 2 = some (.int .i64) := by kernel_rfl
theorem sz2 : szT Tryd.prog 2 = 1 := by kernel_rfl
theorem by2 : byT Tryd.prog 2 = 8 := by kernel_rfl
theorem ag2 : aggT Tryd.prog 2 = some false := by kernel_rfl
theorem so2 : structOk Tryd.prog 2 = false := by kernel_rfl
theorem iz2 : (zeroT Tryd.prog 2).isSome = true := by kernel_rfl
theorem zk2 : zOk Tryd.prog 2 = true := by kernel_rfl
theorem iu2 : (Tryd.prog.underlying 2).isSome = true := by kernel_rfl
theorem u3 : Tryd.prog.underlying 3 = some (.int .i64) := by kernel_rfl
theorem sz3 : szT Tryd.prog 3 = 1 := by kernel_rfl
theorem by3 : byT Tryd.prog 3 = 8 := by kernel_rfl
theorem ag3 : aggT Tryd.prog 3 = some false := by kernel_rfl
theorem so3 : structOk Tryd.prog 3 = false := by kernel_rfl
theorem iz3 : (zeroT Tryd.prog 3).isSome = true := by kernel_rfl
theorem zk3 : zOk Tryd.prog 3 = true := by kernel_rfl
theorem iu3 : (Tryd.prog.underlying 3).isSome = true := by kernel_rfl
theorem u4 : Tryd.prog.underlying 4 = some .bool := by kernel_rfl
theorem sz4 : szT Tryd.prog 4 = 1 := by kernel_rfl
theorem by4 : byT Tryd.prog 4 = 1 := by kernel_rfl
theorem ag4 : aggT Tryd.prog 4 = some false := by kernel_rfl
theorem so4 : structOk Tryd.prog 4 = false := by kernel_rfl
theorem iz4 : (zeroT Tryd.prog 4).isSome = true := by kernel_rfl
theorem zk4 : zOk Tryd.prog 4 = true := by kernel_rfl
theorem iu4 : (Tryd.prog.underlying 4).isSome = true := by kernel_rfl
theorem u5 : Tryd.prog.underlying 5 = some (.int .u8) := by kernel_rfl
theorem sz5 : szT Tryd.prog 5 = 1 := by kernel_rfl
theorem by5 : byT Tryd.prog 5 = 1 := by kernel_rfl
theorem ag5 : aggT Tryd.prog 5 = some false := by kernel_rfl
theorem so5 : structOk Tryd.prog 5 = false := by kernel_rfl
theorem iz5 : (zeroT Tryd.prog 5).isSome = true := by kernel_rfl
theorem zk5 : zOk Tryd.prog 5 = true := by kernel_rfl
theorem iu5 : (Tryd.prog.underlying 5).isSome = true := by kernel_rfl
theorem u6 : Tryd.prog.underlying 6 = some (.int .u8) := by kernel_rfl
theorem sz6 : szT Tryd.prog 6 = 1 := by kernel_rfl
theorem by6 : byT Tryd.prog 6 = 1 := by kernel_rfl
theorem ag6 : aggT Tryd.prog 6 = some false := by kernel_rfl
theorem so6 : structOk Tryd.prog 6 = false := by kernel_rfl
theorem iz6 : (zeroT Tryd.prog 6).isSome = true := by kernel_rfl
theorem zk6 : zOk Tryd.prog 6 = true := by kernel_rfl
theorem iu6 : (Tryd.prog.underlying 6).isSome = true := by kernel_rfl
theorem sz7 : szT Tryd.prog 7 = 4 := by kernel_rfl
theorem by7 : byT Tryd.prog 7 = 24 := by kernel_rfl
theorem ag7 : aggT Tryd.prog 7 = some true := by kernel_rfl
theorem so7 : structOk Tryd.prog 7 = true := by kernel_rfl
theorem fl7_0 : fieldT Tryd.prog 7 0 = some (2, 0) := by kernel_rfl
theorem fl7_1 : fieldT Tryd.prog 7 1 = some (3, 1) := by kernel_rfl
theorem fl7_2 : fieldT Tryd.prog 7 2 = some (4, 2) := by kernel_rfl
theorem fl7_3 : fieldT Tryd.prog 7 3 = some (6, 3) := by kernel_rfl
theorem se7 : seqK Tryd.prog 7 = some [0, 0, 2, 0] := by kernel_rfl
theorem iz7 : (zeroT Tryd.prog 7).isSome = true := by kernel_rfl
theorem zk7 : zOk Tryd.prog 7 = true := by kernel_rfl
theorem iu7 : (Tryd.prog.underlying 7).isSome = true := by kernel_rfl
theorem sz8 : szT Tryd.prog 8 = 4 := by kernel_rfl
theorem by8 : byT Tryd.prog 8 = 24 := by kernel_rfl
theorem ag8 : aggT Tryd.prog 8 = some true := by kernel_rfl
theorem so8 : structOk Tryd.prog 8 = true := by kernel_rfl
theorem fl8_0 : fieldT Tryd.prog 8 0 = some (2, 0) := by kernel_rfl
theorem fl8_1 : fieldT Tryd.prog 8 1 = some (3, 1) := by kernel_rfl
theorem fl8_2 : fieldT Tryd.prog 8 2 = some (4, 2) := by kernel_rfl
theorem fl8_3 : fieldT Tryd.prog 8 3 = some (6, 3) := by kernel_rfl
theorem se8 : seqK Tryd.prog 8 = some [0, 0, 2, 0] := by kernel_rfl
theorem iz8 : (zeroT Tryd.prog 8).isSome = true := by kernel_rfl
theorem zk8 : zOk Tryd.prog 8 = true := by kernel_rfl
theorem iu8 : (Tryd.prog.underlying 8).isSome = true := by kernel_rfl
theorem u9 : Tryd.prog.underlying 9 = some .string := by kernel_rfl
theorem sz9 : szT Tryd.prog 9 = 1 := by kernel_rfl
theorem by9 : byT Tryd.prog 9 = 16 := by kernel_rfl
theorem ag9 : aggT Tryd.prog 9 = some false := by kernel_rfl
theorem so9 : structOk Tryd.prog 9 = false := by kernel_rfl
theorem iz9 : (zeroT Tryd.prog 9).isSome = true := by kernel_rfl
theorem zk9 : zOk Tryd.prog 9 = true := by kernel_rfl
theorem iu9 : (Tryd.prog.underlying 9).isSome = true := by kernel_rfl
theorem u10 : Tryd.prog.underlying 10 = some .string := by kernel_rfl
theorem sz10 : szT Tryd.prog 10 = 1 := by kernel_rfl
theorem by10 : byT Tryd.prog 10 = 16 := by kernel_rfl
theorem ag10 : aggT Tryd.prog 10 = some false := by kernel_rfl
theorem so10 : structOk Tryd.prog 10 = false := by kernel_rfl
theorem iz10 : (zeroT Tryd.prog 10).isSome = true := by kernel_rfl
theorem zk10 : zOk Tryd.prog 10 = true := by kernel_rfl
theorem iu10 : (Tryd.prog.underlying 10).isSome = true := by kernel_rfl
theorem u11 : Tryd.prog.underlying 11 = some .string := by kernel_rfl
theorem sz11 : szT Tryd.prog 11 = 1 := by kernel_rfl
theorem by11 : byT Tryd.prog 11 = 16 := by kernel_rfl
theorem ag11 : aggT Tryd.prog 11 = some false := by kernel_rfl
theorem so11 : structOk Tryd.prog 11 = false := by kernel_rfl
theorem iz11 : (zeroT Tryd.prog 11).isSome = true := by kernel_rfl
theorem zk11 : zOk Tryd.prog 11 = true := by kernel_rfl
theorem iu11 : (Tryd.prog.underlying 11).isSome = true := by kernel_rfl
theorem u12 : Tryd.prog.underlying 12 = some (.int .u64) := by kernel_rfl
theorem sz12 : szT Tryd.prog 12 = 1 := by kernel_rfl
theorem by12 : byT Tryd.prog 12 = 8 := by kernel_rfl
theorem ag12 : aggT Tryd.prog 12 = some false := by kernel_rfl
theorem so12 : structOk Tryd.prog 12 = false := by kernel_rfl
theorem iz12 : (zeroT Tryd.prog 12).isSome = true := by kernel_rfl
theorem zk12 : zOk Tryd.prog 12 = true := by kernel_rfl
theorem iu12 : (Tryd.prog.underlying 12).isSome = true := by kernel_rfl
theorem sz13 : szT Tryd.prog 13 = 2 := by kernel_rfl
theorem by13 : byT Tryd.prog 13 = 24 := by kernel_rfl
theorem ag13 : aggT Tryd.prog 13 = some true := by kernel_rfl
theorem so13 : structOk Tryd.prog 13 = true := by kernel_rfl
theorem fl13_0 : fieldT Tryd.prog 13 0 = some (9, 0) := by kernel_rfl
theorem fl13_1 : fieldT Tryd.prog 13 1 = some (12, 1) := by kernel_rfl
theorem iz13 : (zeroT Tryd.prog 13).isSome = true := by kernel_rfl
theorem zk13 : zOk Tryd.prog 13 = true := by kernel_rfl
theorem iu13 : (Tryd.prog.underlying 13).isSome = true := by kernel_rfl
theorem sz14 : szT Tryd.prog 14 = 2 := by kernel_rfl
theorem by14 : byT Tryd.prog 14 = 24 := by kernel_rfl
theorem ag14 : aggT Tryd.prog 14 = some true := by kernel_rfl
theorem so14 : structOk Tryd.prog 14 = true := by kernel_rfl
theorem fl14_0 : fieldT Tryd.prog 14 0 = some (9, 0) := by kernel_rfl
theorem fl14_1 : fieldT Tryd.prog 14 1 = some (12, 1) := by kernel_rfl
theorem iz14 : (zeroT Tryd.prog 14).isSome = true := by kernel_rfl
theorem zk14 : zOk Tryd.prog 14 = true := by kernel_rfl
theorem iu14 : (Tryd.prog.underlying 14).isSome = true := by kernel_rfl
theorem u15 : Tryd.prog.underlying 15 = some (.pointer 163) := by kernel_rfl
theorem sz15 : szT Tryd.prog 15 = 1 := by kernel_rfl
theorem by15 : byT Tryd.prog 15 = 8 := by kernel_rfl
theorem ag15 : aggT Tryd.prog 15 = some false := by kernel_rfl
theorem so15 : structOk Tryd.prog 15 = false := by kernel_rfl
theorem iz15 : (zeroT Tryd.prog 15).isSome = true := by kernel_rfl
theorem zk15 : zOk Tryd.prog 15 = true := by kernel_rfl
theorem iu15 : (Tryd.prog.underlying 15).isSome = true := by kernel_rfl
theorem u16 : Tryd.prog.underlying 16 = some (.pointer 166) := by kernel_rfl
theorem sz16 : szT Tryd.prog 16 = 1 := by kernel_rfl
theorem by16 : byT Tryd.prog 16 = 8 := by kernel_rfl
theorem ag16 : aggT Tryd.prog 16 = some false := by kernel_rfl
theorem so16 : structOk Tryd.prog 16 = false := by kernel_rfl
theorem iz16 : (zeroT Tryd.prog 16).isSome = true := by kernel_rfl
theorem zk16 : zOk Tryd.prog 16 = true := by kernel_rfl
theorem iu16 : (Tryd.prog.underlying 16).isSome = true := by kernel_rfl
theorem u17 : Tryd.prog.underlying 17 = some (.pointer 174) := by kernel_rfl
theorem sz17 : szT Tryd.prog 17 = 1 := by kernel_rfl
theorem by17 : byT Tryd.prog 17 = 8 := by kernel_rfl
theorem ag17 : aggT Tryd.prog 17 = some false := by kernel_rfl
theorem so17 : structOk Tryd.prog 17 = false := by kernel_rfl
theorem iz17 : (zeroT Tryd.prog 17).isSome = true := by kernel_rfl
theorem zk17 : zOk Tryd.prog 17 = true := by kernel_rfl
theorem iu17 : (Tryd.prog.underlying 17).isSome = true := by kernel_rfl
theorem sz18 : szT Tryd.prog 18 = 1 := by kernel_rfl
theorem by18 : byT Tryd.prog 18 = 8 := by kernel_rfl
theorem ag18 : aggT Tryd.prog 18 = some true := by kernel_rfl
theorem so18 : structOk Tryd.prog 18 = true := by kernel_rfl
theorem fl18_0 : fieldT Tryd.prog 18 0 = some (17, 0) := by kernel_rfl
theorem iz18 : (zeroT Tryd.prog 18).isSome = true := by kernel_rfl
theorem zk18 : zOk Tryd.prog 18 = true := by kernel_rfl
theorem iu18 : (Tryd.prog.underlying 18).isSome = true := by kernel_rfl
theorem sz19 : szT Tryd.prog 19 = 1 := by kernel_rfl
theorem by19 : byT Tryd.prog 19 = 8 := by kernel_rfl
theorem ag19 : aggT Tryd.prog 19 = some true := by kernel_rfl
theorem so19 : structOk Tryd.prog 19 = true := by kernel_rfl
theorem fl19_0 : fieldT Tryd.prog 19 0 = some (17, 0) := by kernel_rfl
theorem iz19 : (zeroT Tryd.prog 19).isSome = true := by kernel_rfl
theorem zk19 : zOk Tryd.prog 19 = true := by kernel_rfl
theorem iu19 : (Tryd.prog.underlying 19).isSome = true := by kernel_rfl
theorem u21 : Tryd.prog.underlying 21 = some (.int .i32) := by kernel_rfl
theorem sz21 : szT Tryd.prog 21 = 1 := by kernel_rfl
theorem by21 : byT Tryd.prog 21 = 4 := by kernel_rfl
theorem ag21 : aggT Tryd.prog 21 = some false := by kernel_rfl
theorem so21 : structOk Tryd.prog 21 = false := by kernel_rfl
theorem iz21 : (zeroT Tryd.prog 21).isSome = true := by kernel_rfl
theorem zk21 : zOk Tryd.prog 21 = true := by kernel_rfl
theorem iu21 : (Tryd.prog.underlying 21).isSome = true := by kernel_rfl
theorem u22 : Tryd.prog.underlying 22 = some (.slice 32) := by kernel_rfl
theorem sz22 : szT Tryd.prog 22 = 1 := by kernel_rfl
theorem by22 : byT Tryd.prog 22 = 24 := by kernel_rfl
theorem ag22 : aggT Tryd.prog 22 = some false := by kernel_rfl
theorem so22 : structOk Tryd.prog 22 = false := by kernel_rfl
theorem iz22 : (zeroT Tryd.prog 22).isSome = true := by kernel_rfl
theorem zk22 : zOk Tryd.prog 22 = true := by kernel_rfl
theorem iu22 : (Tryd.prog.underlying 22).isSome = true := by kernel_rfl
theorem ap22 : appT Tryd.prog #[22, 22] = some 32 := by kernel_rfl
theorem u25 : Tryd.prog.underlying 25 = some (.slice 3) := by kernel_rfl
theorem sz25 : szT Tryd.prog 25 = 1 := by kernel_rfl
theorem by25 : byT Tryd.prog 25 = 24 := by kernel_rfl
theorem ag25 : aggT Tryd.prog 25 = some false := by kernel_rfl
theorem so25 : structOk Tryd.prog 25 = false := by kernel_rfl
theorem iz25 : (zeroT Tryd.prog 25).isSome = true := by kernel_rfl
theorem zk25 : zOk Tryd.prog 25 = true := by kernel_rfl
theorem iu25 : (Tryd.prog.underlying 25).isSome = true := by kernel_rfl
theorem ap25 : appT Tryd.prog #[25, 25] = some 3 := by kernel_rfl
theorem sz31 : szT Tryd.prog 31 = 6 := by kernel_rfl
theorem by31 : byT Tryd.prog 31 = 56 := by kernel_rfl
theorem ag31 : aggT Tryd.prog 31 = some true := by kernel_rfl
theorem so31 : structOk Tryd.prog 31 = true := by kernel_rfl
theorem fl31_0 : fieldT Tryd.prog 31 0 = some (3, 0) := by kernel_rfl
theorem fl31_1 : fieldT Tryd.prog 31 1 = some (9, 1) := by kernel_rfl
theorem fl31_2 : fieldT Tryd.prog 31 2 = some (3, 2) := by kernel_rfl
theorem fl31_3 : fieldT Tryd.prog 31 3 = some (3, 3) := by kernel_rfl
theorem fl31_4 : fieldT Tryd.prog 31 4 = some (3, 4) := by kernel_rfl
theorem fl31_5 : fieldT Tryd.prog 31 5 = some (3, 5) := by kernel_rfl
theorem se31 : seqK Tryd.prog 31 = some [0, 1, 0, 0, 0, 0] := by kernel_rfl
theorem iz31 : (zeroT Tryd.prog 31).isSome = true := by kernel_rfl
theorem zk31 : zOk Tryd.prog 31 = true := by kernel_rfl
theorem iu31 : (Tryd.prog.underlying 31).isSome = true := by kernel_rfl
theorem sz32 : szT Tryd.prog 32 = 6 := by kernel_rfl
theorem by32 : byT Tryd.prog 32 = 56 := by kernel_rfl
theorem ag32 : aggT Tryd.prog 32 = some true := by kernel_rfl
theorem so32 : structOk Tryd.prog 32 = true := by kernel_rfl
theorem fl32_0 : fieldT Tryd.prog 32 0 = some (3, 0) := by kernel_rfl
theorem fl32_1 : fieldT Tryd.prog 32 1 = some (9, 1) := by kernel_rfl
theorem fl32_2 : fieldT Tryd.prog 32 2 = some (3, 2) := by kernel_rfl
theorem fl32_3 : fieldT Tryd.prog 32 3 = some (3, 3) := by kernel_rfl
theorem fl32_4 : fieldT Tryd.prog 32 4 = some (3, 4) := by kernel_rfl
theorem fl32_5 : fieldT Tryd.prog 32 5 = some (3, 5) := by kernel_rfl
theorem se32 : seqK Tryd.prog 32 = some [0, 1, 0, 0, 0, 0] := by kernel_rfl
theorem iz32 : (zeroT Tryd.prog 32).isSome = true := by kernel_rfl
theorem zk32 : zOk Tryd.prog 32 = true := by kernel_rfl
theorem iu32 : (Tryd.prog.underlying 32).isSome = true := by kernel_rfl
theorem u38 : Tryd.prog.underlying 38 = some (.int .i64) := by kernel_rfl
theorem sz38 : szT Tryd.prog 38 = 1 := by kernel_rfl
theorem by38 : byT Tryd.prog 38 = 8 := by kernel_rfl
theorem ag38 : aggT Tryd.prog 38 = some false := by kernel_rfl
theorem so38 : structOk Tryd.prog 38 = false := by kernel_rfl
theorem iz38 : (zeroT Tryd.prog 38).isSome = true := by kernel_rfl
theorem zk38 : zOk Tryd.prog 38 = true := by kernel_rfl
theorem iu38 : (Tryd.prog.underlying 38).isSome = true := by kernel_rfl
theorem u42 : Tryd.prog.underlying 42 = some (.slice 65) := by kernel_rfl
theorem sz42 : szT Tryd.prog 42 = 1 := by kernel_rfl
theorem by42 : byT Tryd.prog 42 = 24 := by kernel_rfl
theorem ag42 : aggT Tryd.prog 42 = some false := by kernel_rfl
theorem so42 : structOk Tryd.prog 42 = false := by kernel_rfl
theorem iz42 : (zeroT Tryd.prog 42).isSome = true := by kernel_rfl
theorem zk42 : zOk Tryd.prog 42 = true := by kernel_rfl
theorem iu42 : (Tryd.prog.underlying 42).isSome = true := by kernel_rfl
theorem ap42 : appT Tryd.prog #[42, 42] = some 65 := by kernel_rfl
theorem u43 : Tryd.prog.underlying 43 = some (.slice 68) := by kernel_rfl
theorem sz43 : szT Tryd.prog 43 = 1 := by kernel_rfl
theorem by43 : byT Tryd.prog 43 = 24 := by kernel_rfl
theorem ag43 : aggT Tryd.prog 43 = some false := by kernel_rfl
theorem so43 : structOk Tryd.prog 43 = false := by kernel_rfl
theorem iz43 : (zeroT Tryd.prog 43).isSome = true := by kernel_rfl
theorem zk43 : zOk Tryd.prog 43 = true := by kernel_rfl
theorem iu43 : (Tryd.prog.underlying 43).isSome = true := by kernel_rfl
theorem ap43 : appT Tryd.prog #[43, 43] = some 68 := by kernel_rfl
theorem sz44 : szT Tryd.prog 44 = 6 := by kernel_rfl
theorem by44 : byT Tryd.prog 44 = 112 := by kernel_rfl
theorem ag44 : aggT Tryd.prog 44 = some true := by kernel_rfl
theorem so44 : structOk Tryd.prog 44 = true := by kernel_rfl
theorem fl44_0 : fieldT Tryd.prog 44 0 = some (3, 0) := by kernel_rfl
theorem fl44_1 : fieldT Tryd.prog 44 1 = some (3, 1) := by kernel_rfl
theorem fl44_2 : fieldT Tryd.prog 44 2 = some (22, 2) := by kernel_rfl
theorem fl44_3 : fieldT Tryd.prog 44 3 = some (42, 3) := by kernel_rfl
theorem fl44_4 : fieldT Tryd.prog 44 4 = some (42, 4) := by kernel_rfl
theorem fl44_5 : fieldT Tryd.prog 44 5 = some (43, 5) := by kernel_rfl
theorem iz44 : (zeroT Tryd.prog 44).isSome = true := by kernel_rfl
theorem zk44 : zOk Tryd.prog 44 = true := by kernel_rfl
theorem iu44 : (Tryd.prog.underlying 44).isSome = true := by kernel_rfl
theorem sz45 : szT Tryd.prog 45 = 6 := by kernel_rfl
theorem by45 : byT Tryd.prog 45 = 112 := by kernel_rfl
theorem ag45 : aggT Tryd.prog 45 = some true := by kernel_rfl
theorem so45 : structOk Tryd.prog 45 = true := by kernel_rfl
theorem fl45_0 : fieldT Tryd.prog 45 0 = some (3, 0) := by kernel_rfl
theorem fl45_1 : fieldT Tryd.prog 45 1 = some (3, 1) := by kernel_rfl
theorem fl45_2 : fieldT Tryd.prog 45 2 = some (22, 2) := by kernel_rfl
theorem fl45_3 : fieldT Tryd.prog 45 3 = some (42, 3) := by kernel_rfl
theorem fl45_4 : fieldT Tryd.prog 45 4 = some (42, 4) := by kernel_rfl
theorem fl45_5 : fieldT Tryd.prog 45 5 = some (43, 5) := by kernel_rfl
theorem iz45 : (zeroT Tryd.prog 45).isSome = true := by kernel_rfl
theorem zk45 : zOk Tryd.prog 45 = true := by kernel_rfl
theorem iu45 : (Tryd.prog.underlying 45).isSome = true := by kernel_rfl
theorem sz46 : szT Tryd.prog 46 = 4 := by kernel_rfl
theorem by46 : byT Tryd.prog 46 = 72 := by kernel_rfl
theorem ag46 : aggT Tryd.prog 46 = some true := by kernel_rfl
theorem so46 : structOk Tryd.prog 46 = true := by kernel_rfl
theorem fl46_0 : fieldT Tryd.prog 46 0 = some (9, 0) := by kernel_rfl
theorem fl46_1 : fieldT Tryd.prog 46 1 = some (25, 1) := by kernel_rfl
theorem fl46_2 : fieldT Tryd.prog 46 2 = some (4, 2) := by kernel_rfl
theorem fl46_3 : fieldT Tryd.prog 46 3 = some (25, 3) := by kernel_rfl
theorem iz46 : (zeroT Tryd.prog 46).isSome = true := by kernel_rfl
theorem zk46 : zOk Tryd.prog 46 = true := by kernel_rfl
theorem iu46 : (Tryd.prog.underlying 46).isSome = true := by kernel_rfl
theorem sz47 : szT Tryd.prog 47 = 4 := by kernel_rfl
theorem by47 : byT Tryd.prog 47 = 72 := by kernel_rfl
theorem ag47 : aggT Tryd.prog 47 = some true := by kernel_rfl
theorem so47 : structOk Tryd.prog 47 = true := by kernel_rfl
theorem fl47_0 : fieldT Tryd.prog 47 0 = some (9, 0) := by kernel_rfl
theorem fl47_1 : fieldT Tryd.prog 47 1 = some (25, 1) := by kernel_rfl
theorem fl47_2 : fieldT Tryd.prog 47 2 = some (4, 2) := by kernel_rfl
theorem fl47_3 : fieldT Tryd.prog 47 3 = some (25, 3) := by kernel_rfl
theorem iz47 : (zeroT Tryd.prog 47).isSome = true := by kernel_rfl
theorem zk47 : zOk Tryd.prog 47 = true := by kernel_rfl
theorem iu47 : (Tryd.prog.underlying 47).isSome = true := by kernel_rfl
theorem u50 : Tryd.prog.underlying 50 = some (.array 4 3) := by kernel_rfl
theorem sz50 : szT Tryd.prog 50 = 4 := by kernel_rfl
theorem by50 : byT Tryd.prog 50 = 32 := by kernel_rfl
theorem ag50 : aggT Tryd.prog 50 = some true := by kernel_rfl
theorem so50 : structOk Tryd.prog 50 = false := by kernel_rfl
theorem iz50 : (zeroT Tryd.prog 50).isSome = true := by kernel_rfl
theorem zk50 : zOk Tryd.prog 50 = true := by kernel_rfl
theorem iu50 : (Tryd.prog.underlying 50).isSome = true := by kernel_rfl
theorem u53 : Tryd.prog.underlying 53 = some (.array 16 47) := by kernel_rfl
theorem sz53 : szT Tryd.prog 53 = 64 := by kernel_rfl
theorem by53 : byT Tryd.prog 53 = 1152 := by kernel_rfl
theorem ag53 : aggT Tryd.prog 53 = some true := by kernel_rfl
theorem so53 : structOk Tryd.prog 53 = false := by kernel_rfl
theorem iz53 : (zeroT Tryd.prog 53).isSome = true := by kernel_rfl
theorem zk53 : zOk Tryd.prog 53 = true := by kernel_rfl
theorem iu53 : (Tryd.prog.underlying 53).isSome = true := by kernel_rfl
theorem sz64 : szT Tryd.prog 64 = 2 := by kernel_rfl
theorem by64 : byT Tryd.prog 64 = 16 := by kernel_rfl
theorem ag64 : aggT Tryd.prog 64 = some true := by kernel_rfl
theorem so64 : structOk Tryd.prog 64 = true := by kernel_rfl
theorem fl64_0 : fieldT Tryd.prog 64 0 = some (3, 0) := by kernel_rfl
theorem fl64_1 : fieldT Tryd.prog 64 1 = some (3, 1) := by kernel_rfl
theorem se64 : seqK Tryd.prog 64 = some [0, 0] := by kernel_rfl
theorem iz64 : (zeroT Tryd.prog 64).isSome = true := by kernel_rfl
theorem zk64 : zOk Tryd.prog 64 = true := by kernel_rfl
theorem iu64 : (Tryd.prog.underlying 64).isSome = true := by kernel_rfl
theorem sz65 : szT Tryd.prog 65 = 2 := by kernel_rfl
theorem by65 : byT Tryd.prog 65 = 16 := by kernel_rfl
theorem ag65 : aggT Tryd.prog 65 = some true := by kernel_rfl
theorem so65 : structOk Tryd.prog 65 = true := by kernel_rfl
theorem fl65_0 : fieldT Tryd.prog 65 0 = some (3, 0) := by kernel_rfl
theorem fl65_1 : fieldT Tryd.prog 65 1 = some (3, 1) := by kernel_rfl
theorem se65 : seqK Tryd.prog 65 = some [0, 0] := by kernel_rfl
theorem iz65 : (zeroT Tryd.prog 65).isSome = true := by kernel_rfl
theorem zk65 : zOk Tryd.prog 65 = true := by kernel_rfl
theorem iu65 : (Tryd.prog.underlying 65).isSome = true := by kernel_rfl
theorem sz67 : szT Tryd.prog 67 = 3 := by kernel_rfl
theorem by67 : byT Tryd.prog 67 = 64 := by kernel_rfl
theorem ag67 : aggT Tryd.prog 67 = some true := by kernel_rfl
theorem so67 : structOk Tryd.prog 67 = true := by kernel_rfl
theorem fl67_0 : fieldT Tryd.prog 67 0 = some (9, 0) := by kernel_rfl
theorem fl67_1 : fieldT Tryd.prog 67 1 = some (25, 1) := by kernel_rfl
theorem fl67_2 : fieldT Tryd.prog 67 2 = some (25, 2) := by kernel_rfl
theorem iz67 : (zeroT Tryd.prog 67).isSome = true := by kernel_rfl
theorem zk67 : zOk Tryd.prog 67 = true := by kernel_rfl
theorem iu67 : (Tryd.prog.underlying 67).isSome = true := by kernel_rfl
theorem sz68 : szT Tryd.prog 68 = 3 := by kernel_rfl
theorem by68 : byT Tryd.prog 68 = 64 := by kernel_rfl
theorem ag68 : aggT Tryd.prog 68 = some true := by kernel_rfl
theorem so68 : structOk Tryd.prog 68 = true := by kernel_rfl
theorem fl68_0 : fieldT Tryd.prog 68 0 = some (9, 0) := by kernel_rfl
theorem fl68_1 : fieldT Tryd.prog 68 1 = some (25, 1) := by kernel_rfl
theorem fl68_2 : fieldT Tryd.prog 68 2 = some (25, 2) := by kernel_rfl
theorem iz68 : (zeroT Tryd.prog 68).isSome = true := by kernel_rfl
theorem zk68 : zOk Tryd.prog 68 = true := by kernel_rfl
theorem iu68 : (Tryd.prog.underlying 68).isSome = true := by kernel_rfl
theorem u69 : Tryd.prog.underlying 69 = some (.slice 9) := by kernel_rfl
theorem sz69 : szT Tryd.prog 69 = 1 := by kernel_rfl
theorem by69 : byT Tryd.prog 69 = 24 := by kernel_rfl
theorem ag69 : aggT Tryd.prog 69 = some false := by kernel_rfl
theorem so69 : structOk Tryd.prog 69 = false := by kernel_rfl
theorem iz69 : (zeroT Tryd.prog 69).isSome = true := by kernel_rfl
theorem zk69 : zOk Tryd.prog 69 = true := by kernel_rfl
theorem iu69 : (Tryd.prog.underlying 69).isSome = true := by kernel_rfl
theorem ap69 : appT Tryd.prog #[69, 69] = some 9 := by kernel_rfl
theorem sz72 : szT Tryd.prog 72 = 0 := by kernel_rfl
theorem by72 : byT Tryd.prog 72 = 0 := by kernel_rfl
theorem ag72 : aggT Tryd.prog 72 = some true := by kernel_rfl
theorem so72 : structOk Tryd.prog 72 = true := by kernel_rfl
theorem iz72 : (zeroT Tryd.prog 72).isSome = true := by kernel_rfl
theorem zk72 : zOk Tryd.prog 72 = true := by kernel_rfl
theorem iu72 : (Tryd.prog.underlying 72).isSome = true := by kernel_rfl
theorem sz73 : szT Tryd.prog 73 = 0 := by kernel_rfl
theorem by73 : byT Tryd.prog 73 = 0 := by kernel_rfl
theorem ag73 : aggT Tryd.prog 73 = some true := by kernel_rfl
theorem so73 : structOk Tryd.prog 73 = true := by kernel_rfl
theorem iz73 : (zeroT Tryd.prog 73).isSome = true := by kernel_rfl
theorem zk73 : zOk Tryd.prog 73 = true := by kernel_rfl
theorem iu73 : (Tryd.prog.underlying 73).isSome = true := by kernel_rfl
theorem u77 : Tryd.prog.underlying 77 = some (.slice 42) := by kernel_rfl
theorem sz77 : szT Tryd.prog 77 = 1 := by kernel_rfl
theorem by77 : byT Tryd.prog 77 = 24 := by kernel_rfl
theorem ag77 : aggT Tryd.prog 77 = some false := by kernel_rfl
theorem so77 : structOk Tryd.prog 77 = false := by kernel_rfl
theorem iz77 : (zeroT Tryd.prog 77).isSome = true := by kernel_rfl
theorem zk77 : zOk Tryd.prog 77 = true := by kernel_rfl
theorem iu77 : (Tryd.prog.underlying 77).isSome = true := by kernel_rfl
theorem ap77 : appT Tryd.prog #[77, 77] = some 42 := by kernel_rfl
theorem sz81 : szT Tryd.prog 81 = 3 := by kernel_rfl
theorem by81 : byT Tryd.prog 81 = 56 := by kernel_rfl
theorem ag81 : aggT Tryd.prog 81 = some true := by kernel_rfl
theorem so81 : structOk Tryd.prog 81 = true := by kernel_rfl
theorem fl81_0 : fieldT Tryd.prog 81 0 = some (9, 0) := by kernel_rfl
theorem fl81_1 : fieldT Tryd.prog 81 1 = some (69, 1) := by kernel_rfl
theorem fl81_2 : fieldT Tryd.prog 81 2 = some (9, 2) := by kernel_rfl
theorem iz81 : (zeroT Tryd.prog 81).isSome = true := by kernel_rfl
theorem zk81 : zOk Tryd.prog 81 = true := by kernel_rfl
theorem iu81 : (Tryd.prog.underlying 81).isSome = true := by kernel_rfl
theorem sz82 : szT Tryd.prog 82 = 3 := by kernel_rfl
theorem by82 : byT Tryd.prog 82 = 56 := by kernel_rfl
theorem ag82 : aggT Tryd.prog 82 = some true := by kernel_rfl
theorem so82 : structOk Tryd.prog 82 = true := by kernel_rfl
theorem fl82_0 : fieldT Tryd.prog 82 0 = some (9, 0) := by kernel_rfl
theorem fl82_1 : fieldT Tryd.prog 82 1 = some (69, 1) := by kernel_rfl
theorem fl82_2 : fieldT Tryd.prog 82 2 = some (9, 2) := by kernel_rfl
theorem iz82 : (zeroT Tryd.prog 82).isSome = true := by kernel_rfl
theorem zk82 : zOk Tryd.prog 82 = true := by kernel_rfl
theorem iu82 : (Tryd.prog.underlying 82).isSome = true := by kernel_rfl
theorem u83 : Tryd.prog.underlying 83 = some (.array 22 82) := by kernel_rfl
theorem sz83 : szT Tryd.prog 83 = 66 := by kernel_rfl
theorem by83 : byT Tryd.prog 83 = 1232 := by kernel_rfl
theorem ag83 : aggT Tryd.prog 83 = some true := by kernel_rfl
theorem so83 : structOk Tryd.prog 83 = false := by kernel_rfl
theorem iz83 : (zeroT Tryd.prog 83).isSome = true := by kernel_rfl
theorem zk83 : zOk Tryd.prog 83 = true := by kernel_rfl
theorem iu83 : (Tryd.prog.underlying 83).isSome = true := by kernel_rfl
theorem u89 : Tryd.prog.underlying 89 = some (.slice 47) := by kernel_rfl
theorem sz89 : szT Tryd.prog 89 = 1 := by kernel_rfl
theorem by89 : byT Tryd.prog 89 = 24 := by kernel_rfl
theorem ag89 : aggT Tryd.prog 89 = some false := by kernel_rfl
theorem so89 : structOk Tryd.prog 89 = false := by kernel_rfl
theorem iz89 : (zeroT Tryd.prog 89).isSome = true := by kernel_rfl
theorem zk89 : zOk Tryd.prog 89 = true := by kernel_rfl
theorem iu89 : (Tryd.prog.underlying 89).isSome = true := by kernel_rfl
theorem ap89 : appT Tryd.prog #[89, 89] = some 47 := by kernel_rfl
theorem u91 : Tryd.prog.underlying 91 = some (.slice 92) := by kernel_rfl
theorem sz91 : szT Tryd.prog 91 = 1 := by kernel_rfl
theorem by91 : byT Tryd.prog 91 = 24 := by kernel_rfl
theorem ag91 : aggT Tryd.prog 91 = some false := by kernel_rfl
theorem so91 : structOk Tryd.prog 91 = false := by kernel_rfl
theorem iz91 : (zeroT Tryd.prog 91).isSome = true := by kernel_rfl
theorem zk91 : zOk Tryd.prog 91 = true := by kernel_rfl
theorem iu91 : (Tryd.prog.underlying 91).isSome = true := by kernel_rfl
theorem ap91 : appT Tryd.prog #[91, 91] = some 92 := by kernel_rfl
theorem u92 : Tryd.prog.underlying 92 = some (.pointer 3) := by kernel_rfl
theorem sz92 : szT Tryd.prog 92 = 1 := by kernel_rfl
theorem by92 : byT Tryd.prog 92 = 8 := by kernel_rfl
theorem ag92 : aggT Tryd.prog 92 = some false := by kernel_rfl
theorem so92 : structOk Tryd.prog 92 = false := by kernel_rfl
theorem iz92 : (zeroT Tryd.prog 92).isSome = true := by kernel_rfl
theorem zk92 : zOk Tryd.prog 92 = true := by kernel_rfl
theorem iu92 : (Tryd.prog.underlying 92).isSome = true := by kernel_rfl
theorem u98 : Tryd.prog.underlying 98 = some (.int .u64) := by kernel_rfl
theorem sz98 : szT Tryd.prog 98 = 1 := by kernel_rfl
theorem by98 : byT Tryd.prog 98 = 8 := by kernel_rfl
theorem ag98 : aggT Tryd.prog 98 = some false := by kernel_rfl
theorem so98 : structOk Tryd.prog 98 = false := by kernel_rfl
theorem iz98 : (zeroT Tryd.prog 98).isSome = true := by kernel_rfl
theorem zk98 : zOk Tryd.prog 98 = true := by kernel_rfl
theorem iu98 : (Tryd.prog.underlying 98).isSome = true := by kernel_rfl
theorem u108 : Tryd.prog.underlying 108 = some (.int .u32) := by kernel_rfl
theorem sz108 : szT Tryd.prog 108 = 1 := by kernel_rfl
theorem by108 : byT Tryd.prog 108 = 4 := by kernel_rfl
theorem ag108 : aggT Tryd.prog 108 = some false := by kernel_rfl
theorem so108 : structOk Tryd.prog 108 = false := by kernel_rfl
theorem iz108 : (zeroT Tryd.prog 108).isSome = true := by kernel_rfl
theorem zk108 : zOk Tryd.prog 108 = true := by kernel_rfl
theorem iu108 : (Tryd.prog.underlying 108).isSome = true := by kernel_rfl
theorem u113 : Tryd.prog.underlying 113 = some (.pointer 116) := by kernel_rfl
theorem sz113 : szT Tryd.prog 113 = 1 := by kernel_rfl
theorem by113 : byT Tryd.prog 113 = 8 := by kernel_rfl
theorem ag113 : aggT Tryd.prog 113 = some false := by kernel_rfl
theorem so113 : structOk Tryd.prog 113 = false := by kernel_rfl
theorem iz113 : (zeroT Tryd.prog 113).isSome = true := by kernel_rfl
theorem zk113 : zOk Tryd.prog 113 = true := by kernel_rfl
theorem iu113 : (Tryd.prog.underlying 113).isSome = true := by kernel_rfl
theorem u114 : Tryd.prog.underlying 114 = some (.slice 5) := by kernel_rfl
theorem sz114 : szT Tryd.prog 114 = 1 := by kernel_rfl
theorem by114 : byT Tryd.prog 114 = 24 := by kernel_rfl
theorem ag114 : aggT Tryd.prog 114 = some false := by kernel_rfl
theorem so114 : structOk Tryd.prog 114 = false := by kernel_rfl
theorem iz114 : (zeroT Tryd.prog 114).isSome = true := by kernel_rfl
theorem zk114 : zOk Tryd.prog 114 = true := by kernel_rfl
theorem iu114 : (Tryd.prog.underlying 114).isSome = true := by kernel_rfl
theorem ap114 : appT Tryd.prog #[114, 114] = some 5 := by kernel_rfl
theorem aps114 : appT Tryd.prog #[114, 9] = some 5 := by kernel_rfl
theorem sz115 : szT Tryd.prog 115 = 2 := by kernel_rfl
theorem by115 : byT Tryd.prog 115 = 32 := by kernel_rfl
theorem ag115 : aggT Tryd.prog 115 = some true := by kernel_rfl
theorem so115 : structOk Tryd.prog 115 = true := by kernel_rfl
theorem fl115_0 : fieldT Tryd.prog 115 0 = some (113, 0) := by kernel_rfl
theorem fl115_1 : fieldT Tryd.prog 115 1 = some (114, 1) := by kernel_rfl
theorem iz115 : (zeroT Tryd.prog 115).isSome = true := by kernel_rfl
theorem zk115 : zOk Tryd.prog 115 = true := by kernel_rfl
theorem iu115 : (Tryd.prog.underlying 115).isSome = true := by kernel_rfl
theorem sz116 : szT Tryd.prog 116 = 2 := by kernel_rfl
theorem by116 : byT Tryd.prog 116 = 32 := by kernel_rfl
theorem ag116 : aggT Tryd.prog 116 = some true := by kernel_rfl
theorem so116 : structOk Tryd.prog 116 = true := by kernel_rfl
theorem fl116_0 : fieldT Tryd.prog 116 0 = some (113, 0) := by kernel_rfl
theorem fl116_1 : fieldT Tryd.prog 116 1 = some (114, 1) := by kernel_rfl
theorem iz116 : (zeroT Tryd.prog 116).isSome = true := by kernel_rfl
theorem zk116 : zOk Tryd.prog 116 = true := by kernel_rfl
theorem iu116 : (Tryd.prog.underlying 116).isSome = true := by kernel_rfl
theorem u121 : Tryd.prog.underlying 121 = some (.int .i64) := by kernel_rfl
theorem sz121 : szT Tryd.prog 121 = 1 := by kernel_rfl
theorem by121 : byT Tryd.prog 121 = 8 := by kernel_rfl
theorem ag121 : aggT Tryd.prog 121 = some false := by kernel_rfl
theorem so121 : structOk Tryd.prog 121 = false := by kernel_rfl
theorem iz121 : (zeroT Tryd.prog 121).isSome = true := by kernel_rfl
theorem zk121 : zOk Tryd.prog 121 = true := by kernel_rfl
theorem iu121 : (Tryd.prog.underlying 121).isSome = true := by kernel_rfl
theorem u124 : Tryd.prog.underlying 124 = some (.pointer 135) := by kernel_rfl
theorem sz124 : szT Tryd.prog 124 = 1 := by kernel_rfl
theorem by124 : byT Tryd.prog 124 = 8 := by kernel_rfl
theorem ag124 : aggT Tryd.prog 124 = some false := by kernel_rfl
theorem so124 : structOk Tryd.prog 124 = false := by kernel_rfl
theorem iz124 : (zeroT Tryd.prog 124).isSome = true := by kernel_rfl
theorem zk124 : zOk Tryd.prog 124 = true := by kernel_rfl
theorem iu124 : (Tryd.prog.underlying 124).isSome = true := by kernel_rfl
theorem u129 : Tryd.prog.underlying 129 = some (.pointer 5) := by kernel_rfl
theorem sz129 : szT Tryd.prog 129 = 1 := by kernel_rfl
theorem by129 : byT Tryd.prog 129 = 8 := by kernel_rfl
theorem ag129 : aggT Tryd.prog 129 = some false := by kernel_rfl
theorem so129 : structOk Tryd.prog 129 = false := by kernel_rfl
theorem iz129 : (zeroT Tryd.prog 129).isSome = true := by kernel_rfl
theorem zk129 : zOk Tryd.prog 129 = true := by kernel_rfl
theorem iu129 : (Tryd.prog.underlying 129).isSome = true := by kernel_rfl
theorem u130 : Tryd.prog.underlying 130 = some (.int .u64) := by kernel_rfl
theorem sz130 : szT Tryd.prog 130 = 1 := by kernel_rfl
theorem by130 : byT Tryd.prog 130 = 8 := by kernel_rfl
theorem ag130 : aggT Tryd.prog 130 = some false := by kernel_rfl
theorem so130 : structOk Tryd.prog 130 = false := by kernel_rfl
theorem iz130 : (zeroT Tryd.prog 130).isSome = true := by kernel_rfl
theorem zk130 : zOk Tryd.prog 130 = true := by kernel_rfl
theorem iu130 : (Tryd.prog.underlying 130).isSome = true := by kernel_rfl
theorem sz134 : szT Tryd.prog 134 = 3 := by kernel_rfl
theorem by134 : byT Tryd.prog 134 = 48 := by kernel_rfl
theorem ag134 : aggT Tryd.prog 134 = some true := by kernel_rfl
theorem so134 : structOk Tryd.prog 134 = true := by kernel_rfl
theorem fl134_0 : fieldT Tryd.prog 134 0 = some (9, 0) := by kernel_rfl
theorem fl134_1 : fieldT Tryd.prog 134 1 = some (9, 1) := by kernel_rfl
theorem fl134_2 : fieldT Tryd.prog 134 2 = some (101, 2) := by kernel_rfl
theorem iz134 : (zeroT Tryd.prog 134).isSome = true := by kernel_rfl
theorem zk134 : zOk Tryd.prog 134 = true := by kernel_rfl
theorem iu134 : (Tryd.prog.underlying 134).isSome = true := by kernel_rfl
theorem sz135 : szT Tryd.prog 135 = 3 := by kernel_rfl
theorem by135 : byT Tryd.prog 135 = 48 := by kernel_rfl
theorem ag135 : aggT Tryd.prog 135 = some true := by kernel_rfl
theorem so135 : structOk Tryd.prog 135 = true := by kernel_rfl
theorem fl135_0 : fieldT Tryd.prog 135 0 = some (9, 0) := by kernel_rfl
theorem fl135_1 : fieldT Tryd.prog 135 1 = some (9, 1) := by kernel_rfl
theorem fl135_2 : fieldT Tryd.prog 135 2 = some (101, 2) := by kernel_rfl
theorem iz135 : (zeroT Tryd.prog 135).isSome = true := by kernel_rfl
theorem zk135 : zOk Tryd.prog 135 = true := by kernel_rfl
theorem iu135 : (Tryd.prog.underlying 135).isSome = true := by kernel_rfl
theorem u137 : Tryd.prog.underlying 137 = some (.array 24 5) := by kernel_rfl
theorem sz137 : szT Tryd.prog 137 = 24 := by kernel_rfl
theorem by137 : byT Tryd.prog 137 = 24 := by kernel_rfl
theorem ag137 : aggT Tryd.prog 137 = some true := by kernel_rfl
theorem so137 : structOk Tryd.prog 137 = false := by kernel_rfl
theorem iz137 : (zeroT Tryd.prog 137).isSome = true := by kernel_rfl
theorem zk137 : zOk Tryd.prog 137 = true := by kernel_rfl
theorem iu137 : (Tryd.prog.underlying 137).isSome = true := by kernel_rfl
theorem sz146 : szT Tryd.prog 146 = 2 := by kernel_rfl
theorem by146 : byT Tryd.prog 146 = 2 := by kernel_rfl
theorem ag146 : aggT Tryd.prog 146 = some true := by kernel_rfl
theorem so146 : structOk Tryd.prog 146 = true := by kernel_rfl
theorem fl146_0 : fieldT Tryd.prog 146 0 = some (5, 0) := by kernel_rfl
theorem fl146_1 : fieldT Tryd.prog 146 1 = some (5, 1) := by kernel_rfl
theorem se146 : seqK Tryd.prog 146 = some [0, 0] := by kernel_rfl
theorem iz146 : (zeroT Tryd.prog 146).isSome = true := by kernel_rfl
theorem zk146 : zOk Tryd.prog 146 = true := by kernel_rfl
theorem iu146 : (Tryd.prog.underlying 146).isSome = true := by kernel_rfl
theorem sz147 : szT Tryd.prog 147 = 2 := by kernel_rfl
theorem by147 : byT Tryd.prog 147 = 2 := by kernel_rfl
theorem ag147 : aggT Tryd.prog 147 = some true := by kernel_rfl
theorem so147 : structOk Tryd.prog 147 = true := by kernel_rfl
theorem fl147_0 : fieldT Tryd.prog 147 0 = some (5, 0) := by kernel_rfl
theorem fl147_1 : fieldT Tryd.prog 147 1 = some (5, 1) := by kernel_rfl
theorem se147 : seqK Tryd.prog 147 = some [0, 0] := by kernel_rfl
theorem iz147 : (zeroT Tryd.prog 147).isSome = true := by kernel_rfl
theorem zk147 : zOk Tryd.prog 147 = true := by kernel_rfl
theorem iu147 : (Tryd.prog.underlying 147).isSome = true := by kernel_rfl
theorem u148 : Tryd.prog.underlying 148 = some (.array 16 147) := by kernel_rfl
theorem sz148 : szT Tryd.prog 148 = 32 := by kernel_rfl
theorem by148 : byT Tryd.prog 148 = 32 := by kernel_rfl
theorem ag148 : aggT Tryd.prog 148 = some true := by kernel_rfl
theorem so148 : structOk Tryd.prog 148 = false := by kernel_rfl
theorem iz148 : (zeroT Tryd.prog 148).isSome = true := by kernel_rfl
theorem zk148 : zOk Tryd.prog 148 = true := by kernel_rfl
theorem iu148 : (Tryd.prog.underlying 148).isSome = true := by kernel_rfl
theorem u151 : Tryd.prog.underlying 151 = some (.pointer 153) := by kernel_rfl
theorem sz151 : szT Tryd.prog 151 = 1 := by kernel_rfl
theorem by151 : byT Tryd.prog 151 = 8 := by kernel_rfl
theorem ag151 : aggT Tryd.prog 151 = some false := by kernel_rfl
theorem so151 : structOk Tryd.prog 151 = false := by kernel_rfl
theorem iz151 : (zeroT Tryd.prog 151).isSome = true := by kernel_rfl
theorem zk151 : zOk Tryd.prog 151 = true := by kernel_rfl
theorem iu151 : (Tryd.prog.underlying 151).isSome = true := by kernel_rfl
theorem sz152 : szT Tryd.prog 152 = 1 := by kernel_rfl
theorem by152 : byT Tryd.prog 152 = 16 := by kernel_rfl
theorem ag152 : aggT Tryd.prog 152 = some true := by kernel_rfl
theorem so152 : structOk Tryd.prog 152 = true := by kernel_rfl
theorem fl152_0 : fieldT Tryd.prog 152 0 = some (9, 0) := by kernel_rfl
theorem se152 : seqK Tryd.prog 152 = some [1] := by kernel_rfl
theorem iz152 : (zeroT Tryd.prog 152).isSome = true := by kernel_rfl
theorem zk152 : zOk Tryd.prog 152 = true := by kernel_rfl
theorem iu152 : (Tryd.prog.underlying 152).isSome = true := by kernel_rfl
theorem sz153 : szT Tryd.prog 153 = 1 := by kernel_rfl
theorem by153 : byT Tryd.prog 153 = 16 := by kernel_rfl
theorem ag153 : aggT Tryd.prog 153 = some true := by kernel_rfl
theorem so153 : structOk Tryd.prog 153 = true := by kernel_rfl
theorem fl153_0 : fieldT Tryd.prog 153 0 = some (9, 0) := by kernel_rfl
theorem se153 : seqK Tryd.prog 153 = some [1] := by kernel_rfl
theorem iz153 : (zeroT Tryd.prog 153).isSome = true := by kernel_rfl
theorem zk153 : zOk Tryd.prog 153 = true := by kernel_rfl
theorem iu153 : (Tryd.prog.underlying 153).isSome = true := by kernel_rfl
theorem u155 : Tryd.prog.underlying 155 = some (.array 20 130) := by kernel_rfl
theorem sz155 : szT Tryd.prog 155 = 20 := by kernel_rfl
theorem by155 : byT Tryd.prog 155 = 160 := by kernel_rfl
theorem ag155 : aggT Tryd.prog 155 = some true := by kernel_rfl
theorem so155 : structOk Tryd.prog 155 = false := by kernel_rfl
theorem iz155 : (zeroT Tryd.prog 155).isSome = true := by kernel_rfl
theorem zk155 : zOk Tryd.prog 155 = true := by kernel_rfl
theorem iu155 : (Tryd.prog.underlying 155).isSome = true := by kernel_rfl
theorem u156 : Tryd.prog.underlying 156 = some (.array 65 5) := by kernel_rfl
theorem sz156 : szT Tryd.prog 156 = 65 := by kernel_rfl
theorem by156 : byT Tryd.prog 156 = 65 := by kernel_rfl
theorem ag156 : aggT Tryd.prog 156 = some true := by kernel_rfl
theorem so156 : structOk Tryd.prog 156 = false := by kernel_rfl
theorem iz156 : (zeroT Tryd.prog 156).isSome = true := by kernel_rfl
theorem zk156 : zOk Tryd.prog 156 = true := by kernel_rfl
theorem iu156 : (Tryd.prog.underlying 156).isSome = true := by kernel_rfl
theorem u160 : Tryd.prog.underlying 160 = some (.array 32 5) := by kernel_rfl
theorem sz160 : szT Tryd.prog 160 = 32 := by kernel_rfl
theorem by160 : byT Tryd.prog 160 = 32 := by kernel_rfl
theorem ag160 : aggT Tryd.prog 160 = some true := by kernel_rfl
theorem so160 : structOk Tryd.prog 160 = false := by kernel_rfl
theorem iz160 : (zeroT Tryd.prog 160).isSome = true := by kernel_rfl
theorem zk160 : zOk Tryd.prog 160 = true := by kernel_rfl
theorem iu160 : (Tryd.prog.underlying 160).isSome = true := by kernel_rfl
theorem u161 : Tryd.prog.underlying 161 = some (.array 64 5) := by kernel_rfl
theorem sz161 : szT Tryd.prog 161 = 64 := by kernel_rfl
theorem by161 : byT Tryd.prog 161 = 64 := by kernel_rfl
theorem ag161 : aggT Tryd.prog 161 = some true := by kernel_rfl
theorem so161 : structOk Tryd.prog 161 = false := by kernel_rfl
theorem iz161 : (zeroT Tryd.prog 161).isSome = true := by kernel_rfl
theorem zk161 : zOk Tryd.prog 161 = true := by kernel_rfl
theorem iu161 : (Tryd.prog.underlying 161).isSome = true := by kernel_rfl
theorem sz162 : szT Tryd.prog 162 = 4 := by kernel_rfl
theorem by162 : byT Tryd.prog 162 = 40 := by kernel_rfl
theorem ag162 : aggT Tryd.prog 162 = some true := by kernel_rfl
theorem so162 : structOk Tryd.prog 162 = true := by kernel_rfl
theorem fl162_0 : fieldT Tryd.prog 162 0 = some (17, 0) := by kernel_rfl
theorem fl162_1 : fieldT Tryd.prog 162 1 = some (17, 1) := by kernel_rfl
theorem fl162_2 : fieldT Tryd.prog 162 2 = some (17, 2) := by kernel_rfl
theorem fl162_3 : fieldT Tryd.prog 162 3 = some (9, 3) := by kernel_rfl
theorem iz162 : (zeroT Tryd.prog 162).isSome = true := by kernel_rfl
theorem zk162 : zOk Tryd.prog 162 = true := by kernel_rfl
theorem iu162 : (Tryd.prog.underlying 162).isSome = true := by kernel_rfl
theorem sz163 : szT Tryd.prog 163 = 4 := by kernel_rfl
theorem by163 : byT Tryd.prog 163 = 40 := by kernel_rfl
theorem ag163 : aggT Tryd.prog 163 = some true := by kernel_rfl
theorem so163 : structOk Tryd.prog 163 = true := by kernel_rfl
theorem fl163_0 : fieldT Tryd.prog 163 0 = some (17, 0) := by kernel_rfl
theorem fl163_1 : fieldT Tryd.prog 163 1 = some (17, 1) := by kernel_rfl
theorem fl163_2 : fieldT Tryd.prog 163 2 = some (17, 2) := by kernel_rfl
theorem fl163_3 : fieldT Tryd.prog 163 3 = some (9, 3) := by kernel_rfl
theorem iz163 : (zeroT Tryd.prog 163).isSome = true := by kernel_rfl
theorem zk163 : zOk Tryd.prog 163 = true := by kernel_rfl
theorem iu163 : (Tryd.prog.underlying 163).isSome = true := by kernel_rfl
theorem u164 : Tryd.prog.underlying 164 = some (.array 0 16) := by kernel_rfl
theorem sz164 : szT Tryd.prog 164 = 0 := by kernel_rfl
theorem by164 : byT Tryd.prog 164 = 0 := by kernel_rfl
theorem ag164 : aggT Tryd.prog 164 = some true := by kernel_rfl
theorem so164 : structOk Tryd.prog 164 = false := by kernel_rfl
theorem iz164 : (zeroT Tryd.prog 164).isSome = true := by kernel_rfl
theorem zk164 : zOk Tryd.prog 164 = true := by kernel_rfl
theorem iu164 : (Tryd.prog.underlying 164).isSome = true := by kernel_rfl
theorem sz165 : szT Tryd.prog 165 = 0 := by kernel_rfl
theorem by165 : byT Tryd.prog 165 = 0 := by kernel_rfl
theorem ag165 : aggT Tryd.prog 165 = some true := by kernel_rfl
theorem so165 : structOk Tryd.prog 165 = true := by kernel_rfl
theorem fl165_0 : fieldT Tryd.prog 165 0 = some (164, 0) := by kernel_rfl
theorem iz165 : (zeroT Tryd.prog 165).isSome = true := by kernel_rfl
theorem zk165 : zOk Tryd.prog 165 = true := by kernel_rfl
theorem iu165 : (Tryd.prog.underlying 165).isSome = true := by kernel_rfl
theorem sz166 : szT Tryd.prog 166 = 0 := by kernel_rfl
theorem by166 : byT Tryd.prog 166 = 0 := by kernel_rfl
theorem ag166 : aggT Tryd.prog 166 = some true := by kernel_rfl
theorem so166 : structOk Tryd.prog 166 = true := by kernel_rfl
theorem fl166_0 : fieldT Tryd.prog 166 0 = some (164, 0) := by kernel_rfl
theorem iz166 : (zeroT Tryd.prog 166).isSome = true := by kernel_rfl
theorem zk166 : zOk Tryd.prog 166 = true := by kernel_rfl
theorem iu166 : (Tryd.prog.underlying 166).isSome = true := by kernel_rfl
theorem u168 : Tryd.prog.underlying 168 = some (.int .u8) := by kernel_rfl
theorem sz168 : szT Tryd.prog 168 = 1 := by kernel_rfl
theorem by168 : byT Tryd.prog 168 = 1 := by kernel_rfl
theorem ag168 : aggT Tryd.prog 168 = some false := by kernel_rfl
theorem so168 : structOk Tryd.prog 168 = false := by kernel_rfl
theorem iz168 : (zeroT Tryd.prog 168).isSome = true := by kernel_rfl
theorem zk168 : zOk Tryd.prog 168 = true := by kernel_rfl
theorem iu168 : (Tryd.prog.underlying 168).isSome = true := by kernel_rfl
theorem u169 : Tryd.prog.underlying 169 = some (.int .u8) := by kernel_rfl
theorem sz169 : szT Tryd.prog 169 = 1 := by kernel_rfl
theorem by169 : byT Tryd.prog 169 = 1 := by kernel_rfl
theorem ag169 : aggT Tryd.prog 169 = some false := by kernel_rfl
theorem so169 : structOk Tryd.prog 169 = false := by kernel_rfl
theorem iz169 : (zeroT Tryd.prog 169).isSome = true := by kernel_rfl
theorem zk169 : zOk Tryd.prog 169 = true := by kernel_rfl
theorem iu169 : (Tryd.prog.underlying 169).isSome = true := by kernel_rfl
theorem u171 : Tryd.prog.underlying 171 = some (.int .i32) := by kernel_rfl
theorem sz171 : szT Tryd.prog 171 = 1 := by kernel_rfl
theorem by171 : byT Tryd.prog 171 = 4 := by kernel_rfl
theorem ag171 : aggT Tryd.prog 171 = some false := by kernel_rfl
theorem so171 : structOk Tryd.prog 171 = false := by kernel_rfl
theorem iz171 : (zeroT Tryd.prog 171).isSome = true := by kernel_rfl
theorem zk171 : zOk Tryd.prog 171 = true := by kernel_rfl
theorem iu171 : (Tryd.prog.underlying 171).isSome = true := by kernel_rfl
theorem u172 : Tryd.prog.underlying 172 = some (.int .i32) := by kernel_rfl
theorem sz172 : szT Tryd.prog 172 = 1 := by kernel_rfl
theorem by172 : byT Tryd.prog 172 = 4 := by kernel_rfl
theorem ag172 : aggT Tryd.prog 172 = some false := by kernel_rfl
theorem so172 : structOk Tryd.prog 172 = false := by kernel_rfl
theorem iz172 : (zeroT Tryd.prog 172).isSome = true := by kernel_rfl
theorem zk172 : zOk Tryd.prog 172 = true := by kernel_rfl
theorem iu172 : (Tryd.prog.underlying 172).isSome = true := by kernel_rfl
theorem sz173 : szT Tryd.prog 173 = 11 := by kernel_rfl
theorem by173 : byT Tryd.prog 173 = 48 := by kernel_rfl
theorem ag173 : aggT Tryd.prog 173 = some true := by kernel_rfl
theorem so173 : structOk Tryd.prog 173 = true := by kernel_rfl
theorem fl173_0 : fieldT Tryd.prog 173 0 = some (12, 0) := by kernel_rfl
theorem fl173_1 : fieldT Tryd.prog 173 1 = some (12, 1) := by kernel_rfl
theorem fl173_2 : fieldT Tryd.prog 173 2 = some (108, 2) := by kernel_rfl
theorem fl173_3 : fieldT Tryd.prog 173 3 = some (168, 3) := by kernel_rfl
theorem fl173_4 : fieldT Tryd.prog 173 4 = some (5, 4) := by kernel_rfl
theorem fl173_5 : fieldT Tryd.prog 173 5 = some (5, 5) := by kernel_rfl
theorem fl173_6 : fieldT Tryd.prog 173 6 = some (169, 6) := by kernel_rfl
theorem fl173_7 : fieldT Tryd.prog 173 7 = some (170, 7) := by kernel_rfl
theorem fl173_8 : fieldT Tryd.prog 173 8 = some (129, 8) := by kernel_rfl
theorem fl173_9 : fieldT Tryd.prog 173 9 = some (171, 9) := by kernel_rfl
theorem fl173_10 : fieldT Tryd.prog 173 10 = some (172, 10) := by kernel_rfl
theorem iz173 : (zeroT Tryd.prog 173).isSome = true := by kernel_rfl
theorem zk173 : zOk Tryd.prog 173 = true := by kernel_rfl
theorem iu173 : (Tryd.prog.underlying 173).isSome = true := by kernel_rfl
theorem sz174 : szT Tryd.prog 174 = 11 := by kernel_rfl
theorem by174 : byT Tryd.prog 174 = 48 := by kernel_rfl
theorem ag174 : aggT Tryd.prog 174 = some true := by kernel_rfl
theorem so174 : structOk Tryd.prog 174 = true := by kernel_rfl
theorem fl174_0 : fieldT Tryd.prog 174 0 = some (12, 0) := by kernel_rfl
theorem fl174_1 : fieldT Tryd.prog 174 1 = some (12, 1) := by kernel_rfl
theorem fl174_2 : fieldT Tryd.prog 174 2 = some (108, 2) := by kernel_rfl
theorem fl174_3 : fieldT Tryd.prog 174 3 = some (168, 3) := by kernel_rfl
theorem fl174_4 : fieldT Tryd.prog 174 4 = some (5, 4) := by kernel_rfl
theorem fl174_5 : fieldT Tryd.prog 174 5 = some (5, 5) := by kernel_rfl
theorem fl174_6 : fieldT Tryd.prog 174 6 = some (169, 6) := by kernel_rfl
theorem fl174_7 : fieldT Tryd.prog 174 7 = some (170, 7) := by kernel_rfl
theorem fl174_8 : fieldT Tryd.prog 174 8 = some (129, 8) := by kernel_rfl
theorem fl174_9 : fieldT Tryd.prog 174 9 = some (171, 9) := by kernel_rfl
theorem fl174_10 : fieldT Tryd.prog 174 10 = some (172, 10) := by kernel_rfl
theorem iz174 : (zeroT Tryd.prog 174).isSome = true := by kernel_rfl
theorem zk174 : zOk Tryd.prog 174 = true := by kernel_rfl
theorem iu174 : (Tryd.prog.underlying 174).isSome = true := by kernel_rfl
theorem if20 : isIfT Tryd.prog 20 = true := by kernel_rfl
theorem if100 : isIfT Tryd.prog 100 = true := by kernel_rfl
theorem if101 : isIfT Tryd.prog 101 = true := by kernel_rfl
def zerL : List (Nat × AV) := [(2, .lit (.int .i64 0)),
  (3, .lit (.int .i64 0)),
  (4, .lit (.bool false)),
  (5, .lit (.int .u8 0)),
  (6, .lit (.int .u8 0)),
  (7, .agg [.lit (.int .i64 0), .lit (.int .i64 0), .lit (.bool false), .lit (.int .u8 0)]),
  (8, .agg [.lit (.int .i64 0), .lit (.int .i64 0), .lit (.bool false), .lit (.int .u8 0)]),
  (9, .lit (.string ByteArray.empty)),
  (10, .lit (.string ByteArray.empty)),
  (11, .lit (.string ByteArray.empty)),
  (12, .lit (.int .u64 0)),
  (13, .agg [.lit (.string ByteArray.empty), .lit (.int .u64 0)]),
  (14, .agg [.lit (.string ByteArray.empty), .lit (.int .u64 0)]),
  (15, .lit (.pointer none)),
  (16, .lit (.pointer none)),
  (17, .lit (.pointer none)),
  (18, .agg [.lit (.pointer none)]),
  (19, .agg [.lit (.pointer none)]),
  (21, .lit (.int .i32 0)),
  (22, .sl true 6 []),
  (25, .sl true 1 []),
  (31, .agg [.lit (.int .i64 0), .lit (.string ByteArray.empty), .lit (.int .i64 0), .lit (.int .i64 0), .lit (.int .i64 0), .lit (.int .i64 0)]),
  (32, .agg [.lit (.int .i64 0), .lit (.string ByteArray.empty), .lit (.int .i64 0), .lit (.int .i64 0), .lit (.int .i64 0), .lit (.int .i64 0)]),
  (38, .lit (.int .i64 0)),
  (42, .sl true 2 []),
  (43, .sl true 3 []),
  (44, .agg [.lit (.int .i64 0), .lit (.int .i64 0), .sl true 6 [], .sl true 2 [], .sl true 2 [], .sl true 3 []]),
  (45, .agg [.lit (.int .i64 0), .lit (.int .i64 0), .sl true 6 [], .sl true 2 [], .sl true 2 [], .sl true 3 []]),
  (46, .agg [.lit (.string ByteArray.empty), .sl true 1 [], .lit (.bool false), .sl true 1 []]),
  (47, .agg [.lit (.string ByteArray.empty), .sl true 1 [], .lit (.bool false), .sl true 1 []]),
  (50, .agg [.lit (.int .i64 0), .lit (.int .i64 0), .lit (.int .i64 0), .lit (.int .i64 0)]),
  (53, .agg [.lit (.string ByteArray.empty), .sl true 1 [], .lit (.bool false), .sl true 1 [], .lit (.string ByteArray.empty), .sl true 1 [], .lit (.bool false), .sl true 1 [], .lit (.string ByteArray.empty), .sl true 1 [], .lit (.bool false), .sl true 1 [], .lit (.string ByteArray.empty), .sl true 1 [], .lit (.bool false), .sl true 1 [], .lit (.string ByteArray.empty), .sl true 1 [], .lit (.bool false), .sl true 1 [], .lit (.string ByteArray.empty), .sl true 1 [], .lit (.bool false), .sl true 1 [], .lit (.string ByteArray.empty), .sl true 1 [], .lit (.bool false), .sl true 1 [], .lit (.string ByteArray.empty), .sl true 1 [], .lit (.bool false), .sl true 1 [], .lit (.string ByteArray.empty), .sl true 1 [], .lit (.bool false), .sl true 1 [], .lit (.string ByteArray.empty), .sl true 1 [], .lit (.bool false), .sl true 1 [], .lit (.string ByteArray.empty), .sl true 1 [], .lit (.bool false), .sl true 1 [], .lit (.string ByteArray.empty), .sl true 1 [], .lit (.bool false), .sl true 1 [], .lit (.string ByteArray.empty), .sl true 1 [], .lit (.bool false), .sl true 1 [], .lit (.string ByteArray.empty), .sl true 1 [], .lit (.bool false), .sl true 1 [], .lit (.string ByteArray.empty), .sl true 1 [], .lit (.bool false), .sl true 1 [], .lit (.string ByteArray.empty), .sl true 1 [], .lit (.bool false), .sl true 1 []]),
  (64, .agg [.lit (.int .i64 0), .lit (.int .i64 0)]),
  (65, .agg [.lit (.int .i64 0), .lit (.int .i64 0)]),
  (67, .agg [.lit (.string ByteArray.empty), .sl true 1 [], .sl true 1 []]),
  (68, .agg [.lit (.string ByteArray.empty), .sl true 1 [], .sl true 1 []]),
  (69, .sl true 1 []),
  (77, .sl true 1 []),
  (81, .agg [.lit (.string ByteArray.empty), .sl true 1 [], .lit (.string ByteArray.empty)]),
  (82, .agg [.lit (.string ByteArray.empty), .sl true 1 [], .lit (.string ByteArray.empty)]),
  (83, .agg [.lit (.string ByteArray.empty), .sl true 1 [], .lit (.string ByteArray.empty), .lit (.string ByteArray.empty), .sl true 1 [], .lit (.string ByteArray.empty), .lit (.string ByteArray.empty), .sl true 1 [], .lit (.string ByteArray.empty), .lit (.string ByteArray.empty), .sl true 1 [], .lit (.string ByteArray.empty), .lit (.string ByteArray.empty), .sl true 1 [], .lit (.string ByteArray.empty), .lit (.string ByteArray.empty), .sl true 1 [], .lit (.string ByteArray.empty), .lit (.string ByteArray.empty), .sl true 1 [], .lit (.string ByteArray.empty), .lit (.string ByteArray.empty), .sl true 1 [], .lit (.string ByteArray.empty), .lit (.string ByteArray.empty), .sl true 1 [], .lit (.string ByteArray.empty), .lit (.string ByteArray.empty), .sl true 1 [], .lit (.string ByteArray.empty), .lit (.string ByteArray.empty), .sl true 1 [], .lit (.string ByteArray.empty), .lit (.string ByteArray.empty), .sl true 1 [], .lit (.string ByteArray.empty), .lit (.string ByteArray.empty), .sl true 1 [], .lit (.string ByteArray.empty), .lit (.string ByteArray.empty), .sl true 1 [], .lit (.string ByteArray.empty), .lit (.string ByteArray.empty), .sl true 1 [], .lit (.string ByteArray.empty), .lit (.string ByteArray.empty), .sl true 1 [], .lit (.string ByteArray.empty), .lit (.string ByteArray.empty), .sl true 1 [], .lit (.string ByteArray.empty), .lit (.string ByteArray.empty), .sl true 1 [], .lit (.string ByteArray.empty), .lit (.string ByteArray.empty), .sl true 1 [], .lit (.string ByteArray.empty), .lit (.string ByteArray.empty), .sl true 1 [], .lit (.string ByteArray.empty), .lit (.string ByteArray.empty), .sl true 1 [], .lit (.string ByteArray.empty), .lit (.string ByteArray.empty), .sl true 1 [], .lit (.string ByteArray.empty)]),
  (89, .sl true 4 []),
  (91, .sl true 1 []),
  (92, .lit (.pointer none)),
  (98, .lit (.int .u64 0)),
  (108, .lit (.int .u32 0)),
  (113, .lit (.pointer none)),
  (114, .sl true 1 []),
  (115, .agg [.lit (.pointer none), .sl true 1 []]),
  (116, .agg [.lit (.pointer none), .sl true 1 []]),
  (121, .lit (.int .i64 0)),
  (124, .lit (.pointer none)),
  (129, .lit (.pointer none)),
  (130, .lit (.int .u64 0)),
  (134, .agg [.lit (.string ByteArray.empty), .lit (.string ByteArray.empty), .lit .nilIface]),
  (135, .agg [.lit (.string ByteArray.empty), .lit (.string ByteArray.empty), .lit .nilIface]),
  (137, .agg [.lit (.int .u8 0), .lit (.int .u8 0), .lit (.int .u8 0), .lit (.int .u8 0), .lit (.int .u8 0), .lit (.int .u8 0), .lit (.int .u8 0), .lit (.int .u8 0), .lit (.int .u8 0), .lit (.int .u8 0), .lit (.int .u8 0), .lit (.int .u8 0), .lit (.int .u8 0), .lit (.int .u8 0), .lit (.int .u8 0), .lit (.int .u8 0), .lit (.int .u8 0), .lit (.int .u8 0), .lit (.int .u8 0), .lit (.int .u8 0), .lit (.int .u8 0), .lit (.int .u8 0), .lit (.int .u8 0), .lit (.int .u8 0)]),
  (146, .agg [.lit (.int .u8 0), .lit (.int .u8 0)]),
  (147, .agg [.lit (.int .u8 0), .lit (.int .u8 0)]),
  (148, .agg [.lit (.int .u8 0), .lit (.int .u8 0), .lit (.int .u8 0), .lit (.int .u8 0), .lit (.int .u8 0), .lit (.int .u8 0), .lit (.int .u8 0), .lit (.int .u8 0), .lit (.int .u8 0), .lit (.int .u8 0), .lit (.int .u8 0), .lit (.int .u8 0), .lit (.int .u8 0), .lit (.int .u8 0), .lit (.int .u8 0), .lit (.int .u8 0), .lit (.int .u8 0), .lit (.int .u8 0), .lit (.int .u8 0), .lit (.int .u8 0), .lit (.int .u8 0), .lit (.int .u8 0), .lit (.int .u8 0), .lit (.int .u8 0), .lit (.int .u8 0), .lit (.int .u8 0), .lit (.int .u8 0), .lit (.int .u8 0), .lit (.int .u8 0), .lit (.int .u8 0), .lit (.int .u8 0), .lit (.int .u8 0)]),
  (151, .lit (.pointer none)),
  (152, .agg [.lit (.string ByteArray.empty)]),
  (153, .agg [.lit (.string ByteArray.empty)]),
  (155, .agg [.lit (.int .u64 0), .lit (.int .u64 0), .lit (.int .u64 0), .lit (.int .u64 0), .lit (.int .u64 0), .lit (.int .u64 0), .lit (.int .u64 0), .lit (.int .u64 0), .lit (.int .u64 0), .lit (.int .u64 0), .lit (.int .u64 0), .lit (.int .u64 0), .lit (.int .u64 0), .lit (.int .u64 0), .lit (.int .u64 0), .lit (.int .u64 0), .lit (.int .u64 0), .lit (.int .u64 0), .lit (.int .u64 0), .lit (.int .u64 0)]),
  (156, .agg [.lit (.int .u8 0), .lit (.int .u8 0), .lit (.int .u8 0), .lit (.int .u8 0), .lit (.int .u8 0), .lit (.int .u8 0), .lit (.int .u8 0), .lit (.int .u8 0), .lit (.int .u8 0), .lit (.int .u8 0), .lit (.int .u8 0), .lit (.int .u8 0), .lit (.int .u8 0), .lit (.int .u8 0), .lit (.int .u8 0), .lit (.int .u8 0), .lit (.int .u8 0), .lit (.int .u8 0), .lit (.int .u8 0), .lit (.int .u8 0), .lit (.int .u8 0), .lit (.int .u8 0), .lit (.int .u8 0), .lit (.int .u8 0), .lit (.int .u8 0), .lit (.int .u8 0), .lit (.int .u8 0), .lit (.int .u8 0), .lit (.int .u8 0), .lit (.int .u8 0), .lit (.int .u8 0), .lit (.int .u8 0), .lit (.int .u8 0), .lit (.int .u8 0), .lit (.int .u8 0), .lit (.int .u8 0), .lit (.int .u8 0), .lit (.int .u8 0), .lit (.int .u8 0), .lit (.int .u8 0), .lit (.int .u8 0), .lit (.int .u8 0), .lit (.int .u8 0), .lit (.int .u8 0), .lit (.int .u8 0), .lit (.int .u8 0), .lit (.int .u8 0), .lit (.int .u8 0), .lit (.int .u8 0), .lit (.int .u8 0), .lit (.int .u8 0), .lit (.int .u8 0), .lit (.int .u8 0), .lit (.int .u8 0), .lit (.int .u8 0), .lit (.int .u8 0), .lit (.int .u8 0), .lit (.int .u8 0), .lit (.int .u8 0), .lit (.int .u8 0), .lit (.int .u8 0), .lit (.int .u8 0), .lit (.int .u8 0), .lit (.int .u8 0), .lit (.int .u8 0)]),
  (160, .agg [.lit (.int .u8 0), .lit (.int .u8 0), .lit (.int .u8 0), .lit (.int .u8 0), .lit (.int .u8 0), .lit (.int .u8 0), .lit (.int .u8 0), .lit (.int .u8 0), .lit (.int .u8 0), .lit (.int .u8 0), .lit (.int .u8 0), .lit (.int .u8 0), .lit (.int .u8 0), .lit (.int .u8 0), .lit (.int .u8 0), .lit (.int .u8 0), .lit (.int .u8 0), .lit (.int .u8 0), .lit (.int .u8 0), .lit (.int .u8 0), .lit (.int .u8 0), .lit (.int .u8 0), .lit (.int .u8 0), .lit (.int .u8 0), .lit (.int .u8 0), .lit (.int .u8 0), .lit (.int .u8 0), .lit (.int .u8 0), .lit (.int .u8 0), .lit (.int .u8 0), .lit (.int .u8 0), .lit (.int .u8 0)]),
  (161, .agg [.lit (.int .u8 0), .lit (.int .u8 0), .lit (.int .u8 0), .lit (.int .u8 0), .lit (.int .u8 0), .lit (.int .u8 0), .lit (.int .u8 0), .lit (.int .u8 0), .lit (.int .u8 0), .lit (.int .u8 0), .lit (.int .u8 0), .lit (.int .u8 0), .lit (.int .u8 0), .lit (.int .u8 0), .lit (.int .u8 0), .lit (.int .u8 0), .lit (.int .u8 0), .lit (.int .u8 0), .lit (.int .u8 0), .lit (.int .u8 0), .lit (.int .u8 0), .lit (.int .u8 0), .lit (.int .u8 0), .lit (.int .u8 0), .lit (.int .u8 0), .lit (.int .u8 0), .lit (.int .u8 0), .lit (.int .u8 0), .lit (.int .u8 0), .lit (.int .u8 0), .lit (.int .u8 0), .lit (.int .u8 0), .lit (.int .u8 0), .lit (.int .u8 0), .lit (.int .u8 0), .lit (.int .u8 0), .lit (.int .u8 0), .lit (.int .u8 0), .lit (.int .u8 0), .lit (.int .u8 0), .lit (.int .u8 0), .lit (.int .u8 0), .lit (.int .u8 0), .lit (.int .u8 0), .lit (.int .u8 0), .lit (.int .u8 0), .lit (.int .u8 0), .lit (.int .u8 0), .lit (.int .u8 0), .lit (.int .u8 0), .lit (.int .u8 0), .lit (.int .u8 0), .lit (.int .u8 0), .lit (.int .u8 0), .lit (.int .u8 0), .lit (.int .u8 0), .lit (.int .u8 0), .lit (.int .u8 0), .lit (.int .u8 0), .lit (.int .u8 0), .lit (.int .u8 0), .lit (.int .u8 0), .lit (.int .u8 0), .lit (.int .u8 0)]),
  (162, .agg [.lit (.pointer none), .lit (.pointer none), .lit (.pointer none), .lit (.string ByteArray.empty)]),
  (163, .agg [.lit (.pointer none), .lit (.pointer none), .lit (.pointer none), .lit (.string ByteArray.empty)]),
  (168, .lit (.int .u8 0)),
  (169, .lit (.int .u8 0)),
  (171, .lit (.int .i32 0)),
  (172, .lit (.int .i32 0)),
  (173, .agg [.lit (.int .u64 0), .lit (.int .u64 0), .lit (.int .u32 0), .lit (.int .u8 0), .lit (.int .u8 0), .lit (.int .u8 0), .lit (.int .u8 0), .lit .nilFunc, .lit (.pointer none), .lit (.int .i32 0), .lit (.int .i32 0)]),
  (174, .agg [.lit (.int .u64 0), .lit (.int .u64 0), .lit (.int .u32 0), .lit (.int .u8 0), .lit (.int .u8 0), .lit (.int .u8 0), .lit (.int .u8 0), .lit .nilFunc, .lit (.pointer none), .lit (.int .i32 0), .lit (.int .i32 0)])]
def zer (t : TypeId) : AV := lookZ zerL t
theorem zr2 : ZerOk Tryd.prog (2, .lit (.int .i64 0)) := fun v h => by
  rw [show zeroT Tryd.prog 2 = some (.int .i64 0) from by kernel_rfl] at h; cases h; exact .lit _
theorem zv2 : zer 2 = .lit (.int .i64 0) := rfl
theorem zr3 : ZerOk Tryd.prog (3, .lit (.int .i64 0)) := fun v h => by
  rw [show zeroT Tryd.prog 3 = some (.int .i64 0) from by kernel_rfl] at h; cases h; exact .lit _
theorem zv3 : zer 3 = .lit (.int .i64 0) := rfl
theorem zr4 : ZerOk Tryd.prog (4, .lit (.bool false)) := fun v h => by
  rw [show zeroT Tryd.prog 4 = some (.bool false) from by kernel_rfl] at h; cases h; exact .lit _
theorem zv4 : zer 4 = .lit (.bool false) := rfl
theorem zr5 : ZerOk Tryd.prog (5, .lit (.int .u8 0)) := fun v h => by
  rw [show zeroT Tryd.prog 5 = some (.int .u8 0) from by kernel_rfl] at h; cases h; exact .lit _
theorem zv5 : zer 5 = .lit (.int .u8 0) := rfl
theorem zr6 : ZerOk Tryd.prog (6, .lit (.int .u8 0)) := fun v h => by
  rw [show zeroT Tryd.prog 6 = some (.int .u8 0) from by kernel_rfl] at h; cases h; exact .lit _
theorem zv6 : zer 6 = .lit (.int .u8 0) := rfl
theorem zr7 : ZerOk Tryd.prog (7, .agg [.lit (.int .i64 0), .lit (.int .i64 0), .lit (.bool false), .lit (.int .u8 0)]) := fun v h => by
  rw [show zeroT Tryd.prog 7 = some (.agg #[(.int .i64 0), (.int .i64 0), (.bool false), (.int .u8 0)]) from by kernel_rfl] at h; cases h
  exact zr_agg _ _ (zl_cons (.lit _) rfl (zl_cons (.lit _) rfl (zl_cons (.lit _) rfl (zl_cons (.lit _) rfl (zl_nil)))))
theorem zv7 : zer 7 = .agg [.lit (.int .i64 0), .lit (.int .i64 0), .lit (.bool false), .lit (.int .u8 0)] := rfl
theorem zr8 : ZerOk Tryd.prog (8, .agg [.lit (.int .i64 0), .lit (.int .i64 0), .lit (.bool false), .lit (.int .u8 0)]) := fun v h => by
  rw [show zeroT Tryd.prog 8 = some (.agg #[(.int .i64 0), (.int .i64 0), (.bool false), (.int .u8 0)]) from by kernel_rfl] at h; cases h
  exact zr_agg _ _ (zl_cons (.lit _) rfl (zl_cons (.lit _) rfl (zl_cons (.lit _) rfl (zl_cons (.lit _) rfl (zl_nil)))))
theorem zv8 : zer 8 = .agg [.lit (.int .i64 0), .lit (.int .i64 0), .lit (.bool false), .lit (.int .u8 0)] := rfl
theorem zr9 : ZerOk Tryd.prog (9, .lit (.string ByteArray.empty)) := fun v h => by
  rw [show zeroT Tryd.prog 9 = some (.string ByteArray.empty) from by kernel_rfl] at h; cases h; exact .lit _
theorem zv9 : zer 9 = .lit (.string ByteArray.empty) := rfl
theorem zr10 : ZerOk Tryd.prog (10, .lit (.string ByteArray.empty)) := fun v h => by
  rw [show zeroT Tryd.prog 10 = some (.string ByteArray.empty) from by kernel_rfl] at h; cases h; exact .lit _
theorem zv10 : zer 10 = .lit (.string ByteArray.empty) := rfl
theorem zr11 : ZerOk Tryd.prog (11, .lit (.string ByteArray.empty)) := fun v h => by
  rw [show zeroT Tryd.prog 11 = some (.string ByteArray.empty) from by kernel_rfl] at h; cases h; exact .lit _
theorem zv11 : zer 11 = .lit (.string ByteArray.empty) := rfl
theorem zr12 : ZerOk Tryd.prog (12, .lit (.int .u64 0)) := fun v h => by
  rw [show zeroT Tryd.prog 12 = some (.int .u64 0) from by kernel_rfl] at h; cases h; exact .lit _
theorem zv12 : zer 12 = .lit (.int .u64 0) := rfl
theorem zr13 : ZerOk Tryd.prog (13, .agg [.lit (.string ByteArray.empty), .lit (.int .u64 0)]) := fun v h => by
  rw [show zeroT Tryd.prog 13 = some (.agg #[(.string ByteArray.empty), (.int .u64 0)]) from by kernel_rfl] at h; cases h
  exact zr_agg _ _ (zl_cons (.lit _) rfl (zl_cons (.lit _) rfl (zl_nil)))
theorem zv13 : zer 13 = .agg [.lit (.string ByteArray.empty), .lit (.int .u64 0)] := rfl
theorem zr14 : ZerOk Tryd.prog (14, .agg [.lit (.string ByteArray.empty), .lit (.int .u64 0)]) := fun v h => by
  rw [show zeroT Tryd.prog 14 = some (.agg #[(.string ByteArray.empty), (.int .u64 0)]) from by kernel_rfl] at h; cases h
  exact zr_agg _ _ (zl_cons (.lit _) rfl (zl_cons (.lit _) rfl (zl_nil)))
theorem zv14 : zer 14 = .agg [.lit (.string ByteArray.empty), .lit (.int .u64 0)] := rfl
theorem zr15 : ZerOk Tryd.prog (15, .lit (.pointer none)) := fun v h => by
  rw [show zeroT Tryd.prog 15 = some (.pointer none) from by kernel_rfl] at h; cases h; exact .lit _
theorem zv15 : zer 15 = .lit (.pointer none) := rfl
theorem zr16 : ZerOk Tryd.prog (16, .lit (.pointer none)) := fun v h => by
  rw [show zeroT Tryd.prog 16 = some (.pointer none) from by kernel_rfl] at h; cases h; exact .lit _
theorem zv16 : zer 16 = .lit (.pointer none) := rfl
theorem zr17 : ZerOk Tryd.prog (17, .lit (.pointer none)) := fun v h => by
  rw [show zeroT Tryd.prog 17 = some (.pointer none) from by kernel_rfl] at h; cases h; exact .lit _
theorem zv17 : zer 17 = .lit (.pointer none) := rfl
theorem zr18 : ZerOk Tryd.prog (18, .agg [.lit (.pointer none)]) := fun v h => by
  rw [show zeroT Tryd.prog 18 = some (.agg #[(.pointer none)]) from by kernel_rfl] at h; cases h
  exact zr_agg _ _ (zl_cons (.lit _) rfl (zl_nil))
theorem zv18 : zer 18 = .agg [.lit (.pointer none)] := rfl
theorem zr19 : ZerOk Tryd.prog (19, .agg [.lit (.pointer none)]) := fun v h => by
  rw [show zeroT Tryd.prog 19 = some (.agg #[(.pointer none)]) from by kernel_rfl] at h; cases h
  exact zr_agg _ _ (zl_cons (.lit _) rfl (zl_nil))
theorem zv19 : zer 19 = .agg [.lit (.pointer none)] := rfl
theorem zr21 : ZerOk Tryd.prog (21, .lit (.int .i32 0)) := fun v h => by
  rw [show zeroT Tryd.prog 21 = some (.int .i32 0) from by kernel_rfl] at h; cases h; exact .lit _
theorem zv21 : zer 21 = .lit (.int .i32 0) := rfl
theorem zr22 : ZerOk Tryd.prog (22, .sl true 6 []) := fun v h => by
  rw [show zeroT Tryd.prog 22 = some (.slice none 0 0) from by kernel_rfl] at h; cases h; exact .nil _ _ _
theorem zv22 : zer 22 = .sl true 6 [] := rfl
theorem zr25 : ZerOk Tryd.prog (25, .sl true 1 []) := fun v h => by
  rw [show zeroT Tryd.prog 25 = some (.slice none 0 0) from by kernel_rfl] at h; cases h; exact .nil _ _ _
theorem zv25 : zer 25 = .sl true 1 [] := rfl
theorem zr31 : ZerOk Tryd.prog (31, .agg [.lit (.int .i64 0), .lit (.string ByteArray.empty), .lit (.int .i64 0), .lit (.int .i64 0), .lit (.int .i64 0), .lit (.int .i64 0)]) := fun v h => by
  rw [show zeroT Tryd.prog 31 = some (.agg #[(.int .i64 0), (.string ByteArray.empty), (.int .i64 0), (.int .i64 0), (.int .i64 0), (.int .i64 0)]) from by kernel_rfl] at h; cases h
  exact zr_agg _ _ (zl_cons (.lit _) rfl (zl_cons (.lit _) rfl (zl_cons (.lit _) rfl (zl_cons (.lit _) rfl (zl_cons (.lit _) rfl (zl_cons (.lit _) rfl (zl_nil)))))))
theorem zv31 : zer 31 = .agg [.lit (.int .i64 0), .lit (.string ByteArray.empty), .lit (.int .i64 0), .lit (.int .i64 0), .lit (.int .i64 0), .lit (.int .i64 0)] := rfl
theorem zr32 : ZerOk Tryd.prog (32, .agg [.lit (.int .i64 0), .lit (.string ByteArray.empty), .lit (.int .i64 0), .lit (.int .i64 0), .lit (.int .i64 0), .lit (.int .i64 0)]) := fun v h => by
  rw [show zeroT Tryd.prog 32 = some (.agg #[(.int .i64 0), (.string ByteArray.empty), (.int .i64 0), (.int .i64 0), (.int .i64 0), (.int .i64 0)]) from by kernel_rfl] at h; cases h
  exact zr_agg _ _ (zl_cons (.lit _) rfl (zl_cons (.lit _) rfl (zl_cons (.lit _) rfl (zl_cons (.lit _) rfl (zl_cons (.lit _) rfl (zl_cons (.lit _) rfl (zl_nil)))))))
theorem zv32 : zer 32 = .agg [.lit (.int .i64 0), .lit (.string ByteArray.empty), .lit (.int .i64 0), .lit (.int .i64 0), .lit (.int .i64 0), .lit (.int .i64 0)] := rfl
theorem zr38 : ZerOk Tryd.prog (38, .lit (.int .i64 0)) := fun v h => by
  rw [show zeroT Tryd.prog 38 = some (.int .i64 0) from by kernel_rfl] at h; cases h; exact .lit _
theorem zv38 : zer 38 = .lit (.int .i64 0) := rfl
theorem zr42 : ZerOk Tryd.prog (42, .sl true 2 []) := fun v h => by
  rw [show zeroT Tryd.prog 42 = some (.slice none 0 0) from by kernel_rfl] at h; cases h; exact .nil _ _ _
theorem zv42 : zer 42 = .sl true 2 [] := rfl
theorem zr43 : ZerOk Tryd.prog (43, .sl true 3 []) := fun v h => by
  rw [show zeroT Tryd.prog 43 = some (.slice none 0 0) from by kernel_rfl] at h; cases h; exact .nil _ _ _
theorem zv43 : zer 43 = .sl true 3 [] := rfl
theorem zr44 : ZerOk Tryd.prog (44, .agg [.lit (.int .i64 0), .lit (.int .i64 0), .sl true 6 [], .sl true 2 [], .sl true 2 [], .sl true 3 []]) := fun v h => by
  rw [show zeroT Tryd.prog 44 = some (.agg #[(.int .i64 0), (.int .i64 0), (.slice none 0 0), (.slice none 0 0), (.slice none 0 0), (.slice none 0 0)]) from by kernel_rfl] at h; cases h
  exact zr_agg _ _ (zl_cons (.lit _) rfl (zl_cons (.lit _) rfl (zl_cons (.nil _ _ _) rfl (zl_cons (.nil _ _ _) rfl (zl_cons (.nil _ _ _) rfl (zl_cons (.nil _ _ _) rfl (zl_nil)))))))
theorem zv44 : zer 44 = .agg [.lit (.int .i64 0), .lit (.int .i64 0), .sl true 6 [], .sl true 2 [], .sl true 2 [], .sl true 3 []] := rfl
theorem zr45 : ZerOk Tryd.prog (45, .agg [.lit (.int .i64 0), .lit (.int .i64 0), .sl true 6 [], .sl true 2 [], .sl true 2 [], .sl true 3 []]) := fun v h => by
  rw [show zeroT Tryd.prog 45 = some (.agg #[(.int .i64 0), (.int .i64 0), (.slice none 0 0), (.slice none 0 0), (.slice none 0 0), (.slice none 0 0)]) from by kernel_rfl] at h; cases h
  exact zr_agg _ _ (zl_cons (.lit _) rfl (zl_cons (.lit _) rfl (zl_cons (.nil _ _ _) rfl (zl_cons (.nil _ _ _) rfl (zl_cons (.nil _ _ _) rfl (zl_cons (.nil _ _ _) rfl (zl_nil)))))))
theorem zv45 : zer 45 = .agg [.lit (.int .i64 0), .lit (.int .i64 0), .sl true 6 [], .sl true 2 [], .sl true 2 [], .sl true 3 []] := rfl
theorem zr46 : ZerOk Tryd.prog (46, .agg [.lit (.string ByteArray.empty), .sl true 1 [], .lit (.bool false), .sl true 1 []]) := fun v h => by
  rw [show zeroT Tryd.prog 46 = some (.agg #[(.string ByteArray.empty), (.slice none 0 0), (.bool false), (.slice none 0 0)]) from by kernel_rfl] at h; cases h
  exact zr_agg _ _ (zl_cons (.lit _) rfl (zl_cons (.nil _ _ _) rfl (zl_cons (.lit _) rfl (zl_cons (.nil _ _ _) rfl (zl_nil)))))
theorem zv46 : zer 46 = .agg [.lit (.string ByteArray.empty), .sl true 1 [], .lit (.bool false), .sl true 1 []] := rfl
theorem zr47 : ZerOk Tryd.prog (47, .agg [.lit (.string ByteArray.empty), .sl true 1 [], .lit (.bool false), .sl true 1 []]) := fun v h => by
  rw [show zeroT Tryd.prog 47 = some (.agg #[(.string ByteArray.empty), (.slice none 0 0), (.bool false), (.slice none 0 0)]) from by kernel_rfl] at h; cases h
  exact zr_agg _ _ (zl_cons (.lit _) rfl (zl_cons (.nil _ _ _) rfl (zl_cons (.lit _) rfl (zl_cons (.nil _ _ _) rfl (zl_nil)))))
theorem zv47 : zer 47 = .agg [.lit (.string ByteArray.empty), .sl true 1 [], .lit (.bool false), .sl true 1 []] := rfl
theorem zr50 : ZerOk Tryd.prog (50, .agg [.lit (.int .i64 0), .lit (.int .i64 0), .lit (.int .i64 0), .lit (.int .i64 0)]) := fun v h => by
  rw [show zeroT Tryd.prog 50 = some (.agg #[(.int .i64 0), (.int .i64 0), (.int .i64 0), (.int .i64 0)]) from by kernel_rfl] at h; cases h
  exact zr_agg _ _ (zl_cons (.lit _) rfl (zl_cons (.lit _) rfl (zl_cons (.lit _) rfl (zl_cons (.lit _) rfl (zl_nil)))))
theorem zv50 : zer 50 = .agg [.lit (.int .i64 0), .lit (.int .i64 0), .lit (.int .i64 0), .lit (.int .i64 0)] := rfl
theorem zr53 : ZerOk Tryd.prog (53, .agg [.lit (.string ByteArray.empty), .sl true 1 [], .lit (.bool false), .sl true 1 [], .lit (.string ByteArray.empty), .sl true 1 [], .lit (.bool false), .sl true 1 [], .lit (.string ByteArray.empty), .sl true 1 [], .lit (.bool false), .sl true 1 [], .lit (.string ByteArray.empty), .sl true 1 [], .lit (.bool false), .sl true 1 [], .lit (.string ByteArray.empty), .sl true 1 [], .lit (.bool false), .sl true 1 [], .lit (.string ByteArray.empty), .sl true 1 [], .lit (.bool false), .sl true 1 [], .lit (.string ByteArray.empty), .sl true 1 [], .lit (.bool false), .sl true 1 [], .lit (.string ByteArray.empty), .sl true 1 [], .lit (.bool false), .sl true 1 [], .lit (.string ByteArray.empty), .sl true 1 [], .lit (.bool false), .sl true 1 [], .lit (.string ByteArray.empty), .sl true 1 [], .lit (.bool false), .sl true 1 [], .lit (.string ByteArray.empty), .sl true 1 [], .lit (.bool false), .sl true 1 [], .lit (.string ByteArray.empty), .sl true 1 [], .lit (.bool false), .sl true 1 [], .lit (.string ByteArray.empty), .sl true 1 [], .lit (.bool false), .sl true 1 [], .lit (.string ByteArray.empty), .sl true 1 [], .lit (.bool false), .sl true 1 [], .lit (.string ByteArray.empty), .sl true 1 [], .lit (.bool false), .sl true 1 [], .lit (.string ByteArray.empty), .sl true 1 [], .lit (.bool false), .sl true 1 []]) := fun v h => by
  rw [show zeroT Tryd.prog 53 = some (.agg #[(.string ByteArray.empty), (.slice none 0 0), (.bool false), (.slice none 0 0), (.string ByteArray.empty), (.slice none 0 0), (.bool false), (.slice none 0 0), (.string ByteArray.empty), (.slice none 0 0), (.bool false), (.slice none 0 0), (.string ByteArray.empty), (.slice none 0 0), (.bool false), (.slice none 0 0), (.string ByteArray.empty), (.slice none 0 0), (.bool false), (.slice none 0 0), (.string ByteArray.empty), (.slice none 0 0), (.bool false), (.slice none 0 0), (.string ByteArray.empty), (.slice none 0 0), (.bool false), (.slice none 0 0), (.string ByteArray.empty), (.slice none 0 0), (.bool false), (.slice none 0 0), (.string ByteArray.empty), (.slice none 0 0), (.bool false), (.slice none 0 0), (.string ByteArray.empty), (.slice none 0 0), (.bool false), (.slice none 0 0), (.string ByteArray.empty), (.slice none 0 0), (.bool false), (.slice none 0 0), (.string ByteArray.empty), (.slice none 0 0), (.bool false), (.slice none 0 0), (.string ByteArray.empty), (.slice none 0 0), (.bool false), (.slice none 0 0), (.string ByteArray.empty), (.slice none 0 0), (.bool false), (.slice none 0 0), (.string ByteArray.empty), (.slice none 0 0), (.bool false), (.slice none 0 0), (.string ByteArray.empty), (.slice none 0 0), (.bool false), (.slice none 0 0)]) from by kernel_rfl] at h; cases h
  exact zr_agg _ _ (zl_cons (.lit _) rfl (zl_cons (.nil _ _ _) rfl (zl_cons (.lit _) rfl (zl_cons (.nil _ _ _) rfl (zl_cons (.lit _) rfl (zl_cons (.nil _ _ _) rfl (zl_cons (.lit _) rfl (zl_cons (.nil _ _ _) rfl (zl_cons (.lit _) rfl (zl_cons (.nil _ _ _) rfl (zl_cons (.lit _) rfl (zl_cons (.nil _ _ _) rfl (zl_cons (.lit _) rfl (zl_cons (.nil _ _ _) rfl (zl_cons (.lit _) rfl (zl_cons (.nil _ _ _) rfl (zl_cons (.lit _) rfl (zl_cons (.nil _ _ _) rfl (zl_cons (.lit _) rfl (zl_cons (.nil _ _ _) rfl (zl_cons (.lit _) rfl (zl_cons (.nil _ _ _) rfl (zl_cons (.lit _) rfl (zl_cons (.nil _ _ _) rfl (zl_cons (.lit _) rfl (zl_cons (.nil _ _ _) rfl (zl_cons (.lit _) rfl (zl_cons (.nil _ _ _) rfl (zl_cons (.lit _) rfl (zl_cons (.nil _ _ _) rfl (zl_cons (.lit _) rfl (zl_cons (.nil _ _ _) rfl (zl_cons (.lit _) rfl (zl_cons (.nil _ _ _) rfl (zl_cons (.lit _) rfl (zl_cons (.nil _ _ _) rfl (zl_cons (.lit _) rfl (zl_cons (.nil _ _ _) rfl (zl_cons (.lit _) rfl (zl_cons (.nil _ _ _) rfl (zl_cons (.lit _) rfl (zl_cons (.nil _ _ _) rfl (zl_cons (.lit _) rfl (zl_cons (.nil _ _ _) rfl (zl_cons (.lit _) rfl (zl_cons (.nil _ _ _) rfl (zl_cons (.lit _) rfl (zl_cons (.nil _ _ _) rfl (zl_cons (.lit _) rfl (zl_cons (.nil _ _ _) rfl (zl_cons (.lit _) rfl (zl_cons (.nil _ _ _) rfl (zl_cons (.lit _) rfl (zl_cons (.nil _ _ _) rfl (zl_cons (.lit _) rfl (zl_cons (.nil _ _ _) rfl (zl_cons (.lit _) rfl (zl_cons (.nil _ _ _) rfl (zl_cons (.lit _) rfl (zl_cons (.nil _ _ _) rfl (zl_cons (.lit _) rfl (zl_cons (.nil _ _ _) rfl (zl_cons (.lit _) rfl (zl_cons (.nil _ _ _) rfl (zl_nil)))))))))))))))))))))))))))))))))))))))))))))))))))))))))))))))))
theorem zv53 : zer 53 = .agg [.lit (.string ByteArray.empty), .sl true 1 [], .lit (.bool false), .sl true 1 [], .lit (.string ByteArray.empty), .sl true 1 [], .lit (.bool false), .sl true 1 [], .lit (.string ByteArray.empty), .sl true 1 [], .lit (.bool false), .sl true 1 [], .lit (.string ByteArray.empty), .sl true 1 [], .lit (.bool false), .sl true 1 [], .lit (.string ByteArray.empty), .sl true 1 [], .lit (.bool false), .sl true 1 [], .lit (.string ByteArray.empty), .sl true 1 [], .lit (.bool false), .sl true 1 [], .lit (.string ByteArray.empty), .sl true 1 [], .lit (.bool false), .sl true 1 [], .lit (.string ByteArray.empty), .sl true 1 [], .lit (.bool false), .sl true 1 [], .lit (.string ByteArray.empty), .sl true 1 [], .lit (.bool false), .sl true 1 [], .lit (.string ByteArray.empty), .sl true 1 [], .lit (.bool false), .sl true 1 [], .lit (.string ByteArray.empty), .sl true 1 [], .lit (.bool false), .sl true 1 [], .lit (.string ByteArray.empty), .sl true 1 [], .lit (.bool false), .sl true 1 [], .lit (.string ByteArray.empty), .sl true 1 [], .lit (.bool false), .sl true 1 [], .lit (.string ByteArray.empty), .sl true 1 [], .lit (.bool false), .sl true 1 [], .lit (.string ByteArray.empty), .sl true 1 [], .lit (.bool false), .sl true 1 [], .lit (.string ByteArray.empty), .sl true 1 [], .lit (.bool false), .sl true 1 []] := rfl
theorem zr64 : ZerOk Tryd.prog (64, .agg [.lit (.int .i64 0), .lit (.int .i64 0)]) := fun v h => by
  rw [show zeroT Tryd.prog 64 = some (.agg #[(.int .i64 0), (.int .i64 0)]) from by kernel_rfl] at h; cases h
  exact zr_agg _ _ (zl_cons (.lit _) rfl (zl_cons (.lit _) rfl (zl_nil)))
theorem zv64 : zer 64 = .agg [.lit (.int .i64 0), .lit (.int .i64 0)] := rfl
theorem zr65 : ZerOk Tryd.prog (65, .agg [.lit (.int .i64 0), .lit (.int .i64 0)]) := fun v h => by
  rw [show zeroT Tryd.prog 65 = some (.agg #[(.int .i64 0), (.int .i64 0)]) from by kernel_rfl] at h; cases h
  exact zr_agg _ _ (zl_cons (.lit _) rfl (zl_cons (.lit _) rfl (zl_nil)))
theorem zv65 : zer 65 = .agg [.lit (.int .i64 0), .lit (.int .i64 0)] := rfl
theorem zr67 : ZerOk Tryd.prog (67, .agg [.lit (.string ByteArray.empty), .sl true 1 [], .sl true 1 []]) := fun v h => by
  rw [show zeroT Tryd.prog 67 = some (.agg #[(.string ByteArray.empty), (.slice none 0 0), (.slice none 0 0)]) from by kernel_rfl] at h; cases h
  exact zr_agg _ _ (zl_cons (.lit _) rfl (zl_cons (.nil _ _ _) rfl (zl_cons (.nil _ _ _) rfl (zl_nil))))
theorem zv67 : zer 67 = .agg [.lit (.string ByteArray.empty), .sl true 1 [], .sl true 1 []] := rfl
theorem zr68 : ZerOk Tryd.prog (68, .agg [.lit (.string ByteArray.empty), .sl true 1 [], .sl true 1 []]) := fun v h => by
  rw [show zeroT Tryd.prog 68 = some (.agg #[(.string ByteArray.empty), (.slice none 0 0), (.slice none 0 0)]) from by kernel_rfl] at h; cases h
  exact zr_agg _ _ (zl_cons (.lit _) rfl (zl_cons (.nil _ _ _) rfl (zl_cons (.nil _ _ _) rfl (zl_nil))))
theorem zv68 : zer 68 = .agg [.lit (.string ByteArray.empty), .sl true 1 [], .sl true 1 []] := rfl
theorem zr69 : ZerOk Tryd.prog (69, .sl true 1 []) := fun v h => by
  rw [show zeroT Tryd.prog 69 = some (.slice none 0 0) from by kernel_rfl] at h; cases h; exact .nil _ _ _
theorem zv69 : zer 69 = .sl true 1 [] := rfl
theorem zr77 : ZerOk Tryd.prog (77, .sl true 1 []) := fun v h => by
  rw [show zeroT Tryd.prog 77 = some (.slice none 0 0) from by kernel_rfl] at h; cases h; exact .nil _ _ _
theorem zv77 : zer 77 = .sl true 1 [] := rfl
theorem zr81 : ZerOk Tryd.prog (81, .agg [.lit (.string ByteArray.empty), .sl true 1 [], .lit (.string ByteArray.empty)]) := fun v h => by
  rw [show zeroT Tryd.prog 81 = some (.agg #[(.string ByteArray.empty), (.slice none 0 0), (.string ByteArray.empty)]) from by kernel_rfl] at h; cases h
  exact zr_agg _ _ (zl_cons (.lit _) rfl (zl_cons (.nil _ _ _) rfl (zl_cons (.lit _) rfl (zl_nil))))
theorem zv81 : zer 81 = .agg [.lit (.string ByteArray.empty), .sl true 1 [], .lit (.string ByteArray.empty)] := rfl
theorem zr82 : ZerOk Tryd.prog (82, .agg [.lit (.string ByteArray.empty), .sl true 1 [], .lit (.string ByteArray.empty)]) := fun v h => by
  rw [show zeroT Tryd.prog 82 = some (.agg #[(.string ByteArray.empty), (.slice none 0 0), (.string ByteArray.empty)]) from by kernel_rfl] at h; cases h
  exact zr_agg _ _ (zl_cons (.lit _) rfl (zl_cons (.nil _ _ _) rfl (zl_cons (.lit _) rfl (zl_nil))))
theorem zv82 : zer 82 = .agg [.lit (.string ByteArray.empty), .sl true 1 [], .lit (.string ByteArray.empty)] := rfl
theorem zr83 : ZerOk Tryd.prog (83, .agg [.lit (.string ByteArray.empty), .sl true 1 [], .lit (.string ByteArray.empty), .lit (.string ByteArray.empty), .sl true 1 [], .lit (.string ByteArray.empty), .lit (.string ByteArray.empty), .sl true 1 [], .lit (.string ByteArray.empty), .lit (.string ByteArray.empty), .sl true 1 [], .lit (.string ByteArray.empty), .lit (.string ByteArray.empty), .sl true 1 [], .lit (.string ByteArray.empty), .lit (.string ByteArray.empty), .sl true 1 [], .lit (.string ByteArray.empty), .lit (.string ByteArray.empty), .sl true 1 [], .lit (.string ByteArray.empty), .lit (.string ByteArray.empty), .sl true 1 [], .lit (.string ByteArray.empty), .lit (.string ByteArray.empty), .sl true 1 [], .lit (.string ByteArray.empty), .lit (.string ByteArray.empty), .sl true 1 [], .lit (.string ByteArray.empty), .lit (.string ByteArray.empty), .sl true 1 [], .lit (.string ByteArray.empty), .lit (.string ByteArray.empty), .sl true 1 [], .lit (.string ByteArray.empty), .lit (.string ByteArray.empty), .sl true 1 [], .lit (.string ByteArray.empty), .lit (.string ByteArray.empty), .sl true 1 [], .lit (.string ByteArray.empty), .lit (.string ByteArray.empty), .sl true 1 [], .lit (.string ByteArray.empty), .lit (.string ByteArray.empty), .sl true 1 [], .lit (.string ByteArray.empty), .lit (.string ByteArray.empty), .sl true 1 [], .lit (.string ByteArray.empty), .lit (.string ByteArray.empty), .sl true 1 [], .lit (.string ByteArray.empty), .lit (.string ByteArray.empty), .sl true 1 [], .lit (.string ByteArray.empty), .lit (.string ByteArray.empty), .sl true 1 [], .lit (.string ByteArray.empty), .lit (.string ByteArray.empty), .sl true 1 [], .lit (.string ByteArray.empty), .lit (.string ByteArray.empty), .sl true 1 [], .lit (.string ByteArray.empty)]) := fun v h => by
  rw [show zeroT Tryd.prog 83 = some (.agg #[(.string ByteArray.empty), (.slice none 0 0), (.string ByteArray.empty), (.string ByteArray.empty), (.slice none 0 0), (.string ByteArray.empty), (.string ByteArray.empty), (.slice none 0 0), (.string ByteArray.empty), (.string ByteArray.empty), (.slice none 0 0), (.string ByteArray.empty), (.string ByteArray.empty), (.slice none 0 0), (.string ByteArray.empty), (.string ByteArray.empty), (.slice none 0 0), (.string ByteArray.empty), (.string ByteArray.empty), (.slice none 0 0), (.string ByteArray.empty), (.string ByteArray.empty), (.slice none 0 0), (.string ByteArray.empty), (.string ByteArray.empty), (.slice none 0 0), (.string ByteArray.empty), (.string ByteArray.empty), (.slice none 0 0), (.string ByteArray.empty), (.string ByteArray.empty), (.slice none 0 0), (.string ByteArray.empty), (.string ByteArray.empty), (.slice none 0 0), (.string ByteArray.empty), (.string ByteArray.empty), (.slice none 0 0), (.string ByteArray.empty), (.string ByteArray.empty), (.slice none 0 0), (.string ByteArray.empty), (.string ByteArray.empty), (.slice none 0 0), (.string ByteArray.empty), (.string ByteArray.empty), (.slice none 0 0), (.string ByteArray.empty), (.string ByteArray.empty), (.slice none 0 0), (.string ByteArray.empty), (.string ByteArray.empty), (.slice none 0 0), (.string ByteArray.empty), (.string ByteArray.empty), (.slice none 0 0), (.string ByteArray.empty), (.string ByteArray.empty), (.slice none 0 0), (.string ByteArray.empty), (.string ByteArray.empty), (.slice none 0 0), (.string ByteArray.empty), (.string ByteArray.empty), (.slice none 0 0), (.string ByteArray.empty)]) from by kernel_rfl] at h; cases h
  exact zr_agg _ _ (zl_cons (.lit _) rfl (zl_cons (.nil _ _ _) rfl (zl_cons (.lit _) rfl (zl_cons (.lit _) rfl (zl_cons (.nil _ _ _) rfl (zl_cons (.lit _) rfl (zl_cons (.lit _) rfl (zl_cons (.nil _ _ _) rfl (zl_cons (.lit _) rfl (zl_cons (.lit _) rfl (zl_cons (.nil _ _ _) rfl (zl_cons (.lit _) rfl (zl_cons (.lit _) rfl (zl_cons (.nil _ _ _) rfl (zl_cons (.lit _) rfl (zl_cons (.lit _) rfl (zl_cons (.nil _ _ _) rfl (zl_cons (.lit _) rfl (zl_cons (.lit _) rfl (zl_cons (.nil _ _ _) rfl (zl_cons (.lit _) rfl (zl_cons (.lit _) rfl (zl_cons (.nil _ _ _) rfl (zl_cons (.lit _) rfl (zl_cons (.lit _) rfl (zl_cons (.nil _ _ _) rfl (zl_cons (.lit _) rfl (zl_cons (.lit _) rfl (zl_cons (.nil _ _ _) rfl (zl_cons (.lit _) rfl (zl_cons (.lit _) rfl (zl_cons (.nil _ _ _) rfl (zl_cons (.lit _) rfl (zl_cons (.lit _) rfl (zl_cons (.nil _ _ _) rfl (zl_cons (.lit _) rfl (zl_cons (.lit _) rfl (zl_cons (.nil _ _ _) rfl (zl_cons (.lit _) rfl (zl_cons (.lit _) rfl (zl_cons (.nil _ _ _) rfl (zl_cons (.lit _) rfl (zl_cons (.lit _) rfl (zl_cons (.nil _ _ _) rfl (zl_cons (.lit _) rfl (zl_cons (.lit _) rfl (zl_cons (.nil _ _ _) rfl (zl_cons (.lit _) rfl (zl_cons (.lit _) rfl (zl_cons (.nil _ _ _) rfl (zl_cons (.lit _) rfl (zl_cons (.lit _) rfl (zl_cons (.nil _ _ _) rfl (zl_cons (.lit _) rfl (zl_cons (.lit _) rfl (zl_cons (.nil _ _ _) rfl (zl_cons (.lit _) rfl (zl_cons (.lit _) rfl (zl_cons (.nil _ _ _) rfl (zl_cons (.lit _) rfl (zl_cons (.lit _) rfl (zl_cons (.nil _ _ _) rfl (zl_cons (.lit _) rfl (zl_cons (.lit _) rfl (zl_cons (.nil _ _ _) rfl (zl_cons (.lit _) rfl (zl_nil)))))))))))))))))))))))))))))))))))))))))))))))))))))))))))))))))))
theorem zv83 : zer 83 = .agg [.lit (.string ByteArray.empty), .sl true 1 [], .lit (.string ByteArray.empty), .lit (.string ByteArray.empty), .sl true 1 [], .lit (.string ByteArray.empty), .lit (.string ByteArray.empty), .sl true 1 [], .lit (.string ByteArray.empty), .lit (.string ByteArray.empty), .sl true 1 [], .lit (.string ByteArray.empty), .lit (.string ByteArray.empty), .sl true 1 [], .lit (.string ByteArray.empty), .lit (.string ByteArray.empty), .sl true 1 [], .lit (.string ByteArray.empty), .lit (.string ByteArray.empty), .sl true 1 [], .lit (.string ByteArray.empty), .lit (.string ByteArray.empty), .sl true 1 [], .lit (.string ByteArray.empty), .lit (.string ByteArray.empty), .sl true 1 [], .lit (.string ByteArray.empty), .lit (.string ByteArray.empty), .sl true 1 [], .lit (.string ByteArray.empty), .lit (.string ByteArray.empty), .sl true 1 [], .lit (.string ByteArray.empty), .lit (.string ByteArray.empty), .sl true 1 [], .lit (.string ByteArray.empty), .lit (.string ByteArray.empty), .sl true 1 [], .lit (.string ByteArray.empty), .lit (.string ByteArray.empty), .sl true 1 [], .lit (.string ByteArray.empty), .lit (.string ByteArray.empty), .sl true 1 [], .lit (.string ByteArray.empty), .lit (.string ByteArray.empty), .sl true 1 [], .lit (.string ByteArray.empty), .lit (.string ByteArray.empty), .sl true 1 [], .lit (.string ByteArray.empty), .lit (.string ByteArray.empty), .sl true 1 [], .lit (.string ByteArray.empty), .lit (.string ByteArray.empty), .sl true 1 [], .lit (.string ByteArray.empty), .lit (.string ByteArray.empty), .sl true 1 [], .lit (.string ByteArray.empty), .lit (.string ByteArray.empty), .sl true 1 [], .lit (.string ByteArray.empty), .lit (.string ByteArray.empty), .sl true 1 [], .lit (.string ByteArray.empty)] := rfl
theorem zr89 : ZerOk Tryd.prog (89, .sl true 4 []) := fun v h => by
  rw [show zeroT Tryd.prog 89 = some (.slice none 0 0) from by kernel_rfl] at h; cases h; exact .nil _ _ _
theorem zv89 : zer 89 = .sl true 4 [] := rfl
theorem zr91 : ZerOk Tryd.prog (91, .sl true 1 []) := fun v h => by
  rw [show zeroT Tryd.prog 91 = some (.slice none 0 0) from by kernel_rfl] at h; cases h; exact .nil _ _ _
theorem zv91 : zer 91 = .sl true 1 [] := rfl
theorem zr92 : ZerOk Tryd.prog (92, .lit (.pointer none)) := fun v h => by
  rw [show zeroT Tryd.prog 92 = some (.pointer none) from by kernel_rfl] at h; cases h; exact .lit _
theorem zv92 : zer 92 = .lit (.pointer none) := rfl
theorem zr98 : ZerOk Tryd.prog (98, .lit (.int .u64 0)) := fun v h => by
  rw [show zeroT Tryd.prog 98 = some (.int .u64 0) from by kernel_rfl] at h; cases h; exact .lit _
theorem zv98 : zer 98 = .lit (.int .u64 0) := rfl
theorem zr108 : ZerOk Tryd.prog (108, .lit (.int .u32 0)) := fun v h => by
  rw [show zeroT Tryd.prog 108 = some (.int .u32 0) from by kernel_rfl] at h; cases h; exact .lit _
theorem zv108 : zer 108 = .lit (.int .u32 0) := rfl
theorem zr113 : ZerOk Tryd.prog (113, .lit (.pointer none)) := fun v h => by
  rw [show zeroT Tryd.prog 113 = some (.pointer none) from by kernel_rfl] at h; cases h; exact .lit _
theorem zv113 : zer 113 = .lit (.pointer none) := rfl
theorem zr114 : ZerOk Tryd.prog (114, .sl true 1 []) := fun v h => by
  rw [show zeroT Tryd.prog 114 = some (.slice none 0 0) from by kernel_rfl] at h; cases h; exact .nil _ _ _
theorem zv114 : zer 114 = .sl true 1 [] := rfl
theorem zr115 : ZerOk Tryd.prog (115, .agg [.lit (.pointer none), .sl true 1 []]) := fun v h => by
  rw [show zeroT Tryd.prog 115 = some (.agg #[(.pointer none), (.slice none 0 0)]) from by kernel_rfl] at h; cases h
  exact zr_agg _ _ (zl_cons (.lit _) rfl (zl_cons (.nil _ _ _) rfl (zl_nil)))
theorem zv115 : zer 115 = .agg [.lit (.pointer none), .sl true 1 []] := rfl
theorem zr116 : ZerOk Tryd.prog (116, .agg [.lit (.pointer none), .sl true 1 []]) := fun v h => by
  rw [show zeroT Tryd.prog 116 = some (.agg #[(.pointer none), (.slice none 0 0)]) from by kernel_rfl] at h; cases h
  exact zr_agg _ _ (zl_cons (.lit _) rfl (zl_cons (.nil _ _ _) rfl (zl_nil)))
theorem zv116 : zer 116 = .agg [.lit (.pointer none), .sl true 1 []] := rfl
theorem zr121 : ZerOk Tryd.prog (121, .lit (.int .i64 0)) := fun v h => by
  rw [show zeroT Tryd.prog 121 = some (.int .i64 0) from by kernel_rfl] at h; cases h; exact .lit _
theorem zv121 : zer 121 = .lit (.int .i64 0) := rfl
theorem zr124 : ZerOk Tryd.prog (124, .lit (.pointer none)) := fun v h => by
  rw [show zeroT Tryd.prog 124 = some (.pointer none) from by kernel_rfl] at h; cases h; exact .lit _
theorem zv124 : zer 124 = .lit (.pointer none) := rfl
theorem zr129 : ZerOk Tryd.prog (129, .lit (.pointer none)) := fun v h => by
  rw [show zeroT Tryd.prog 129 = some (.pointer none) from by kernel_rfl] at h; cases h; exact .lit _
theorem zv129 : zer 129 = .lit (.pointer none) := rfl
theorem zr130 : ZerOk Tryd.prog (130, .lit (.int .u64 0)) := fun v h => by
  rw [show zeroT Tryd.prog 130 = some (.int .u64 0) from by kernel_rfl] at h; cases h; exact .lit _
theorem zv130 : zer 130 = .lit (.int .u64 0) := rfl
theorem zr134 : ZerOk Tryd.prog (134, .agg [.lit (.string ByteArray.empty), .lit (.string ByteArray.empty), .lit .nilIface]) := fun v h => by
  rw [show zeroT Tryd.prog 134 = some (.agg #[(.string ByteArray.empty), (.string ByteArray.empty), .nilIface]) from by kernel_rfl] at h; cases h
  exact zr_agg _ _ (zl_cons (.lit _) rfl (zl_cons (.lit _) rfl (zl_cons (.lit _) rfl (zl_nil))))
theorem zv134 : zer 134 = .agg [.lit (.string ByteArray.empty), .lit (.string ByteArray.empty), .lit .nilIface] := rfl
theorem zr135 : ZerOk Tryd.prog (135, .agg [.lit (.string ByteArray.empty), .lit (.string ByteArray.empty), .lit .nilIface]) := fun v h => by
  rw [show zeroT Tryd.prog 135 = some (.agg #[(.string ByteArray.empty), (.string ByteArray.empty), .nilIface]) from by kernel_rfl] at h; cases h
  exact zr_agg _ _ (zl_cons (.lit _) rfl (zl_cons (.lit _) rfl (zl_cons (.lit _) rfl (zl_nil))))
theorem zv135 : zer 135 = .agg [.lit (.string ByteArray.empty), .lit (.string ByteArray.empty), .lit .nilIface] := rfl
theorem zr137 : ZerOk Tryd.prog (137, .agg [.lit (.int .u8 0), .lit (.int .u8 0), .lit (.int .u8 0), .lit (.int .u8 0), .lit (.int .u8 0), .lit (.int .u8 0), .lit (.int .u8 0), .lit (.int .u8 0), .lit (.int .u8 0), .lit (.int .u8 0), .lit (.int .u8 0), .lit (.int .u8 0), .lit (.int .u8 0), .lit (.int .u8 0), .lit (.int .u8 0), .lit (.int .u8 0), .lit (.int .u8 0), .lit (.int .u8 0), .lit (.int .u8 0), .lit (.int .u8 0), .lit (.int .u8 0), .lit (.int .u8 0), .lit (.int .u8 0), .lit (.int .u8 0)]) := fun v h => by
  rw [show zeroT Tryd.prog 137 = some (.agg #[(.int .u8 0), (.int .u8 0), (.int .u8 0), (.int .u8 0), (.int .u8 0), (.int .u8 0), (.int .u8 0), (.int .u8 0), (.int .u8 0), (.int .u8 0), (.int .u8 0), (.int .u8 0), (.int .u8 0), (.int .u8 0), (.int .u8 0), (.int .u8 0), (.int .u8 0), (.int .u8 0), (.int .u8 0), (.int .u8 0), (.int .u8 0), (.int .u8 0), (.int .u8 0), (.int .u8 0)]) from by kernel_rfl] at h; cases h
  exact zr_agg _ _ (zl_cons (.lit _) rfl (zl_cons (.lit _) rfl (zl_cons (.lit _) rfl (zl_cons (.lit _) rfl (zl_cons (.lit _) rfl (zl_cons (.lit _) rfl (zl_cons (.lit _) rfl (zl_cons (.lit _) rfl (zl_cons (.lit _) rfl (zl_cons (.lit _) rfl (zl_cons (.lit _) rfl (zl_cons (.lit _) rfl (zl_cons (.lit _) rfl (zl_cons (.lit _) rfl (zl_cons (.lit _) rfl (zl_cons (.lit _) rfl (zl_cons (.lit _) rfl (zl_cons (.lit _) rfl (zl_cons (.lit _) rfl (zl_cons (.lit _) rfl (zl_cons (.lit _) rfl (zl_cons (.lit _) rfl (zl_cons (.lit _) rfl (zl_cons (.lit _) rfl (zl_nil)))))))))))))))))))))))))
theorem zv137 : zer 137 = .agg [.lit (.int .u8 0), .lit (.int .u8 0), .lit (.int .u8 0), .lit (.int .u8 0), .lit (.int .u8 0), .lit (.int .u8 0), .lit (.int .u8 0), .lit (.int .u8 0), .lit (.int .u8 0), .lit (.int .u8 0), .lit (.int .u8 0), .lit (.int .u8 0), .lit (.int .u8 0), .lit (.int .u8 0), .lit (.int .u8 0), .lit (.int .u8 0), .lit (.int .u8 0), .lit (.int .u8 0), .lit (.int .u8 0), .lit (.int .u8 0), .lit (.int .u8 0), .lit (.int .u8 0), .lit (.int .u8 0), .lit (.int .u8 0)] := rfl
theorem zr146 : ZerOk Tryd.prog (146, .agg [.lit (.int .u8 0), .lit (.int .u8 0)]) := fun v h => by
  rw [show zeroT Tryd.prog 146 = some (.agg #[(.int .u8 0), (.int .u8 0)]) from by kernel_rfl] at h; cases h
  exact zr_agg _ _ (zl_cons (.lit _) rfl (zl_cons (.lit _) rfl (zl_nil)))
theorem zv146 : zer 146 = .agg [.lit (.int .u8 0), .lit (.int .u8 0)] := rfl
theorem zr147 : ZerOk Tryd.prog (147, .agg [.lit (.int .u8 0), .lit (.int .u8 0)]) := fun v h => by
  rw [show zeroT Tryd.prog 147 = some (.agg #[(.int .u8 0), (.int .u8 0)]) from by kernel_rfl] at h; cases h
  exact zr_agg _ _ (zl_cons (.lit _) rfl (zl_cons (.lit _) rfl (zl_nil)))
theorem zv147 : zer 147 = .agg [.lit (.int .u8 0), .lit (.int .u8 0)] := rfl
theorem zr148 : ZerOk Tryd.prog (148, .agg [.lit (.int .u8 0), .lit (.int .u8 0), .lit (.int .u8 0), .lit (.int .u8 0), .lit (.int .u8 0), .lit (.int .u8 0), .lit (.int .u8 0), .lit (.int .u8 0), .lit (.int .u8 0), .lit (.int .u8 0), .lit (.int .u8 0), .lit (.int .u8 0), .lit (.int .u8 0), .lit (.int .u8 0), .lit (.int .u8 0), .lit (.int .u8 0), .lit (.int .u8 0), .lit (.int .u8 0), .lit (.int .u8 0), .lit (.int .u8 0), .lit (.int .u8 0), .lit (.int .u8 0), .lit (.int .u8 0), .lit (.int .u8 0), .lit (.int .u8 0), .lit (.int .u8 0), .lit (.int .u8 0), .lit (.int .u8 0), .lit (.int .u8 0), .lit (.int .u8 0), .lit (.int .u8 0), .lit (.int .u8 0)]) := fun v h => by
  rw [show zeroT Tryd.prog 148 = some (.agg #[(.int .u8 0), (.int .u8 0), (.int .u8 0), (.int .u8 0), (.int .u8 0), (.int .u8 0), (.int .u8 0), (.int .u8 0), (.int .u8 0), (.int .u8 0), (.int .u8 0), (.int .u8 0), (.int .u8 0), (.int .u8 0), (.int .u8 0), (.int .u8 0), (.int .u8 0), (.int .u8 0), (.int .u8 0), (.int .u8 0), (.int .u8 0), (.int .u8 0), (.int .u8 0), (.int .u8 0), (.int .u8 0), (.int .u8 0), (.int .u8 0), (.int .u8 0), (.int .u8 0), (.int .u8 0), (.int .u8 0), (.int .u8 0)]) from by kernel_rfl] at h; cases h
  exact zr_agg _ _ (zl_cons (.lit _) rfl (zl_cons (.lit _) rfl (zl_cons (.lit _) rfl (zl_cons (.lit _) rfl (zl_cons (.lit _) rfl (zl_cons (.lit _) rfl (zl_cons (.lit _) rfl (zl_cons (.lit _) rfl (zl_cons (.lit _) rfl (zl_cons (.lit _) rfl (zl_cons (.lit _) rfl (zl_cons (.lit _) rfl (zl_cons (.lit _) rfl (zl_cons (.lit _) rfl (zl_cons (.lit _) rfl (zl_cons (.lit _) rfl (zl_cons (.lit _) rfl (zl_cons (.lit _) rfl (zl_cons (.lit _) rfl (zl_cons (.lit _) rfl (zl_cons (.lit _) rfl (zl_cons (.lit _) rfl (zl_cons (.lit _) rfl (zl_cons (.lit _) rfl (zl_cons (.lit _) rfl (zl_cons (.lit _) rfl (zl_cons (.lit _) rfl (zl_cons (.lit _) rfl (zl_cons (.lit _) rfl (zl_cons (.lit _) rfl (zl_cons (.lit _) rfl (zl_cons (.lit _) rfl (zl_nil)))))))))))))))))))))))))))))))))
theorem zv148 : zer 148 = .agg [.lit (.int .u8 0), .lit (.int .u8 0), .lit (.int .u8 0), .lit (.int .u8 0), .lit (.int .u8 0), .lit (.int .u8 0), .lit (.int .u8 0), .lit (.int .u8 0), .lit (.int .u8 0), .lit (.int .u8 0), .lit (.int .u8 0), .lit (.int .u8 0), .lit (.int .u8 0), .lit (.int .u8 0), .lit (.int .u8 0), .lit (.int .u8 0), .lit (.int .u8 0), .lit (.int .u8 0), .lit (.int .u8 0), .lit (.int .u8 0), .lit (.int .u8 0), .lit (.int .u8 0), .lit (.int .u8 0), .lit (.int .u8 0), .lit (.int .u8 0), .lit (.int .u8 0), .lit (.int .u8 0), .lit (.int .u8 0), .lit (.int .u8 0), .lit (.int .u8 0), .lit (.int .u8 0), .lit (.int .u8 0)] := rfl
theorem zr151 : ZerOk Tryd.prog (151, .lit (.pointer none)) := fun v h => by
  rw [show zeroT Tryd.prog 151 = some (.pointer none) from by kernel_rfl] at h; cases h; exact .lit _
theorem zv151 : zer 151 = .lit (.pointer none) := rfl
theorem zr152 : ZerOk Tryd.prog (152, .agg [.lit (.string ByteArray.empty)]) := fun v h => by
  rw [show zeroT Tryd.prog 152 = some (.agg #[(.string ByteArray.empty)]) from by kernel_rfl] at h; cases h
  exact zr_agg _ _ (zl_cons (.lit _) rfl (zl_nil))
theorem zv152 : zer 152 = .agg [.lit (.string ByteArray.empty)] := rfl
theorem zr153 : ZerOk Tryd.prog (153, .agg [.lit (.string ByteArray.empty)]) := fun v h => by
  rw [show zeroT Tryd.prog 153 = some (.agg #[(.string ByteArray.empty)]) from by kernel_rfl] at h; cases h
  exact zr_agg _ _ (zl_cons (.lit _) rfl (zl_nil))
theorem zv153 : zer 153 = .agg [.lit (.string ByteArray.empty)] := rfl
theorem zr155 : ZerOk Tryd.prog (155, .agg [.lit (.int .u64 0), .lit (.int .u64 0), .lit (.int .u64 0), .lit (.int .u64 0), .lit (.int .u64 0), .lit (.int .u64 0), .lit (.int .u64 0), .lit (.int .u64 0), .lit (.int .u64 0), .lit (.int .u64 0), .lit (.int .u64 0), .lit (.int .u64 0), .lit (.int .u64 0), .lit (.int .u64 0), .lit (.int .u64 0), .lit (.int .u64 0), .lit (.int .u64 0), .lit (.int .u64 0), .lit (.int .u64 0), .lit (.int .u64 0)]) := fun v h => by
  rw [show zeroT Tryd.prog 155 = some (.agg #[(.int .u64 0), (.int .u64 0), (.int .u64 0), (.int .u64 0), (.int .u64 0), (.int .u64 0), (.int .u64 0), (.int .u64 0), (.int .u64 0), (.int .u64 0), (.int .u64 0), (.int .u64 0), (.int .u64 0), (.int .u64 0), (.int .u64 0), (.int .u64 0), (.int .u64 0), (.int .u64 0), (.int .u64 0), (.int .u64 0)]) from by kernel_rfl] at h; cases h
  exact zr_agg _ _ (zl_cons (.lit _) rfl (zl_cons (.lit _) rfl (zl_cons (.lit _) rfl (zl_cons (.lit _) rfl (zl_cons (.lit _) rfl (zl_cons (.lit _) rfl (zl_cons (.lit _) rfl (zl_cons (.lit _) rfl (zl_cons (.lit _) rfl (zl_cons (.lit _) rfl (zl_cons (.lit _) rfl (zl_cons (.lit _) rfl (zl_cons (.lit _) rfl (zl_cons (.lit _) rfl (zl_cons (.lit _) rfl (zl_cons (.lit _) rfl (zl_cons (.lit _) rfl (zl_cons (.lit _) rfl (zl_cons (.lit _) rfl (zl_cons (.lit _) rfl (zl_nil)))))))))))))))))))))
theorem zv155 : zer 155 = .agg [.lit (.int .u64 0), .lit (.int .u64 0), .lit (.int .u64 0), .lit (.int .u64 0), .lit (.int .u64 0), .lit (.int .u64 0), .lit (.int .u64 0), .lit (.int .u64 0), .lit (.int .u64 0), .lit (.int .u64 0), .lit (.int .u64 0), .lit (.int .u64 0), .lit (.int .u64 0), .lit (.int .u64 0), .lit (.int .u64 0), .lit (.int .u64 0), .lit (.int .u64 0), .lit (.int .u64 0), .lit (.int .u64 0), .lit (.int .u64 0)] := rfl
theorem zr156 : ZerOk Tryd.prog (156, .agg [.lit (.int .u8 0), .lit (.int .u8 0), .lit (.int .u8 0), .lit (.int .u8 0), .lit (.int .u8 0), .lit (.int .u8 0), .lit (.int .u8 0), .lit (.int .u8 0), .lit (.int .u8 0), .lit (.int .u8 0), .lit (.int .u8 0), .lit (.int .u8 0), .lit (.int .u8 0), .lit (.int .u8 0), .lit (.int .u8 0), .lit (.int .u8 0), .lit (.int .u8 0), .lit (.int .u8 0), .lit (.int .u8 0), .lit (.int .u8 0), .lit (.int .u8 0), .lit (.int .u8 0), .lit (.int .u8 0), .lit (.int .u8 0), .lit (.int .u8 0), .lit (.int .u8 0), .lit (.int .u8 0), .lit (.int .u8 0), .lit (.int .u8 0), .lit (.int .u8 0), .lit (.int .u8 0), .lit (.int .u8 0), .lit (.int .u8 0), .lit (.int .u8 0), .lit (.int .u8 0), .lit (.int .u8 0), .lit (.int .u8 0), .lit (.int .u8 0), .lit (.int .u8 0), .lit (.int .u8 0), .lit (.int .u8 0), .lit (.int .u8 0), .lit (.int .u8 0), .lit (.int .u8 0), .lit (.int .u8 0), .lit (.int .u8 0), .lit (.int .u8 0), .lit (.int .u8 0), .lit (.int .u8 0), .lit (.int .u8 0), .lit (.int .u8 0), .lit (.int .u8 0), .lit (.int .u8 0), .lit (.int .u8 0), .lit (.int .u8 0), .lit (.int .u8 0), .lit (.int .u8 0), .lit (.int .u8 0), .lit (.int .u8 0), .lit (.int .u8 0), .lit (.int .u8 0), .lit (.int .u8 0), .lit (.int .u8 0), .lit (.int .u8 0), .lit (.int .u8 0)]) := fun v h => by
  rw [show zeroT Tryd.prog 156 = some (.agg #[(.int .u8 0), (.int .u8 0), (.int .u8 0), (.int .u8 0), (.int .u8 0), (.int .u8 0), (.int .u8 0), (.int .u8 0), (.int .u8 0), (.int .u8 0), (.int .u8 0), (.int .u8 0), (.int .u8 0), (.int .u8 0), (.int .u8 0), (.int .u8 0), (.int .u8 0), (.int .u8 0), (.int .u8 0), (.int .u8 0), (.int .u8 0), (.int .u8 0), (.int .u8 0), (.int .u8 0), (.int .u8 0), (.int .u8 0), (.int .u8 0), (.int .u8 0), (.int .u8 0), (.int .u8 0), (.int .u8 0), (.int .u8 0), (.int .u8 0), (.int .u8 0), (.int .u8 0), (.int .u8 0), (.int .u8 0), (.int .u8 0), (.int .u8 0), (.int .u8 0), (.int .u8 0), (.int .u8 0), (.int .u8 0), (.int .u8 0), (.int .u8 0), (.int .u8 0), (.int .u8 0), (.int .u8 0), (.int .u8 0), (.int .u8 0), (.int .u8 0), (.int .u8 0), (.int .u8 0), (.int .u8 0), (.int .u8 0), (.int .u8 0), (.int .u8 0), (.int .u8 0), (.int .u8 0), (.int .u8 0), (.int .u8 0), (.int .u8 0), (.int .u8 0), (.int .u8 0), (.int .u8 0)]) from by kernel_rfl] at h; cases h
  exact zr_agg _ _ (zl_cons (.lit _) rfl (zl_cons (.lit _) rfl (zl_cons (.lit _) rfl (zl_cons (.lit _) rfl (zl_cons (.lit _) rfl (zl_cons (.lit _) rfl (zl_cons (.lit _) rfl (zl_cons (.lit _) rfl (zl_cons (.lit _) rfl (zl_cons (.lit _) rfl (zl_cons (.lit _) rfl (zl_cons (.lit _) rfl (zl_cons (.lit _) rfl (zl_cons (.lit _) rfl (zl_cons (.lit _) rfl (zl_cons (.lit _) rfl (zl_cons (.lit _) rfl (zl_cons (.lit _) rfl (zl_cons (.lit _) rfl (zl_cons (.lit _) rfl (zl_cons (.lit _) rfl (zl_cons (.lit _) rfl (zl_cons (.lit _) rfl (zl_cons (.lit _) rfl (zl_cons (.lit _) rfl (zl_cons (.lit _) rfl (zl_cons (.lit _) rfl (zl_cons (.lit _) rfl (zl_cons (.lit _) rfl (zl_cons (.lit _) rfl (zl_cons (.lit _) rfl (zl_cons (.lit _) rfl (zl_cons (.lit _) rfl (zl_cons (.lit _) rfl (zl_cons (.lit _) rfl (zl_cons (.lit _) rfl (zl_cons (.lit _) rfl (zl_cons (.lit _) rfl (zl_cons (.lit _) rfl (zl_cons (.lit _) rfl (zl_cons (.lit _) rfl (zl_cons (.lit _) rfl (zl_cons (.lit _) rfl (zl_cons (.lit _) rfl (zl_cons (.lit _) rfl (zl_cons (.lit _) rfl (zl_cons (.lit _) rfl (zl_cons (.lit _) rfl (zl_cons (.lit _) rfl (zl_cons (.lit _) rfl (zl_cons (.lit _) rfl (zl_cons (.lit _) rfl (zl_cons (.lit _) rfl (zl_cons (.lit _) rfl (zl_cons (.lit _) rfl (zl_cons (.lit _) rfl (zl_cons (.lit _) rfl (zl_cons (.lit _) rfl (zl_cons (.lit _) rfl (zl_cons (.lit _) rfl (zl_cons (.lit _) rfl (zl_cons (.lit _) rfl (zl_cons (.lit _) rfl (zl_cons (.lit _) rfl (zl_cons (.lit _) rfl (zl_nil))))))))))))))))))))))))))))))))))))))))))))))))))))))))))))))))))
theorem zv156 : zer 156 = .agg [.lit (.int .u8 0), .lit (.int .u8 0), .lit (.int .u8 0), .lit (.int .u8 0), .lit (.int .u8 0), .lit (.int .u8 0), .lit (.int .u8 0), .lit (.int .u8 0), .lit (.int .u8 0), .lit (.int .u8 0), .lit (.int .u8 0), .lit (.int .u8 0), .lit (.int .u8 0), .lit (.int .u8 0), .lit (.int .u8 0), .lit (.int .u8 0), .lit (.int .u8 0), .lit (.int .u8 0), .lit (.int .u8 0), .lit (.int .u8 0), .lit (.int .u8 0), .lit (.int .u8 0), .lit (.int .u8 0), .lit (.int .u8 0), .lit (.int .u8 0), .lit (.int .u8 0), .lit (.int .u8 0), .lit (.int .u8 0), .lit (.int .u8 0), .lit (.int .u8 0), .lit (.int .u8 0), .lit (.int .u8 0), .lit (.int .u8 0), .lit (.int .u8 0), .lit (.int .u8 0), .lit (.int .u8 0), .lit (.int .u8 0), .lit (.int .u8 0), .lit (.int .u8 0), .lit (.int .u8 0), .lit (.int .u8 0), .lit (.int .u8 0), .lit (.int .u8 0), .lit (.int .u8 0), .lit (.int .u8 0), .lit (.int .u8 0), .lit (.int .u8 0), .lit (.int .u8 0), .lit (.int .u8 0), .lit (.int .u8 0), .lit (.int .u8 0), .lit (.int .u8 0), .lit (.int .u8 0), .lit (.int .u8 0), .lit (.int .u8 0), .lit (.int .u8 0), .lit (.int .u8 0), .lit (.int .u8 0), .lit (.int .u8 0), .lit (.int .u8 0), .lit (.int .u8 0), .lit (.int .u8 0), .lit (.int .u8 0), .lit (.int .u8 0), .lit (.int .u8 0)] := rfl
theorem zr160 : ZerOk Tryd.prog (160, .agg [.lit (.int .u8 0), .lit (.int .u8 0), .lit (.int .u8 0), .lit (.int .u8 0), .lit (.int .u8 0), .lit (.int .u8 0), .lit (.int .u8 0), .lit (.int .u8 0), .lit (.int .u8 0), .lit (.int .u8 0), .lit (.int .u8 0), .lit (.int .u8 0), .lit (.int .u8 0), .lit (.int .u8 0), .lit (.int .u8 0), .lit (.int .u8 0), .lit (.int .u8 0), .lit (.int .u8 0), .lit (.int .u8 0), .lit (.int .u8 0), .lit (.int .u8 0), .lit (.int .u8 0), .lit (.int .u8 0), .lit (.int .u8 0), .lit (.int .u8 0), .lit (.int .u8 0), .lit (.int .u8 0), .lit (.int .u8 0), .lit (.int .u8 0), .lit (.int .u8 0), .lit (.int .u8 0), .lit (.int .u8 0)]) := fun v h => by
  rw [show zeroT Tryd.prog 160 = some (.agg #[(.int .u8 0), (.int .u8 0), (.int .u8 0), (.int .u8 0), (.int .u8 0), (.int .u8 0), (.int .u8 0), (.int .u8 0), (.int .u8 0), (.int .u8 0), (.int .u8 0), (.int .u8 0), (.int .u8 0), (.int .u8 0), (.int .u8 0), (.int .u8 0), (.int .u8 0), (.int .u8 0), (.int .u8 0), (.int .u8 0), (.int .u8 0), (.int .u8 0), (.int .u8 0), (.int .u8 0), (.int .u8 0), (.int .u8 0), (.int .u8 0), (.int .u8 0), (.int .u8 0), (.int .u8 0), (.int .u8 0), (.int .u8 0)]) from by kernel_rfl] at h; cases h
  exact zr_agg _ _ (zl_cons (.lit _) rfl (zl_cons (.lit _) rfl (zl_cons (.lit _) rfl (zl_cons (.lit _) rfl (zl_cons (.lit _) rfl (zl_cons (.lit _) rfl (zl_cons (.lit _) rfl (zl_cons (.lit _) rfl (zl_cons (.lit _) rfl (zl_cons (.lit _) rfl (zl_cons (.lit _) rfl (zl_cons (.lit _) rfl (zl_cons (.lit _) rfl (zl_cons (.lit _) rfl (zl_cons (.lit _) rfl (zl_cons (.lit _) rfl (zl_cons (.lit _) rfl (zl_cons (.lit _) rfl (zl_cons (.lit _) rfl (zl_cons (.lit _) rfl (zl_cons (.lit _) rfl (zl_cons (.lit _) rfl (zl_cons (.lit _) rfl (zl_cons (.lit _) rfl (zl_cons (.lit _) rfl (zl_cons (.lit _) rfl (zl_cons (.lit _) rfl (zl_cons (.lit _) rfl (zl_cons (.lit _) rfl (zl_cons (.lit _) rfl (zl_cons (.lit _) rfl (zl_cons (.lit _) rfl (zl_nil)))))))))))))))))))))))))))))))))
theorem zv160 : zer 160 = .agg [.lit (.int .u8 0), .lit (.int .u8 0), .lit (.int .u8 0), .lit (.int .u8 0), .lit (.int .u8 0), .lit (.int .u8 0), .lit (.int .u8 0), .lit (.int .u8 0), .lit (.int .u8 0), .lit (.int .u8 0), .lit (.int .u8 0), .lit (.int .u8 0), .lit (.int .u8 0), .lit (.int .u8 0), .lit (.int .u8 0), .lit (.int .u8 0), .lit (.int .u8 0), .lit (.int .u8 0), .lit (.int .u8 0), .lit (.int .u8 0), .lit (.int .u8 0), .lit (.int .u8 0), .lit (.int .u8 0), .lit (.int .u8 0), .lit (.int .u8 0), .lit (.int .u8 0), .lit (.int .u8 0), .lit (.int .u8 0), .lit (.int .u8 0), .lit (.int .u8 0), .lit (.int .u8 0), .lit (.int .u8 0)] := rfl
theorem zr161 : ZerOk Tryd.prog (161, .agg [.lit (.int .u8 0), .lit (.int .u8 0), .lit (.int .u8 0), .lit (.int .u8 0), .lit (.int .u8 0), .lit (.int .u8 0), .lit (.int .u8 0), .lit (.int .u8 0), .lit (.int .u8 0), .lit (.int .u8 0), .lit (.int .u8 0), .lit (.int .u8 0), .lit (.int .u8 0), .lit (.int .u8 0), .lit (.int .u8 0), .lit (.int .u8 0), .lit (.int .u8 0), .lit (.int .u8 0), .lit (.int .u8 0), .lit (.int .u8 0), .lit (.int .u8 0), .lit (.int .u8 0), .lit (.int .u8 0), .lit (.int .u8 0), .lit (.int .u8 0), .lit (.int .u8 0), .lit (.int .u8 0), .lit (.int .u8 0), .lit (.int .u8 0), .lit (.int .u8 0), .lit (.int .u8 0), .lit (.int .u8 0), .lit (.int .u8 0), .lit (.int .u8 0), .lit (.int .u8 0), .lit (.int .u8 0), .lit (.int .u8 0), .lit (.int .u8 0), .lit (.int .u8 0), .lit (.int .u8 0), .lit (.int .u8 0), .lit (.int .u8 0), .lit (.int .u8 0), .lit (.int .u8 0), .lit (.int .u8 0), .lit (.int .u8 0), .lit (.int .u8 0), .lit (.int .u8 0), .lit (.int .u8 0), .lit (.int .u8 0), .lit (.int .u8 0), .lit (.int .u8 0), .lit (.int .u8 0), .lit (.int .u8 0), .lit (.int .u8 0), .lit (.int .u8 0), .lit (.int .u8 0), .lit (.int .u8 0), .lit (.int .u8 0), .lit (.int .u8 0), .lit (.int .u8 0), .lit (.int .u8 0), .lit (.int .u8 0), .lit (.int .u8 0)]) := fun v h => by
  rw [show zeroT Tryd.prog 161 = some (.agg #[(.int .u8 0), (.int .u8 0), (.int .u8 0), (.int .u8 0), (.int .u8 0), (.int .u8 0), (.int .u8 0), (.int .u8 0), (.int .u8 0), (.int .u8 0), (.int .u8 0), (.int .u8 0), (.int .u8 0), (.int .u8 0), (.int .u8 0), (.int .u8 0), (.int .u8 0), (.int .u8 0), (.int .u8 0), (.int .u8 0), (.int .u8 0), (.int .u8 0), (.int .u8 0), (.int .u8 0), (.int .u8 0), (.int .u8 0), (.int .u8 0), (.int .u8 0), (.int .u8 0), (.int .u8 0), (.int .u8 0), (.int .u8 0), (.int .u8 0), (.int .u8 0), (.int .u8 0), (.int .u8 0), (.int .u8 0), (.int .u8 0), (.int .u8 0), (.int .u8 0), (.int .u8 0), (.int .u8 0), (.int .u8 0), (.int .u8 0), (.int .u8 0), (.int .u8 0), (.int .u8 0), (.int .u8 0), (.int .u8 0), (.int .u8 0), (.int .u8 0), (.int .u8 0), (.int .u8 0), (.int .u8 0), (.int .u8 0), (.int .u8 0), (.int .u8 0), (.int .u8 0), (.int .u8 0), (.int .u8 0), (.int .u8 0), (.int .u8 0), (.int .u8 0), (.int .u8 0)]) from by kernel_rfl] at h; cases h
  exact zr_agg _ _ (zl_cons (.lit _) rfl (zl_cons (.lit _) rfl (zl_cons (.lit _) rfl (zl_cons (.lit _) rfl (zl_cons (.lit _) rfl (zl_cons (.lit _) rfl (zl_cons (.lit _) rfl (zl_cons (.lit _) rfl (zl_cons (.lit _) rfl (zl_cons (.lit _) rfl (zl_cons (.lit _) rfl (zl_cons (.lit _) rfl (zl_cons (.lit _) rfl (zl_cons (.lit _) rfl (zl_cons (.lit _) rfl (zl_cons (.lit _) rfl (zl_cons (.lit _) rfl (zl_cons (.lit _) rfl (zl_cons (.lit _) rfl (zl_cons (.lit _) rfl (zl_cons (.lit _) rfl (zl_cons (.lit _) rfl (zl_cons (.lit _) rfl (zl_cons (.lit _) rfl (zl_cons (.lit _) rfl (zl_cons (.lit _) rfl (zl_cons (.lit _) rfl (zl_cons (.lit _) rfl (zl_cons (.lit _) rfl (zl_cons (.lit _) rfl (zl_cons (.lit _) rfl (zl_cons (.lit _) rfl (zl_cons (.lit _) rfl (zl_cons (.lit _) rfl (zl_cons (.lit _) rfl (zl_cons (.lit _) rfl (zl_cons (.lit _) rfl (zl_cons (.lit _) rfl (zl_cons (.lit _) rfl (zl_cons (.lit _) rfl (zl_cons (.lit _) rfl (zl_cons (.lit _) rfl (zl_cons (.lit _) rfl (zl_cons (.lit _) rfl (zl_cons (.lit _) rfl (zl_cons (.lit _) rfl (zl_cons (.lit _) rfl (zl_cons (.lit _) rfl (zl_cons (.lit _) rfl (zl_cons (.lit _) rfl (zl_cons (.lit _) rfl (zl_cons (.lit _) rfl (zl_cons (.lit _) rfl (zl_cons (.lit _) rfl (zl_cons (.lit _) rfl (zl_cons (.lit _) rfl (zl_cons (.lit _) rfl (zl_cons (.lit _) rfl (zl_cons (.lit _) rfl (zl_cons (.lit _) rfl (zl_cons (.lit _) rfl (zl_cons (.lit _) rfl (zl_cons (.lit _) rfl (zl_cons (.lit _) rfl (zl_nil)))))))))))))))))))))))))))))))))))))))))))))))))))))))))))))))))
theorem zv161 : zer 161 = .agg [.lit (.int .u8 0), .lit (.int .u8 0), .lit (.int .u8 0), .lit (.int .u8 0), .lit (.int .u8 0), .lit (.int .u8 0), .lit (.int .u8 0), .lit (.int .u8 0), .lit (.int .u8 0), .lit (.int .u8 0), .lit (.int .u8 0), .lit (.int .u8 0), .lit (.int .u8 0), .lit (.int .u8 0), .lit (.int .u8 0), .lit (.int .u8 0), .lit (.int .u8 0), .lit (.int .u8 0), .lit (.int .u8 0), .lit (.int .u8 0), .lit (.int .u8 0), .lit (.int .u8 0), .lit (.int .u8 0), .lit (.int .u8 0), .lit (.int .u8 0), .lit (.int .u8 0), .lit (.int .u8 0), .lit (.int .u8 0), .lit (.int .u8 0), .lit (.int .u8 0), .lit (.int .u8 0), .lit (.int .u8 0), .lit (.int .u8 0), .lit (.int .u8 0), .lit (.int .u8 0), .lit (.int .u8 0), .lit (.int .u8 0), .lit (.int .u8 0), .lit (.int .u8 0), .lit (.int .u8 0), .lit (.int .u8 0), .lit (.int .u8 0), .lit (.int .u8 0), .lit (.int .u8 0), .lit (.int .u8 0), .lit (.int .u8 0), .lit (.int .u8 0), .lit (.int .u8 0), .lit (.int .u8 0), .lit (.int .u8 0), .lit (.int .u8 0), .lit (.int .u8 0), .lit (.int .u8 0), .lit (.int .u8 0), .lit (.int .u8 0), .lit (.int .u8 0), .lit (.int .u8 0), .lit (.int .u8 0), .lit (.int .u8 0), .lit (.int .u8 0), .lit (.int .u8 0), .lit (.int .u8 0), .lit (.int .u8 0), .lit (.int .u8 0)] := rfl
theorem zr162 : ZerOk Tryd.prog (162, .agg [.lit (.pointer none), .lit (.pointer none), .lit (.pointer none), .lit (.string ByteArray.empty)]) := fun v h => by
  rw [show zeroT Tryd.prog 162 = some (.agg #[(.pointer none), (.pointer none), (.pointer none), (.string ByteArray.empty)]) from by kernel_rfl] at h; cases h
  exact zr_agg _ _ (zl_cons (.lit _) rfl (zl_cons (.lit _) rfl (zl_cons (.lit _) rfl (zl_cons (.lit _) rfl (zl_nil)))))
theorem zv162 : zer 162 = .agg [.lit (.pointer none), .lit (.pointer none), .lit (.pointer none), .lit (.string ByteArray.empty)] := rfl
theorem zr163 : ZerOk Tryd.prog (163, .agg [.lit (.pointer none), .lit (.pointer none), .lit (.pointer none), .lit (.string ByteArray.empty)]) := fun v h => by
  rw [show zeroT Tryd.prog 163 = some (.agg #[(.pointer none), (.pointer none), (.pointer none), (.string ByteArray.empty)]) from by kernel_rfl] at h; cases h
  exact zr_agg _ _ (zl_cons (.lit _) rfl (zl_cons (.lit _) rfl (zl_cons (.lit _) rfl (zl_cons (.lit _) rfl (zl_nil)))))
theorem zv163 : zer 163 = .agg [.lit (.pointer none), .lit (.pointer none), .lit (.pointer none), .lit (.string ByteArray.empty)] := rfl
theorem zr168 : ZerOk Tryd.prog (168, .lit (.int .u8 0)) := fun v h => by
  rw [show zeroT Tryd.prog 168 = some (.int .u8 0) from by kernel_rfl] at h; cases h; exact .lit _
theorem zv168 : zer 168 = .lit (.int .u8 0) := rfl
theorem zr169 : ZerOk Tryd.prog (169, .lit (.int .u8 0)) := fun v h => by
  rw [show zeroT Tryd.prog 169 = some (.int .u8 0) from by kernel_rfl] at h; cases h; exact .lit _
theorem zv169 : zer 169 = .lit (.int .u8 0) := rfl
theorem zr171 : ZerOk Tryd.prog (171, .lit (.int .i32 0)) := fun v h => by
  rw [show zeroT Tryd.prog 171 = some (.int .i32 0) from by kernel_rfl] at h; cases h; exact .lit _
theorem zv171 : zer 171 = .lit (.int .i32 0) := rfl
theorem zr172 : ZerOk Tryd.prog (172, .lit (.int .i32 0)) := fun v h => by
  rw [show zeroT Tryd.prog 172 = some (.int .i32 0) from by kernel_rfl] at h; cases h; exact .lit _
theorem zv172 : zer 172 = .lit (.int .i32 0) := rfl
theorem zr173 : ZerOk Tryd.prog (173, .agg [.lit (.int .u64 0), .lit (.int .u64 0), .lit (.int .u32 0), .lit (.int .u8 0), .lit (.int .u8 0), .lit (.int .u8 0), .lit (.int .u8 0), .lit .nilFunc, .lit (.pointer none), .lit (.int .i32 0), .lit (.int .i32 0)]) := fun v h => by
  rw [show zeroT Tryd.prog 173 = some (.agg #[(.int .u64 0), (.int .u64 0), (.int .u32 0), (.int .u8 0), (.int .u8 0), (.int .u8 0), (.int .u8 0), .nilFunc, (.pointer none), (.int .i32 0), (.int .i32 0)]) from by kernel_rfl] at h; cases h
  exact zr_agg _ _ (zl_cons (.lit _) rfl (zl_cons (.lit _) rfl (zl_cons (.lit _) rfl (zl_cons (.lit _) rfl (zl_cons (.lit _) rfl (zl_cons (.lit _) rfl (zl_cons (.lit _) rfl (zl_cons (.lit _) rfl (zl_cons (.lit _) rfl (zl_cons (.lit _) rfl (zl_cons (.lit _) rfl (zl_nil))))))))))))
theorem zv173 : zer 173 = .agg [.lit (.int .u64 0), .lit (.int .u64 0), .lit (.int .u32 0), .lit (.int .u8 0), .lit (.int .u8 0), .lit (.int .u8 0), .lit (.int .u8 0), .lit .nilFunc, .lit (.pointer none), .lit (.int .i32 0), .lit (.int .i32 0)] := rfl
theorem zr174 : ZerOk Tryd.prog (174, .agg [.lit (.int .u64 0), .lit (.int .u64 0), .lit (.int .u32 0), .lit (.int .u8 0), .lit (.int .u8 0), .lit (.int .u8 0), .lit (.int .u8 0), .lit .nilFunc, .lit (.pointer none), .lit (.int .i32 0), .lit (.int .i32 0)]) := fun v h => by
  rw [show zeroT Tryd.prog 174 = some (.agg #[(.int .u64 0), (.int .u64 0), (.int .u32 0), (.int .u8 0), (.int .u8 0), (.int .u8 0), (.int .u8 0), .nilFunc, (.pointer none), (.int .i32 0), (.int .i32 0)]) from by kernel_rfl] at h; cases h
  exact zr_agg _ _ (zl_cons (.lit _) rfl (zl_cons (.lit _) rfl (zl_cons (.lit _) rfl (zl_cons (.lit _) rfl (zl_cons (.lit _) rfl (zl_cons (.lit _) rfl (zl_cons (.lit _) rfl (zl_cons (.lit _) rfl (zl_cons (.lit _) rfl (zl_cons (.lit _) rfl (zl_cons (.lit _) rfl (zl_nil))))))))))))
theorem zv174 : zer 174 = .agg [.lit (.int .u64 0), .lit (.int .u64 0), .lit (.int .u32 0), .lit (.int .u8 0), .lit (.int .u8 0), .lit (.int .u8 0), .lit (.int .u8 0), .lit .nilFunc, .lit (.pointer none), .lit (.int .i32 0), .lit (.int .i32 0)] := rfl
theorem zer_ok : ∀ t v, zeroT Tryd.prog t = some v → RC (fun _ _ => none) (zer t) v := zer_sound zerL (zs_cons zr2 (zs_cons zr3 (zs_cons zr4 (zs_cons zr5 (zs_cons zr6 (zs_cons zr7 (zs_cons zr8 (zs_cons zr9 (zs_cons zr10 (zs_cons zr11 (zs_cons zr12 (zs_cons zr13 (zs_cons zr14 (zs_cons zr15 (zs_cons zr16 (zs_cons zr17 (zs_cons zr18 (zs_cons zr19 (zs_cons zr21 (zs_cons zr22 (zs_cons zr25 (zs_cons zr31 (zs_cons zr32 (zs_cons zr38 (zs_cons zr42 (zs_cons zr43 (zs_cons zr44 (zs_cons zr45 (zs_cons zr46 (zs_cons zr47 (zs_cons zr50 (zs_cons zr53 (zs_cons zr64 (zs_cons zr65 (zs_cons zr67 (zs_cons zr68 (zs_cons zr69 (zs_cons zr77 (zs_cons zr81 (zs_cons zr82 (zs_cons zr83 (zs_cons zr89 (zs_cons zr91 (zs_cons zr92 (zs_cons zr98 (zs_cons zr108 (zs_cons zr113 (zs_cons zr114 (zs_cons zr115 (zs_cons zr116 (zs_cons zr121 (zs_cons zr124 (zs_cons zr129 (zs_cons zr130 (zs_cons zr134 (zs_cons zr135 (zs_cons zr137 (zs_cons zr146 (zs_cons zr147 (zs_cons zr148 (zs_cons zr151 (zs_cons zr152 (zs_cons zr153 (zs_cons zr155 (zs_cons zr156 (zs_cons zr160 (zs_cons zr161 (zs_cons zr162 (zs_cons zr163 (zs_cons zr168 (zs_cons zr169 (zs_cons zr171 (zs_cons zr172 (zs_cons zr173 (zs_cons zr174 (zs_nil))))))))))))))))))))))))))))))))))))))))))))))))))))))))))))))))))))))))))))
theorem mixed : Tryd.prog.follows .mixedOrders = true := by kernel_rfl
theorem fk6 : fok Tryd.prog 6 = true := by kernel_rfl -- framewise/framewiselaw52.awake
theorem fk7 : fok Tryd.prog 7 = true := by kernel_rfl -- framewise/framewiseref52.Few
theorem fk8 : fok Tryd.prog 8 = true := by kernel_rfl -- framewise/bytecode.Match
theorem fk9 : fok Tryd.prog 9 = true := by kernel_rfl -- framewise/framewiseref52.Match
theorem fk10 : fok Tryd.prog 10 = true := by kernel_rfl -- framewise/framewiseref17.SameInts
theorem fk11 : fok Tryd.prog 11 = true := by kernel_rfl -- framewise/bytecode.Right
theorem fk12 : fok Tryd.prog 12 = true := by kernel_rfl -- framewise/bytecode.Writes
theorem fk13 : fok Tryd.prog 13 = true := by kernel_rfl -- framewise/framewiseref52.Writes
theorem fk14 : fok Tryd.prog 14 = true := by kernel_rfl -- framewise/bytecode.Reads
theorem fk15 : fok Tryd.prog 15 = true := by kernel_rfl -- framewise/framewiseref52.Right
theorem fk16 : fok Tryd.prog 16 = true := by kernel_rfl -- framewise/framewiseref52.Reads
theorem fk17 : fok Tryd.prog 17 = true := by kernel_rfl -- framewise/bytecode.Parse
theorem fk18 : fok Tryd.prog 18 = true := by kernel_rfl -- framewise/bytecode.Valid
theorem fk19 : fok Tryd.prog 19 = true := by kernel_rfl -- framewise/bytecode.shape
theorem fk20 : fok Tryd.prog 20 = true := by kernel_rfl -- framewise/bytecode.operands
theorem fk21 : fok Tryd.prog 21 = true := by kernel_rfl -- framewise/bytecode.within
theorem fk22 : fok Tryd.prog 22 = true := by kernel_rfl -- framewise/bytecode.forms
theorem fk23 : fok Tryd.prog 23 = true := by kernel_rfl -- framewise/framewiseref52.Form
theorem fk24 : fok Tryd.prog 24 = true := by kernel_rfl -- framewise/framewiseref52.Operands
theorem fk25 : fok Tryd.prog 25 = true := by kernel_rfl -- strings.Cut
theorem fk26 : fok Tryd.prog 26 = true := by kernel_rfl -- framewise/bytecode.parsed
theorem fk27 : fok Tryd.prog 27 = true := by kernel_rfl -- slices.ContainsFunc[[]framewise/api.Op,framewise/api.Op]
theorem fk28 : fok Tryd.prog 28 = true := by kernel_rfl -- framewise/bytecode.Valid$1
theorem fk29 : fok Tryd.prog 29 = true := by kernel_rfl -- slices.Concat[[]framewise/api.Place,framewise/api.Place]
theorem fk30 : fok Tryd.prog 30 = true := by kernel_rfl -- framewise/bytecode.typed
theorem fk31 : fok Tryd.prog 31 = true := by kernel_rfl -- framewise/element.Types
theorem fk32 : fok Tryd.prog 32 = true := by kernel_rfl -- framewise/framewiseref17.Types
theorem fk33 : fok Tryd.prog 33 = true := by kernel_rfl -- internal/stringslite.Cut
theorem fk36 : fok Tryd.prog 36 = true := by kernel_rfl -- slices.IndexFunc[[]framewise/api.Op,framewise/api.Op]
theorem fk37 : fok Tryd.prog 37 = true := by kernel_rfl -- slices.Grow[[]framewise/api.Place,framewise/api.Place]
theorem fk38 : fok Tryd.prog 38 = true := by kernel_rfl -- framewise/array.Size
theorem fk39 : fok Tryd.prog 39 = true := by kernel_rfl -- framewise/element.rows
theorem fk40 : fok Tryd.prog 40 = true := by kernel_rfl -- slices.Clone[[]string,string]
theorem fk41 : fok Tryd.prog 41 = true := by kernel_rfl -- internal/stringslite.Index
theorem fk42 : fok Tryd.prog 42 = true := by kernel_rfl -- strings.Split
theorem fk43 : fok Tryd.prog 43 = true := by kernel_rfl -- slices.IndexFunc[[]framewise/bytecode.form,framewise/bytecode.form]
theorem fk44 : fok Tryd.prog 44 = true := by kernel_rfl -- framewise/bytecode.read$1
theorem fk45 : fok Tryd.prog 45 = true := by kernel_rfl -- framewise/bytecode.integer
theorem fk46 : fok Tryd.prog 46 = true := by kernel_rfl -- framewise/bytecode.line
theorem fk47 : fok Tryd.prog 47 = true := by kernel_rfl -- slices.Contains[[]int,int]
theorem fk48 : fok Tryd.prog 48 = true := by kernel_rfl -- internal/stringslite.IndexByte
theorem fk52 : fok Tryd.prog 52 = true := by kernel_rfl -- strings.genSplit
theorem fk53 : fok Tryd.prog 53 = true := by kernel_rfl -- strconv.Atoi
theorem fk54 : fok Tryd.prog 54 = true := by kernel_rfl -- strings.TrimPrefix
theorem fk55 : fok Tryd.prog 55 = true := by kernel_rfl -- strconv.Itoa
theorem fk56 : fok Tryd.prog 56 = true := by kernel_rfl -- strings.Join
theorem fk57 : fok Tryd.prog 57 = true := by kernel_rfl -- slices.Index[[]int,int]
theorem fk61 : fok Tryd.prog 61 = true := by kernel_rfl -- strings.Count
theorem fk62 : fok Tryd.prog 62 = true := by kernel_rfl -- strings.Index
theorem fk65 : fok Tryd.prog 65 = true := by kernel_rfl -- internal/stringslite.TrimPrefix
theorem fk78 : fok Tryd.prog 78 = true := by kernel_rfl -- internal/stringslite.HasPrefix
attribute [go_sem] u2 sz2 by2 ag2 so2 iz2 zk2 iu2 u3 sz3 by3 ag3 so3 iz3 zk3 iu3 u4 sz4 by4 ag4 so4 iz4 zk4 iu4 u5 sz5 by5 ag5 so5 iz5 zk5 iu5 u6 sz6 by6 ag6 so6 iz6 zk6 iu6 sz7 by7 ag7 so7 fl7_0 fl7_1 fl7_2 fl7_3 se7 iz7 zk7 iu7 sz8 by8 ag8 so8 fl8_0 fl8_1 fl8_2 fl8_3 se8 iz8 zk8 iu8 u9 sz9 by9 ag9 so9 iz9 zk9 iu9 u10 sz10 by10 ag10 so10 iz10 zk10 iu10 u11 sz11 by11 ag11 so11 iz11 zk11 iu11 u12 sz12 by12 ag12 so12 iz12 zk12 iu12 sz13 by13 ag13 so13 fl13_0 fl13_1 iz13 zk13 iu13 sz14 by14 ag14 so14 fl14_0 fl14_1 iz14 zk14 iu14 u15 sz15 by15 ag15 so15 iz15 zk15 iu15 u16 sz16 by16 ag16 so16 iz16 zk16 iu16 u17 sz17 by17 ag17 so17 iz17 zk17 iu17 sz18 by18 ag18 so18 fl18_0 iz18 zk18 iu18 sz19 by19 ag19 so19 fl19_0 iz19 zk19 iu19 u21 sz21 by21 ag21 so21 iz21 zk21 iu21 u22 sz22 by22 ag22 so22 iz22 zk22 iu22 ap22 u25 sz25 by25 ag25 so25 iz25 zk25 iu25 ap25 sz31 by31 ag31 so31 fl31_0 fl31_1 fl31_2 fl31_3 fl31_4 fl31_5 se31 iz31 zk31 iu31 sz32 by32 ag32 so32 fl32_0 fl32_1 fl32_2 fl32_3 fl32_4 fl32_5 se32 iz32 zk32 iu32 u38 sz38 by38 ag38 so38 iz38 zk38 iu38 u42 sz42 by42 ag42 so42 iz42 zk42 iu42 ap42 u43 sz43 by43 ag43 so43 iz43 zk43 iu43 ap43 sz44 by44 ag44 so44 fl44_0 fl44_1 fl44_2 fl44_3 fl44_4 fl44_5 iz44 zk44 iu44 sz45 by45 ag45 so45 fl45_0 fl45_1 fl45_2 fl45_3 fl45_4 fl45_5 iz45 zk45 iu45 sz46 by46 ag46 so46 fl46_0 fl46_1 fl46_2 fl46_3 iz46 zk46 iu46 sz47 by47 ag47 so47 fl47_0 fl47_1 fl47_2 fl47_3 iz47 zk47 iu47 u50 sz50 by50 ag50 so50 iz50 zk50 iu50 u53 sz53 by53 ag53 so53 iz53 zk53 iu53 sz64 by64 ag64 so64 fl64_0 fl64_1 se64 iz64 zk64 iu64 sz65 by65 ag65 so65 fl65_0 fl65_1 se65 iz65 zk65 iu65 sz67 by67 ag67 so67 fl67_0 fl67_1 fl67_2 iz67 zk67 iu67 sz68 by68 ag68 so68 fl68_0 fl68_1 fl68_2 iz68 zk68 iu68 u69 sz69 by69 ag69 so69 iz69 zk69 iu69 ap69 sz72 by72 ag72 so72 iz72 zk72 iu72 sz73 by73 ag73 so73 iz73 zk73 iu73 u77 sz77 by77 ag77 so77 iz77 zk77 iu77 ap77 sz81 by81 ag81 so81 fl81_0 fl81_1 fl81_2 iz81 zk81 iu81 sz82 by82 ag82 so82 fl82_0 fl82_1 fl82_2 iz82 zk82 iu82 u83 sz83 by83 ag83 so83 iz83 zk83 iu83 u89 sz89 by89 ag89 so89 iz89 zk89 iu89 ap89 u91 sz91 by91 ag91 so91 iz91 zk91 iu91 ap91 u92 sz92 by92 ag92 so92 iz92 zk92 iu92 u98 sz98 by98 ag98 so98 iz98 zk98 iu98 u108 sz108 by108 ag108 so108 iz108 zk108 iu108 u113 sz113 by113 ag113 so113 iz113 zk113 iu113 u114 sz114 by114 ag114 so114 iz114 zk114 iu114 ap114 aps114 sz115 by115 ag115 so115 fl115_0 fl115_1 iz115 zk115 iu115 sz116 by116 ag116 so116 fl116_0 fl116_1 iz116 zk116 iu116 u121 sz121 by121 ag121 so121 iz121 zk121 iu121 u124 sz124 by124 ag124 so124 iz124 zk124 iu124 u129 sz129 by129 ag129 so129 iz129 zk129 iu129 u130 sz130 by130 ag130 so130 iz130 zk130 iu130 sz134 by134 ag134 so134 fl134_0 fl134_1 fl134_2 iz134 zk134 iu134 sz135 by135 ag135 so135 fl135_0 fl135_1 fl135_2 iz135 zk135 iu135 u137 sz137 by137 ag137 so137 iz137 zk137 iu137 sz146 by146 ag146 so146 fl146_0 fl146_1 se146 iz146 zk146 iu146 sz147 by147 ag147 so147 fl147_0 fl147_1 se147 iz147 zk147 iu147 u148 sz148 by148 ag148 so148 iz148 zk148 iu148 u151 sz151 by151 ag151 so151 iz151 zk151 iu151 sz152 by152 ag152 so152 fl152_0 se152 iz152 zk152 iu152 sz153 by153 ag153 so153 fl153_0 se153 iz153 zk153 iu153 u155 sz155 by155 ag155 so155 iz155 zk155 iu155 u156 sz156 by156 ag156 so156 iz156 zk156 iu156 u160 sz160 by160 ag160 so160 iz160 zk160 iu160 u161 sz161 by161 ag161 so161 iz161 zk161 iu161 sz162 by162 ag162 so162 fl162_0 fl162_1 fl162_2 fl162_3 iz162 zk162 iu162 sz163 by163 ag163 so163 fl163_0 fl163_1 fl163_2 fl163_3 iz163 zk163 iu163 u164 sz164 by164 ag164 so164 iz164 zk164 iu164 sz165 by165 ag165 so165 fl165_0 iz165 zk165 iu165 sz166 by166 ag166 so166 fl166_0 iz166 zk166 iu166 u168 sz168 by168 ag168 so168 iz168 zk168 iu168 u169 sz169 by169 ag169 so169 iz169 zk169 iu169 u171 sz171 by171 ag171 so171 iz171 zk171 iu171 u172 sz172 by172 ag172 so172 iz172 zk172 iu172 sz173 by173 ag173 so173 fl173_0 fl173_1 fl173_2 fl173_3 fl173_4 fl173_5 fl173_6 fl173_7 fl173_8 fl173_9 fl173_10 iz173 zk173 iu173 sz174 by174 ag174 so174 fl174_0 fl174_1 fl174_2 fl174_3 fl174_4 fl174_5 fl174_6 fl174_7 fl174_8 fl174_9 fl174_10 iz174 zk174 iu174 if20 if100 if101 zv2 zv3 zv4 zv5 zv6 zv7 zv8 zv9 zv10 zv11 zv12 zv13 zv14 zv15 zv16 zv17 zv18 zv19 zv21 zv22 zv25 zv31 zv32 zv38 zv42 zv43 zv44 zv45 zv46 zv47 zv50 zv53 zv64 zv65 zv67 zv68 zv69 zv77 zv81 zv82 zv83 zv89 zv91 zv92 zv98 zv108 zv113 zv114 zv115 zv116 zv121 zv124 zv129 zv130 zv134 zv135 zv137 zv146 zv147 zv148 zv151 zv152 zv153 zv155 zv156 zv160 zv161 zv162 zv163 zv168 zv169 zv171 zv172 zv173 zv174
end Go.Proofs.YtohiagaclfaolaaDoor

/- Which slots live behind each region, made by program (keeps2.py). -/
namespace Go.Proofs.YtohiagaclfaolaaDoor
def kp4 (i : Nat) : List Nat := if i < 17 then if i < 8 then if i < 4 then if i < 2 then if i < 1 then [0, 1, 2] else [0, 1, 2, 21] else if i < 3 then [6] else [0, 1, 2, 29] else if i < 6 then if i < 5 then [6] else [0, 1, 2, 7, 8] else if i < 7 then [0, 1, 2, 7, 8, 10] else [0, 1, 2, 7, 45] else if i < 12 then if i < 10 then if i < 9 then [6] else [0, 1, 2, 7, 50] else if i < 11 then [6] else [0, 1, 7, 11] else if i < 14 then if i < 13 then [0, 1, 7, 11, 12] else [0, 1, 7, 11, 12, 13, 14] else if i < 15 then [0, 1, 7, 11, 12, 13, 14, 82] else if i < 16 then [6] else [0, 1, 7, 11, 13, 91] else if i < 25 then if i < 21 then if i < 19 then if i < 18 then [6] else [0, 1, 7, 11, 13, 93, 94] else if i < 20 then [0, 1, 7, 11, 13, 93, 94, 95] else [0, 1, 7, 11, 13, 15, 93, 94] else if i < 23 then if i < 22 then [0, 1, 7, 11, 13, 15, 16, 17, 93, 94] else [0, 1, 7, 11, 13, 15, 16, 17, 93, 94, 104] else if i < 24 then [0, 1, 7, 11, 13, 15, 16, 17, 93, 94] else [0, 1, 7, 11, 13, 15, 16, 17, 93, 94, 111] else if i < 29 then if i < 27 then if i < 26 then [0, 1, 7, 11, 13, 15, 16, 17, 93, 94] else [0, 1, 7, 11, 13, 15, 93, 94, 138] else if i < 28 then [6] else [0, 1, 7, 11, 13, 15, 93, 94, 144] else if i < 31 then if i < 30 then [0, 1, 7, 11, 13, 19, 93, 94] else [0, 1, 7, 11, 13, 93, 94, 158] else if i < 32 then [6] else if i < 33 then [0, 1, 7, 11, 13, 93, 94] else [6]
def kp5 (i : Nat) : List Nat := if i < 10 then if i < 5 then if i < 2 then if i < 1 then [1, 2, 3] else [1, 2, 3, 16] else if i < 3 then [6] else if i < 4 then [1, 2, 3, 20] else [6] else if i < 7 then if i < 6 then [1, 2, 3, 7] else [1, 2, 3, 7, 8, 9] else if i < 8 then [1, 2, 3, 7, 8, 9, 10, 11] else if i < 9 then [1, 2, 3, 7, 8, 9, 10, 11, 12] else [1, 2, 3, 7, 8, 9, 12, 57] else if i < 15 then if i < 12 then if i < 11 then [6] else [1, 2, 3, 8, 9, 12, 59] else if i < 13 then [6] else if i < 14 then [1, 2, 3, 8, 9, 60, 61, 62] else [1, 2, 3, 8, 9, 60, 61, 62, 63] else if i < 17 then if i < 16 then [1, 2, 3, 8, 9, 14, 60, 61, 62] else [1, 2, 3, 8, 9, 60, 61, 62, 72] else if i < 18 then [6] else if i < 19 then [1, 2, 3, 8, 9, 60, 61, 62] else [6]
def kp6 (i : Nat) : List Nat := if i < 2 then if i < 1 then [] else [1, 2, 3] else if i < 3 then [1, 2, 3, 4, 5] else if i < 4 then [1, 2, 3, 4, 5, 7] else [0]
def kp7 (i : Nat) : List Nat := if i < 3 then if i < 1 then [0, 1] else if i < 2 then [0, 1, 5] else [0, 1, 5, 9] else if i < 5 then if i < 4 then [0, 1, 5] else [0, 1, 5, 18] else if i < 6 then [4] else [4]
def kp8 (i : Nat) : List Nat := if i < 13 then if i < 6 then if i < 3 then if i < 1 then [0] else if i < 2 then [0, 11] else [2, 3] else if i < 4 then [0, 4, 5] else if i < 5 then [0, 4, 5, 12, 13, 14] else [0, 4, 5, 12, 13, 14, 15] else if i < 9 then if i < 7 then [0, 4, 5, 6, 7, 12, 13, 14] else if i < 8 then [0, 4, 5, 6, 7, 12, 13, 14] else [0, 4, 5, 6, 7, 8, 12, 13, 14] else if i < 11 then if i < 10 then [0, 4, 5, 6, 7, 8, 12, 13, 14, 27] else [0, 4, 5, 6, 7, 8, 12, 13, 14, 27, 28] else if i < 12 then [0, 4, 5, 6, 7, 8, 12, 13, 14, 27, 28] else [0, 4, 5, 12, 13, 14] else if i < 20 then if i < 16 then if i < 14 then [0, 4, 5, 12, 13, 14, 37] else if i < 15 then [2, 3] else [0, 4, 5, 6, 7, 8, 12, 13, 14, 27, 38] else if i < 18 then if i < 17 then [0, 4, 5, 6, 7, 8, 12, 13, 14, 38] else [0, 4, 5, 6, 7, 8, 12, 13, 14, 58] else if i < 19 then [2, 3] else [0, 4, 5, 6, 7, 8, 12, 13, 14] else if i < 23 then if i < 21 then [0, 4, 5, 6, 7, 12, 13, 14] else if i < 22 then [0, 4, 5, 6, 12, 13, 14, 71] else [0, 4, 5, 12, 13, 14] else if i < 25 then if i < 24 then [0, 4, 5, 12, 13, 14] else [4, 79] else if i < 26 then [2, 3] else [2, 3]
def kp9 (i : Nat) : List Nat := if i < 14 then if i < 7 then if i < 3 then if i < 1 then [0] else if i < 2 then [0, 9] else [2, 3] else if i < 5 then if i < 4 then [0, 4] else [0, 4, 5] else if i < 6 then [0, 4, 5, 6] else [0, 4, 5, 6, 16] else if i < 10 then if i < 8 then [0, 4, 5, 6] else if i < 9 then [0, 4, 5, 6] else [0, 4, 5, 6, 27] else if i < 12 then if i < 11 then [0, 4, 5, 6, 27, 28] else [0, 4, 5, 6, 27, 28] else if i < 13 then [0, 4, 5, 6, 33] else [2, 3] else if i < 21 then if i < 17 then if i < 15 then [0, 4, 5, 6] else if i < 16 then [0, 4, 5, 6, 27, 38] else [0, 4, 5, 6, 55] else if i < 19 then if i < 18 then [2, 3] else [0, 4, 5, 6] else if i < 20 then [0, 4, 5, 6] else [0, 4, 5, 6, 71] else if i < 24 then if i < 22 then [0, 4, 5, 6, 75] else if i < 23 then [2, 3] else [0, 4, 5, 6] else if i < 26 then if i < 25 then [0, 4, 5, 6] else [4, 92] else if i < 27 then [2, 3] else [2, 3]
def kp11 (i : Nat) : List Nat := if i < 5 then if i < 2 then if i < 1 then [1, 2] else [1, 2, 5, 6] else if i < 3 then [1, 2, 5, 25] else if i < 4 then [4] else [1, 5, 27, 28] else if i < 8 then if i < 6 then [1, 5, 27, 28, 29] else if i < 7 then [1, 5, 7, 8, 27, 28] else [1, 5, 27, 28, 58] else if i < 9 then [4] else if i < 10 then [1, 5, 27, 28] else [4]
def kp12 (i : Nat) : List Nat := if i < 2 then if i < 1 then [1] else [1, 19] else if i < 3 then [2, 3] else [2, 3]
def kp13 (i : Nat) : List Nat := if i < 6 then if i < 3 then if i < 1 then [1] else if i < 2 then [1, 5] else [1, 5, 6] else if i < 4 then [1, 5, 6] else if i < 5 then [1, 5, 6] else [1, 5, 6] else if i < 9 then if i < 7 then [1, 5, 6] else if i < 8 then [1, 5, 6] else [1, 5, 6] else if i < 11 then if i < 10 then [1, 5, 6] else [1, 6] else if i < 12 then [2, 3] else [2, 3]
def kp14 (i : Nat) : List Nat := if i < 4 then if i < 2 then if i < 1 then [1] else [1, 3] else if i < 3 then [1, 3, 5] else [1, 5, 14, 15, 16] else if i < 6 then if i < 5 then [1, 5, 14, 15, 16, 17] else [1, 5, 7, 14, 15, 16] else if i < 7 then [1, 5, 14, 15, 16] else if i < 8 then [1, 5, 14, 15, 16] else [2]
def kp15 (i : Nat) : List Nat := if i < 12 then if i < 6 then if i < 3 then if i < 1 then [1, 2] else if i < 2 then [1, 2, 5, 6] else [1, 2, 5, 25] else if i < 4 then [4] else if i < 5 then [1, 2, 5, 7] else [1, 2, 5, 7, 8] else if i < 9 then if i < 7 then [1, 2, 5, 7, 8, 29] else if i < 8 then [1, 2, 5, 7, 8] else [1, 2, 5, 7, 8, 32] else if i < 10 then [1, 2, 5, 7, 8, 40] else if i < 11 then [4] else [1, 2, 5, 7, 8, 41] else if i < 18 then if i < 15 then if i < 13 then [1, 2, 5, 7, 8, 56] else if i < 14 then [4] else [2, 58] else if i < 16 then [2, 58, 59] else if i < 17 then [4] else [2, 58, 69] else if i < 21 then if i < 19 then [4] else if i < 20 then [2, 58, 79] else [4] else if i < 22 then [2, 89] else if i < 23 then [4] else [4]
def kp16 (i : Nat) : List Nat := if i < 6 then if i < 3 then if i < 1 then [1] else if i < 2 then [1, 3, 4] else [1, 3, 16] else if i < 4 then [2] else if i < 5 then [1, 3, 5] else [1, 3, 5, 6] else if i < 9 then if i < 7 then [3, 5, 6, 8] else if i < 8 then [3, 5, 6, 8, 9] else [3, 5, 6, 8, 9, 27] else if i < 11 then if i < 10 then [3, 5, 6, 8, 9] else [3, 5, 6, 8, 9, 41] else if i < 12 then [3, 5, 6, 8, 9] else [2]
def kp17 (i : Nat) : List Nat := if i < 5 then if i < 2 then if i < 1 then [0, 2] else [0, 2, 11] else if i < 3 then [0, 2, 14] else if i < 4 then [2, 3, 4] else [2, 5, 6, 7] else if i < 7 then if i < 6 then [2, 6, 7, 8, 9] else [2, 6, 8, 31] else if i < 8 then [2, 3, 4] else if i < 9 then [0, 2] else [2, 3, 4]
def kp18 (i : Nat) : List Nat := if i < 7 then if i < 3 then if i < 1 then [1] else if i < 2 then [1, 39] else [2] else if i < 5 then if i < 4 then [1, 4] else [1, 53] else if i < 6 then [2] else [1, 59, 60, 61] else if i < 10 then if i < 8 then [1, 59, 60, 61, 62] else if i < 9 then [1, 5, 6, 59, 60, 61] else [1, 6, 7, 8, 59, 60, 61] else if i < 12 then if i < 11 then [1, 59, 60, 61, 96] else [2] else if i < 13 then [1, 59, 60, 61] else [2]
def kp19 (i : Nat) : List Nat := if i < 6 then if i < 3 then if i < 1 then [1, 2] else if i < 2 then [1, 2, 16] else [2, 3] else if i < 4 then [1, 2, 4] else if i < 5 then [1, 2, 4, 24] else [2, 3] else if i < 9 then if i < 7 then [2, 4, 5, 7] else if i < 8 then [2, 4, 7, 34, 35] else [2, 4, 7, 34, 35, 36] else if i < 11 then if i < 10 then [2, 4, 7, 8, 34, 35] else [2, 4, 7, 34, 35] else if i < 12 then [2, 4, 7, 34, 35] else [2, 3]
def kp20 (i : Nat) : List Nat := if i < 1 then [1, 2] else [2]
def kp21 (i : Nat) : List Nat := if i < 5 then if i < 2 then if i < 1 then [0, 1, 2] else [1, 2, 7] else if i < 3 then [1, 2, 7, 8] else if i < 4 then [6] else [1, 7, 17] else if i < 8 then if i < 6 then [6] else if i < 7 then [1, 7, 25] else [6] else if i < 9 then [1, 33] else if i < 10 then [6] else [6]
def kp22 (i : Nat) : List Nat := if i < 1 then [0] else [0]
def kp23 (i : Nat) : List Nat := if i < 14 then if i < 7 then if i < 3 then if i < 1 then [1] else if i < 2 then [1, 8] else [1, 8, 9] else if i < 5 then if i < 4 then [2, 3] else [1, 8, 11] else if i < 6 then [2, 3] else [1, 8, 13] else if i < 10 then if i < 8 then [1, 8, 13] else if i < 9 then [2, 3] else [1, 8, 16] else if i < 12 then if i < 11 then [4, 6] else [2, 3] else if i < 13 then [8, 31] else [8, 31] else if i < 21 then if i < 17 then if i < 15 then [8, 31] else if i < 16 then [2, 3] else [8, 35] else if i < 19 then if i < 18 then [8, 35] else [2, 3] else if i < 20 then [8, 38] else [2, 3] else if i < 24 then if i < 22 then [8, 40] else if i < 23 then [2, 3] else [8, 42] else if i < 26 then if i < 25 then [8, 42] else [42] else if i < 27 then [2, 3] else [2, 3]
def kp24 (i : Nat) : List Nat := if i < 1 then [1, 2] else [2]
def kp25 (i : Nat) : List Nat := if i < 1 then [0, 1] else [4, 5, 6]
def kp27 (i : Nat) : List Nat := if i < 1 then [0, 1] else [4]
def kp28 (i : Nat) : List Nat := if i < 1 then [1, 2] else [3]
def kp29 (i : Nat) : List Nat := if i < 8 then if i < 4 then if i < 2 then if i < 1 then [0] else [0, 3] else if i < 3 then [0, 3, 9, 10, 11] else [0, 3, 9, 10, 11, 12] else if i < 6 then if i < 5 then [0, 3, 5, 9, 10, 11] else [0, 3, 9, 10, 11] else if i < 7 then [0, 3, 9, 10, 11, 20] else [0, 3, 9, 10, 11] else if i < 12 then if i < 10 then if i < 9 then [0, 3, 9, 10, 11] else [0, 6] else if i < 11 then [6, 25, 26, 27] else [6, 25, 26, 27, 28] else if i < 14 then if i < 13 then [6, 8, 25, 26, 27] else [6, 25, 26, 27] else if i < 15 then [6, 25, 26, 27] else [2]
def kp30 (i : Nat) : List Nat := if i < 1 then [1] else if i < 2 then [1, 4, 5] else [2, 3]
def kp33 (i : Nat) : List Nat := if i < 2 then if i < 1 then [0, 1] else [0, 1, 7] else if i < 3 then [0, 1, 7, 12] else if i < 4 then [4, 5, 6] else [4, 5, 6]
def kp35 (i : Nat) : List Nat := if i < 10 then if i < 5 then if i < 2 then if i < 1 then [0, 2] else [0, 2, 3] else if i < 3 then [0, 2, 3, 4] else if i < 4 then [0, 2, 3, 5] else [0, 2, 3, 5, 17] else if i < 7 then if i < 6 then [0, 2, 3, 5] else [0, 2, 3, 5, 6] else if i < 8 then [0, 2, 5, 6, 7] else if i < 9 then [0, 2, 6, 7, 30] else [0, 2, 6, 7] else if i < 15 then if i < 12 then if i < 11 then [0, 2, 6, 7, 39] else [0, 2, 6, 7] else if i < 13 then [0, 2, 6, 7, 49, 50, 51] else if i < 14 then [0, 2, 6, 7, 49, 50, 51, 52] else [0, 2, 6, 7, 8, 9, 49, 50, 51] else if i < 17 then if i < 16 then [0, 2, 6, 7, 49, 50, 51] else [0, 2, 6, 7, 49, 50, 51] else if i < 18 then [2, 6, 72] else if i < 19 then [2, 6] else [2]
def kp36 (i : Nat) : List Nat := if i < 4 then if i < 2 then if i < 1 then [0, 1] else [0, 1, 7, 8] else if i < 3 then [0, 1, 7, 8, 9] else [0, 1, 5, 7, 8] else if i < 6 then if i < 5 then [0, 1, 5, 7, 8, 16] else [4] else if i < 7 then [0, 1, 7, 8] else [4]
def kp41 (i : Nat) : List Nat := if i < 18 then if i < 9 then if i < 4 then if i < 2 then if i < 1 then [0, 1] else [0, 1, 5] else if i < 3 then [0, 1, 5, 16] else [4] else if i < 6 then if i < 5 then [0, 1, 5, 24] else [4] else if i < 7 then [0, 1, 5, 31] else if i < 8 then [4] else [0, 1, 5, 36] else if i < 13 then if i < 11 then if i < 10 then [4] else [0, 1, 5, 6] else if i < 12 then [0, 1, 5, 6, 7] else [0, 1, 5, 6, 7, 8] else if i < 15 then if i < 14 then [0, 1, 5, 6, 7, 8, 9] else [0, 1, 5, 6, 7, 8, 9, 10] else if i < 16 then [0, 1, 5, 6, 7, 8, 9, 10, 59] else if i < 17 then [0, 1, 5, 6, 7, 8, 9, 10, 64] else [0, 1, 5, 6, 7, 8, 9, 10, 11] else if i < 27 then if i < 22 then if i < 20 then if i < 19 then [0, 1, 5, 6, 7, 8, 9, 10, 11, 73] else [4] else if i < 21 then [0, 1, 5, 6, 7, 8, 9, 10] else [0, 1, 5, 6, 7, 8, 9, 10, 93] else if i < 24 then if i < 23 then [4] else [0, 1, 5, 6, 7, 8, 9, 10] else if i < 25 then [0, 1, 5, 6, 7, 8, 9, 10] else if i < 26 then [0, 1, 5, 6, 7, 8, 9, 10, 107] else [8, 12] else if i < 31 then if i < 29 then if i < 28 then [8, 12, 114] else [4] else if i < 30 then [4] else [0, 1, 5, 6, 7, 8, 9, 10, 132] else if i < 33 then if i < 32 then [8, 13] else [8, 13, 139] else if i < 34 then [4] else if i < 35 then [4] else [4]
def kp42 (i : Nat) : List Nat := if i < 1 then [0, 1] else [4]
def kp43 (i : Nat) : List Nat := if i < 4 then if i < 2 then if i < 1 then [0, 1] else [0, 1, 7, 8] else if i < 3 then [0, 1, 7, 8, 9] else [0, 1, 5, 7, 8] else if i < 6 then if i < 5 then [0, 1, 5, 7, 8, 16] else [4] else if i < 7 then [0, 1, 7, 8] else [4]
def kp44 (i : Nat) : List Nat := if i < 1 then [1, 2] else [3]
def kp45 (i : Nat) : List Nat := if i < 2 then if i < 1 then [0] else [3, 4] else if i < 3 then [3, 12] else if i < 4 then [3] else [2]
def kp46 (i : Nat) : List Nat := if i < 7 then if i < 3 then if i < 1 then [1] else if i < 2 then [1, 3] else [1, 3, 5] else if i < 5 then if i < 4 then [1, 3, 5, 19] else [1, 3, 5] else if i < 6 then [1, 5, 26, 27, 28] else [1, 5, 26, 27, 28, 29] else if i < 10 then if i < 8 then [1, 5, 6, 7, 26, 27, 28] else if i < 9 then [1, 5, 7, 8, 26, 27, 28] else [1, 5, 8, 26, 27, 28, 39] else if i < 12 then if i < 11 then [1, 5, 8, 26, 27, 28] else [1, 5, 26, 27, 28] else if i < 13 then [1, 5, 26, 27, 28] else [2]
def kp48 (i : Nat) : List Nat := if i < 1 then [0, 1] else [4]
def kp52 (i : Nat) : List Nat := if i < 9 then if i < 4 then if i < 2 then if i < 1 then [0, 1, 2, 3] else [0, 1, 2, 3, 13] else if i < 3 then [8] else [0, 1, 2, 3, 15] else if i < 6 then if i < 5 then [8] else [0, 1, 2, 3, 20] else if i < 7 then [0, 1, 2, 3] else if i < 8 then [0, 1, 2, 3] else [0, 1, 2, 3, 9] else if i < 14 then if i < 11 then if i < 10 then [0, 1, 2, 3, 9] else [0, 1, 2, 3, 9, 10] else if i < 12 then [0, 1, 2, 3, 9, 10, 36] else if i < 13 then [0, 1, 2, 3, 9, 10, 11] else [0, 1, 2, 3, 9, 10, 11, 41] else if i < 16 then if i < 15 then [0, 1, 2, 3, 9, 10, 11] else [0, 1, 2, 3, 9, 10] else if i < 17 then [0, 1, 2, 3, 9, 10] else if i < 18 then [9, 10] else [8]
def kp54 (i : Nat) : List Nat := if i < 1 then [0, 1] else [4]
def kp61 (i : Nat) : List Nat := if i < 5 then if i < 2 then if i < 1 then [0, 1] else [0, 1, 9] else if i < 3 then [4] else if i < 4 then [0, 1, 15] else [4] else if i < 8 then if i < 6 then [0, 1, 5] else if i < 7 then [0, 1, 5, 6] else [0, 1, 5, 6, 24] else if i < 9 then [4] else if i < 10 then [0, 1, 5, 6] else [0, 1, 5]
def kp62 (i : Nat) : List Nat := if i < 1 then [0, 1] else [4]
def kp65 (i : Nat) : List Nat := if i < 2 then if i < 1 then [0, 1] else [0, 1, 7] else if i < 3 then [4] else [4]
def kp78 (i : Nat) : List Nat := if i < 1 then [0, 1] else [4]
end Go.Proofs.YtohiagaclfaolaaDoor

/- Sizes, arrays, frames: what the functions compute, by lists of integers. -/
namespace Go.Proofs.YtohiagaclfaolaaDoor
open Go Go.Fw
set_option maxRecDepth 20000

def sInt : ByteArray := ⟨#[105, 110, 116]⟩
def sBool : ByteArray := ⟨#[98, 111, 111, 108]⟩
def vld (s : ByteArray) (n : Int) : Bool := if eqS s sInt = true then decide (-2147483648 ≤ n ∧ n ≤ 2147483647) else if eqS s sBool = true then decide (n = 0 ∨ n = 1) else false
def badD (d : Int) : Bool := decide (d < 0) || decide (d > 4096)
/-- The product, and an error when a partial product is too great. -/
def prodS : List Int → Int → Int × Int
  | [], n => (n, 0)
  | d :: t, n => if n * d > 4096 then (0, 3) else prodS t (n * d)
def sizeS (l : List Int) : Int × Int := if l.length > 6 then (0, 13) else if l.any badD = true then (0, 2) else if l.any (fun d => 0 == d) = true then (0, 0) else prodS l 1
structure Arr where
  e : ByteArray
  d : List Int
  x : List Int
def arrV (a : Arr) : AV := .agg [.lit (.string a.e), .sl false 1 (ints .i64 a.d), .sl false 1 (ints .i64 a.x)]
def nilA : Arr := ⟨⟨#[]⟩, [], []⟩
instance : Inhabited Arr := ⟨nilA⟩
def arrs (l : List Arr) : List AV := l.map arrV
theorem prodS_bd {l : List Int} {n : Int} (hl : ∀ d ∈ l, 0 ≤ d ∧ d ≤ 4096) (hn : 0 ≤ n ∧ n ≤ 4096) : 0 ≤ (prodS l n).1 ∧ (prodS l n).1 ≤ 4096 := by
  induction l generalizing n with
  | nil => exact hn
  | cons d t ih =>
    unfold prodS
    split
    · exact ⟨by decide, by decide⟩
    · rename_i h
      have h1 := hl d (by simp)
      exact ih (fun x hx => hl x (by simp [hx])) ⟨Int.mul_nonneg hn.1 h1.1, by omega⟩
theorem bad_no {l : List Int} (h : ¬ l.any badD = true) : ∀ d ∈ l, 0 ≤ d ∧ d ≤ 4096 := by
  intro d hd
  have : ¬ badD d = true := fun hb => h (List.any_eq_true.2 ⟨d, hd, hb⟩)
  unfold badD at this
  simp only [Bool.or_eq_true, decide_eq_true_eq, not_or] at this
  omega
theorem sizeS_bd (l : List Int) : 0 ≤ (sizeS l).1 ∧ (sizeS l).1 ≤ 4096 := by
  unfold sizeS
  split
  · exact ⟨by decide, by decide⟩
  split
  · exact ⟨by decide, by decide⟩
  split
  · exact ⟨by decide, by decide⟩
  rename_i h _
  exact prodS_bd (bad_no h) ⟨by decide, by decide⟩
theorem arrs_length (l : List Arr) : (arrs l).length = l.length := by simp [arrs]
theorem drop_getD {α : Type} {l : List α} {i : Nat} (z : α) (h : i < l.length) : l.drop i = l.getD i z :: l.drop (i + 1) := by
  rw [List.drop_eq_getElem_cons h]; simp [List.getD, h]
end Go.Proofs.YtohiagaclfaolaaDoor

/- Validity of an element, sizes of dimensions, copies and comparisons of lists of integers. -/
namespace Go.Proofs.YtohiagaclfaolaaDoor
open Go Go.Fw
set_option maxRecDepth 20000

noncomputable def E0 : Env := envOf (P := Tryd.prog) zer (fun _ => false) (fun _ => false) [] []
theorem E0_ok : EnvOk Tryd.prog E0 := envOk zer_ok
/-- Does any hold, from a place on? -/
def idxG (p : Int → Bool) : List Int → Int → Int
  | [], _ => -1
  | d :: t, i => if p d = true then i else idxG p t (i + 1)
theorem idxG_any (p : Int → Bool) : ∀ (l : List Int) (i : Int), 0 ≤ i → decide (idxG p l i ≥ 0) = l.any p
  | [], _, _ => rfl
  | d :: t, i, hi => by
    unfold idxG
    by_cases h : p d = true
    · rw [if_pos h, List.any_cons, h, decide_eq_true hi]; rfl
    · rw [if_neg h, idxG_any p t (i + 1) (by omega), List.any_cons]
      simp only [Bool.not_eq_true] at h
      rw [h]; rfl
theorem index_pc {l : List Int} {v : Int} (hl : l.length ≤ 1000000) : PC Tryd.prog 57 [.sl false 1 (ints .i64 l), .lit (.int .i64 v)] (.lit (.int .i64 (idxG (fun d => v == d) l 0))) := by
  generalize hR : idxG (fun d => v == d) l 0 = R
  refine pcO E0_ok (fun _ => [0, 1, 4, 5, 7, 8, 9, 16]) Tryd.func57 (h := fun KF => ?_)
  unfold E0
  repeat' (first
   | (with_reducible first | refine t_seq fun K => ?_ | refine nx ?_ | refine t_br (fun hc => ?_) fun hc => ?_) | exact kpd
   | ((with_reducible first | refine ny ?_ | refine t_kLF ?_ ?_ | refine t_region fun K => ?_ | refine t_cond fun A B => ?_ | refine t_dw (h := fun K => ?_)); simp only [go_sem, geff])
   | simp only [thenQ, blockQ, scopeQ, Nat.reduceEqDiff, reduceIte] | (with_reducible first | refine And.intro ?_ ?_ | intro vr))
  refine t_loop (ι := { i : Nat // i ≤ l.length ∧ idxG (fun d => v == d) (l.drop i) i = R }) (fun i => ⟨upd (upd (upd (upd topF 8 (.lit (.int .i64 i.1))) 7 (.lit (.int .i64 l.length))) 1 (.lit (.int .i64 v))) 0 (.sl false 1 (ints .i64 l)), []⟩) (fun i => l.length - i.1) ⟨0, by omega, hR⟩ ?_ ?_
  · skip
    (refine Le.frame ?_; repeat' (first | exact leF_top _ | (with_reducible refine leF_sl ?_ ?_) | (refine leF_upd (LeR.of_eq ?_) ?_))) <;> (try (simp only [go_sem]; try rfl))
  · rintro ⟨i, hi, hF⟩ K0
    rcases Nat.lt_or_ge i l.length with hc | hc
    · have g1 : decide ((i : Int) < (l.length : Int)) = true := decide_eq_true (by omega)
      have g2 := ints_getD .i64 l i hc
      rw [drop_getD 0 hc, idxG] at hF
      generalize l.getD i 0 = d at g2 hF
      by_cases he : (v == d) = true
      · rw [if_pos he] at hF
        subst hF
        repeat' (first
         | (with_reducible first | refine t_seq fun K => ?_ | refine nx ?_ | refine t_br (fun hc => ?_) fun hc => ?_) | exact kpd
         | ((with_reducible first | refine ny ?_ | refine t_kLF ?_ ?_ | refine t_region fun K => ?_ | refine t_cond fun A B => ?_ | refine t_dw (h := fun K => ?_)); simp only [go_sem, geff, g1, g2, he, Int.toNat_natCast])
         | simp only [thenQ, blockQ, scopeQ, Nat.reduceEqDiff, reduceIte] | (with_reducible first | refine And.intro ?_ ?_ | intro vr))
        all_goals try exact om
        refine end_ret rfl ?_
        simp only [fin, go_sem]
        exact LeA.refl _
      · rw [if_neg he] at hF
        have he' : (v == d) = false := by simpa using he
        repeat' (first
         | (with_reducible first | refine t_seq fun K => ?_ | refine nx ?_ | refine t_br (fun hc => ?_) fun hc => ?_) | exact kpd
         | ((with_reducible first | refine ny ?_ | refine t_kLF ?_ ?_ | refine t_region fun K => ?_ | refine t_cond fun A B => ?_ | refine t_dw (h := fun K => ?_)); simp only [go_sem, geff, g1, g2, he', Int.toNat_natCast])
         | simp only [thenQ, blockQ, scopeQ, Nat.reduceEqDiff, reduceIte] | (with_reducible first | refine And.intro ?_ ?_ | intro vr))
        all_goals try exact om
        refine ⟨⟨i + 1, by omega, by rw [← hF]; congr 1⟩, by simp only; omega, ?_⟩
        (refine Le.frame ?_; repeat' (first | exact leF_top _ | (with_reducible refine leF_sl ?_ ?_) | (refine leF_upd (LeR.of_eq ?_) ?_))) <;> (try (simp only [go_sem]; try rfl))
    · have g1 : decide ((i : Int) < (l.length : Int)) = false := decide_eq_false (by omega)
      rw [List.drop_eq_nil_of_le hc, idxG] at hF
      subst hF
      repeat' (first
       | (with_reducible first | refine t_seq fun K => ?_ | refine nx ?_ | refine t_br (fun hc => ?_) fun hc => ?_) | exact kpd
       | ((with_reducible first | refine ny ?_ | refine t_kLF ?_ ?_ | refine t_region fun K => ?_ | refine t_cond fun A B => ?_ | refine t_dw (h := fun K => ?_)); simp only [go_sem, geff, g1])
       | simp only [thenQ, blockQ, scopeQ, Nat.reduceEqDiff, reduceIte] | (with_reducible first | refine And.intro ?_ ?_ | intro vr))
      refine end_ret rfl ?_
      simp only [fin, go_sem]
      exact LeA.refl _
noncomputable def con57 : PCon Tryd.prog where
  f := 57
  c := fun
    | [xl, .lit (.int .i64 v)] => match slK .i64 xl with | some l => some (l.length ≤ 1000000, .lit (.int .i64 (idxG (fun d => v == d) l 0))) | _ => none
    | _ => none
  ok := by
    intro args p r hc hp
    split at hc
    · split at hc
      · rename_i hl
        cases hc
        exact PC.weak (index_pc hp) ⟨slK_le hl, LeA.refl _, trivial⟩
      · cases hc
    · cases hc
  fk := fk57
theorem con57_f : con57.f = 57 := rfl
theorem con57_c {xl : AV} {v : Int} : con57.c [xl, .lit (.int .i64 v)] = match slK .i64 xl with | some l => some (l.length ≤ 1000000, .lit (.int .i64 (idxG (fun d => v == d) l 0))) | _ => none := rfl
noncomputable def E1 : Env := envOf (P := Tryd.prog) zer (fun _ => false) (fun _ => false) [con57] []
theorem E1_ok : EnvOk Tryd.prog E1 := envOk zer_ok
theorem contains_pc {l : List Int} {v : Int} (hl : l.length ≤ 1000000) : PC Tryd.prog 47 [.sl false 1 (ints .i64 l), .lit (.int .i64 v)] (.lit (.bool (l.any fun d => v == d))) := by
  have h := idxG_any (fun d => v == d) l 0 (by omega)
  refine pcO E1_ok (fun _ => [0, 1, 4]) Tryd.func47 (h := fun KF => ?_)
  unfold E1
  repeat' (first
   | (with_reducible first | refine t_seq fun K => ?_ | refine nx ?_ | refine t_br (fun hc => ?_) fun hc => ?_) | exact kpd
   | ((with_reducible first | refine ny ?_ | refine t_kLF ?_ ?_ | refine t_region fun K => ?_ | refine t_cond fun A B => ?_ | refine t_dw (h := fun K => ?_)); simp only [go_sem, geff, con57_f, con57_c, slK_sl, h])
   | simp only [thenQ, blockQ, scopeQ, Nat.reduceEqDiff, reduceIte] | (with_reducible first | refine And.intro ?_ ?_ | intro vr))
  all_goals try exact om
  refine end_ret rfl ?_
  simp only [fin, go_sem]
  exact LeA.refl _
noncomputable def con47 : PCon Tryd.prog where
  f := 47
  c := fun
    | [xl, .lit (.int .i64 v)] => match slK .i64 xl with | some l => some (l.length ≤ 1000000, .lit (.bool (l.any fun d => v == d))) | _ => none
    | _ => none
  ok := by
    intro args p r hc hp
    split at hc
    · split at hc
      · rename_i hl
        cases hc
        exact PC.weak (contains_pc hp) ⟨slK_le hl, LeA.refl _, trivial⟩
      · cases hc
    · cases hc
  fk := fk47
theorem con47_f : con47.f = 47 := rfl
theorem con47_c {xl : AV} {v : Int} : con47.c [xl, .lit (.int .i64 v)] = match slK .i64 xl with | some l => some (l.length ≤ 1000000, .lit (.bool (l.any fun d => v == d))) | _ => none := rfl
theorem drop_ne {l m : List Int} {i : Nat} (hl : i < l.length) (hm : i < m.length) (h : (l.getD i 0 != m.getD i 0) = true) : decide (l.drop i = m.drop i) = false := by
  rw [drop_getD 0 hl, drop_getD 0 hm]
  rw [bne_iff_ne] at h
  exact decide_eq_false fun e => h (List.cons.inj e).1
theorem drop_eq {l m : List Int} {i : Nat} (hl : i < l.length) (hm : i < m.length) (h : (l.getD i 0 != m.getD i 0) = false) : decide (l.drop i = m.drop i) = decide (l.drop (i + 1) = m.drop (i + 1)) := by
  rw [drop_getD 0 hl, drop_getD 0 hm]
  rw [bne_eq_false_iff_eq] at h
  rw [h]
  simp
theorem same_pc {l m : List Int} (hl : l.length ≤ 1000000) : PC Tryd.prog 10 [.sl false 1 (ints .i64 l), .sl false 1 (ints .i64 m)] (.lit (.bool (decide (l = m)))) := by
  by_cases hn : l.length = m.length
  · have g0 : ((l.length : Int) != (m.length : Int)) = false := by rw [bne_eq_false_iff_eq]; omega
    generalize hR : decide (l = m) = R
    refine pcO E0_ok (fun _ => [0, 1, 4, 5, 10, 14, 25]) Tryd.func10 (h := fun KF => ?_)
    unfold E0
    repeat' (first
     | (with_reducible first | refine t_seq fun K => ?_ | refine nx ?_ | refine t_br (fun hc => ?_) fun hc => ?_) | exact kpd
     | ((with_reducible first | refine ny ?_ | refine t_kLF ?_ ?_ | refine t_region fun K => ?_ | refine t_cond fun A B => ?_ | refine t_dw (h := fun K => ?_)); simp only [go_sem, geff, g0])
     | simp only [thenQ, blockQ, scopeQ, Nat.reduceEqDiff, reduceIte] | (with_reducible first | refine And.intro ?_ ?_ | intro vr))
    refine t_loop (ι := { i : Nat // i ≤ l.length ∧ decide (l.drop i = m.drop i) = R }) (fun i => ⟨upd (upd (upd topF 1 (.sl false 1 (ints .i64 m))) 0 (.sl false 1 (ints .i64 l))) 5 (.lit (.int .i64 i.1)), []⟩) (fun i => l.length - i.1) ⟨0, by omega, hR⟩ ?_ ?_
    · skip
      (refine Le.frame ?_; repeat' (first | exact leF_top _ | (with_reducible refine leF_sl ?_ ?_) | (refine leF_upd (LeR.of_eq ?_) ?_))) <;> (try (simp only [go_sem]; try rfl))
    · rintro ⟨i, hi, hF⟩ K0
      rcases Nat.lt_or_ge i l.length with hc | hc
      · have g1 : decide ((i : Int) < (l.length : Int)) = true := decide_eq_true (by omega)
        have g2 := ints_getD .i64 l i hc
        have g3 := ints_getD .i64 m i (by omega)
        by_cases he : (l.getD i 0 != m.getD i 0) = true
        · rw [drop_ne hc (by omega) he] at hF
          subst hF
          repeat' (first
           | (with_reducible first | refine t_seq fun K => ?_ | refine nx ?_ | refine t_br (fun hc => ?_) fun hc => ?_) | exact kpd
           | ((with_reducible first | refine ny ?_ | refine t_kLF ?_ ?_ | refine t_region fun K => ?_ | refine t_cond fun A B => ?_ | refine t_dw (h := fun K => ?_)); simp only [go_sem, geff, g1, g2, g3, he, Int.toNat_natCast])
           | simp only [thenQ, blockQ, scopeQ, Nat.reduceEqDiff, reduceIte] | (with_reducible first | refine And.intro ?_ ?_ | intro vr))
          all_goals try exact om
          refine end_ret rfl ?_
          simp only [fin, go_sem]
          exact LeA.refl _
        · have he' : (l.getD i 0 != m.getD i 0) = false := by simpa using he
          rw [drop_eq hc (by omega) he'] at hF
          repeat' (first
           | (with_reducible first | refine t_seq fun K => ?_ | refine nx ?_ | refine t_br (fun hc => ?_) fun hc => ?_) | exact kpd
           | ((with_reducible first | refine ny ?_ | refine t_kLF ?_ ?_ | refine t_region fun K => ?_ | refine t_cond fun A B => ?_ | refine t_dw (h := fun K => ?_)); simp only [go_sem, geff, g1, g2, g3, he', Int.toNat_natCast])
           | simp only [thenQ, blockQ, scopeQ, Nat.reduceEqDiff, reduceIte] | (with_reducible first | refine And.intro ?_ ?_ | intro vr))
          all_goals try exact om
          refine ⟨⟨i + 1, by omega, hF⟩, by simp only; omega, ?_⟩
          (refine Le.frame ?_; repeat' (first | exact leF_top _ | (with_reducible refine leF_sl ?_ ?_) | (refine leF_upd (LeR.of_eq ?_) ?_))) <;> (try (simp only [go_sem]; try rfl))
      · have g1 : decide ((i : Int) < (l.length : Int)) = false := decide_eq_false (by omega)
        rw [List.drop_eq_nil_of_le hc, List.drop_eq_nil_of_le (by omega)] at hF
        subst hF
        repeat' (first
         | (with_reducible first | refine t_seq fun K => ?_ | refine nx ?_ | refine t_br (fun hc => ?_) fun hc => ?_) | exact kpd
         | ((with_reducible first | refine ny ?_ | refine t_kLF ?_ ?_ | refine t_region fun K => ?_ | refine t_cond fun A B => ?_ | refine t_dw (h := fun K => ?_)); simp only [go_sem, geff, g1])
         | simp only [thenQ, blockQ, scopeQ, Nat.reduceEqDiff, reduceIte] | (with_reducible first | refine And.intro ?_ ?_ | intro vr))
        refine end_ret rfl ?_
        simp only [fin, go_sem]
        exact LeA.refl _
  · have g0 : ((l.length : Int) != (m.length : Int)) = true := by rw [bne_iff_ne]; omega
    have : decide (l = m) = false := decide_eq_false fun e => hn (by rw [e])
    rw [this]
    refine pcO E0_ok (fun _ => [0, 1, 4, 5, 10, 14, 25]) Tryd.func10 (h := fun KF => ?_)
    unfold E0
    repeat' (first
     | (with_reducible first | refine t_seq fun K => ?_ | refine nx ?_ | refine t_br (fun hc => ?_) fun hc => ?_) | exact kpd
     | ((with_reducible first | refine ny ?_ | refine t_kLF ?_ ?_ | refine t_region fun K => ?_ | refine t_cond fun A B => ?_ | refine t_dw (h := fun K => ?_)); simp only [go_sem, geff, g0])
     | simp only [thenQ, blockQ, scopeQ, Nat.reduceEqDiff, reduceIte] | (with_reducible first | refine And.intro ?_ ?_ | intro vr))
    refine end_ret rfl ?_
    simp only [fin, go_sem]
    exact LeA.refl _
noncomputable def con10 : PCon Tryd.prog where
  f := 10
  c := fun
    | [xl, xm] => match slK .i64 xl, slK .i64 xm with | some l, some m => some (l.length ≤ 1000000, .lit (.bool (decide (l = m)))) | _, _ => none
    | _ => none
  ok := by
    intro args p r hc hp
    split at hc
    · split at hc
      · rename_i hl hm
        cases hc
        exact PC.weak (same_pc hp) ⟨slK_le hl, slK_le hm, trivial⟩
      · cases hc
    · cases hc
  fk := fk10
theorem con10_f : con10.f = 10 := rfl
theorem con10_c {xl : AV} {xm : AV} : con10.c [xl, xm] = match slK .i64 xl, slK .i64 xm with | some l, some m => some (l.length ≤ 1000000, .lit (.bool (decide (l = m)))) | _, _ => none := rfl
end Go.Proofs.YtohiagaclfaolaaDoor

/- Sizes of dimensions. -/
namespace Go.Proofs.YtohiagaclfaolaaDoor
open Go Go.Fw
set_option maxRecDepth 20000

def szV (p : Int × Int) : AV := .tup [.lit (.int .i64 p.1), .lit (.int .i64 p.2)]
theorem mul_bd {n d : Int} (hn : 0 ≤ n ∧ n ≤ 4096) (hd : 0 ≤ d ∧ d ≤ 4096) : 0 ≤ n * d ∧ n * d ≤ 16777216 := by
  constructor
  · exact Int.mul_nonneg hn.1 hd.1
  · have := Int.mul_le_mul hn.2 hd.2 hd.1 (by omega)
    omega
structure Ls (l : List Int) (G : Int × Int) where
  i : Nat
  n : Int
  hi : i ≤ l.length
  hn : 0 ≤ n ∧ n ≤ 4096
  hF : prodS (l.drop i) n = G
noncomputable def E2 : Env := envOf (P := Tryd.prog) zer (fun _ => false) (fun _ => false) [con47] []
theorem E2_ok : EnvOk Tryd.prog E2 := envOk zer_ok
set_option maxHeartbeats 1000000 in
theorem size_pc {l : List Int} (hl : l.length ≤ 1000000) : PC Tryd.prog 38 [.sl false 1 (ints .i64 l)] (szV (sizeS l)) := by
  unfold sizeS
  by_cases h6 : l.length > 6
  · have g0 : decide ((l.length : Int) > 6) = true := decide_eq_true (by omega)
    rw [if_pos h6]
    refine pcO E2_ok (fun _ => [0, 2, 3, 5, 6, 8, 11, 12, 13, 14, 15, 23, 26, 27, 28, 29, 30, 37]) Tryd.func38 (h := fun KF => ?_)
    unfold E2
    repeat' (first
     | (with_reducible first | refine t_seq fun K => ?_ | refine nx ?_ | refine t_br (fun hc => ?_) fun hc => ?_) | exact kpd
     | ((with_reducible first | refine ny ?_ | refine t_kLF ?_ ?_ | refine t_region fun K => ?_ | refine t_cond fun A B => ?_ | refine t_dw (h := fun K => ?_)); simp only [go_sem, geff, con47_f, g0])
     | simp only [thenQ, blockQ, scopeQ, Nat.reduceEqDiff, reduceIte] | (with_reducible first | refine And.intro ?_ ?_ | intro vr))
    refine end_ret rfl ?_
    simp only [fin, go_sem, szV]
    exact LeA.refl _
  · have g0 : decide ((l.length : Int) > 6) = false := decide_eq_false (by omega)
    rw [if_neg h6]
    generalize hB : l.any badD = Bb
    generalize hG : prodS l 1 = G
    refine pcO E2_ok (fun _ => [0, 2, 3, 5, 6, 8, 11, 12, 13, 14, 15, 23, 26, 27, 28, 29, 30, 37]) Tryd.func38 (h := fun KF => ?_)
    unfold E2
    repeat' (first
     | (with_reducible first | refine t_seq fun K => ?_ | refine nx ?_ | refine t_br (fun hc => ?_) fun hc => ?_) | exact kpd
     | ((with_reducible first | refine ny ?_ | refine t_kLF ?_ ?_ | refine t_region fun K => ?_ | refine t_cond fun A B => ?_ | refine t_dw (h := fun K => ?_)); simp only [go_sem, geff, con47_f, g0])
     | simp only [thenQ, blockQ, scopeQ, Nat.reduceEqDiff, reduceIte] | (with_reducible first | refine And.intro ?_ ?_ | intro vr))
    refine t_loop (ι := { i : Nat // i ≤ l.length ∧ (l.drop i).any badD = Bb }) (fun i => ⟨upd (upd (upd (upd topF 14 (.lit (.int .i64 i.1))) 13 (.lit (.int .i64 l.length))) 12 (.sl false 1 (ints .i64 l))) 0 (.sl false 1 (ints .i64 l)), []⟩) (fun i => l.length - i.1) ⟨0, by omega, hB⟩ ?_ ?_
    · skip
      (refine Le.frame ?_; repeat' (first | exact leF_top _ | (with_reducible refine leF_sl ?_ ?_) | (refine leF_upd (LeR.of_eq ?_) ?_))) <;> (try (simp only [go_sem]; try rfl))
    · rintro ⟨i, hi, hF⟩ K0
      rcases Nat.lt_or_ge i l.length with hc | hc
      · have g1 : decide ((i : Int) < (l.length : Int)) = true := decide_eq_true (by omega)
        have g2 := ints_getD .i64 l i hc
        rw [drop_getD 0 hc, List.any_cons] at hF
        generalize l.getD i 0 = d at g2 hF
        rw [show badD d = (decide (d < 0) || decide (d > 4096)) from rfl] at hF
        by_cases d1 : d < 0
        · have d1' : decide (d < 0) = true := decide_eq_true d1
          have : Bb = true := by rw [← hF, d1']; rfl
          subst this
          repeat' (first
           | (with_reducible first | refine t_seq fun K => ?_ | refine nx ?_ | refine t_br (fun hc => ?_) fun hc => ?_) | exact kpd
           | ((with_reducible first | refine ny ?_ | refine t_kLF ?_ ?_ | refine t_region fun K => ?_ | refine t_cond fun A B => ?_ | refine t_dw (h := fun K => ?_)); simp only [go_sem, geff, con47_f, g1, g2, d1', Int.toNat_natCast])
           | simp only [thenQ, blockQ, scopeQ, Nat.reduceEqDiff, reduceIte] | (with_reducible first | refine And.intro ?_ ?_ | intro vr))
          all_goals try exact om
          refine end_ret rfl ?_
          simp only [fin, go_sem, szV]
          exact LeA.refl _
        · have d1' : decide (d < 0) = false := decide_eq_false d1
          by_cases d2 : d > 4096
          · have d2' : decide (d > 4096) = true := decide_eq_true d2
            have : Bb = true := by rw [← hF, d1', d2']; rfl
            subst this
            repeat' (first
             | (with_reducible first | refine t_seq fun K => ?_ | refine nx ?_ | refine t_br (fun hc => ?_) fun hc => ?_) | exact kpd
             | ((with_reducible first | refine ny ?_ | refine t_kLF ?_ ?_ | refine t_region fun K => ?_ | refine t_cond fun A B => ?_ | refine t_dw (h := fun K => ?_)); simp only [go_sem, geff, con47_f, g1, g2, d1', d2', Int.toNat_natCast])
             | simp only [thenQ, blockQ, scopeQ, Nat.reduceEqDiff, reduceIte] | (with_reducible first | refine And.intro ?_ ?_ | intro vr))
            all_goals try exact om
            refine end_ret rfl ?_
            simp only [fin, go_sem, szV]
            exact LeA.refl _
          · have d2' : decide (d > 4096) = false := decide_eq_false d2
            rw [d1', d2', Bool.false_or, Bool.false_or] at hF
            repeat' (first
             | (with_reducible first | refine t_seq fun K => ?_ | refine nx ?_ | refine t_br (fun hc => ?_) fun hc => ?_) | exact kpd
             | ((with_reducible first | refine ny ?_ | refine t_kLF ?_ ?_ | refine t_region fun K => ?_ | refine t_cond fun A B => ?_ | refine t_dw (h := fun K => ?_)); simp only [go_sem, geff, con47_f, g1, g2, d1', d2', Int.toNat_natCast])
             | simp only [thenQ, blockQ, scopeQ, Nat.reduceEqDiff, reduceIte] | (with_reducible first | refine And.intro ?_ ?_ | intro vr))
            all_goals try exact om
            refine ⟨⟨i + 1, by omega, hF⟩, by simp only; omega, ?_⟩
            (refine Le.frame ?_; repeat' (first | exact leF_top _ | (with_reducible refine leF_sl ?_ ?_) | (refine leF_upd (LeR.of_eq ?_) ?_))) <;> (try (simp only [go_sem]; try rfl))
      · have g1 : decide ((i : Int) < (l.length : Int)) = false := decide_eq_false (by omega)
        rw [List.drop_eq_nil_of_le hc, List.any_nil] at hF
        subst hF
        have hd := bad_no (by rw [hB]; simp)
        by_cases h0 : (l.any fun d => 0 == d) = true
        · skip
          repeat' (first
           | (with_reducible first | refine t_seq fun K => ?_ | refine nx ?_ | refine t_br (fun hc => ?_) fun hc => ?_) | exact kpd
           | ((with_reducible first | refine ny ?_ | refine t_kLF ?_ ?_ | refine t_region fun K => ?_ | refine t_cond fun A B => ?_ | refine t_dw (h := fun K => ?_)); simp only [go_sem, geff, con47_f, con47_c, slK_sl, g1, h0])
           | simp only [thenQ, blockQ, scopeQ, Nat.reduceEqDiff, reduceIte] | (with_reducible first | refine And.intro ?_ ?_ | intro vr))
          all_goals try exact om
          refine end_ret rfl ?_
          simp only [fin, go_sem, szV, h0, Bool.false_eq_true]
          exact LeA.refl _
        · have h0' : (l.any fun d => 0 == d) = false := Bool.eq_false_iff.2 h0
          repeat' (first
           | (with_reducible first | refine t_seq fun K => ?_ | refine nx ?_ | refine t_br (fun hc => ?_) fun hc => ?_) | exact kpd
           | ((with_reducible first | refine ny ?_ | refine t_kLF ?_ ?_ | refine t_region fun K => ?_ | refine t_cond fun A B => ?_ | refine t_dw (h := fun K => ?_)); simp only [go_sem, geff, con47_f, con47_c, slK_sl, g1, h0'])
           | simp only [thenQ, blockQ, scopeQ, Nat.reduceEqDiff, reduceIte] | (with_reducible first | refine And.intro ?_ ?_ | intro vr))
          all_goals try exact om
          refine t_loop (ι := Ls l G) (fun i => ⟨upd (upd (upd (upd topF 29 (.lit (.int .i64 i.i))) 28 (.lit (.int .i64 l.length))) 27 (.sl false 1 (ints .i64 l))) 6 (.lit (.int .i64 i.n)), []⟩) (fun i => l.length - i.i) ⟨0, 1, by omega, by omega, hG⟩ ?_ ?_
          · skip
            (refine Le.frame ?_; repeat' (first | exact leF_top _ | (with_reducible refine leF_sl ?_ ?_) | (refine leF_upd (LeR.of_eq ?_) ?_))) <;> (try (simp only [go_sem]; try rfl))
          · rintro ⟨i, n, hi, hn, hF⟩ K1
            rcases Nat.lt_or_ge i l.length with hc | hc
            · have g1 : decide ((i : Int) < (l.length : Int)) = true := decide_eq_true (by omega)
              have g2 := ints_getD .i64 l i hc
              have hd' := hd (l.getD i 0) (by rw [List.getD_eq_getElem?_getD, List.getElem?_eq_getElem hc]; exact List.getElem_mem _)
              rw [drop_getD 0 hc, prodS] at hF
              generalize l.getD i 0 = d at g2 hF hd'
              have hb := mul_bd hn hd'
              by_cases hp : n * d > 4096
              · have hp' : decide (n * d > 4096) = true := decide_eq_true hp
                rw [if_pos hp] at hF
                subst hF
                repeat' (first
                 | (with_reducible first | refine t_seq fun K => ?_ | refine nx ?_ | refine t_br (fun hc => ?_) fun hc => ?_) | exact kpd
                 | ((with_reducible first | refine ny ?_ | refine t_kLF ?_ ?_ | refine t_region fun K => ?_ | refine t_cond fun A B => ?_ | refine t_dw (h := fun K => ?_)); simp only [go_sem, geff, con47_f, g1, g2, hp', Int.toNat_natCast])
                 | simp only [thenQ, blockQ, scopeQ, Nat.reduceEqDiff, reduceIte] | (with_reducible first | refine And.intro ?_ ?_ | intro vr))
                all_goals try exact om
                refine end_ret rfl ?_
                simp only [fin, go_sem, szV, h0', Bool.false_eq_true]
                exact LeA.refl _
              · have hp' : decide (n * d > 4096) = false := decide_eq_false hp
                rw [if_neg hp] at hF
                repeat' (first
                 | (with_reducible first | refine t_seq fun K => ?_ | refine nx ?_ | refine t_br (fun hc => ?_) fun hc => ?_) | exact kpd
                 | ((with_reducible first | refine ny ?_ | refine t_kLF ?_ ?_ | refine t_region fun K => ?_ | refine t_cond fun A B => ?_ | refine t_dw (h := fun K => ?_)); simp only [go_sem, geff, con47_f, g1, g2, hp', Int.toNat_natCast])
                 | simp only [thenQ, blockQ, scopeQ, Nat.reduceEqDiff, reduceIte] | (with_reducible first | refine And.intro ?_ ?_ | intro vr))
                all_goals try exact om
                refine ⟨⟨i + 1, n * d, by omega, by omega, hF⟩, by simp only; omega, ?_⟩
                (refine Le.frame ?_; repeat' (first | exact leF_top _ | (with_reducible refine leF_sl ?_ ?_) | (refine leF_upd (LeR.of_eq ?_) ?_))) <;> (try (simp only [go_sem]; try rfl))
            · have g1 : decide ((i : Int) < (l.length : Int)) = false := decide_eq_false (by omega)
              rw [List.drop_eq_nil_of_le hc, prodS] at hF
              subst hF
              repeat' (first
               | (with_reducible first | refine t_seq fun K => ?_ | refine nx ?_ | refine t_br (fun hc => ?_) fun hc => ?_) | exact kpd
               | ((with_reducible first | refine ny ?_ | refine t_kLF ?_ ?_ | refine t_region fun K => ?_ | refine t_cond fun A B => ?_ | refine t_dw (h := fun K => ?_)); simp only [go_sem, geff, con47_f, g1])
               | simp only [thenQ, blockQ, scopeQ, Nat.reduceEqDiff, reduceIte] | (with_reducible first | refine And.intro ?_ ?_ | intro vr))
              refine end_ret rfl ?_
              simp only [fin, go_sem, szV, h0', Bool.false_eq_true]
              exact LeA.refl _
noncomputable def con38 : PCon Tryd.prog where
  f := 38
  c := fun
    | [xl] => match slK .i64 xl with | some l => some (l.length ≤ 1000000, szV (sizeS l)) | _ => none
    | _ => none
  ok := by
    intro args p r hc hp
    split at hc
    · split at hc
      · rename_i hl
        cases hc
        exact PC.weak (size_pc hp) ⟨slK_le hl, trivial⟩
      · cases hc
    · cases hc
  fk := fk38
theorem con38_f : con38.f = 38 := rfl
theorem con38_c {xl : AV} : con38.c [xl] = match slK .i64 xl with | some l => some (l.length ≤ 1000000, szV (sizeS l)) | _ => none := rfl
end Go.Proofs.YtohiagaclfaolaaDoor

/- Arguments that are arrays, and lists of arrays. -/
namespace Go.Proofs.YtohiagaclfaolaaDoor
open Go Go.Fw
set_option maxRecDepth 20000

theorem LeL.len : ∀ {xs ys : List AV}, LeL xs ys → xs.length = ys.length
  | [], [], _ => rfl
  | _ :: _, _ :: _, h => by simp [LeL.len h.2]
  | [], _ :: _, h => h.elim
  | _ :: _, [], h => h.elim
theorem LeA.agg {xs ys : List AV} (h : LeL xs ys) : LeA (.agg xs) (.agg ys) := fun C v hv => by
  cases hv with
  | agg _ vs hl h1 hh => exact .agg ys vs (h.rl ⟨hl, hh⟩).1 (fun i hi => h1 i (by rw [LeL.len h]; exact hi)) (h.rl ⟨hl, hh⟩).2
theorem LeL.get : ∀ {xs ys : List AV}, LeL xs ys → ∀ i, LeA (xs.getD i .top) (ys.getD i .top)
  | [], [], _, _ => LeA.refl _
  | x :: xs, y :: ys, h, 0 => by simpa using h.1
  | x :: xs, y :: ys, h, i + 1 => by simpa using LeL.get h.2 i
  | [], _ :: _, h, _ => h.elim
  | _ :: _, [], h, _ => h.elim
theorem LeA.sl {b : Bool} {sz : Nat} {xs ys : List AV} (hl : xs.length = ys.length) (hw : ∀ y ∈ ys, y.cells.length = sz) (h : LeL (flat xs) (flat ys)) : LeA (.sl b sz xs) (.sl false sz ys) := fun C v hv => by
  cases hv with
  | nil full sz a =>
    have : ys = [] := List.eq_nil_of_length_eq_zero (by simpa using hl.symm)
    subst this
    exact .nil false sz a
  | sl full sz xs bb off cap f hc hm hf hw' hC h1 hR =>
    rw [hl]
    exact .sl false sz ys bb off cap f (by rw [← hl]; exact hc) hm (by simp) hw (fun j hj => hC j (by rw [LeL.len h]; exact hj)) (fun j hj => h1 j (by rw [LeL.len h]; exact hj))
      (fun j hj => LeL.get h j _ _ (hR j (by rw [LeL.len h]; exact hj)))

def arrOf : AV → Option Arr
  | .agg [.lit (.string e), x, y] => match slK .i64 x, slK .i64 y with
    | some d, some w => some ⟨e, d, w⟩
    | _, _ => none
  | _ => none
theorem arrOf_agg {e : ByteArray} {x y : AV} : arrOf (.agg [.lit (.string e), x, y]) = match slK .i64 x, slK .i64 y with
    | some d, some w => some ⟨e, d, w⟩
    | _, _ => none := rfl
theorem arrOf_V (a : Arr) : arrOf (arrV a) = some a := by simp [arrV, arrOf, slK_sl]
theorem arrOf_inv {x : AV} {a : Arr} (h : arrOf x = some a) : ∃ p q, x = .agg [.lit (.string a.e), p, q] ∧ LeA p (.sl false 1 (ints .i64 a.d)) ∧ LeA q (.sl false 1 (ints .i64 a.x)) := by
  unfold arrOf at h
  split at h
  · split at h
    · rename_i h1 h2
      cases h
      exact ⟨_, _, rfl, slK_le h1, slK_le h2⟩
    · cases h
  · cases h
theorem arrOf_le {x : AV} {a : Arr} (h : arrOf x = some a) : LeA x (arrV a) := by
  obtain ⟨p, q, rfl, h1, h2⟩ := arrOf_inv h
  exact LeA.agg ⟨LeA.refl _, h1, h2, trivial⟩
def arrL : List AV → Option (List Arr)
  | [] => some []
  | x :: xs => match arrOf x, arrL xs with
    | some a, some l => some (a :: l)
    | _, _ => none
theorem arrL_cons {x : AV} {xs : List AV} : arrL (x :: xs) = match arrOf x, arrL xs with
    | some a, some l => some (a :: l)
    | _, _ => none := rfl
theorem arrL_arrs : ∀ l : List Arr, arrL (arrs l) = some l
  | [] => rfl
  | a :: l => by
    have := arrL_arrs l
    unfold arrs at this ⊢
    rw [List.map_cons, arrL_cons, arrOf_V, this]
def arrsOf (x : AV) : Option (List Arr) := (slA 3 x).bind arrL
theorem arrsOf_sl {b : Bool} {l : List Arr} : arrsOf (.sl b 3 (arrs l)) = some l := by simp [arrsOf, slA, arrL_arrs]
end Go.Proofs.YtohiagaclfaolaaDoor

/- Validity of arrays. -/
namespace Go.Proofs.YtohiagaclfaolaaDoor
open Go Go.Fw
set_option maxRecDepth 20000

theorem szV_def {p : Int × Int} : szV p = .tup [.lit (.int .i64 p.1), .lit (.int .i64 p.2)] := rfl
end Go.Proofs.YtohiagaclfaolaaDoor

/- Frames and cells' dimensions; small arrays; zeros. -/
namespace Go.Proofs.YtohiagaclfaolaaDoor
open Go Go.Fw
set_option maxRecDepth 20000

def okA (a : Arr) : Prop := a.d.length ≤ 1000000 ∧ a.x.length ≤ 1000000
end Go.Proofs.YtohiagaclfaolaaDoor

/- A law's arguments that are structs. -/
namespace Go.Proofs.YtohiagaclfaolaaDoor
open Go Go.Fw
set_option maxRecDepth 20000

def fieldTs (P : Program) (t : TypeId) : List TypeId := match P.underlying t with
  | some (.struct fs) => fs.toList.map (·.type)
  | _ => []
theorem struct_of {P : Program} {t : TypeId} {ts : List TypeId} (hne : ts ≠ []) (h : fieldTs P t = ts) : ∃ fs : Array Field, P.underlying t = some (.struct fs) ∧ fs.toList.map (·.type) = ts := by
  unfold fieldTs at h
  split at h
  · rename_i e; exact ⟨_, e, h⟩
  · exact absurd h.symm hne
theorem sh_fields {P : Program} {t : TypeId} {ts : List TypeId} {xs : List AV} (hne : ts ≠ []) (ht : fieldTs P t = ts) (h : Sh P t xs) :
    ∃ xss : List (List AV), xs = xss.flatten ∧ xss.length = ts.length ∧ ∀ (i : Nat) (u : TypeId) (ys : List AV), ts[i]? = some u → xss[i]? = some ys → Sh P u ys := by
  obtain ⟨fs, hf, hm⟩ := struct_of hne ht
  obtain ⟨xss, h1, h2, h3⟩ := sh_struct hf h
  refine ⟨xss, h1, by rw [h2, ← hm]; simp, fun i u ys hu hy => ?_⟩
  rw [← hm, List.getElem?_map] at hu
  cases hi : fs.toList[i]? with
  | none => rw [hi] at hu; cases hu
  | some f => rw [hi] at hu; cases hu; exact h3 i f ys hi hy
end Go.Proofs.YtohiagaclfaolaaDoor

/- Products of dimensions, places, cells: plain facts. -/
namespace Go.Fw
end Go.Fw
namespace Go.Proofs.YtohiagaclfaolaaDoor
open Go Go.Fw
set_option maxRecDepth 20000

end Go.Proofs.YtohiagaclfaolaaDoor

/- Lists of lists; axes. -/
namespace Go.Proofs.YtohiagaclfaolaaDoor
open Go Go.Fw
set_option maxRecDepth 20000

def ilA (l : List Int) : AV := .sl false 1 (ints .i64 l)
def ils (L : List (List Int)) : List AV := L.map ilA
def axOk (n : Int) (axes : List Int) (i : Nat) : Bool := !decide (axes.getD i 0 < 0) && (!decide (axes.getD i 0 ≥ n) && !(decide ((i : Int) > 0) && decide (axes.getD (i - 1) 0 ≥ axes.getD i 0)))
def axP (n : Int) (axes : List Int) : Prop := ∀ i, i < axes.length → axOk n axes i = true
instance (n : Int) (axes : List Int) : Decidable (axP n axes) := inferInstanceAs (Decidable (∀ i, i < axes.length → axOk n axes i = true))
end Go.Proofs.YtohiagaclfaolaaDoor

/- The entries of structure: dimensions, places. -/
namespace Go.Proofs.YtohiagaclfaolaaDoor
open Go Go.Fw
set_option maxRecDepth 20000

def jA : AV := arrV nilA
def jI : AV := .sl false 1 []
def jk : TypeId → AV := lookZ [(3, .lit (.int .i64 0)), (9, .lit (.string ByteArray.empty)), (25, jI), (68, jA)]
theorem jk3 : jk 3 = .lit (.int .i64 0) := rfl
theorem jk9 : jk 9 = .lit (.string ByteArray.empty) := rfl
theorem jk25 : jk 25 = jI := rfl
theorem jk68 : jk 68 = jA := rfl
theorem arrs_getJ (l : List Arr) (i : Nat) : (arrs l).getD i jA = arrV (l.getD i nilA) := by
  simp only [arrs, jA, List.getD_eq_getElem?_getD, List.getElem?_map]; cases l[i]? <;> rfl
theorem ils_getJ (l : List (List Int)) (i : Nat) : (ils l).getD i jI = .sl false 1 (ints .i64 (l.getD i [])) := by
  simp only [ils, jI, List.getD_eq_getElem?_getD, List.getElem?_map]; cases l[i]? <;> rfl
attribute [go_sem] jk3 jk9 jk25 jk68 arrs_getJ ils_getJ
end Go.Proofs.YtohiagaclfaolaaDoor

/- Small functions: wrapping, truth values, quotients, ranges. -/
namespace Go.Proofs.YtohiagaclfaolaaDoor.El
open Go.Proofs.YtohiagaclfaolaaDoor
open Go Go.Fw
set_option maxRecDepth 20000

noncomputable def E0 : Env := envOf (P := Tryd.prog) zer (fun _ => false) (fun _ => false) [] []
theorem E0_ok : EnvOk Tryd.prog E0 := envOk zer_ok
def w32 (n : Int) : Int := IntKind.i32.wrap n
def tru (b : Bool) : Int := if b = true then 1 else 0
/-- The quotient, rounded down; 0 if the divisor is 0. -/
def flo (a b : Int) : Int := if b = 0 then 0 else if a.tmod b ≠ 0 ∧ decide (a < 0) ≠ decide (b < 0) then a.tdiv b - 1 else a.tdiv b
/-- The sign of a number. -/
def sgn (a : Int) : Int := if a < 0 then -1 else if a > 0 then 1 else 0
def sA : ByteArray := ⟨#[65]⟩
def vld (s : ByteArray) (n : Int) : Bool := if eqS s sInt = true then decide (-2147483648 ≤ n ∧ n ≤ 2147483647) else if eqS s sBool = true then decide (n = 0 ∨ n = 1) else false
theorem eqS_iff {a b : ByteArray} : eqS a b = true ↔ a = b := by
  unfold eqS
  rw [beq_iff_eq]
  constructor
  · intro h
    apply ByteArray.ext
    apply Array.ext'
    simpa using h
  · intro h; rw [h]
theorem eqS_refl (b : ByteArray) : eqS b b = true := eqS_iff.2 rfl
end Go.Proofs.YtohiagaclfaolaaDoor.El

/- The table of primitives; Types. -/
namespace Go.Proofs.YtohiagaclfaolaaDoor.El
open Go.Proofs.YtohiagaclfaolaaDoor
open Go Go.Fw
set_option maxRecDepth 20000

theorem q_0_0 : eqS (⟨#[97, 100, 100]⟩ : ByteArray) (⟨#[97, 100, 100]⟩ : ByteArray) = true := rfl
theorem q_0_1 : eqS (⟨#[97, 100, 100]⟩ : ByteArray) (⟨#[115, 117, 98]⟩ : ByteArray) = false := rfl
theorem q_0_2 : eqS (⟨#[97, 100, 100]⟩ : ByteArray) (⟨#[109, 117, 108]⟩ : ByteArray) = false := rfl
theorem q_0_3 : eqS (⟨#[97, 100, 100]⟩ : ByteArray) (⟨#[100, 105, 118]⟩ : ByteArray) = false := rfl
theorem q_0_4 : eqS (⟨#[97, 100, 100]⟩ : ByteArray) (⟨#[109, 111, 100]⟩ : ByteArray) = false := rfl
theorem q_0_5 : eqS (⟨#[97, 100, 100]⟩ : ByteArray) (⟨#[109, 105, 110]⟩ : ByteArray) = false := rfl
theorem q_0_6 : eqS (⟨#[97, 100, 100]⟩ : ByteArray) (⟨#[109, 97, 120]⟩ : ByteArray) = false := rfl
theorem q_0_7 : eqS (⟨#[97, 100, 100]⟩ : ByteArray) (⟨#[110, 101, 103]⟩ : ByteArray) = false := rfl
theorem q_0_8 : eqS (⟨#[97, 100, 100]⟩ : ByteArray) (⟨#[97, 98, 115]⟩ : ByteArray) = false := rfl
theorem q_0_9 : eqS (⟨#[97, 100, 100]⟩ : ByteArray) (⟨#[115, 105, 103, 110]⟩ : ByteArray) = false := rfl
theorem q_0_10 : eqS (⟨#[97, 100, 100]⟩ : ByteArray) (⟨#[108, 116]⟩ : ByteArray) = false := rfl
theorem q_0_11 : eqS (⟨#[97, 100, 100]⟩ : ByteArray) (⟨#[108, 101]⟩ : ByteArray) = false := rfl
theorem q_0_12 : eqS (⟨#[97, 100, 100]⟩ : ByteArray) (⟨#[103, 116]⟩ : ByteArray) = false := rfl
theorem q_0_13 : eqS (⟨#[97, 100, 100]⟩ : ByteArray) (⟨#[103, 101]⟩ : ByteArray) = false := rfl
theorem q_0_14 : eqS (⟨#[97, 100, 100]⟩ : ByteArray) (⟨#[101, 113]⟩ : ByteArray) = false := rfl
theorem q_0_15 : eqS (⟨#[97, 100, 100]⟩ : ByteArray) (⟨#[110, 101]⟩ : ByteArray) = false := rfl
theorem q_0_16 : eqS (⟨#[97, 100, 100]⟩ : ByteArray) (⟨#[97, 110, 100]⟩ : ByteArray) = false := rfl
theorem q_0_17 : eqS (⟨#[97, 100, 100]⟩ : ByteArray) (⟨#[111, 114]⟩ : ByteArray) = false := rfl
theorem q_0_18 : eqS (⟨#[97, 100, 100]⟩ : ByteArray) (⟨#[120, 111, 114]⟩ : ByteArray) = false := rfl
theorem q_0_19 : eqS (⟨#[97, 100, 100]⟩ : ByteArray) (⟨#[110, 111, 116]⟩ : ByteArray) = false := rfl
theorem q_0_20 : eqS (⟨#[97, 100, 100]⟩ : ByteArray) (⟨#[115, 101, 108, 101, 99, 116]⟩ : ByteArray) = false := rfl
theorem q_0_21 : eqS (⟨#[97, 100, 100]⟩ : ByteArray) (⟨#[116, 111, 105, 110, 116]⟩ : ByteArray) = false := rfl
theorem q_0_22 : eqS (⟨#[97, 100, 100]⟩ : ByteArray) (⟨#[105, 110, 116]⟩ : ByteArray) = false := rfl
theorem q_0_23 : eqS (⟨#[97, 100, 100]⟩ : ByteArray) (⟨#[98, 111, 111, 108]⟩ : ByteArray) = false := rfl
theorem q_0_24 : eqS (⟨#[97, 100, 100]⟩ : ByteArray) (⟨#[65]⟩ : ByteArray) = false := rfl
theorem q_0_25 : eqS (⟨#[97, 100, 100]⟩ : ByteArray) (⟨#[]⟩ : ByteArray) = false := rfl
theorem q_1_0 : eqS (⟨#[115, 117, 98]⟩ : ByteArray) (⟨#[97, 100, 100]⟩ : ByteArray) = false := rfl
theorem q_1_1 : eqS (⟨#[115, 117, 98]⟩ : ByteArray) (⟨#[115, 117, 98]⟩ : ByteArray) = true := rfl
theorem q_1_2 : eqS (⟨#[115, 117, 98]⟩ : ByteArray) (⟨#[109, 117, 108]⟩ : ByteArray) = false := rfl
theorem q_1_3 : eqS (⟨#[115, 117, 98]⟩ : ByteArray) (⟨#[100, 105, 118]⟩ : ByteArray) = false := rfl
theorem q_1_4 : eqS (⟨#[115, 117, 98]⟩ : ByteArray) (⟨#[109, 111, 100]⟩ : ByteArray) = false := rfl
theorem q_1_5 : eqS (⟨#[115, 117, 98]⟩ : ByteArray) (⟨#[109, 105, 110]⟩ : ByteArray) = false := rfl
theorem q_1_6 : eqS (⟨#[115, 117, 98]⟩ : ByteArray) (⟨#[109, 97, 120]⟩ : ByteArray) = false := rfl
theorem q_1_7 : eqS (⟨#[115, 117, 98]⟩ : ByteArray) (⟨#[110, 101, 103]⟩ : ByteArray) = false := rfl
theorem q_1_8 : eqS (⟨#[115, 117, 98]⟩ : ByteArray) (⟨#[97, 98, 115]⟩ : ByteArray) = false := rfl
theorem q_1_9 : eqS (⟨#[115, 117, 98]⟩ : ByteArray) (⟨#[115, 105, 103, 110]⟩ : ByteArray) = false := rfl
theorem q_1_10 : eqS (⟨#[115, 117, 98]⟩ : ByteArray) (⟨#[108, 116]⟩ : ByteArray) = false := rfl
theorem q_1_11 : eqS (⟨#[115, 117, 98]⟩ : ByteArray) (⟨#[108, 101]⟩ : ByteArray) = false := rfl
theorem q_1_12 : eqS (⟨#[115, 117, 98]⟩ : ByteArray) (⟨#[103, 116]⟩ : ByteArray) = false := rfl
theorem q_1_13 : eqS (⟨#[115, 117, 98]⟩ : ByteArray) (⟨#[103, 101]⟩ : ByteArray) = false := rfl
theorem q_1_14 : eqS (⟨#[115, 117, 98]⟩ : ByteArray) (⟨#[101, 113]⟩ : ByteArray) = false := rfl
theorem q_1_15 : eqS (⟨#[115, 117, 98]⟩ : ByteArray) (⟨#[110, 101]⟩ : ByteArray) = false := rfl
theorem q_1_16 : eqS (⟨#[115, 117, 98]⟩ : ByteArray) (⟨#[97, 110, 100]⟩ : ByteArray) = false := rfl
theorem q_1_17 : eqS (⟨#[115, 117, 98]⟩ : ByteArray) (⟨#[111, 114]⟩ : ByteArray) = false := rfl
theorem q_1_18 : eqS (⟨#[115, 117, 98]⟩ : ByteArray) (⟨#[120, 111, 114]⟩ : ByteArray) = false := rfl
theorem q_1_19 : eqS (⟨#[115, 117, 98]⟩ : ByteArray) (⟨#[110, 111, 116]⟩ : ByteArray) = false := rfl
theorem q_1_20 : eqS (⟨#[115, 117, 98]⟩ : ByteArray) (⟨#[115, 101, 108, 101, 99, 116]⟩ : ByteArray) = false := rfl
theorem q_1_21 : eqS (⟨#[115, 117, 98]⟩ : ByteArray) (⟨#[116, 111, 105, 110, 116]⟩ : ByteArray) = false := rfl
theorem q_1_22 : eqS (⟨#[115, 117, 98]⟩ : ByteArray) (⟨#[105, 110, 116]⟩ : ByteArray) = false := rfl
theorem q_1_23 : eqS (⟨#[115, 117, 98]⟩ : ByteArray) (⟨#[98, 111, 111, 108]⟩ : ByteArray) = false := rfl
theorem q_1_24 : eqS (⟨#[115, 117, 98]⟩ : ByteArray) (⟨#[65]⟩ : ByteArray) = false := rfl
theorem q_1_25 : eqS (⟨#[115, 117, 98]⟩ : ByteArray) (⟨#[]⟩ : ByteArray) = false := rfl
theorem q_2_0 : eqS (⟨#[109, 117, 108]⟩ : ByteArray) (⟨#[97, 100, 100]⟩ : ByteArray) = false := rfl
theorem q_2_1 : eqS (⟨#[109, 117, 108]⟩ : ByteArray) (⟨#[115, 117, 98]⟩ : ByteArray) = false := rfl
theorem q_2_2 : eqS (⟨#[109, 117, 108]⟩ : ByteArray) (⟨#[109, 117, 108]⟩ : ByteArray) = true := rfl
theorem q_2_3 : eqS (⟨#[109, 117, 108]⟩ : ByteArray) (⟨#[100, 105, 118]⟩ : ByteArray) = false := rfl
theorem q_2_4 : eqS (⟨#[109, 117, 108]⟩ : ByteArray) (⟨#[109, 111, 100]⟩ : ByteArray) = false := rfl
theorem q_2_5 : eqS (⟨#[109, 117, 108]⟩ : ByteArray) (⟨#[109, 105, 110]⟩ : ByteArray) = false := rfl
theorem q_2_6 : eqS (⟨#[109, 117, 108]⟩ : ByteArray) (⟨#[109, 97, 120]⟩ : ByteArray) = false := rfl
theorem q_2_7 : eqS (⟨#[109, 117, 108]⟩ : ByteArray) (⟨#[110, 101, 103]⟩ : ByteArray) = false := rfl
theorem q_2_8 : eqS (⟨#[109, 117, 108]⟩ : ByteArray) (⟨#[97, 98, 115]⟩ : ByteArray) = false := rfl
theorem q_2_9 : eqS (⟨#[109, 117, 108]⟩ : ByteArray) (⟨#[115, 105, 103, 110]⟩ : ByteArray) = false := rfl
theorem q_2_10 : eqS (⟨#[109, 117, 108]⟩ : ByteArray) (⟨#[108, 116]⟩ : ByteArray) = false := rfl
theorem q_2_11 : eqS (⟨#[109, 117, 108]⟩ : ByteArray) (⟨#[108, 101]⟩ : ByteArray) = false := rfl
theorem q_2_12 : eqS (⟨#[109, 117, 108]⟩ : ByteArray) (⟨#[103, 116]⟩ : ByteArray) = false := rfl
theorem q_2_13 : eqS (⟨#[109, 117, 108]⟩ : ByteArray) (⟨#[103, 101]⟩ : ByteArray) = false := rfl
theorem q_2_14 : eqS (⟨#[109, 117, 108]⟩ : ByteArray) (⟨#[101, 113]⟩ : ByteArray) = false := rfl
theorem q_2_15 : eqS (⟨#[109, 117, 108]⟩ : ByteArray) (⟨#[110, 101]⟩ : ByteArray) = false := rfl
theorem q_2_16 : eqS (⟨#[109, 117, 108]⟩ : ByteArray) (⟨#[97, 110, 100]⟩ : ByteArray) = false := rfl
theorem q_2_17 : eqS (⟨#[109, 117, 108]⟩ : ByteArray) (⟨#[111, 114]⟩ : ByteArray) = false := rfl
theorem q_2_18 : eqS (⟨#[109, 117, 108]⟩ : ByteArray) (⟨#[120, 111, 114]⟩ : ByteArray) = false := rfl
theorem q_2_19 : eqS (⟨#[109, 117, 108]⟩ : ByteArray) (⟨#[110, 111, 116]⟩ : ByteArray) = false := rfl
theorem q_2_20 : eqS (⟨#[109, 117, 108]⟩ : ByteArray) (⟨#[115, 101, 108, 101, 99, 116]⟩ : ByteArray) = false := rfl
theorem q_2_21 : eqS (⟨#[109, 117, 108]⟩ : ByteArray) (⟨#[116, 111, 105, 110, 116]⟩ : ByteArray) = false := rfl
theorem q_2_22 : eqS (⟨#[109, 117, 108]⟩ : ByteArray) (⟨#[105, 110, 116]⟩ : ByteArray) = false := rfl
theorem q_2_23 : eqS (⟨#[109, 117, 108]⟩ : ByteArray) (⟨#[98, 111, 111, 108]⟩ : ByteArray) = false := rfl
theorem q_2_24 : eqS (⟨#[109, 117, 108]⟩ : ByteArray) (⟨#[65]⟩ : ByteArray) = false := rfl
theorem q_2_25 : eqS (⟨#[109, 117, 108]⟩ : ByteArray) (⟨#[]⟩ : ByteArray) = false := rfl
theorem q_3_0 : eqS (⟨#[100, 105, 118]⟩ : ByteArray) (⟨#[97, 100, 100]⟩ : ByteArray) = false := rfl
theorem q_3_1 : eqS (⟨#[100, 105, 118]⟩ : ByteArray) (⟨#[115, 117, 98]⟩ : ByteArray) = false := rfl
theorem q_3_2 : eqS (⟨#[100, 105, 118]⟩ : ByteArray) (⟨#[109, 117, 108]⟩ : ByteArray) = false := rfl
theorem q_3_3 : eqS (⟨#[100, 105, 118]⟩ : ByteArray) (⟨#[100, 105, 118]⟩ : ByteArray) = true := rfl
theorem q_3_4 : eqS (⟨#[100, 105, 118]⟩ : ByteArray) (⟨#[109, 111, 100]⟩ : ByteArray) = false := rfl
theorem q_3_5 : eqS (⟨#[100, 105, 118]⟩ : ByteArray) (⟨#[109, 105, 110]⟩ : ByteArray) = false := rfl
theorem q_3_6 : eqS (⟨#[100, 105, 118]⟩ : ByteArray) (⟨#[109, 97, 120]⟩ : ByteArray) = false := rfl
theorem q_3_7 : eqS (⟨#[100, 105, 118]⟩ : ByteArray) (⟨#[110, 101, 103]⟩ : ByteArray) = false := rfl
theorem q_3_8 : eqS (⟨#[100, 105, 118]⟩ : ByteArray) (⟨#[97, 98, 115]⟩ : ByteArray) = false := rfl
theorem q_3_9 : eqS (⟨#[100, 105, 118]⟩ : ByteArray) (⟨#[115, 105, 103, 110]⟩ : ByteArray) = false := rfl
theorem q_3_10 : eqS (⟨#[100, 105, 118]⟩ : ByteArray) (⟨#[108, 116]⟩ : ByteArray) = false := rfl
theorem q_3_11 : eqS (⟨#[100, 105, 118]⟩ : ByteArray) (⟨#[108, 101]⟩ : ByteArray) = false := rfl
theorem q_3_12 : eqS (⟨#[100, 105, 118]⟩ : ByteArray) (⟨#[103, 116]⟩ : ByteArray) = false := rfl
theorem q_3_13 : eqS (⟨#[100, 105, 118]⟩ : ByteArray) (⟨#[103, 101]⟩ : ByteArray) = false := rfl
theorem q_3_14 : eqS (⟨#[100, 105, 118]⟩ : ByteArray) (⟨#[101, 113]⟩ : ByteArray) = false := rfl
theorem q_3_15 : eqS (⟨#[100, 105, 118]⟩ : ByteArray) (⟨#[110, 101]⟩ : ByteArray) = false := rfl
theorem q_3_16 : eqS (⟨#[100, 105, 118]⟩ : ByteArray) (⟨#[97, 110, 100]⟩ : ByteArray) = false := rfl
theorem q_3_17 : eqS (⟨#[100, 105, 118]⟩ : ByteArray) (⟨#[111, 114]⟩ : ByteArray) = false := rfl
theorem q_3_18 : eqS (⟨#[100, 105, 118]⟩ : ByteArray) (⟨#[120, 111, 114]⟩ : ByteArray) = false := rfl
theorem q_3_19 : eqS (⟨#[100, 105, 118]⟩ : ByteArray) (⟨#[110, 111, 116]⟩ : ByteArray) = false := rfl
theorem q_3_20 : eqS (⟨#[100, 105, 118]⟩ : ByteArray) (⟨#[115, 101, 108, 101, 99, 116]⟩ : ByteArray) = false := rfl
theorem q_3_21 : eqS (⟨#[100, 105, 118]⟩ : ByteArray) (⟨#[116, 111, 105, 110, 116]⟩ : ByteArray) = false := rfl
theorem q_3_22 : eqS (⟨#[100, 105, 118]⟩ : ByteArray) (⟨#[105, 110, 116]⟩ : ByteArray) = false := rfl
theorem q_3_23 : eqS (⟨#[100, 105, 118]⟩ : ByteArray) (⟨#[98, 111, 111, 108]⟩ : ByteArray) = false := rfl
theorem q_3_24 : eqS (⟨#[100, 105, 118]⟩ : ByteArray) (⟨#[65]⟩ : ByteArray) = false := rfl
theorem q_3_25 : eqS (⟨#[100, 105, 118]⟩ : ByteArray) (⟨#[]⟩ : ByteArray) = false := rfl
theorem q_4_0 : eqS (⟨#[109, 111, 100]⟩ : ByteArray) (⟨#[97, 100, 100]⟩ : ByteArray) = false := rfl
theorem q_4_1 : eqS (⟨#[109, 111, 100]⟩ : ByteArray) (⟨#[115, 117, 98]⟩ : ByteArray) = false := rfl
theorem q_4_2 : eqS (⟨#[109, 111, 100]⟩ : ByteArray) (⟨#[109, 117, 108]⟩ : ByteArray) = false := rfl
theorem q_4_3 : eqS (⟨#[109, 111, 100]⟩ : ByteArray) (⟨#[100, 105, 118]⟩ : ByteArray) = false := rfl
theorem q_4_4 : eqS (⟨#[109, 111, 100]⟩ : ByteArray) (⟨#[109, 111, 100]⟩ : ByteArray) = true := rfl
theorem q_4_5 : eqS (⟨#[109, 111, 100]⟩ : ByteArray) (⟨#[109, 105, 110]⟩ : ByteArray) = false := rfl
theorem q_4_6 : eqS (⟨#[109, 111, 100]⟩ : ByteArray) (⟨#[109, 97, 120]⟩ : ByteArray) = false := rfl
theorem q_4_7 : eqS (⟨#[109, 111, 100]⟩ : ByteArray) (⟨#[110, 101, 103]⟩ : ByteArray) = false := rfl
theorem q_4_8 : eqS (⟨#[109, 111, 100]⟩ : ByteArray) (⟨#[97, 98, 115]⟩ : ByteArray) = false := rfl
theorem q_4_9 : eqS (⟨#[109, 111, 100]⟩ : ByteArray) (⟨#[115, 105, 103, 110]⟩ : ByteArray) = false := rfl
theorem q_4_10 : eqS (⟨#[109, 111, 100]⟩ : ByteArray) (⟨#[108, 116]⟩ : ByteArray) = false := rfl
theorem q_4_11 : eqS (⟨#[109, 111, 100]⟩ : ByteArray) (⟨#[108, 101]⟩ : ByteArray) = false := rfl
theorem q_4_12 : eqS (⟨#[109, 111, 100]⟩ : ByteArray) (⟨#[103, 116]⟩ : ByteArray) = false := rfl
theorem q_4_13 : eqS (⟨#[109, 111, 100]⟩ : ByteArray) (⟨#[103, 101]⟩ : ByteArray) = false := rfl
theorem q_4_14 : eqS (⟨#[109, 111, 100]⟩ : ByteArray) (⟨#[101, 113]⟩ : ByteArray) = false := rfl
theorem q_4_15 : eqS (⟨#[109, 111, 100]⟩ : ByteArray) (⟨#[110, 101]⟩ : ByteArray) = false := rfl
theorem q_4_16 : eqS (⟨#[109, 111, 100]⟩ : ByteArray) (⟨#[97, 110, 100]⟩ : ByteArray) = false := rfl
theorem q_4_17 : eqS (⟨#[109, 111, 100]⟩ : ByteArray) (⟨#[111, 114]⟩ : ByteArray) = false := rfl
theorem q_4_18 : eqS (⟨#[109, 111, 100]⟩ : ByteArray) (⟨#[120, 111, 114]⟩ : ByteArray) = false := rfl
theorem q_4_19 : eqS (⟨#[109, 111, 100]⟩ : ByteArray) (⟨#[110, 111, 116]⟩ : ByteArray) = false := rfl
theorem q_4_20 : eqS (⟨#[109, 111, 100]⟩ : ByteArray) (⟨#[115, 101, 108, 101, 99, 116]⟩ : ByteArray) = false := rfl
theorem q_4_21 : eqS (⟨#[109, 111, 100]⟩ : ByteArray) (⟨#[116, 111, 105, 110, 116]⟩ : ByteArray) = false := rfl
theorem q_4_22 : eqS (⟨#[109, 111, 100]⟩ : ByteArray) (⟨#[105, 110, 116]⟩ : ByteArray) = false := rfl
theorem q_4_23 : eqS (⟨#[109, 111, 100]⟩ : ByteArray) (⟨#[98, 111, 111, 108]⟩ : ByteArray) = false := rfl
theorem q_4_24 : eqS (⟨#[109, 111, 100]⟩ : ByteArray) (⟨#[65]⟩ : ByteArray) = false := rfl
theorem q_4_25 : eqS (⟨#[109, 111, 100]⟩ : ByteArray) (⟨#[]⟩ : ByteArray) = false := rfl
theorem q_5_0 : eqS (⟨#[109, 105, 110]⟩ : ByteArray) (⟨#[97, 100, 100]⟩ : ByteArray) = false := rfl
theorem q_5_1 : eqS (⟨#[109, 105, 110]⟩ : ByteArray) (⟨#[115, 117, 98]⟩ : ByteArray) = false := rfl
theorem q_5_2 : eqS (⟨#[109, 105, 110]⟩ : ByteArray) (⟨#[109, 117, 108]⟩ : ByteArray) = false := rfl
theorem q_5_3 : eqS (⟨#[109, 105, 110]⟩ : ByteArray) (⟨#[100, 105, 118]⟩ : ByteArray) = false := rfl
theorem q_5_4 : eqS (⟨#[109, 105, 110]⟩ : ByteArray) (⟨#[109, 111, 100]⟩ : ByteArray) = false := rfl
theorem q_5_5 : eqS (⟨#[109, 105, 110]⟩ : ByteArray) (⟨#[109, 105, 110]⟩ : ByteArray) = true := rfl
theorem q_5_6 : eqS (⟨#[109, 105, 110]⟩ : ByteArray) (⟨#[109, 97, 120]⟩ : ByteArray) = false := rfl
theorem q_5_7 : eqS (⟨#[109, 105, 110]⟩ : ByteArray) (⟨#[110, 101, 103]⟩ : ByteArray) = false := rfl
theorem q_5_8 : eqS (⟨#[109, 105, 110]⟩ : ByteArray) (⟨#[97, 98, 115]⟩ : ByteArray) = false := rfl
theorem q_5_9 : eqS (⟨#[109, 105, 110]⟩ : ByteArray) (⟨#[115, 105, 103, 110]⟩ : ByteArray) = false := rfl
theorem q_5_10 : eqS (⟨#[109, 105, 110]⟩ : ByteArray) (⟨#[108, 116]⟩ : ByteArray) = false := rfl
theorem q_5_11 : eqS (⟨#[109, 105, 110]⟩ : ByteArray) (⟨#[108, 101]⟩ : ByteArray) = false := rfl
theorem q_5_12 : eqS (⟨#[109, 105, 110]⟩ : ByteArray) (⟨#[103, 116]⟩ : ByteArray) = false := rfl
theorem q_5_13 : eqS (⟨#[109, 105, 110]⟩ : ByteArray) (⟨#[103, 101]⟩ : ByteArray) = false := rfl
theorem q_5_14 : eqS (⟨#[109, 105, 110]⟩ : ByteArray) (⟨#[101, 113]⟩ : ByteArray) = false := rfl
theorem q_5_15 : eqS (⟨#[109, 105, 110]⟩ : ByteArray) (⟨#[110, 101]⟩ : ByteArray) = false := rfl
theorem q_5_16 : eqS (⟨#[109, 105, 110]⟩ : ByteArray) (⟨#[97, 110, 100]⟩ : ByteArray) = false := rfl
theorem q_5_17 : eqS (⟨#[109, 105, 110]⟩ : ByteArray) (⟨#[111, 114]⟩ : ByteArray) = false := rfl
theorem q_5_18 : eqS (⟨#[109, 105, 110]⟩ : ByteArray) (⟨#[120, 111, 114]⟩ : ByteArray) = false := rfl
theorem q_5_19 : eqS (⟨#[109, 105, 110]⟩ : ByteArray) (⟨#[110, 111, 116]⟩ : ByteArray) = false := rfl
theorem q_5_20 : eqS (⟨#[109, 105, 110]⟩ : ByteArray) (⟨#[115, 101, 108, 101, 99, 116]⟩ : ByteArray) = false := rfl
theorem q_5_21 : eqS (⟨#[109, 105, 110]⟩ : ByteArray) (⟨#[116, 111, 105, 110, 116]⟩ : ByteArray) = false := rfl
theorem q_5_22 : eqS (⟨#[109, 105, 110]⟩ : ByteArray) (⟨#[105, 110, 116]⟩ : ByteArray) = false := rfl
theorem q_5_23 : eqS (⟨#[109, 105, 110]⟩ : ByteArray) (⟨#[98, 111, 111, 108]⟩ : ByteArray) = false := rfl
theorem q_5_24 : eqS (⟨#[109, 105, 110]⟩ : ByteArray) (⟨#[65]⟩ : ByteArray) = false := rfl
theorem q_5_25 : eqS (⟨#[109, 105, 110]⟩ : ByteArray) (⟨#[]⟩ : ByteArray) = false := rfl
theorem q_6_0 : eqS (⟨#[109, 97, 120]⟩ : ByteArray) (⟨#[97, 100, 100]⟩ : ByteArray) = false := rfl
theorem q_6_1 : eqS (⟨#[109, 97, 120]⟩ : ByteArray) (⟨#[115, 117, 98]⟩ : ByteArray) = false := rfl
theorem q_6_2 : eqS (⟨#[109, 97, 120]⟩ : ByteArray) (⟨#[109, 117, 108]⟩ : ByteArray) = false := rfl
theorem q_6_3 : eqS (⟨#[109, 97, 120]⟩ : ByteArray) (⟨#[100, 105, 118]⟩ : ByteArray) = false := rfl
theorem q_6_4 : eqS (⟨#[109, 97, 120]⟩ : ByteArray) (⟨#[109, 111, 100]⟩ : ByteArray) = false := rfl
theorem q_6_5 : eqS (⟨#[109, 97, 120]⟩ : ByteArray) (⟨#[109, 105, 110]⟩ : ByteArray) = false := rfl
theorem q_6_6 : eqS (⟨#[109, 97, 120]⟩ : ByteArray) (⟨#[109, 97, 120]⟩ : ByteArray) = true := rfl
theorem q_6_7 : eqS (⟨#[109, 97, 120]⟩ : ByteArray) (⟨#[110, 101, 103]⟩ : ByteArray) = false := rfl
theorem q_6_8 : eqS (⟨#[109, 97, 120]⟩ : ByteArray) (⟨#[97, 98, 115]⟩ : ByteArray) = false := rfl
theorem q_6_9 : eqS (⟨#[109, 97, 120]⟩ : ByteArray) (⟨#[115, 105, 103, 110]⟩ : ByteArray) = false := rfl
theorem q_6_10 : eqS (⟨#[109, 97, 120]⟩ : ByteArray) (⟨#[108, 116]⟩ : ByteArray) = false := rfl
theorem q_6_11 : eqS (⟨#[109, 97, 120]⟩ : ByteArray) (⟨#[108, 101]⟩ : ByteArray) = false := rfl
theorem q_6_12 : eqS (⟨#[109, 97, 120]⟩ : ByteArray) (⟨#[103, 116]⟩ : ByteArray) = false := rfl
theorem q_6_13 : eqS (⟨#[109, 97, 120]⟩ : ByteArray) (⟨#[103, 101]⟩ : ByteArray) = false := rfl
theorem q_6_14 : eqS (⟨#[109, 97, 120]⟩ : ByteArray) (⟨#[101, 113]⟩ : ByteArray) = false := rfl
theorem q_6_15 : eqS (⟨#[109, 97, 120]⟩ : ByteArray) (⟨#[110, 101]⟩ : ByteArray) = false := rfl
theorem q_6_16 : eqS (⟨#[109, 97, 120]⟩ : ByteArray) (⟨#[97, 110, 100]⟩ : ByteArray) = false := rfl
theorem q_6_17 : eqS (⟨#[109, 97, 120]⟩ : ByteArray) (⟨#[111, 114]⟩ : ByteArray) = false := rfl
theorem q_6_18 : eqS (⟨#[109, 97, 120]⟩ : ByteArray) (⟨#[120, 111, 114]⟩ : ByteArray) = false := rfl
theorem q_6_19 : eqS (⟨#[109, 97, 120]⟩ : ByteArray) (⟨#[110, 111, 116]⟩ : ByteArray) = false := rfl
theorem q_6_20 : eqS (⟨#[109, 97, 120]⟩ : ByteArray) (⟨#[115, 101, 108, 101, 99, 116]⟩ : ByteArray) = false := rfl
theorem q_6_21 : eqS (⟨#[109, 97, 120]⟩ : ByteArray) (⟨#[116, 111, 105, 110, 116]⟩ : ByteArray) = false := rfl
theorem q_6_22 : eqS (⟨#[109, 97, 120]⟩ : ByteArray) (⟨#[105, 110, 116]⟩ : ByteArray) = false := rfl
theorem q_6_23 : eqS (⟨#[109, 97, 120]⟩ : ByteArray) (⟨#[98, 111, 111, 108]⟩ : ByteArray) = false := rfl
theorem q_6_24 : eqS (⟨#[109, 97, 120]⟩ : ByteArray) (⟨#[65]⟩ : ByteArray) = false := rfl
theorem q_6_25 : eqS (⟨#[109, 97, 120]⟩ : ByteArray) (⟨#[]⟩ : ByteArray) = false := rfl
theorem q_7_0 : eqS (⟨#[110, 101, 103]⟩ : ByteArray) (⟨#[97, 100, 100]⟩ : ByteArray) = false := rfl
theorem q_7_1 : eqS (⟨#[110, 101, 103]⟩ : ByteArray) (⟨#[115, 117, 98]⟩ : ByteArray) = false := rfl
theorem q_7_2 : eqS (⟨#[110, 101, 103]⟩ : ByteArray) (⟨#[109, 117, 108]⟩ : ByteArray) = false := rfl
theorem q_7_3 : eqS (⟨#[110, 101, 103]⟩ : ByteArray) (⟨#[100, 105, 118]⟩ : ByteArray) = false := rfl
theorem q_7_4 : eqS (⟨#[110, 101, 103]⟩ : ByteArray) (⟨#[109, 111, 100]⟩ : ByteArray) = false := rfl
theorem q_7_5 : eqS (⟨#[110, 101, 103]⟩ : ByteArray) (⟨#[109, 105, 110]⟩ : ByteArray) = false := rfl
theorem q_7_6 : eqS (⟨#[110, 101, 103]⟩ : ByteArray) (⟨#[109, 97, 120]⟩ : ByteArray) = false := rfl
theorem q_7_7 : eqS (⟨#[110, 101, 103]⟩ : ByteArray) (⟨#[110, 101, 103]⟩ : ByteArray) = true := rfl
theorem q_7_8 : eqS (⟨#[110, 101, 103]⟩ : ByteArray) (⟨#[97, 98, 115]⟩ : ByteArray) = false := rfl
theorem q_7_9 : eqS (⟨#[110, 101, 103]⟩ : ByteArray) (⟨#[115, 105, 103, 110]⟩ : ByteArray) = false := rfl
theorem q_7_10 : eqS (⟨#[110, 101, 103]⟩ : ByteArray) (⟨#[108, 116]⟩ : ByteArray) = false := rfl
theorem q_7_11 : eqS (⟨#[110, 101, 103]⟩ : ByteArray) (⟨#[108, 101]⟩ : ByteArray) = false := rfl
theorem q_7_12 : eqS (⟨#[110, 101, 103]⟩ : ByteArray) (⟨#[103, 116]⟩ : ByteArray) = false := rfl
theorem q_7_13 : eqS (⟨#[110, 101, 103]⟩ : ByteArray) (⟨#[103, 101]⟩ : ByteArray) = false := rfl
theorem q_7_14 : eqS (⟨#[110, 101, 103]⟩ : ByteArray) (⟨#[101, 113]⟩ : ByteArray) = false := rfl
theorem q_7_15 : eqS (⟨#[110, 101, 103]⟩ : ByteArray) (⟨#[110, 101]⟩ : ByteArray) = false := rfl
theorem q_7_16 : eqS (⟨#[110, 101, 103]⟩ : ByteArray) (⟨#[97, 110, 100]⟩ : ByteArray) = false := rfl
theorem q_7_17 : eqS (⟨#[110, 101, 103]⟩ : ByteArray) (⟨#[111, 114]⟩ : ByteArray) = false := rfl
theorem q_7_18 : eqS (⟨#[110, 101, 103]⟩ : ByteArray) (⟨#[120, 111, 114]⟩ : ByteArray) = false := rfl
theorem q_7_19 : eqS (⟨#[110, 101, 103]⟩ : ByteArray) (⟨#[110, 111, 116]⟩ : ByteArray) = false := rfl
theorem q_7_20 : eqS (⟨#[110, 101, 103]⟩ : ByteArray) (⟨#[115, 101, 108, 101, 99, 116]⟩ : ByteArray) = false := rfl
theorem q_7_21 : eqS (⟨#[110, 101, 103]⟩ : ByteArray) (⟨#[116, 111, 105, 110, 116]⟩ : ByteArray) = false := rfl
theorem q_7_22 : eqS (⟨#[110, 101, 103]⟩ : ByteArray) (⟨#[105, 110, 116]⟩ : ByteArray) = false := rfl
theorem q_7_23 : eqS (⟨#[110, 101, 103]⟩ : ByteArray) (⟨#[98, 111, 111, 108]⟩ : ByteArray) = false := rfl
theorem q_7_24 : eqS (⟨#[110, 101, 103]⟩ : ByteArray) (⟨#[65]⟩ : ByteArray) = false := rfl
theorem q_7_25 : eqS (⟨#[110, 101, 103]⟩ : ByteArray) (⟨#[]⟩ : ByteArray) = false := rfl
theorem q_8_0 : eqS (⟨#[97, 98, 115]⟩ : ByteArray) (⟨#[97, 100, 100]⟩ : ByteArray) = false := rfl
theorem q_8_1 : eqS (⟨#[97, 98, 115]⟩ : ByteArray) (⟨#[115, 117, 98]⟩ : ByteArray) = false := rfl
theorem q_8_2 : eqS (⟨#[97, 98, 115]⟩ : ByteArray) (⟨#[109, 117, 108]⟩ : ByteArray) = false := rfl
theorem q_8_3 : eqS (⟨#[97, 98, 115]⟩ : ByteArray) (⟨#[100, 105, 118]⟩ : ByteArray) = false := rfl
theorem q_8_4 : eqS (⟨#[97, 98, 115]⟩ : ByteArray) (⟨#[109, 111, 100]⟩ : ByteArray) = false := rfl
theorem q_8_5 : eqS (⟨#[97, 98, 115]⟩ : ByteArray) (⟨#[109, 105, 110]⟩ : ByteArray) = false := rfl
theorem q_8_6 : eqS (⟨#[97, 98, 115]⟩ : ByteArray) (⟨#[109, 97, 120]⟩ : ByteArray) = false := rfl
theorem q_8_7 : eqS (⟨#[97, 98, 115]⟩ : ByteArray) (⟨#[110, 101, 103]⟩ : ByteArray) = false := rfl
theorem q_8_8 : eqS (⟨#[97, 98, 115]⟩ : ByteArray) (⟨#[97, 98, 115]⟩ : ByteArray) = true := rfl
theorem q_8_9 : eqS (⟨#[97, 98, 115]⟩ : ByteArray) (⟨#[115, 105, 103, 110]⟩ : ByteArray) = false := rfl
theorem q_8_10 : eqS (⟨#[97, 98, 115]⟩ : ByteArray) (⟨#[108, 116]⟩ : ByteArray) = false := rfl
theorem q_8_11 : eqS (⟨#[97, 98, 115]⟩ : ByteArray) (⟨#[108, 101]⟩ : ByteArray) = false := rfl
theorem q_8_12 : eqS (⟨#[97, 98, 115]⟩ : ByteArray) (⟨#[103, 116]⟩ : ByteArray) = false := rfl
theorem q_8_13 : eqS (⟨#[97, 98, 115]⟩ : ByteArray) (⟨#[103, 101]⟩ : ByteArray) = false := rfl
theorem q_8_14 : eqS (⟨#[97, 98, 115]⟩ : ByteArray) (⟨#[101, 113]⟩ : ByteArray) = false := rfl
theorem q_8_15 : eqS (⟨#[97, 98, 115]⟩ : ByteArray) (⟨#[110, 101]⟩ : ByteArray) = false := rfl
theorem q_8_16 : eqS (⟨#[97, 98, 115]⟩ : ByteArray) (⟨#[97, 110, 100]⟩ : ByteArray) = false := rfl
theorem q_8_17 : eqS (⟨#[97, 98, 115]⟩ : ByteArray) (⟨#[111, 114]⟩ : ByteArray) = false := rfl
theorem q_8_18 : eqS (⟨#[97, 98, 115]⟩ : ByteArray) (⟨#[120, 111, 114]⟩ : ByteArray) = false := rfl
theorem q_8_19 : eqS (⟨#[97, 98, 115]⟩ : ByteArray) (⟨#[110, 111, 116]⟩ : ByteArray) = false := rfl
theorem q_8_20 : eqS (⟨#[97, 98, 115]⟩ : ByteArray) (⟨#[115, 101, 108, 101, 99, 116]⟩ : ByteArray) = false := rfl
theorem q_8_21 : eqS (⟨#[97, 98, 115]⟩ : ByteArray) (⟨#[116, 111, 105, 110, 116]⟩ : ByteArray) = false := rfl
theorem q_8_22 : eqS (⟨#[97, 98, 115]⟩ : ByteArray) (⟨#[105, 110, 116]⟩ : ByteArray) = false := rfl
theorem q_8_23 : eqS (⟨#[97, 98, 115]⟩ : ByteArray) (⟨#[98, 111, 111, 108]⟩ : ByteArray) = false := rfl
theorem q_8_24 : eqS (⟨#[97, 98, 115]⟩ : ByteArray) (⟨#[65]⟩ : ByteArray) = false := rfl
theorem q_8_25 : eqS (⟨#[97, 98, 115]⟩ : ByteArray) (⟨#[]⟩ : ByteArray) = false := rfl
theorem q_9_0 : eqS (⟨#[115, 105, 103, 110]⟩ : ByteArray) (⟨#[97, 100, 100]⟩ : ByteArray) = false := rfl
theorem q_9_1 : eqS (⟨#[115, 105, 103, 110]⟩ : ByteArray) (⟨#[115, 117, 98]⟩ : ByteArray) = false := rfl
theorem q_9_2 : eqS (⟨#[115, 105, 103, 110]⟩ : ByteArray) (⟨#[109, 117, 108]⟩ : ByteArray) = false := rfl
theorem q_9_3 : eqS (⟨#[115, 105, 103, 110]⟩ : ByteArray) (⟨#[100, 105, 118]⟩ : ByteArray) = false := rfl
theorem q_9_4 : eqS (⟨#[115, 105, 103, 110]⟩ : ByteArray) (⟨#[109, 111, 100]⟩ : ByteArray) = false := rfl
theorem q_9_5 : eqS (⟨#[115, 105, 103, 110]⟩ : ByteArray) (⟨#[109, 105, 110]⟩ : ByteArray) = false := rfl
theorem q_9_6 : eqS (⟨#[115, 105, 103, 110]⟩ : ByteArray) (⟨#[109, 97, 120]⟩ : ByteArray) = false := rfl
theorem q_9_7 : eqS (⟨#[115, 105, 103, 110]⟩ : ByteArray) (⟨#[110, 101, 103]⟩ : ByteArray) = false := rfl
theorem q_9_8 : eqS (⟨#[115, 105, 103, 110]⟩ : ByteArray) (⟨#[97, 98, 115]⟩ : ByteArray) = false := rfl
theorem q_9_9 : eqS (⟨#[115, 105, 103, 110]⟩ : ByteArray) (⟨#[115, 105, 103, 110]⟩ : ByteArray) = true := rfl
theorem q_9_10 : eqS (⟨#[115, 105, 103, 110]⟩ : ByteArray) (⟨#[108, 116]⟩ : ByteArray) = false := rfl
theorem q_9_11 : eqS (⟨#[115, 105, 103, 110]⟩ : ByteArray) (⟨#[108, 101]⟩ : ByteArray) = false := rfl
theorem q_9_12 : eqS (⟨#[115, 105, 103, 110]⟩ : ByteArray) (⟨#[103, 116]⟩ : ByteArray) = false := rfl
theorem q_9_13 : eqS (⟨#[115, 105, 103, 110]⟩ : ByteArray) (⟨#[103, 101]⟩ : ByteArray) = false := rfl
theorem q_9_14 : eqS (⟨#[115, 105, 103, 110]⟩ : ByteArray) (⟨#[101, 113]⟩ : ByteArray) = false := rfl
theorem q_9_15 : eqS (⟨#[115, 105, 103, 110]⟩ : ByteArray) (⟨#[110, 101]⟩ : ByteArray) = false := rfl
theorem q_9_16 : eqS (⟨#[115, 105, 103, 110]⟩ : ByteArray) (⟨#[97, 110, 100]⟩ : ByteArray) = false := rfl
theorem q_9_17 : eqS (⟨#[115, 105, 103, 110]⟩ : ByteArray) (⟨#[111, 114]⟩ : ByteArray) = false := rfl
theorem q_9_18 : eqS (⟨#[115, 105, 103, 110]⟩ : ByteArray) (⟨#[120, 111, 114]⟩ : ByteArray) = false := rfl
theorem q_9_19 : eqS (⟨#[115, 105, 103, 110]⟩ : ByteArray) (⟨#[110, 111, 116]⟩ : ByteArray) = false := rfl
theorem q_9_20 : eqS (⟨#[115, 105, 103, 110]⟩ : ByteArray) (⟨#[115, 101, 108, 101, 99, 116]⟩ : ByteArray) = false := rfl
theorem q_9_21 : eqS (⟨#[115, 105, 103, 110]⟩ : ByteArray) (⟨#[116, 111, 105, 110, 116]⟩ : ByteArray) = false := rfl
theorem q_9_22 : eqS (⟨#[115, 105, 103, 110]⟩ : ByteArray) (⟨#[105, 110, 116]⟩ : ByteArray) = false := rfl
theorem q_9_23 : eqS (⟨#[115, 105, 103, 110]⟩ : ByteArray) (⟨#[98, 111, 111, 108]⟩ : ByteArray) = false := rfl
theorem q_9_24 : eqS (⟨#[115, 105, 103, 110]⟩ : ByteArray) (⟨#[65]⟩ : ByteArray) = false := rfl
theorem q_9_25 : eqS (⟨#[115, 105, 103, 110]⟩ : ByteArray) (⟨#[]⟩ : ByteArray) = false := rfl
theorem q_10_0 : eqS (⟨#[108, 116]⟩ : ByteArray) (⟨#[97, 100, 100]⟩ : ByteArray) = false := rfl
theorem q_10_1 : eqS (⟨#[108, 116]⟩ : ByteArray) (⟨#[115, 117, 98]⟩ : ByteArray) = false := rfl
theorem q_10_2 : eqS (⟨#[108, 116]⟩ : ByteArray) (⟨#[109, 117, 108]⟩ : ByteArray) = false := rfl
theorem q_10_3 : eqS (⟨#[108, 116]⟩ : ByteArray) (⟨#[100, 105, 118]⟩ : ByteArray) = false := rfl
theorem q_10_4 : eqS (⟨#[108, 116]⟩ : ByteArray) (⟨#[109, 111, 100]⟩ : ByteArray) = false := rfl
theorem q_10_5 : eqS (⟨#[108, 116]⟩ : ByteArray) (⟨#[109, 105, 110]⟩ : ByteArray) = false := rfl
theorem q_10_6 : eqS (⟨#[108, 116]⟩ : ByteArray) (⟨#[109, 97, 120]⟩ : ByteArray) = false := rfl
theorem q_10_7 : eqS (⟨#[108, 116]⟩ : ByteArray) (⟨#[110, 101, 103]⟩ : ByteArray) = false := rfl
theorem q_10_8 : eqS (⟨#[108, 116]⟩ : ByteArray) (⟨#[97, 98, 115]⟩ : ByteArray) = false := rfl
theorem q_10_9 : eqS (⟨#[108, 116]⟩ : ByteArray) (⟨#[115, 105, 103, 110]⟩ : ByteArray) = false := rfl
theorem q_10_10 : eqS (⟨#[108, 116]⟩ : ByteArray) (⟨#[108, 116]⟩ : ByteArray) = true := rfl
theorem q_10_11 : eqS (⟨#[108, 116]⟩ : ByteArray) (⟨#[108, 101]⟩ : ByteArray) = false := rfl
theorem q_10_12 : eqS (⟨#[108, 116]⟩ : ByteArray) (⟨#[103, 116]⟩ : ByteArray) = false := rfl
theorem q_10_13 : eqS (⟨#[108, 116]⟩ : ByteArray) (⟨#[103, 101]⟩ : ByteArray) = false := rfl
theorem q_10_14 : eqS (⟨#[108, 116]⟩ : ByteArray) (⟨#[101, 113]⟩ : ByteArray) = false := rfl
theorem q_10_15 : eqS (⟨#[108, 116]⟩ : ByteArray) (⟨#[110, 101]⟩ : ByteArray) = false := rfl
theorem q_10_16 : eqS (⟨#[108, 116]⟩ : ByteArray) (⟨#[97, 110, 100]⟩ : ByteArray) = false := rfl
theorem q_10_17 : eqS (⟨#[108, 116]⟩ : ByteArray) (⟨#[111, 114]⟩ : ByteArray) = false := rfl
theorem q_10_18 : eqS (⟨#[108, 116]⟩ : ByteArray) (⟨#[120, 111, 114]⟩ : ByteArray) = false := rfl
theorem q_10_19 : eqS (⟨#[108, 116]⟩ : ByteArray) (⟨#[110, 111, 116]⟩ : ByteArray) = false := rfl
theorem q_10_20 : eqS (⟨#[108, 116]⟩ : ByteArray) (⟨#[115, 101, 108, 101, 99, 116]⟩ : ByteArray) = false := rfl
theorem q_10_21 : eqS (⟨#[108, 116]⟩ : ByteArray) (⟨#[116, 111, 105, 110, 116]⟩ : ByteArray) = false := rfl
theorem q_10_22 : eqS (⟨#[108, 116]⟩ : ByteArray) (⟨#[105, 110, 116]⟩ : ByteArray) = false := rfl
theorem q_10_23 : eqS (⟨#[108, 116]⟩ : ByteArray) (⟨#[98, 111, 111, 108]⟩ : ByteArray) = false := rfl
theorem q_10_24 : eqS (⟨#[108, 116]⟩ : ByteArray) (⟨#[65]⟩ : ByteArray) = false := rfl
theorem q_10_25 : eqS (⟨#[108, 116]⟩ : ByteArray) (⟨#[]⟩ : ByteArray) = false := rfl
theorem q_11_0 : eqS (⟨#[108, 101]⟩ : ByteArray) (⟨#[97, 100, 100]⟩ : ByteArray) = false := rfl
theorem q_11_1 : eqS (⟨#[108, 101]⟩ : ByteArray) (⟨#[115, 117, 98]⟩ : ByteArray) = false := rfl
theorem q_11_2 : eqS (⟨#[108, 101]⟩ : ByteArray) (⟨#[109, 117, 108]⟩ : ByteArray) = false := rfl
theorem q_11_3 : eqS (⟨#[108, 101]⟩ : ByteArray) (⟨#[100, 105, 118]⟩ : ByteArray) = false := rfl
theorem q_11_4 : eqS (⟨#[108, 101]⟩ : ByteArray) (⟨#[109, 111, 100]⟩ : ByteArray) = false := rfl
theorem q_11_5 : eqS (⟨#[108, 101]⟩ : ByteArray) (⟨#[109, 105, 110]⟩ : ByteArray) = false := rfl
theorem q_11_6 : eqS (⟨#[108, 101]⟩ : ByteArray) (⟨#[109, 97, 120]⟩ : ByteArray) = false := rfl
theorem q_11_7 : eqS (⟨#[108, 101]⟩ : ByteArray) (⟨#[110, 101, 103]⟩ : ByteArray) = false := rfl
theorem q_11_8 : eqS (⟨#[108, 101]⟩ : ByteArray) (⟨#[97, 98, 115]⟩ : ByteArray) = false := rfl
theorem q_11_9 : eqS (⟨#[108, 101]⟩ : ByteArray) (⟨#[115, 105, 103, 110]⟩ : ByteArray) = false := rfl
theorem q_11_10 : eqS (⟨#[108, 101]⟩ : ByteArray) (⟨#[108, 116]⟩ : ByteArray) = false := rfl
theorem q_11_11 : eqS (⟨#[108, 101]⟩ : ByteArray) (⟨#[108, 101]⟩ : ByteArray) = true := rfl
theorem q_11_12 : eqS (⟨#[108, 101]⟩ : ByteArray) (⟨#[103, 116]⟩ : ByteArray) = false := rfl
theorem q_11_13 : eqS (⟨#[108, 101]⟩ : ByteArray) (⟨#[103, 101]⟩ : ByteArray) = false := rfl
theorem q_11_14 : eqS (⟨#[108, 101]⟩ : ByteArray) (⟨#[101, 113]⟩ : ByteArray) = false := rfl
theorem q_11_15 : eqS (⟨#[108, 101]⟩ : ByteArray) (⟨#[110, 101]⟩ : ByteArray) = false := rfl
theorem q_11_16 : eqS (⟨#[108, 101]⟩ : ByteArray) (⟨#[97, 110, 100]⟩ : ByteArray) = false := rfl
theorem q_11_17 : eqS (⟨#[108, 101]⟩ : ByteArray) (⟨#[111, 114]⟩ : ByteArray) = false := rfl
theorem q_11_18 : eqS (⟨#[108, 101]⟩ : ByteArray) (⟨#[120, 111, 114]⟩ : ByteArray) = false := rfl
theorem q_11_19 : eqS (⟨#[108, 101]⟩ : ByteArray) (⟨#[110, 111, 116]⟩ : ByteArray) = false := rfl
theorem q_11_20 : eqS (⟨#[108, 101]⟩ : ByteArray) (⟨#[115, 101, 108, 101, 99, 116]⟩ : ByteArray) = false := rfl
theorem q_11_21 : eqS (⟨#[108, 101]⟩ : ByteArray) (⟨#[116, 111, 105, 110, 116]⟩ : ByteArray) = false := rfl
theorem q_11_22 : eqS (⟨#[108, 101]⟩ : ByteArray) (⟨#[105, 110, 116]⟩ : ByteArray) = false := rfl
theorem q_11_23 : eqS (⟨#[108, 101]⟩ : ByteArray) (⟨#[98, 111, 111, 108]⟩ : ByteArray) = false := rfl
theorem q_11_24 : eqS (⟨#[108, 101]⟩ : ByteArray) (⟨#[65]⟩ : ByteArray) = false := rfl
theorem q_11_25 : eqS (⟨#[108, 101]⟩ : ByteArray) (⟨#[]⟩ : ByteArray) = false := rfl
theorem q_12_0 : eqS (⟨#[103, 116]⟩ : ByteArray) (⟨#[97, 100, 100]⟩ : ByteArray) = false := rfl
theorem q_12_1 : eqS (⟨#[103, 116]⟩ : ByteArray) (⟨#[115, 117, 98]⟩ : ByteArray) = false := rfl
theorem q_12_2 : eqS (⟨#[103, 116]⟩ : ByteArray) (⟨#[109, 117, 108]⟩ : ByteArray) = false := rfl
theorem q_12_3 : eqS (⟨#[103, 116]⟩ : ByteArray) (⟨#[100, 105, 118]⟩ : ByteArray) = false := rfl
theorem q_12_4 : eqS (⟨#[103, 116]⟩ : ByteArray) (⟨#[109, 111, 100]⟩ : ByteArray) = false := rfl
theorem q_12_5 : eqS (⟨#[103, 116]⟩ : ByteArray) (⟨#[109, 105, 110]⟩ : ByteArray) = false := rfl
theorem q_12_6 : eqS (⟨#[103, 116]⟩ : ByteArray) (⟨#[109, 97, 120]⟩ : ByteArray) = false := rfl
theorem q_12_7 : eqS (⟨#[103, 116]⟩ : ByteArray) (⟨#[110, 101, 103]⟩ : ByteArray) = false := rfl
theorem q_12_8 : eqS (⟨#[103, 116]⟩ : ByteArray) (⟨#[97, 98, 115]⟩ : ByteArray) = false := rfl
theorem q_12_9 : eqS (⟨#[103, 116]⟩ : ByteArray) (⟨#[115, 105, 103, 110]⟩ : ByteArray) = false := rfl
theorem q_12_10 : eqS (⟨#[103, 116]⟩ : ByteArray) (⟨#[108, 116]⟩ : ByteArray) = false := rfl
theorem q_12_11 : eqS (⟨#[103, 116]⟩ : ByteArray) (⟨#[108, 101]⟩ : ByteArray) = false := rfl
theorem q_12_12 : eqS (⟨#[103, 116]⟩ : ByteArray) (⟨#[103, 116]⟩ : ByteArray) = true := rfl
theorem q_12_13 : eqS (⟨#[103, 116]⟩ : ByteArray) (⟨#[103, 101]⟩ : ByteArray) = false := rfl
theorem q_12_14 : eqS (⟨#[103, 116]⟩ : ByteArray) (⟨#[101, 113]⟩ : ByteArray) = false := rfl
theorem q_12_15 : eqS (⟨#[103, 116]⟩ : ByteArray) (⟨#[110, 101]⟩ : ByteArray) = false := rfl
theorem q_12_16 : eqS (⟨#[103, 116]⟩ : ByteArray) (⟨#[97, 110, 100]⟩ : ByteArray) = false := rfl
theorem q_12_17 : eqS (⟨#[103, 116]⟩ : ByteArray) (⟨#[111, 114]⟩ : ByteArray) = false := rfl
theorem q_12_18 : eqS (⟨#[103, 116]⟩ : ByteArray) (⟨#[120, 111, 114]⟩ : ByteArray) = false := rfl
theorem q_12_19 : eqS (⟨#[103, 116]⟩ : ByteArray) (⟨#[110, 111, 116]⟩ : ByteArray) = false := rfl
theorem q_12_20 : eqS (⟨#[103, 116]⟩ : ByteArray) (⟨#[115, 101, 108, 101, 99, 116]⟩ : ByteArray) = false := rfl
theorem q_12_21 : eqS (⟨#[103, 116]⟩ : ByteArray) (⟨#[116, 111, 105, 110, 116]⟩ : ByteArray) = false := rfl
theorem q_12_22 : eqS (⟨#[103, 116]⟩ : ByteArray) (⟨#[105, 110, 116]⟩ : ByteArray) = false := rfl
theorem q_12_23 : eqS (⟨#[103, 116]⟩ : ByteArray) (⟨#[98, 111, 111, 108]⟩ : ByteArray) = false := rfl
theorem q_12_24 : eqS (⟨#[103, 116]⟩ : ByteArray) (⟨#[65]⟩ : ByteArray) = false := rfl
theorem q_12_25 : eqS (⟨#[103, 116]⟩ : ByteArray) (⟨#[]⟩ : ByteArray) = false := rfl
theorem q_13_0 : eqS (⟨#[103, 101]⟩ : ByteArray) (⟨#[97, 100, 100]⟩ : ByteArray) = false := rfl
theorem q_13_1 : eqS (⟨#[103, 101]⟩ : ByteArray) (⟨#[115, 117, 98]⟩ : ByteArray) = false := rfl
theorem q_13_2 : eqS (⟨#[103, 101]⟩ : ByteArray) (⟨#[109, 117, 108]⟩ : ByteArray) = false := rfl
theorem q_13_3 : eqS (⟨#[103, 101]⟩ : ByteArray) (⟨#[100, 105, 118]⟩ : ByteArray) = false := rfl
theorem q_13_4 : eqS (⟨#[103, 101]⟩ : ByteArray) (⟨#[109, 111, 100]⟩ : ByteArray) = false := rfl
theorem q_13_5 : eqS (⟨#[103, 101]⟩ : ByteArray) (⟨#[109, 105, 110]⟩ : ByteArray) = false := rfl
theorem q_13_6 : eqS (⟨#[103, 101]⟩ : ByteArray) (⟨#[109, 97, 120]⟩ : ByteArray) = false := rfl
theorem q_13_7 : eqS (⟨#[103, 101]⟩ : ByteArray) (⟨#[110, 101, 103]⟩ : ByteArray) = false := rfl
theorem q_13_8 : eqS (⟨#[103, 101]⟩ : ByteArray) (⟨#[97, 98, 115]⟩ : ByteArray) = false := rfl
theorem q_13_9 : eqS (⟨#[103, 101]⟩ : ByteArray) (⟨#[115, 105, 103, 110]⟩ : ByteArray) = false := rfl
theorem q_13_10 : eqS (⟨#[103, 101]⟩ : ByteArray) (⟨#[108, 116]⟩ : ByteArray) = false := rfl
theorem q_13_11 : eqS (⟨#[103, 101]⟩ : ByteArray) (⟨#[108, 101]⟩ : ByteArray) = false := rfl
theorem q_13_12 : eqS (⟨#[103, 101]⟩ : ByteArray) (⟨#[103, 116]⟩ : ByteArray) = false := rfl
theorem q_13_13 : eqS (⟨#[103, 101]⟩ : ByteArray) (⟨#[103, 101]⟩ : ByteArray) = true := rfl
theorem q_13_14 : eqS (⟨#[103, 101]⟩ : ByteArray) (⟨#[101, 113]⟩ : ByteArray) = false := rfl
theorem q_13_15 : eqS (⟨#[103, 101]⟩ : ByteArray) (⟨#[110, 101]⟩ : ByteArray) = false := rfl
theorem q_13_16 : eqS (⟨#[103, 101]⟩ : ByteArray) (⟨#[97, 110, 100]⟩ : ByteArray) = false := rfl
theorem q_13_17 : eqS (⟨#[103, 101]⟩ : ByteArray) (⟨#[111, 114]⟩ : ByteArray) = false := rfl
theorem q_13_18 : eqS (⟨#[103, 101]⟩ : ByteArray) (⟨#[120, 111, 114]⟩ : ByteArray) = false := rfl
theorem q_13_19 : eqS (⟨#[103, 101]⟩ : ByteArray) (⟨#[110, 111, 116]⟩ : ByteArray) = false := rfl
theorem q_13_20 : eqS (⟨#[103, 101]⟩ : ByteArray) (⟨#[115, 101, 108, 101, 99, 116]⟩ : ByteArray) = false := rfl
theorem q_13_21 : eqS (⟨#[103, 101]⟩ : ByteArray) (⟨#[116, 111, 105, 110, 116]⟩ : ByteArray) = false := rfl
theorem q_13_22 : eqS (⟨#[103, 101]⟩ : ByteArray) (⟨#[105, 110, 116]⟩ : ByteArray) = false := rfl
theorem q_13_23 : eqS (⟨#[103, 101]⟩ : ByteArray) (⟨#[98, 111, 111, 108]⟩ : ByteArray) = false := rfl
theorem q_13_24 : eqS (⟨#[103, 101]⟩ : ByteArray) (⟨#[65]⟩ : ByteArray) = false := rfl
theorem q_13_25 : eqS (⟨#[103, 101]⟩ : ByteArray) (⟨#[]⟩ : ByteArray) = false := rfl
theorem q_14_0 : eqS (⟨#[101, 113]⟩ : ByteArray) (⟨#[97, 100, 100]⟩ : ByteArray) = false := rfl
theorem q_14_1 : eqS (⟨#[101, 113]⟩ : ByteArray) (⟨#[115, 117, 98]⟩ : ByteArray) = false := rfl
theorem q_14_2 : eqS (⟨#[101, 113]⟩ : ByteArray) (⟨#[109, 117, 108]⟩ : ByteArray) = false := rfl
theorem q_14_3 : eqS (⟨#[101, 113]⟩ : ByteArray) (⟨#[100, 105, 118]⟩ : ByteArray) = false := rfl
theorem q_14_4 : eqS (⟨#[101, 113]⟩ : ByteArray) (⟨#[109, 111, 100]⟩ : ByteArray) = false := rfl
theorem q_14_5 : eqS (⟨#[101, 113]⟩ : ByteArray) (⟨#[109, 105, 110]⟩ : ByteArray) = false := rfl
theorem q_14_6 : eqS (⟨#[101, 113]⟩ : ByteArray) (⟨#[109, 97, 120]⟩ : ByteArray) = false := rfl
theorem q_14_7 : eqS (⟨#[101, 113]⟩ : ByteArray) (⟨#[110, 101, 103]⟩ : ByteArray) = false := rfl
theorem q_14_8 : eqS (⟨#[101, 113]⟩ : ByteArray) (⟨#[97, 98, 115]⟩ : ByteArray) = false := rfl
theorem q_14_9 : eqS (⟨#[101, 113]⟩ : ByteArray) (⟨#[115, 105, 103, 110]⟩ : ByteArray) = false := rfl
theorem q_14_10 : eqS (⟨#[101, 113]⟩ : ByteArray) (⟨#[108, 116]⟩ : ByteArray) = false := rfl
theorem q_14_11 : eqS (⟨#[101, 113]⟩ : ByteArray) (⟨#[108, 101]⟩ : ByteArray) = false := rfl
theorem q_14_12 : eqS (⟨#[101, 113]⟩ : ByteArray) (⟨#[103, 116]⟩ : ByteArray) = false := rfl
theorem q_14_13 : eqS (⟨#[101, 113]⟩ : ByteArray) (⟨#[103, 101]⟩ : ByteArray) = false := rfl
theorem q_14_14 : eqS (⟨#[101, 113]⟩ : ByteArray) (⟨#[101, 113]⟩ : ByteArray) = true := rfl
theorem q_14_15 : eqS (⟨#[101, 113]⟩ : ByteArray) (⟨#[110, 101]⟩ : ByteArray) = false := rfl
theorem q_14_16 : eqS (⟨#[101, 113]⟩ : ByteArray) (⟨#[97, 110, 100]⟩ : ByteArray) = false := rfl
theorem q_14_17 : eqS (⟨#[101, 113]⟩ : ByteArray) (⟨#[111, 114]⟩ : ByteArray) = false := rfl
theorem q_14_18 : eqS (⟨#[101, 113]⟩ : ByteArray) (⟨#[120, 111, 114]⟩ : ByteArray) = false := rfl
theorem q_14_19 : eqS (⟨#[101, 113]⟩ : ByteArray) (⟨#[110, 111, 116]⟩ : ByteArray) = false := rfl
theorem q_14_20 : eqS (⟨#[101, 113]⟩ : ByteArray) (⟨#[115, 101, 108, 101, 99, 116]⟩ : ByteArray) = false := rfl
theorem q_14_21 : eqS (⟨#[101, 113]⟩ : ByteArray) (⟨#[116, 111, 105, 110, 116]⟩ : ByteArray) = false := rfl
theorem q_14_22 : eqS (⟨#[101, 113]⟩ : ByteArray) (⟨#[105, 110, 116]⟩ : ByteArray) = false := rfl
theorem q_14_23 : eqS (⟨#[101, 113]⟩ : ByteArray) (⟨#[98, 111, 111, 108]⟩ : ByteArray) = false := rfl
theorem q_14_24 : eqS (⟨#[101, 113]⟩ : ByteArray) (⟨#[65]⟩ : ByteArray) = false := rfl
theorem q_14_25 : eqS (⟨#[101, 113]⟩ : ByteArray) (⟨#[]⟩ : ByteArray) = false := rfl
theorem q_15_0 : eqS (⟨#[110, 101]⟩ : ByteArray) (⟨#[97, 100, 100]⟩ : ByteArray) = false := rfl
theorem q_15_1 : eqS (⟨#[110, 101]⟩ : ByteArray) (⟨#[115, 117, 98]⟩ : ByteArray) = false := rfl
theorem q_15_2 : eqS (⟨#[110, 101]⟩ : ByteArray) (⟨#[109, 117, 108]⟩ : ByteArray) = false := rfl
theorem q_15_3 : eqS (⟨#[110, 101]⟩ : ByteArray) (⟨#[100, 105, 118]⟩ : ByteArray) = false := rfl
theorem q_15_4 : eqS (⟨#[110, 101]⟩ : ByteArray) (⟨#[109, 111, 100]⟩ : ByteArray) = false := rfl
theorem q_15_5 : eqS (⟨#[110, 101]⟩ : ByteArray) (⟨#[109, 105, 110]⟩ : ByteArray) = false := rfl
theorem q_15_6 : eqS (⟨#[110, 101]⟩ : ByteArray) (⟨#[109, 97, 120]⟩ : ByteArray) = false := rfl
theorem q_15_7 : eqS (⟨#[110, 101]⟩ : ByteArray) (⟨#[110, 101, 103]⟩ : ByteArray) = false := rfl
theorem q_15_8 : eqS (⟨#[110, 101]⟩ : ByteArray) (⟨#[97, 98, 115]⟩ : ByteArray) = false := rfl
theorem q_15_9 : eqS (⟨#[110, 101]⟩ : ByteArray) (⟨#[115, 105, 103, 110]⟩ : ByteArray) = false := rfl
theorem q_15_10 : eqS (⟨#[110, 101]⟩ : ByteArray) (⟨#[108, 116]⟩ : ByteArray) = false := rfl
theorem q_15_11 : eqS (⟨#[110, 101]⟩ : ByteArray) (⟨#[108, 101]⟩ : ByteArray) = false := rfl
theorem q_15_12 : eqS (⟨#[110, 101]⟩ : ByteArray) (⟨#[103, 116]⟩ : ByteArray) = false := rfl
theorem q_15_13 : eqS (⟨#[110, 101]⟩ : ByteArray) (⟨#[103, 101]⟩ : ByteArray) = false := rfl
theorem q_15_14 : eqS (⟨#[110, 101]⟩ : ByteArray) (⟨#[101, 113]⟩ : ByteArray) = false := rfl
theorem q_15_15 : eqS (⟨#[110, 101]⟩ : ByteArray) (⟨#[110, 101]⟩ : ByteArray) = true := rfl
theorem q_15_16 : eqS (⟨#[110, 101]⟩ : ByteArray) (⟨#[97, 110, 100]⟩ : ByteArray) = false := rfl
theorem q_15_17 : eqS (⟨#[110, 101]⟩ : ByteArray) (⟨#[111, 114]⟩ : ByteArray) = false := rfl
theorem q_15_18 : eqS (⟨#[110, 101]⟩ : ByteArray) (⟨#[120, 111, 114]⟩ : ByteArray) = false := rfl
theorem q_15_19 : eqS (⟨#[110, 101]⟩ : ByteArray) (⟨#[110, 111, 116]⟩ : ByteArray) = false := rfl
theorem q_15_20 : eqS (⟨#[110, 101]⟩ : ByteArray) (⟨#[115, 101, 108, 101, 99, 116]⟩ : ByteArray) = false := rfl
theorem q_15_21 : eqS (⟨#[110, 101]⟩ : ByteArray) (⟨#[116, 111, 105, 110, 116]⟩ : ByteArray) = false := rfl
theorem q_15_22 : eqS (⟨#[110, 101]⟩ : ByteArray) (⟨#[105, 110, 116]⟩ : ByteArray) = false := rfl
theorem q_15_23 : eqS (⟨#[110, 101]⟩ : ByteArray) (⟨#[98, 111, 111, 108]⟩ : ByteArray) = false := rfl
theorem q_15_24 : eqS (⟨#[110, 101]⟩ : ByteArray) (⟨#[65]⟩ : ByteArray) = false := rfl
theorem q_15_25 : eqS (⟨#[110, 101]⟩ : ByteArray) (⟨#[]⟩ : ByteArray) = false := rfl
theorem q_16_0 : eqS (⟨#[97, 110, 100]⟩ : ByteArray) (⟨#[97, 100, 100]⟩ : ByteArray) = false := rfl
theorem q_16_1 : eqS (⟨#[97, 110, 100]⟩ : ByteArray) (⟨#[115, 117, 98]⟩ : ByteArray) = false := rfl
theorem q_16_2 : eqS (⟨#[97, 110, 100]⟩ : ByteArray) (⟨#[109, 117, 108]⟩ : ByteArray) = false := rfl
theorem q_16_3 : eqS (⟨#[97, 110, 100]⟩ : ByteArray) (⟨#[100, 105, 118]⟩ : ByteArray) = false := rfl
theorem q_16_4 : eqS (⟨#[97, 110, 100]⟩ : ByteArray) (⟨#[109, 111, 100]⟩ : ByteArray) = false := rfl
theorem q_16_5 : eqS (⟨#[97, 110, 100]⟩ : ByteArray) (⟨#[109, 105, 110]⟩ : ByteArray) = false := rfl
theorem q_16_6 : eqS (⟨#[97, 110, 100]⟩ : ByteArray) (⟨#[109, 97, 120]⟩ : ByteArray) = false := rfl
theorem q_16_7 : eqS (⟨#[97, 110, 100]⟩ : ByteArray) (⟨#[110, 101, 103]⟩ : ByteArray) = false := rfl
theorem q_16_8 : eqS (⟨#[97, 110, 100]⟩ : ByteArray) (⟨#[97, 98, 115]⟩ : ByteArray) = false := rfl
theorem q_16_9 : eqS (⟨#[97, 110, 100]⟩ : ByteArray) (⟨#[115, 105, 103, 110]⟩ : ByteArray) = false := rfl
theorem q_16_10 : eqS (⟨#[97, 110, 100]⟩ : ByteArray) (⟨#[108, 116]⟩ : ByteArray) = false := rfl
theorem q_16_11 : eqS (⟨#[97, 110, 100]⟩ : ByteArray) (⟨#[108, 101]⟩ : ByteArray) = false := rfl
theorem q_16_12 : eqS (⟨#[97, 110, 100]⟩ : ByteArray) (⟨#[103, 116]⟩ : ByteArray) = false := rfl
theorem q_16_13 : eqS (⟨#[97, 110, 100]⟩ : ByteArray) (⟨#[103, 101]⟩ : ByteArray) = false := rfl
theorem q_16_14 : eqS (⟨#[97, 110, 100]⟩ : ByteArray) (⟨#[101, 113]⟩ : ByteArray) = false := rfl
theorem q_16_15 : eqS (⟨#[97, 110, 100]⟩ : ByteArray) (⟨#[110, 101]⟩ : ByteArray) = false := rfl
theorem q_16_16 : eqS (⟨#[97, 110, 100]⟩ : ByteArray) (⟨#[97, 110, 100]⟩ : ByteArray) = true := rfl
theorem q_16_17 : eqS (⟨#[97, 110, 100]⟩ : ByteArray) (⟨#[111, 114]⟩ : ByteArray) = false := rfl
theorem q_16_18 : eqS (⟨#[97, 110, 100]⟩ : ByteArray) (⟨#[120, 111, 114]⟩ : ByteArray) = false := rfl
theorem q_16_19 : eqS (⟨#[97, 110, 100]⟩ : ByteArray) (⟨#[110, 111, 116]⟩ : ByteArray) = false := rfl
theorem q_16_20 : eqS (⟨#[97, 110, 100]⟩ : ByteArray) (⟨#[115, 101, 108, 101, 99, 116]⟩ : ByteArray) = false := rfl
theorem q_16_21 : eqS (⟨#[97, 110, 100]⟩ : ByteArray) (⟨#[116, 111, 105, 110, 116]⟩ : ByteArray) = false := rfl
theorem q_16_22 : eqS (⟨#[97, 110, 100]⟩ : ByteArray) (⟨#[105, 110, 116]⟩ : ByteArray) = false := rfl
theorem q_16_23 : eqS (⟨#[97, 110, 100]⟩ : ByteArray) (⟨#[98, 111, 111, 108]⟩ : ByteArray) = false := rfl
theorem q_16_24 : eqS (⟨#[97, 110, 100]⟩ : ByteArray) (⟨#[65]⟩ : ByteArray) = false := rfl
theorem q_16_25 : eqS (⟨#[97, 110, 100]⟩ : ByteArray) (⟨#[]⟩ : ByteArray) = false := rfl
theorem q_17_0 : eqS (⟨#[111, 114]⟩ : ByteArray) (⟨#[97, 100, 100]⟩ : ByteArray) = false := rfl
theorem q_17_1 : eqS (⟨#[111, 114]⟩ : ByteArray) (⟨#[115, 117, 98]⟩ : ByteArray) = false := rfl
theorem q_17_2 : eqS (⟨#[111, 114]⟩ : ByteArray) (⟨#[109, 117, 108]⟩ : ByteArray) = false := rfl
theorem q_17_3 : eqS (⟨#[111, 114]⟩ : ByteArray) (⟨#[100, 105, 118]⟩ : ByteArray) = false := rfl
theorem q_17_4 : eqS (⟨#[111, 114]⟩ : ByteArray) (⟨#[109, 111, 100]⟩ : ByteArray) = false := rfl
theorem q_17_5 : eqS (⟨#[111, 114]⟩ : ByteArray) (⟨#[109, 105, 110]⟩ : ByteArray) = false := rfl
theorem q_17_6 : eqS (⟨#[111, 114]⟩ : ByteArray) (⟨#[109, 97, 120]⟩ : ByteArray) = false := rfl
theorem q_17_7 : eqS (⟨#[111, 114]⟩ : ByteArray) (⟨#[110, 101, 103]⟩ : ByteArray) = false := rfl
theorem q_17_8 : eqS (⟨#[111, 114]⟩ : ByteArray) (⟨#[97, 98, 115]⟩ : ByteArray) = false := rfl
theorem q_17_9 : eqS (⟨#[111, 114]⟩ : ByteArray) (⟨#[115, 105, 103, 110]⟩ : ByteArray) = false := rfl
theorem q_17_10 : eqS (⟨#[111, 114]⟩ : ByteArray) (⟨#[108, 116]⟩ : ByteArray) = false := rfl
theorem q_17_11 : eqS (⟨#[111, 114]⟩ : ByteArray) (⟨#[108, 101]⟩ : ByteArray) = false := rfl
theorem q_17_12 : eqS (⟨#[111, 114]⟩ : ByteArray) (⟨#[103, 116]⟩ : ByteArray) = false := rfl
theorem q_17_13 : eqS (⟨#[111, 114]⟩ : ByteArray) (⟨#[103, 101]⟩ : ByteArray) = false := rfl
theorem q_17_14 : eqS (⟨#[111, 114]⟩ : ByteArray) (⟨#[101, 113]⟩ : ByteArray) = false := rfl
theorem q_17_15 : eqS (⟨#[111, 114]⟩ : ByteArray) (⟨#[110, 101]⟩ : ByteArray) = false := rfl
theorem q_17_16 : eqS (⟨#[111, 114]⟩ : ByteArray) (⟨#[97, 110, 100]⟩ : ByteArray) = false := rfl
theorem q_17_17 : eqS (⟨#[111, 114]⟩ : ByteArray) (⟨#[111, 114]⟩ : ByteArray) = true := rfl
theorem q_17_18 : eqS (⟨#[111, 114]⟩ : ByteArray) (⟨#[120, 111, 114]⟩ : ByteArray) = false := rfl
theorem q_17_19 : eqS (⟨#[111, 114]⟩ : ByteArray) (⟨#[110, 111, 116]⟩ : ByteArray) = false := rfl
theorem q_17_20 : eqS (⟨#[111, 114]⟩ : ByteArray) (⟨#[115, 101, 108, 101, 99, 116]⟩ : ByteArray) = false := rfl
theorem q_17_21 : eqS (⟨#[111, 114]⟩ : ByteArray) (⟨#[116, 111, 105, 110, 116]⟩ : ByteArray) = false := rfl
theorem q_17_22 : eqS (⟨#[111, 114]⟩ : ByteArray) (⟨#[105, 110, 116]⟩ : ByteArray) = false := rfl
theorem q_17_23 : eqS (⟨#[111, 114]⟩ : ByteArray) (⟨#[98, 111, 111, 108]⟩ : ByteArray) = false := rfl
theorem q_17_24 : eqS (⟨#[111, 114]⟩ : ByteArray) (⟨#[65]⟩ : ByteArray) = false := rfl
theorem q_17_25 : eqS (⟨#[111, 114]⟩ : ByteArray) (⟨#[]⟩ : ByteArray) = false := rfl
theorem q_18_0 : eqS (⟨#[120, 111, 114]⟩ : ByteArray) (⟨#[97, 100, 100]⟩ : ByteArray) = false := rfl
theorem q_18_1 : eqS (⟨#[120, 111, 114]⟩ : ByteArray) (⟨#[115, 117, 98]⟩ : ByteArray) = false := rfl
theorem q_18_2 : eqS (⟨#[120, 111, 114]⟩ : ByteArray) (⟨#[109, 117, 108]⟩ : ByteArray) = false := rfl
theorem q_18_3 : eqS (⟨#[120, 111, 114]⟩ : ByteArray) (⟨#[100, 105, 118]⟩ : ByteArray) = false := rfl
theorem q_18_4 : eqS (⟨#[120, 111, 114]⟩ : ByteArray) (⟨#[109, 111, 100]⟩ : ByteArray) = false := rfl
theorem q_18_5 : eqS (⟨#[120, 111, 114]⟩ : ByteArray) (⟨#[109, 105, 110]⟩ : ByteArray) = false := rfl
theorem q_18_6 : eqS (⟨#[120, 111, 114]⟩ : ByteArray) (⟨#[109, 97, 120]⟩ : ByteArray) = false := rfl
theorem q_18_7 : eqS (⟨#[120, 111, 114]⟩ : ByteArray) (⟨#[110, 101, 103]⟩ : ByteArray) = false := rfl
theorem q_18_8 : eqS (⟨#[120, 111, 114]⟩ : ByteArray) (⟨#[97, 98, 115]⟩ : ByteArray) = false := rfl
theorem q_18_9 : eqS (⟨#[120, 111, 114]⟩ : ByteArray) (⟨#[115, 105, 103, 110]⟩ : ByteArray) = false := rfl
theorem q_18_10 : eqS (⟨#[120, 111, 114]⟩ : ByteArray) (⟨#[108, 116]⟩ : ByteArray) = false := rfl
theorem q_18_11 : eqS (⟨#[120, 111, 114]⟩ : ByteArray) (⟨#[108, 101]⟩ : ByteArray) = false := rfl
theorem q_18_12 : eqS (⟨#[120, 111, 114]⟩ : ByteArray) (⟨#[103, 116]⟩ : ByteArray) = false := rfl
theorem q_18_13 : eqS (⟨#[120, 111, 114]⟩ : ByteArray) (⟨#[103, 101]⟩ : ByteArray) = false := rfl
theorem q_18_14 : eqS (⟨#[120, 111, 114]⟩ : ByteArray) (⟨#[101, 113]⟩ : ByteArray) = false := rfl
theorem q_18_15 : eqS (⟨#[120, 111, 114]⟩ : ByteArray) (⟨#[110, 101]⟩ : ByteArray) = false := rfl
theorem q_18_16 : eqS (⟨#[120, 111, 114]⟩ : ByteArray) (⟨#[97, 110, 100]⟩ : ByteArray) = false := rfl
theorem q_18_17 : eqS (⟨#[120, 111, 114]⟩ : ByteArray) (⟨#[111, 114]⟩ : ByteArray) = false := rfl
theorem q_18_18 : eqS (⟨#[120, 111, 114]⟩ : ByteArray) (⟨#[120, 111, 114]⟩ : ByteArray) = true := rfl
theorem q_18_19 : eqS (⟨#[120, 111, 114]⟩ : ByteArray) (⟨#[110, 111, 116]⟩ : ByteArray) = false := rfl
theorem q_18_20 : eqS (⟨#[120, 111, 114]⟩ : ByteArray) (⟨#[115, 101, 108, 101, 99, 116]⟩ : ByteArray) = false := rfl
theorem q_18_21 : eqS (⟨#[120, 111, 114]⟩ : ByteArray) (⟨#[116, 111, 105, 110, 116]⟩ : ByteArray) = false := rfl
theorem q_18_22 : eqS (⟨#[120, 111, 114]⟩ : ByteArray) (⟨#[105, 110, 116]⟩ : ByteArray) = false := rfl
theorem q_18_23 : eqS (⟨#[120, 111, 114]⟩ : ByteArray) (⟨#[98, 111, 111, 108]⟩ : ByteArray) = false := rfl
theorem q_18_24 : eqS (⟨#[120, 111, 114]⟩ : ByteArray) (⟨#[65]⟩ : ByteArray) = false := rfl
theorem q_18_25 : eqS (⟨#[120, 111, 114]⟩ : ByteArray) (⟨#[]⟩ : ByteArray) = false := rfl
theorem q_19_0 : eqS (⟨#[110, 111, 116]⟩ : ByteArray) (⟨#[97, 100, 100]⟩ : ByteArray) = false := rfl
theorem q_19_1 : eqS (⟨#[110, 111, 116]⟩ : ByteArray) (⟨#[115, 117, 98]⟩ : ByteArray) = false := rfl
theorem q_19_2 : eqS (⟨#[110, 111, 116]⟩ : ByteArray) (⟨#[109, 117, 108]⟩ : ByteArray) = false := rfl
theorem q_19_3 : eqS (⟨#[110, 111, 116]⟩ : ByteArray) (⟨#[100, 105, 118]⟩ : ByteArray) = false := rfl
theorem q_19_4 : eqS (⟨#[110, 111, 116]⟩ : ByteArray) (⟨#[109, 111, 100]⟩ : ByteArray) = false := rfl
theorem q_19_5 : eqS (⟨#[110, 111, 116]⟩ : ByteArray) (⟨#[109, 105, 110]⟩ : ByteArray) = false := rfl
theorem q_19_6 : eqS (⟨#[110, 111, 116]⟩ : ByteArray) (⟨#[109, 97, 120]⟩ : ByteArray) = false := rfl
theorem q_19_7 : eqS (⟨#[110, 111, 116]⟩ : ByteArray) (⟨#[110, 101, 103]⟩ : ByteArray) = false := rfl
theorem q_19_8 : eqS (⟨#[110, 111, 116]⟩ : ByteArray) (⟨#[97, 98, 115]⟩ : ByteArray) = false := rfl
theorem q_19_9 : eqS (⟨#[110, 111, 116]⟩ : ByteArray) (⟨#[115, 105, 103, 110]⟩ : ByteArray) = false := rfl
theorem q_19_10 : eqS (⟨#[110, 111, 116]⟩ : ByteArray) (⟨#[108, 116]⟩ : ByteArray) = false := rfl
theorem q_19_11 : eqS (⟨#[110, 111, 116]⟩ : ByteArray) (⟨#[108, 101]⟩ : ByteArray) = false := rfl
theorem q_19_12 : eqS (⟨#[110, 111, 116]⟩ : ByteArray) (⟨#[103, 116]⟩ : ByteArray) = false := rfl
theorem q_19_13 : eqS (⟨#[110, 111, 116]⟩ : ByteArray) (⟨#[103, 101]⟩ : ByteArray) = false := rfl
theorem q_19_14 : eqS (⟨#[110, 111, 116]⟩ : ByteArray) (⟨#[101, 113]⟩ : ByteArray) = false := rfl
theorem q_19_15 : eqS (⟨#[110, 111, 116]⟩ : ByteArray) (⟨#[110, 101]⟩ : ByteArray) = false := rfl
theorem q_19_16 : eqS (⟨#[110, 111, 116]⟩ : ByteArray) (⟨#[97, 110, 100]⟩ : ByteArray) = false := rfl
theorem q_19_17 : eqS (⟨#[110, 111, 116]⟩ : ByteArray) (⟨#[111, 114]⟩ : ByteArray) = false := rfl
theorem q_19_18 : eqS (⟨#[110, 111, 116]⟩ : ByteArray) (⟨#[120, 111, 114]⟩ : ByteArray) = false := rfl
theorem q_19_19 : eqS (⟨#[110, 111, 116]⟩ : ByteArray) (⟨#[110, 111, 116]⟩ : ByteArray) = true := rfl
theorem q_19_20 : eqS (⟨#[110, 111, 116]⟩ : ByteArray) (⟨#[115, 101, 108, 101, 99, 116]⟩ : ByteArray) = false := rfl
theorem q_19_21 : eqS (⟨#[110, 111, 116]⟩ : ByteArray) (⟨#[116, 111, 105, 110, 116]⟩ : ByteArray) = false := rfl
theorem q_19_22 : eqS (⟨#[110, 111, 116]⟩ : ByteArray) (⟨#[105, 110, 116]⟩ : ByteArray) = false := rfl
theorem q_19_23 : eqS (⟨#[110, 111, 116]⟩ : ByteArray) (⟨#[98, 111, 111, 108]⟩ : ByteArray) = false := rfl
theorem q_19_24 : eqS (⟨#[110, 111, 116]⟩ : ByteArray) (⟨#[65]⟩ : ByteArray) = false := rfl
theorem q_19_25 : eqS (⟨#[110, 111, 116]⟩ : ByteArray) (⟨#[]⟩ : ByteArray) = false := rfl
theorem q_20_0 : eqS (⟨#[115, 101, 108, 101, 99, 116]⟩ : ByteArray) (⟨#[97, 100, 100]⟩ : ByteArray) = false := rfl
theorem q_20_1 : eqS (⟨#[115, 101, 108, 101, 99, 116]⟩ : ByteArray) (⟨#[115, 117, 98]⟩ : ByteArray) = false := rfl
theorem q_20_2 : eqS (⟨#[115, 101, 108, 101, 99, 116]⟩ : ByteArray) (⟨#[109, 117, 108]⟩ : ByteArray) = false := rfl
theorem q_20_3 : eqS (⟨#[115, 101, 108, 101, 99, 116]⟩ : ByteArray) (⟨#[100, 105, 118]⟩ : ByteArray) = false := rfl
theorem q_20_4 : eqS (⟨#[115, 101, 108, 101, 99, 116]⟩ : ByteArray) (⟨#[109, 111, 100]⟩ : ByteArray) = false := rfl
theorem q_20_5 : eqS (⟨#[115, 101, 108, 101, 99, 116]⟩ : ByteArray) (⟨#[109, 105, 110]⟩ : ByteArray) = false := rfl
theorem q_20_6 : eqS (⟨#[115, 101, 108, 101, 99, 116]⟩ : ByteArray) (⟨#[109, 97, 120]⟩ : ByteArray) = false := rfl
theorem q_20_7 : eqS (⟨#[115, 101, 108, 101, 99, 116]⟩ : ByteArray) (⟨#[110, 101, 103]⟩ : ByteArray) = false := rfl
theorem q_20_8 : eqS (⟨#[115, 101, 108, 101, 99, 116]⟩ : ByteArray) (⟨#[97, 98, 115]⟩ : ByteArray) = false := rfl
theorem q_20_9 : eqS (⟨#[115, 101, 108, 101, 99, 116]⟩ : ByteArray) (⟨#[115, 105, 103, 110]⟩ : ByteArray) = false := rfl
theorem q_20_10 : eqS (⟨#[115, 101, 108, 101, 99, 116]⟩ : ByteArray) (⟨#[108, 116]⟩ : ByteArray) = false := rfl
theorem q_20_11 : eqS (⟨#[115, 101, 108, 101, 99, 116]⟩ : ByteArray) (⟨#[108, 101]⟩ : ByteArray) = false := rfl
theorem q_20_12 : eqS (⟨#[115, 101, 108, 101, 99, 116]⟩ : ByteArray) (⟨#[103, 116]⟩ : ByteArray) = false := rfl
theorem q_20_13 : eqS (⟨#[115, 101, 108, 101, 99, 116]⟩ : ByteArray) (⟨#[103, 101]⟩ : ByteArray) = false := rfl
theorem q_20_14 : eqS (⟨#[115, 101, 108, 101, 99, 116]⟩ : ByteArray) (⟨#[101, 113]⟩ : ByteArray) = false := rfl
theorem q_20_15 : eqS (⟨#[115, 101, 108, 101, 99, 116]⟩ : ByteArray) (⟨#[110, 101]⟩ : ByteArray) = false := rfl
theorem q_20_16 : eqS (⟨#[115, 101, 108, 101, 99, 116]⟩ : ByteArray) (⟨#[97, 110, 100]⟩ : ByteArray) = false := rfl
theorem q_20_17 : eqS (⟨#[115, 101, 108, 101, 99, 116]⟩ : ByteArray) (⟨#[111, 114]⟩ : ByteArray) = false := rfl
theorem q_20_18 : eqS (⟨#[115, 101, 108, 101, 99, 116]⟩ : ByteArray) (⟨#[120, 111, 114]⟩ : ByteArray) = false := rfl
theorem q_20_19 : eqS (⟨#[115, 101, 108, 101, 99, 116]⟩ : ByteArray) (⟨#[110, 111, 116]⟩ : ByteArray) = false := rfl
theorem q_20_20 : eqS (⟨#[115, 101, 108, 101, 99, 116]⟩ : ByteArray) (⟨#[115, 101, 108, 101, 99, 116]⟩ : ByteArray) = true := rfl
theorem q_20_21 : eqS (⟨#[115, 101, 108, 101, 99, 116]⟩ : ByteArray) (⟨#[116, 111, 105, 110, 116]⟩ : ByteArray) = false := rfl
theorem q_20_22 : eqS (⟨#[115, 101, 108, 101, 99, 116]⟩ : ByteArray) (⟨#[105, 110, 116]⟩ : ByteArray) = false := rfl
theorem q_20_23 : eqS (⟨#[115, 101, 108, 101, 99, 116]⟩ : ByteArray) (⟨#[98, 111, 111, 108]⟩ : ByteArray) = false := rfl
theorem q_20_24 : eqS (⟨#[115, 101, 108, 101, 99, 116]⟩ : ByteArray) (⟨#[65]⟩ : ByteArray) = false := rfl
theorem q_20_25 : eqS (⟨#[115, 101, 108, 101, 99, 116]⟩ : ByteArray) (⟨#[]⟩ : ByteArray) = false := rfl
theorem q_21_0 : eqS (⟨#[116, 111, 105, 110, 116]⟩ : ByteArray) (⟨#[97, 100, 100]⟩ : ByteArray) = false := rfl
theorem q_21_1 : eqS (⟨#[116, 111, 105, 110, 116]⟩ : ByteArray) (⟨#[115, 117, 98]⟩ : ByteArray) = false := rfl
theorem q_21_2 : eqS (⟨#[116, 111, 105, 110, 116]⟩ : ByteArray) (⟨#[109, 117, 108]⟩ : ByteArray) = false := rfl
theorem q_21_3 : eqS (⟨#[116, 111, 105, 110, 116]⟩ : ByteArray) (⟨#[100, 105, 118]⟩ : ByteArray) = false := rfl
theorem q_21_4 : eqS (⟨#[116, 111, 105, 110, 116]⟩ : ByteArray) (⟨#[109, 111, 100]⟩ : ByteArray) = false := rfl
theorem q_21_5 : eqS (⟨#[116, 111, 105, 110, 116]⟩ : ByteArray) (⟨#[109, 105, 110]⟩ : ByteArray) = false := rfl
theorem q_21_6 : eqS (⟨#[116, 111, 105, 110, 116]⟩ : ByteArray) (⟨#[109, 97, 120]⟩ : ByteArray) = false := rfl
theorem q_21_7 : eqS (⟨#[116, 111, 105, 110, 116]⟩ : ByteArray) (⟨#[110, 101, 103]⟩ : ByteArray) = false := rfl
theorem q_21_8 : eqS (⟨#[116, 111, 105, 110, 116]⟩ : ByteArray) (⟨#[97, 98, 115]⟩ : ByteArray) = false := rfl
theorem q_21_9 : eqS (⟨#[116, 111, 105, 110, 116]⟩ : ByteArray) (⟨#[115, 105, 103, 110]⟩ : ByteArray) = false := rfl
theorem q_21_10 : eqS (⟨#[116, 111, 105, 110, 116]⟩ : ByteArray) (⟨#[108, 116]⟩ : ByteArray) = false := rfl
theorem q_21_11 : eqS (⟨#[116, 111, 105, 110, 116]⟩ : ByteArray) (⟨#[108, 101]⟩ : ByteArray) = false := rfl
theorem q_21_12 : eqS (⟨#[116, 111, 105, 110, 116]⟩ : ByteArray) (⟨#[103, 116]⟩ : ByteArray) = false := rfl
theorem q_21_13 : eqS (⟨#[116, 111, 105, 110, 116]⟩ : ByteArray) (⟨#[103, 101]⟩ : ByteArray) = false := rfl
theorem q_21_14 : eqS (⟨#[116, 111, 105, 110, 116]⟩ : ByteArray) (⟨#[101, 113]⟩ : ByteArray) = false := rfl
theorem q_21_15 : eqS (⟨#[116, 111, 105, 110, 116]⟩ : ByteArray) (⟨#[110, 101]⟩ : ByteArray) = false := rfl
theorem q_21_16 : eqS (⟨#[116, 111, 105, 110, 116]⟩ : ByteArray) (⟨#[97, 110, 100]⟩ : ByteArray) = false := rfl
theorem q_21_17 : eqS (⟨#[116, 111, 105, 110, 116]⟩ : ByteArray) (⟨#[111, 114]⟩ : ByteArray) = false := rfl
theorem q_21_18 : eqS (⟨#[116, 111, 105, 110, 116]⟩ : ByteArray) (⟨#[120, 111, 114]⟩ : ByteArray) = false := rfl
theorem q_21_19 : eqS (⟨#[116, 111, 105, 110, 116]⟩ : ByteArray) (⟨#[110, 111, 116]⟩ : ByteArray) = false := rfl
theorem q_21_20 : eqS (⟨#[116, 111, 105, 110, 116]⟩ : ByteArray) (⟨#[115, 101, 108, 101, 99, 116]⟩ : ByteArray) = false := rfl
theorem q_21_21 : eqS (⟨#[116, 111, 105, 110, 116]⟩ : ByteArray) (⟨#[116, 111, 105, 110, 116]⟩ : ByteArray) = true := rfl
theorem q_21_22 : eqS (⟨#[116, 111, 105, 110, 116]⟩ : ByteArray) (⟨#[105, 110, 116]⟩ : ByteArray) = false := rfl
theorem q_21_23 : eqS (⟨#[116, 111, 105, 110, 116]⟩ : ByteArray) (⟨#[98, 111, 111, 108]⟩ : ByteArray) = false := rfl
theorem q_21_24 : eqS (⟨#[116, 111, 105, 110, 116]⟩ : ByteArray) (⟨#[65]⟩ : ByteArray) = false := rfl
theorem q_21_25 : eqS (⟨#[116, 111, 105, 110, 116]⟩ : ByteArray) (⟨#[]⟩ : ByteArray) = false := rfl
theorem q_22_0 : eqS (⟨#[105, 110, 116]⟩ : ByteArray) (⟨#[97, 100, 100]⟩ : ByteArray) = false := rfl
theorem q_22_1 : eqS (⟨#[105, 110, 116]⟩ : ByteArray) (⟨#[115, 117, 98]⟩ : ByteArray) = false := rfl
theorem q_22_2 : eqS (⟨#[105, 110, 116]⟩ : ByteArray) (⟨#[109, 117, 108]⟩ : ByteArray) = false := rfl
theorem q_22_3 : eqS (⟨#[105, 110, 116]⟩ : ByteArray) (⟨#[100, 105, 118]⟩ : ByteArray) = false := rfl
theorem q_22_4 : eqS (⟨#[105, 110, 116]⟩ : ByteArray) (⟨#[109, 111, 100]⟩ : ByteArray) = false := rfl
theorem q_22_5 : eqS (⟨#[105, 110, 116]⟩ : ByteArray) (⟨#[109, 105, 110]⟩ : ByteArray) = false := rfl
theorem q_22_6 : eqS (⟨#[105, 110, 116]⟩ : ByteArray) (⟨#[109, 97, 120]⟩ : ByteArray) = false := rfl
theorem q_22_7 : eqS (⟨#[105, 110, 116]⟩ : ByteArray) (⟨#[110, 101, 103]⟩ : ByteArray) = false := rfl
theorem q_22_8 : eqS (⟨#[105, 110, 116]⟩ : ByteArray) (⟨#[97, 98, 115]⟩ : ByteArray) = false := rfl
theorem q_22_9 : eqS (⟨#[105, 110, 116]⟩ : ByteArray) (⟨#[115, 105, 103, 110]⟩ : ByteArray) = false := rfl
theorem q_22_10 : eqS (⟨#[105, 110, 116]⟩ : ByteArray) (⟨#[108, 116]⟩ : ByteArray) = false := rfl
theorem q_22_11 : eqS (⟨#[105, 110, 116]⟩ : ByteArray) (⟨#[108, 101]⟩ : ByteArray) = false := rfl
theorem q_22_12 : eqS (⟨#[105, 110, 116]⟩ : ByteArray) (⟨#[103, 116]⟩ : ByteArray) = false := rfl
theorem q_22_13 : eqS (⟨#[105, 110, 116]⟩ : ByteArray) (⟨#[103, 101]⟩ : ByteArray) = false := rfl
theorem q_22_14 : eqS (⟨#[105, 110, 116]⟩ : ByteArray) (⟨#[101, 113]⟩ : ByteArray) = false := rfl
theorem q_22_15 : eqS (⟨#[105, 110, 116]⟩ : ByteArray) (⟨#[110, 101]⟩ : ByteArray) = false := rfl
theorem q_22_16 : eqS (⟨#[105, 110, 116]⟩ : ByteArray) (⟨#[97, 110, 100]⟩ : ByteArray) = false := rfl
theorem q_22_17 : eqS (⟨#[105, 110, 116]⟩ : ByteArray) (⟨#[111, 114]⟩ : ByteArray) = false := rfl
theorem q_22_18 : eqS (⟨#[105, 110, 116]⟩ : ByteArray) (⟨#[120, 111, 114]⟩ : ByteArray) = false := rfl
theorem q_22_19 : eqS (⟨#[105, 110, 116]⟩ : ByteArray) (⟨#[110, 111, 116]⟩ : ByteArray) = false := rfl
theorem q_22_20 : eqS (⟨#[105, 110, 116]⟩ : ByteArray) (⟨#[115, 101, 108, 101, 99, 116]⟩ : ByteArray) = false := rfl
theorem q_22_21 : eqS (⟨#[105, 110, 116]⟩ : ByteArray) (⟨#[116, 111, 105, 110, 116]⟩ : ByteArray) = false := rfl
theorem q_22_22 : eqS (⟨#[105, 110, 116]⟩ : ByteArray) (⟨#[105, 110, 116]⟩ : ByteArray) = true := rfl
theorem q_22_23 : eqS (⟨#[105, 110, 116]⟩ : ByteArray) (⟨#[98, 111, 111, 108]⟩ : ByteArray) = false := rfl
theorem q_22_24 : eqS (⟨#[105, 110, 116]⟩ : ByteArray) (⟨#[65]⟩ : ByteArray) = false := rfl
theorem q_22_25 : eqS (⟨#[105, 110, 116]⟩ : ByteArray) (⟨#[]⟩ : ByteArray) = false := rfl
theorem q_23_0 : eqS (⟨#[98, 111, 111, 108]⟩ : ByteArray) (⟨#[97, 100, 100]⟩ : ByteArray) = false := rfl
theorem q_23_1 : eqS (⟨#[98, 111, 111, 108]⟩ : ByteArray) (⟨#[115, 117, 98]⟩ : ByteArray) = false := rfl
theorem q_23_2 : eqS (⟨#[98, 111, 111, 108]⟩ : ByteArray) (⟨#[109, 117, 108]⟩ : ByteArray) = false := rfl
theorem q_23_3 : eqS (⟨#[98, 111, 111, 108]⟩ : ByteArray) (⟨#[100, 105, 118]⟩ : ByteArray) = false := rfl
theorem q_23_4 : eqS (⟨#[98, 111, 111, 108]⟩ : ByteArray) (⟨#[109, 111, 100]⟩ : ByteArray) = false := rfl
theorem q_23_5 : eqS (⟨#[98, 111, 111, 108]⟩ : ByteArray) (⟨#[109, 105, 110]⟩ : ByteArray) = false := rfl
theorem q_23_6 : eqS (⟨#[98, 111, 111, 108]⟩ : ByteArray) (⟨#[109, 97, 120]⟩ : ByteArray) = false := rfl
theorem q_23_7 : eqS (⟨#[98, 111, 111, 108]⟩ : ByteArray) (⟨#[110, 101, 103]⟩ : ByteArray) = false := rfl
theorem q_23_8 : eqS (⟨#[98, 111, 111, 108]⟩ : ByteArray) (⟨#[97, 98, 115]⟩ : ByteArray) = false := rfl
theorem q_23_9 : eqS (⟨#[98, 111, 111, 108]⟩ : ByteArray) (⟨#[115, 105, 103, 110]⟩ : ByteArray) = false := rfl
theorem q_23_10 : eqS (⟨#[98, 111, 111, 108]⟩ : ByteArray) (⟨#[108, 116]⟩ : ByteArray) = false := rfl
theorem q_23_11 : eqS (⟨#[98, 111, 111, 108]⟩ : ByteArray) (⟨#[108, 101]⟩ : ByteArray) = false := rfl
theorem q_23_12 : eqS (⟨#[98, 111, 111, 108]⟩ : ByteArray) (⟨#[103, 116]⟩ : ByteArray) = false := rfl
theorem q_23_13 : eqS (⟨#[98, 111, 111, 108]⟩ : ByteArray) (⟨#[103, 101]⟩ : ByteArray) = false := rfl
theorem q_23_14 : eqS (⟨#[98, 111, 111, 108]⟩ : ByteArray) (⟨#[101, 113]⟩ : ByteArray) = false := rfl
theorem q_23_15 : eqS (⟨#[98, 111, 111, 108]⟩ : ByteArray) (⟨#[110, 101]⟩ : ByteArray) = false := rfl
theorem q_23_16 : eqS (⟨#[98, 111, 111, 108]⟩ : ByteArray) (⟨#[97, 110, 100]⟩ : ByteArray) = false := rfl
theorem q_23_17 : eqS (⟨#[98, 111, 111, 108]⟩ : ByteArray) (⟨#[111, 114]⟩ : ByteArray) = false := rfl
theorem q_23_18 : eqS (⟨#[98, 111, 111, 108]⟩ : ByteArray) (⟨#[120, 111, 114]⟩ : ByteArray) = false := rfl
theorem q_23_19 : eqS (⟨#[98, 111, 111, 108]⟩ : ByteArray) (⟨#[110, 111, 116]⟩ : ByteArray) = false := rfl
theorem q_23_20 : eqS (⟨#[98, 111, 111, 108]⟩ : ByteArray) (⟨#[115, 101, 108, 101, 99, 116]⟩ : ByteArray) = false := rfl
theorem q_23_21 : eqS (⟨#[98, 111, 111, 108]⟩ : ByteArray) (⟨#[116, 111, 105, 110, 116]⟩ : ByteArray) = false := rfl
theorem q_23_22 : eqS (⟨#[98, 111, 111, 108]⟩ : ByteArray) (⟨#[105, 110, 116]⟩ : ByteArray) = false := rfl
theorem q_23_23 : eqS (⟨#[98, 111, 111, 108]⟩ : ByteArray) (⟨#[98, 111, 111, 108]⟩ : ByteArray) = true := rfl
theorem q_23_24 : eqS (⟨#[98, 111, 111, 108]⟩ : ByteArray) (⟨#[65]⟩ : ByteArray) = false := rfl
theorem q_23_25 : eqS (⟨#[98, 111, 111, 108]⟩ : ByteArray) (⟨#[]⟩ : ByteArray) = false := rfl
theorem q_24_0 : eqS (⟨#[65]⟩ : ByteArray) (⟨#[97, 100, 100]⟩ : ByteArray) = false := rfl
theorem q_24_1 : eqS (⟨#[65]⟩ : ByteArray) (⟨#[115, 117, 98]⟩ : ByteArray) = false := rfl
theorem q_24_2 : eqS (⟨#[65]⟩ : ByteArray) (⟨#[109, 117, 108]⟩ : ByteArray) = false := rfl
theorem q_24_3 : eqS (⟨#[65]⟩ : ByteArray) (⟨#[100, 105, 118]⟩ : ByteArray) = false := rfl
theorem q_24_4 : eqS (⟨#[65]⟩ : ByteArray) (⟨#[109, 111, 100]⟩ : ByteArray) = false := rfl
theorem q_24_5 : eqS (⟨#[65]⟩ : ByteArray) (⟨#[109, 105, 110]⟩ : ByteArray) = false := rfl
theorem q_24_6 : eqS (⟨#[65]⟩ : ByteArray) (⟨#[109, 97, 120]⟩ : ByteArray) = false := rfl
theorem q_24_7 : eqS (⟨#[65]⟩ : ByteArray) (⟨#[110, 101, 103]⟩ : ByteArray) = false := rfl
theorem q_24_8 : eqS (⟨#[65]⟩ : ByteArray) (⟨#[97, 98, 115]⟩ : ByteArray) = false := rfl
theorem q_24_9 : eqS (⟨#[65]⟩ : ByteArray) (⟨#[115, 105, 103, 110]⟩ : ByteArray) = false := rfl
theorem q_24_10 : eqS (⟨#[65]⟩ : ByteArray) (⟨#[108, 116]⟩ : ByteArray) = false := rfl
theorem q_24_11 : eqS (⟨#[65]⟩ : ByteArray) (⟨#[108, 101]⟩ : ByteArray) = false := rfl
theorem q_24_12 : eqS (⟨#[65]⟩ : ByteArray) (⟨#[103, 116]⟩ : ByteArray) = false := rfl
theorem q_24_13 : eqS (⟨#[65]⟩ : ByteArray) (⟨#[103, 101]⟩ : ByteArray) = false := rfl
theorem q_24_14 : eqS (⟨#[65]⟩ : ByteArray) (⟨#[101, 113]⟩ : ByteArray) = false := rfl
theorem q_24_15 : eqS (⟨#[65]⟩ : ByteArray) (⟨#[110, 101]⟩ : ByteArray) = false := rfl
theorem q_24_16 : eqS (⟨#[65]⟩ : ByteArray) (⟨#[97, 110, 100]⟩ : ByteArray) = false := rfl
theorem q_24_17 : eqS (⟨#[65]⟩ : ByteArray) (⟨#[111, 114]⟩ : ByteArray) = false := rfl
theorem q_24_18 : eqS (⟨#[65]⟩ : ByteArray) (⟨#[120, 111, 114]⟩ : ByteArray) = false := rfl
theorem q_24_19 : eqS (⟨#[65]⟩ : ByteArray) (⟨#[110, 111, 116]⟩ : ByteArray) = false := rfl
theorem q_24_20 : eqS (⟨#[65]⟩ : ByteArray) (⟨#[115, 101, 108, 101, 99, 116]⟩ : ByteArray) = false := rfl
theorem q_24_21 : eqS (⟨#[65]⟩ : ByteArray) (⟨#[116, 111, 105, 110, 116]⟩ : ByteArray) = false := rfl
theorem q_24_22 : eqS (⟨#[65]⟩ : ByteArray) (⟨#[105, 110, 116]⟩ : ByteArray) = false := rfl
theorem q_24_23 : eqS (⟨#[65]⟩ : ByteArray) (⟨#[98, 111, 111, 108]⟩ : ByteArray) = false := rfl
theorem q_24_24 : eqS (⟨#[65]⟩ : ByteArray) (⟨#[65]⟩ : ByteArray) = true := rfl
theorem q_24_25 : eqS (⟨#[65]⟩ : ByteArray) (⟨#[]⟩ : ByteArray) = false := rfl
theorem q_25_0 : eqS (⟨#[]⟩ : ByteArray) (⟨#[97, 100, 100]⟩ : ByteArray) = false := rfl
theorem q_25_1 : eqS (⟨#[]⟩ : ByteArray) (⟨#[115, 117, 98]⟩ : ByteArray) = false := rfl
theorem q_25_2 : eqS (⟨#[]⟩ : ByteArray) (⟨#[109, 117, 108]⟩ : ByteArray) = false := rfl
theorem q_25_3 : eqS (⟨#[]⟩ : ByteArray) (⟨#[100, 105, 118]⟩ : ByteArray) = false := rfl
theorem q_25_4 : eqS (⟨#[]⟩ : ByteArray) (⟨#[109, 111, 100]⟩ : ByteArray) = false := rfl
theorem q_25_5 : eqS (⟨#[]⟩ : ByteArray) (⟨#[109, 105, 110]⟩ : ByteArray) = false := rfl
theorem q_25_6 : eqS (⟨#[]⟩ : ByteArray) (⟨#[109, 97, 120]⟩ : ByteArray) = false := rfl
theorem q_25_7 : eqS (⟨#[]⟩ : ByteArray) (⟨#[110, 101, 103]⟩ : ByteArray) = false := rfl
theorem q_25_8 : eqS (⟨#[]⟩ : ByteArray) (⟨#[97, 98, 115]⟩ : ByteArray) = false := rfl
theorem q_25_9 : eqS (⟨#[]⟩ : ByteArray) (⟨#[115, 105, 103, 110]⟩ : ByteArray) = false := rfl
theorem q_25_10 : eqS (⟨#[]⟩ : ByteArray) (⟨#[108, 116]⟩ : ByteArray) = false := rfl
theorem q_25_11 : eqS (⟨#[]⟩ : ByteArray) (⟨#[108, 101]⟩ : ByteArray) = false := rfl
theorem q_25_12 : eqS (⟨#[]⟩ : ByteArray) (⟨#[103, 116]⟩ : ByteArray) = false := rfl
theorem q_25_13 : eqS (⟨#[]⟩ : ByteArray) (⟨#[103, 101]⟩ : ByteArray) = false := rfl
theorem q_25_14 : eqS (⟨#[]⟩ : ByteArray) (⟨#[101, 113]⟩ : ByteArray) = false := rfl
theorem q_25_15 : eqS (⟨#[]⟩ : ByteArray) (⟨#[110, 101]⟩ : ByteArray) = false := rfl
theorem q_25_16 : eqS (⟨#[]⟩ : ByteArray) (⟨#[97, 110, 100]⟩ : ByteArray) = false := rfl
theorem q_25_17 : eqS (⟨#[]⟩ : ByteArray) (⟨#[111, 114]⟩ : ByteArray) = false := rfl
theorem q_25_18 : eqS (⟨#[]⟩ : ByteArray) (⟨#[120, 111, 114]⟩ : ByteArray) = false := rfl
theorem q_25_19 : eqS (⟨#[]⟩ : ByteArray) (⟨#[110, 111, 116]⟩ : ByteArray) = false := rfl
theorem q_25_20 : eqS (⟨#[]⟩ : ByteArray) (⟨#[115, 101, 108, 101, 99, 116]⟩ : ByteArray) = false := rfl
theorem q_25_21 : eqS (⟨#[]⟩ : ByteArray) (⟨#[116, 111, 105, 110, 116]⟩ : ByteArray) = false := rfl
theorem q_25_22 : eqS (⟨#[]⟩ : ByteArray) (⟨#[105, 110, 116]⟩ : ByteArray) = false := rfl
theorem q_25_23 : eqS (⟨#[]⟩ : ByteArray) (⟨#[98, 111, 111, 108]⟩ : ByteArray) = false := rfl
theorem q_25_24 : eqS (⟨#[]⟩ : ByteArray) (⟨#[65]⟩ : ByteArray) = false := rfl
theorem q_25_25 : eqS (⟨#[]⟩ : ByteArray) (⟨#[]⟩ : ByteArray) = true := rfl
attribute [go_sem] q_0_0 q_0_1 q_0_2 q_0_3 q_0_4 q_0_5 q_0_6 q_0_7 q_0_8 q_0_9 q_0_10 q_0_11 q_0_12 q_0_13 q_0_14 q_0_15 q_0_16 q_0_17 q_0_18 q_0_19 q_0_20 q_0_21 q_0_22 q_0_23 q_0_24 q_0_25 q_1_0 q_1_1 q_1_2 q_1_3 q_1_4 q_1_5 q_1_6 q_1_7 q_1_8 q_1_9 q_1_10 q_1_11 q_1_12 q_1_13 q_1_14 q_1_15 q_1_16 q_1_17 q_1_18 q_1_19 q_1_20 q_1_21 q_1_22 q_1_23 q_1_24 q_1_25 q_2_0 q_2_1 q_2_2 q_2_3 q_2_4 q_2_5 q_2_6 q_2_7 q_2_8 q_2_9 q_2_10 q_2_11 q_2_12 q_2_13 q_2_14 q_2_15 q_2_16 q_2_17 q_2_18 q_2_19 q_2_20 q_2_21 q_2_22 q_2_23 q_2_24 q_2_25 q_3_0 q_3_1 q_3_2 q_3_3 q_3_4 q_3_5 q_3_6 q_3_7 q_3_8 q_3_9 q_3_10 q_3_11 q_3_12 q_3_13 q_3_14 q_3_15 q_3_16 q_3_17 q_3_18 q_3_19 q_3_20 q_3_21 q_3_22 q_3_23 q_3_24 q_3_25 q_4_0 q_4_1 q_4_2 q_4_3 q_4_4 q_4_5 q_4_6 q_4_7 q_4_8 q_4_9 q_4_10 q_4_11 q_4_12 q_4_13 q_4_14 q_4_15 q_4_16 q_4_17 q_4_18 q_4_19 q_4_20 q_4_21 q_4_22 q_4_23 q_4_24 q_4_25 q_5_0 q_5_1 q_5_2 q_5_3 q_5_4 q_5_5 q_5_6 q_5_7 q_5_8 q_5_9 q_5_10 q_5_11 q_5_12 q_5_13 q_5_14 q_5_15 q_5_16 q_5_17 q_5_18 q_5_19 q_5_20 q_5_21 q_5_22 q_5_23 q_5_24 q_5_25 q_6_0 q_6_1 q_6_2 q_6_3 q_6_4 q_6_5 q_6_6 q_6_7 q_6_8 q_6_9 q_6_10 q_6_11 q_6_12 q_6_13 q_6_14 q_6_15 q_6_16 q_6_17 q_6_18 q_6_19 q_6_20 q_6_21 q_6_22 q_6_23 q_6_24 q_6_25 q_7_0 q_7_1 q_7_2 q_7_3 q_7_4 q_7_5 q_7_6 q_7_7 q_7_8 q_7_9 q_7_10 q_7_11 q_7_12 q_7_13 q_7_14 q_7_15 q_7_16 q_7_17 q_7_18 q_7_19 q_7_20 q_7_21 q_7_22 q_7_23 q_7_24 q_7_25 q_8_0 q_8_1 q_8_2 q_8_3 q_8_4 q_8_5 q_8_6 q_8_7 q_8_8 q_8_9 q_8_10 q_8_11 q_8_12 q_8_13 q_8_14 q_8_15 q_8_16 q_8_17 q_8_18 q_8_19 q_8_20 q_8_21 q_8_22 q_8_23 q_8_24 q_8_25 q_9_0 q_9_1 q_9_2 q_9_3 q_9_4 q_9_5 q_9_6 q_9_7 q_9_8 q_9_9 q_9_10 q_9_11 q_9_12 q_9_13 q_9_14 q_9_15 q_9_16 q_9_17 q_9_18 q_9_19 q_9_20 q_9_21 q_9_22 q_9_23 q_9_24 q_9_25 q_10_0 q_10_1 q_10_2 q_10_3 q_10_4 q_10_5 q_10_6 q_10_7 q_10_8 q_10_9 q_10_10 q_10_11 q_10_12 q_10_13 q_10_14 q_10_15 q_10_16 q_10_17 q_10_18 q_10_19 q_10_20 q_10_21 q_10_22 q_10_23 q_10_24 q_10_25 q_11_0 q_11_1 q_11_2 q_11_3 q_11_4 q_11_5 q_11_6 q_11_7 q_11_8 q_11_9 q_11_10 q_11_11 q_11_12 q_11_13 q_11_14 q_11_15 q_11_16 q_11_17 q_11_18 q_11_19 q_11_20 q_11_21 q_11_22 q_11_23 q_11_24 q_11_25 q_12_0 q_12_1 q_12_2 q_12_3 q_12_4 q_12_5 q_12_6 q_12_7 q_12_8 q_12_9 q_12_10 q_12_11 q_12_12 q_12_13 q_12_14 q_12_15 q_12_16 q_12_17 q_12_18 q_12_19 q_12_20 q_12_21 q_12_22 q_12_23 q_12_24 q_12_25 q_13_0 q_13_1 q_13_2 q_13_3 q_13_4 q_13_5 q_13_6 q_13_7 q_13_8 q_13_9 q_13_10 q_13_11 q_13_12 q_13_13 q_13_14 q_13_15 q_13_16 q_13_17 q_13_18 q_13_19 q_13_20 q_13_21 q_13_22 q_13_23 q_13_24 q_13_25 q_14_0 q_14_1 q_14_2 q_14_3 q_14_4 q_14_5 q_14_6 q_14_7 q_14_8 q_14_9 q_14_10 q_14_11 q_14_12 q_14_13 q_14_14 q_14_15 q_14_16 q_14_17 q_14_18 q_14_19 q_14_20 q_14_21 q_14_22 q_14_23 q_14_24 q_14_25 q_15_0 q_15_1 q_15_2 q_15_3 q_15_4 q_15_5 q_15_6 q_15_7 q_15_8 q_15_9 q_15_10 q_15_11 q_15_12 q_15_13 q_15_14 q_15_15 q_15_16 q_15_17 q_15_18 q_15_19 q_15_20 q_15_21 q_15_22 q_15_23 q_15_24 q_15_25 q_16_0 q_16_1 q_16_2 q_16_3 q_16_4 q_16_5 q_16_6 q_16_7 q_16_8 q_16_9 q_16_10 q_16_11 q_16_12 q_16_13 q_16_14 q_16_15 q_16_16 q_16_17 q_16_18 q_16_19 q_16_20 q_16_21 q_16_22 q_16_23 q_16_24 q_16_25 q_17_0 q_17_1 q_17_2 q_17_3 q_17_4 q_17_5 q_17_6 q_17_7 q_17_8 q_17_9 q_17_10 q_17_11 q_17_12 q_17_13 q_17_14 q_17_15 q_17_16 q_17_17 q_17_18 q_17_19 q_17_20 q_17_21 q_17_22 q_17_23 q_17_24 q_17_25 q_18_0 q_18_1 q_18_2 q_18_3 q_18_4 q_18_5 q_18_6 q_18_7 q_18_8 q_18_9 q_18_10 q_18_11 q_18_12 q_18_13 q_18_14 q_18_15 q_18_16 q_18_17 q_18_18 q_18_19 q_18_20 q_18_21 q_18_22 q_18_23 q_18_24 q_18_25 q_19_0 q_19_1 q_19_2 q_19_3 q_19_4 q_19_5 q_19_6 q_19_7 q_19_8 q_19_9 q_19_10 q_19_11 q_19_12 q_19_13 q_19_14 q_19_15 q_19_16 q_19_17 q_19_18 q_19_19 q_19_20 q_19_21 q_19_22 q_19_23 q_19_24 q_19_25 q_20_0 q_20_1 q_20_2 q_20_3 q_20_4 q_20_5 q_20_6 q_20_7 q_20_8 q_20_9 q_20_10 q_20_11 q_20_12 q_20_13 q_20_14 q_20_15 q_20_16 q_20_17 q_20_18 q_20_19 q_20_20 q_20_21 q_20_22 q_20_23 q_20_24 q_20_25 q_21_0 q_21_1 q_21_2 q_21_3 q_21_4 q_21_5 q_21_6 q_21_7 q_21_8 q_21_9 q_21_10 q_21_11 q_21_12 q_21_13 q_21_14 q_21_15 q_21_16 q_21_17 q_21_18 q_21_19 q_21_20 q_21_21 q_21_22 q_21_23 q_21_24 q_21_25 q_22_0 q_22_1 q_22_2 q_22_3 q_22_4 q_22_5 q_22_6 q_22_7 q_22_8 q_22_9 q_22_10 q_22_11 q_22_12 q_22_13 q_22_14 q_22_15 q_22_16 q_22_17 q_22_18 q_22_19 q_22_20 q_22_21 q_22_22 q_22_23 q_22_24 q_22_25 q_23_0 q_23_1 q_23_2 q_23_3 q_23_4 q_23_5 q_23_6 q_23_7 q_23_8 q_23_9 q_23_10 q_23_11 q_23_12 q_23_13 q_23_14 q_23_15 q_23_16 q_23_17 q_23_18 q_23_19 q_23_20 q_23_21 q_23_22 q_23_23 q_23_24 q_23_25 q_24_0 q_24_1 q_24_2 q_24_3 q_24_4 q_24_5 q_24_6 q_24_7 q_24_8 q_24_9 q_24_10 q_24_11 q_24_12 q_24_13 q_24_14 q_24_15 q_24_16 q_24_17 q_24_18 q_24_19 q_24_20 q_24_21 q_24_22 q_24_23 q_24_24 q_24_25 q_25_0 q_25_1 q_25_2 q_25_3 q_25_4 q_25_5 q_25_6 q_25_7 q_25_8 q_25_9 q_25_10 q_25_11 q_25_12 q_25_13 q_25_14 q_25_15 q_25_16 q_25_17 q_25_18 q_25_19 q_25_20 q_25_21 q_25_22 q_25_23 q_25_24 q_25_25
structure Rw where
  op : ByteArray
  ps : List ByteArray
  rs : ByteArray
instance : Inhabited Rw := ⟨⟨⟨#[]⟩, [], ⟨#[]⟩⟩⟩
def rowsL : List Rw := [⟨(⟨#[97, 100, 100]⟩ : ByteArray), [(⟨#[105, 110, 116]⟩ : ByteArray), (⟨#[105, 110, 116]⟩ : ByteArray)], (⟨#[105, 110, 116]⟩ : ByteArray)⟩, ⟨(⟨#[115, 117, 98]⟩ : ByteArray), [(⟨#[105, 110, 116]⟩ : ByteArray), (⟨#[105, 110, 116]⟩ : ByteArray)], (⟨#[105, 110, 116]⟩ : ByteArray)⟩, ⟨(⟨#[109, 117, 108]⟩ : ByteArray), [(⟨#[105, 110, 116]⟩ : ByteArray), (⟨#[105, 110, 116]⟩ : ByteArray)], (⟨#[105, 110, 116]⟩ : ByteArray)⟩, ⟨(⟨#[100, 105, 118]⟩ : ByteArray), [(⟨#[105, 110, 116]⟩ : ByteArray), (⟨#[105, 110, 116]⟩ : ByteArray)], (⟨#[105, 110, 116]⟩ : ByteArray)⟩, ⟨(⟨#[109, 111, 100]⟩ : ByteArray), [(⟨#[105, 110, 116]⟩ : ByteArray), (⟨#[105, 110, 116]⟩ : ByteArray)], (⟨#[105, 110, 116]⟩ : ByteArray)⟩, ⟨(⟨#[109, 105, 110]⟩ : ByteArray), [(⟨#[105, 110, 116]⟩ : ByteArray), (⟨#[105, 110, 116]⟩ : ByteArray)], (⟨#[105, 110, 116]⟩ : ByteArray)⟩, ⟨(⟨#[109, 97, 120]⟩ : ByteArray), [(⟨#[105, 110, 116]⟩ : ByteArray), (⟨#[105, 110, 116]⟩ : ByteArray)], (⟨#[105, 110, 116]⟩ : ByteArray)⟩, ⟨(⟨#[110, 101, 103]⟩ : ByteArray), [(⟨#[105, 110, 116]⟩ : ByteArray)], (⟨#[105, 110, 116]⟩ : ByteArray)⟩, ⟨(⟨#[97, 98, 115]⟩ : ByteArray), [(⟨#[105, 110, 116]⟩ : ByteArray)], (⟨#[105, 110, 116]⟩ : ByteArray)⟩, ⟨(⟨#[115, 105, 103, 110]⟩ : ByteArray), [(⟨#[105, 110, 116]⟩ : ByteArray)], (⟨#[105, 110, 116]⟩ : ByteArray)⟩, ⟨(⟨#[108, 116]⟩ : ByteArray), [(⟨#[105, 110, 116]⟩ : ByteArray), (⟨#[105, 110, 116]⟩ : ByteArray)], (⟨#[98, 111, 111, 108]⟩ : ByteArray)⟩, ⟨(⟨#[108, 101]⟩ : ByteArray), [(⟨#[105, 110, 116]⟩ : ByteArray), (⟨#[105, 110, 116]⟩ : ByteArray)], (⟨#[98, 111, 111, 108]⟩ : ByteArray)⟩, ⟨(⟨#[103, 116]⟩ : ByteArray), [(⟨#[105, 110, 116]⟩ : ByteArray), (⟨#[105, 110, 116]⟩ : ByteArray)], (⟨#[98, 111, 111, 108]⟩ : ByteArray)⟩, ⟨(⟨#[103, 101]⟩ : ByteArray), [(⟨#[105, 110, 116]⟩ : ByteArray), (⟨#[105, 110, 116]⟩ : ByteArray)], (⟨#[98, 111, 111, 108]⟩ : ByteArray)⟩, ⟨(⟨#[101, 113]⟩ : ByteArray), [(⟨#[65]⟩ : ByteArray), (⟨#[65]⟩ : ByteArray)], (⟨#[98, 111, 111, 108]⟩ : ByteArray)⟩, ⟨(⟨#[110, 101]⟩ : ByteArray), [(⟨#[65]⟩ : ByteArray), (⟨#[65]⟩ : ByteArray)], (⟨#[98, 111, 111, 108]⟩ : ByteArray)⟩, ⟨(⟨#[97, 110, 100]⟩ : ByteArray), [(⟨#[98, 111, 111, 108]⟩ : ByteArray), (⟨#[98, 111, 111, 108]⟩ : ByteArray)], (⟨#[98, 111, 111, 108]⟩ : ByteArray)⟩, ⟨(⟨#[111, 114]⟩ : ByteArray), [(⟨#[98, 111, 111, 108]⟩ : ByteArray), (⟨#[98, 111, 111, 108]⟩ : ByteArray)], (⟨#[98, 111, 111, 108]⟩ : ByteArray)⟩, ⟨(⟨#[120, 111, 114]⟩ : ByteArray), [(⟨#[98, 111, 111, 108]⟩ : ByteArray), (⟨#[98, 111, 111, 108]⟩ : ByteArray)], (⟨#[98, 111, 111, 108]⟩ : ByteArray)⟩, ⟨(⟨#[110, 111, 116]⟩ : ByteArray), [(⟨#[98, 111, 111, 108]⟩ : ByteArray)], (⟨#[98, 111, 111, 108]⟩ : ByteArray)⟩, ⟨(⟨#[115, 101, 108, 101, 99, 116]⟩ : ByteArray), [(⟨#[98, 111, 111, 108]⟩ : ByteArray), (⟨#[65]⟩ : ByteArray), (⟨#[65]⟩ : ByteArray)], (⟨#[65]⟩ : ByteArray)⟩, ⟨(⟨#[116, 111, 105, 110, 116]⟩ : ByteArray), [(⟨#[98, 111, 111, 108]⟩ : ByteArray)], (⟨#[105, 110, 116]⟩ : ByteArray)⟩]
def rowC (r : Rw) : List AV := [.lit (.string r.op), .sl true 1 (strs r.ps), .lit (.string r.rs)]
def rowCells : List AV := rowsL.flatMap rowC
theorem rowCells_len : rowCells.length = 66 := rfl
set_option maxHeartbeats 4000000 in
theorem rows_pc : PC Tryd.prog 39 [] (.agg rowCells) := by
  refine pcO E0_ok (fun _ => [0, 1, 2, 3, 4]) Tryd.func39 (h := fun KF => ?_)
  unfold E0
  repeat' (first
   | (with_reducible first | refine t_seq fun K => ?_ | refine nx ?_ | refine t_br (fun hc => ?_) fun hc => ?_) | exact kpd
   | ((with_reducible first | refine ny ?_ | refine t_kLF ?_ ?_ | refine t_region fun K => ?_ | refine t_cond fun A B => ?_ | refine t_dw (h := fun K => ?_)); simp only [go_sem, geff])
   | simp only [thenQ, blockQ, scopeQ, Nat.reduceEqDiff, reduceIte] | (with_reducible first | refine And.intro ?_ ?_ | intro vr))
  all_goals try exact om
  refine end_ret rfl ?_
  simp only [fin, go_sem]
  exact LeA.refl _
end Go.Proofs.YtohiagaclfaolaaDoor.El
