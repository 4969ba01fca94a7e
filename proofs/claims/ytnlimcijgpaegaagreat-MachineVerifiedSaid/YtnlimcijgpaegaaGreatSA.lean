import Derived.Test.YtnlimcijgpaegaaGreatRows
import Derived.Test.YtnlimcijgpaegaaGreatFwB

set_option linter.all false

namespace Go.Proofs.YtnlimcijgpaegaaGreat
open Go Go.Fw
theorem sz2:szT Tryz.prog 2=1:=by kernel_rfl
theorem u3:Tryz.prog.underlying 3=some (.int .i64):=by kernel_rfl
theorem sz3:szT Tryz.prog 3=1:=by kernel_rfl
noncomputable abbrev PG:=Tryz.prog
theorem g3:byT PG 3=8∧aggT PG 3=some false∧(zeroT PG 3).isSome=true∧zOk PG 3=true:=by and_intros<;>kernel_rfl
theorem g4:PG.underlying 4=some .bool∧szT PG 4=1∧aggT PG 4=some false:=by and_intros<;>kernel_rfl
theorem u5:Tryz.prog.underlying 5=some (.int .u8):=by kernel_rfl
theorem u9:Tryz.prog.underlying 9=some .string:=by kernel_rfl
theorem g9:szT PG 9=1∧byT PG 9=16∧aggT PG 9=some false∧(zeroT PG 9).isSome=true:=by and_intros<;>kernel_rfl
theorem g21:PG.underlying 21=some (.int .i32):=by kernel_rfl
theorem u22:Tryz.prog.underlying 22=some (.slice 56):=by kernel_rfl
theorem g22:szT PG 22=1∧aggT PG 22=some false:=by and_intros<;>kernel_rfl
theorem u23:Tryz.prog.underlying 23=some (.slice 73):=by kernel_rfl
theorem g23:szT PG 23=1∧aggT PG 23=some false∧(zeroT PG 23).isSome=true∧appT PG #[23,23]=some 73:=by and_intros<;>kernel_rfl
theorem u24:Tryz.prog.underlying 24=some (.slice 45):=by kernel_rfl
theorem g24:szT PG 24=1∧aggT PG 24=some false∧appT PG #[24,24]=some 45:=by and_intros<;>kernel_rfl
theorem g26:szT PG 26=6∧structOk PG 26=true∧fieldT PG 26 0=some (3,0)∧fieldT PG 26 1=some (3,1)∧fieldT PG 26 2=some (22,2)∧fieldT PG 26 3=some (23,3)∧fieldT PG 26 4=some (23,4)∧fieldT PG 26 5=some (24,5)∧(zeroT PG 26).isSome=true:=by and_intros<;>kernel_rfl
theorem ag26:aggT Tryz.prog 26=some true:=by kernel_rfl
theorem g29:PG.underlying 29=some (.int .i64)∧szT PG 29=1∧aggT PG 29=some false:=by and_intros<;>kernel_rfl
theorem g33:szT PG 33=4∧aggT PG 33=some true∧structOk PG 33=true∧fieldT PG 33 0=some (3,0)∧fieldT PG 33 1=some (3,1)∧fieldT PG 33 2=some (3,2)∧fieldT PG 33 3=some (3,3)∧seqK PG 33=some [0,0,0,0]∧(zeroT PG 33).isSome=true:=by and_intros<;>kernel_rfl
theorem u34:Tryz.prog.underlying 34=some (.slice 3):=by kernel_rfl
theorem g34:szT PG 34=1∧aggT PG 34=some false∧appT PG #[34,34]=some 3:=by and_intros<;>kernel_rfl
theorem g36:szT PG 36=6∧aggT PG 36=some true∧structOk PG 36=true∧fieldT PG 36 0=some (24,0)∧fieldT PG 36 1=some (33,1)∧fieldT PG 36 2=some (34,5)∧(zeroT PG 36).isSome=true:=by and_intros<;>kernel_rfl
theorem sz45:szT Tryz.prog 45=3:=by kernel_rfl
theorem g45:byT PG 45=64∧structOk PG 45=true∧fieldT PG 45 0=some (9,0)∧fieldT PG 45 1=some (34,1)∧fieldT PG 45 2=some (34,2)∧(zeroT PG 45).isSome=true∧(PG.underlying 45).isSome=true:=by and_intros<;>kernel_rfl
theorem ag45:aggT Tryz.prog 45=some true:=by kernel_rfl
theorem g51:PG.underlying 51=some (.slice 53)∧szT PG 51=1∧aggT PG 51=some false:=by and_intros<;>kernel_rfl
theorem g53:PG.underlying 53=some (.slice 89)∧szT PG 53=1∧byT PG 53=24∧aggT PG 53=some false∧zOk PG 53=true∧appT PG #[53,53]=some 89:=by and_intros<;>kernel_rfl
theorem sz56:szT Tryz.prog 56=6:=by kernel_rfl
theorem ag56:aggT Tryz.prog 56=some true:=by kernel_rfl
theorem g56:structOk PG 56=true∧fieldT PG 56 0=some (3,0)∧fieldT PG 56 1=some (9,1)∧fieldT PG 56 2=some (3,2)∧fieldT PG 56 3=some (3,3)∧fieldT PG 56 4=some (3,4)∧fieldT PG 56 5=some (3,5)∧(zeroT PG 56).isSome=true∧(PG.underlying 56).isSome=true:=by and_intros<;>kernel_rfl
theorem g57:aggT PG 57=some false:=by kernel_rfl
theorem g62:structOk PG 62=true∧fieldT PG 62 0=some (26,0)∧fieldT PG 62 1=some (34,6)∧fieldT PG 62 2=some (34,7)∧fieldT PG 62 3=some (34,8)∧fieldT PG 62 4=some (33,9)∧fieldT PG 62 5=some (34,13)∧fieldT PG 62 6=some (3,14)∧fieldT PG 62 7=some (3,15)∧fieldT PG 62 8=some (29,16)∧(zeroT PG 62).isSome=true:=by and_intros<;>kernel_rfl
theorem sz73:szT Tryz.prog 73=2:=by kernel_rfl
theorem g73:byT PG 73=16∧structOk PG 73=true∧fieldT PG 73 0=some (3,0)∧fieldT PG 73 1=some (3,1)∧(zeroT PG 73).isSome=true∧(PG.underlying 73).isSome=true:=by and_intros<;>kernel_rfl
theorem ag73:aggT Tryz.prog 73=some true:=by kernel_rfl
theorem g84:szT PG 84=1∧aggT PG 84=some false:=by and_intros<;>kernel_rfl
theorem g86:structOk PG 86=true∧fieldT PG 86 0=some (26,0)∧fieldT PG 86 1=some (34,6)∧fieldT PG 86 2=some (51,7)∧fieldT PG 86 3=some (84,8)∧(zeroT PG 86).isSome=true:=by and_intros<;>kernel_rfl
theorem g89:szT PG 89=2∧byT PG 89=16∧aggT PG 89=some true∧structOk PG 89=true∧fieldT PG 89 0=some (3,0)∧fieldT PG 89 1=some (3,1)∧seqK PG 89=some [0,0]∧(zeroT PG 89).isSome=true∧zOk PG 89=true∧(PG.underlying 89).isSome=true:=by and_intros<;>kernel_rfl
theorem g99:PG.underlying 99=some (.int .u64):=by kernel_rfl
theorem g106:szT PG 106=4∧aggT PG 106=some true∧structOk PG 106=true∧fieldT PG 106 0=some (9,0)∧fieldT PG 106 1=some (34,1)∧fieldT PG 106 2=some (4,2)∧fieldT PG 106 3=some (34,3)∧(zeroT PG 106).isSome=true:=by and_intros<;>kernel_rfl
theorem g109:PG.underlying 109=some (.array 4 3)∧szT PG 109=4∧aggT PG 109=some true∧structOk PG 109=false∧(zeroT PG 109).isSome=true:=by and_intros<;>kernel_rfl
theorem g112:PG.underlying 112=some (.slice 23):=by kernel_rfl
theorem g122:PG.underlying 122=some (.slice 9)∧szT PG 122=1∧aggT PG 122=some false∧appT PG #[122,122]=some 9:=by and_intros<;>kernel_rfl
theorem g127:PG.underlying 127=some (.array 16 79)∧szT PG 127=16∧aggT PG 127=some true∧structOk PG 127=false∧(zeroT PG 127).isSome=true:=by and_intros<;>kernel_rfl
theorem g151:PG.underlying 151=some (.array 16 106)∧szT PG 151=64∧aggT PG 151=some true∧structOk PG 151=false∧(zeroT PG 151).isSome=true:=by and_intros<;>kernel_rfl
theorem g164:szT PG 164=3∧aggT PG 164=some true∧structOk PG 164=true∧fieldT PG 164 0=some (9,0)∧fieldT PG 164 1=some (122,1)∧fieldT PG 164 2=some (9,2)∧(zeroT PG 164).isSome=true:=by and_intros<;>kernel_rfl
theorem g165:PG.underlying 165=some (.array 22 164)∧szT PG 165=66∧structOk PG 165=false∧(zeroT PG 165).isSome=true:=by and_intros<;>kernel_rfl
def zerL:List (Nat×AV):=[(3,.lit (.int .i64 0)),(4,.lit (.bool false)),(9,.lit (.string ByteArray.empty)),(23,.sl true 2 []),(26,.agg [.lit (.int .i64 0),.lit (.int .i64 0),.sl true 6 [],.sl true 2 [],.sl true 2 [],.sl true 3 []]),(33,.agg [.lit (.int .i64 0),.lit (.int .i64 0),.lit (.int .i64 0),.lit (.int .i64 0)]),(36,.agg [.sl true 3 [],.lit (.int .i64 0),.lit (.int .i64 0),.lit (.int .i64 0),.lit (.int .i64 0),.sl true 1 []]),(45,.agg [.lit (.string ByteArray.empty),.sl true 1 [],.sl true 1 []]),(53,.sl true 2 []),(56,.agg [.lit (.int .i64 0),.lit (.string ByteArray.empty),.lit (.int .i64 0),.lit (.int .i64 0),.lit (.int .i64 0),.lit (.int .i64 0)]),(62,.agg [.lit (.int .i64 0),.lit (.int .i64 0),.sl true 6 [],.sl true 2 [],.sl true 2 [],.sl true 3 [],.sl true 1 [],.sl true 1 [],.sl true 1 [],.lit (.int .i64 0),.lit (.int .i64 0),.lit (.int .i64 0),.lit (.int .i64 0),.sl true 1 [],.lit (.int .i64 0),.lit (.int .i64 0),.lit (.int .i64 0)]),(73,.agg [.lit (.int .i64 0),.lit (.int .i64 0)]),(86,.agg [.lit (.int .i64 0),.lit (.int .i64 0),.sl true 6 [],.sl true 2 [],.sl true 2 [],.sl true 3 [],.sl true 1 [],.sl true 1 [],.lit (.map none)]),(89,.agg [.lit (.int .i64 0),.lit (.int .i64 0)]),(106,.agg [.lit (.string ByteArray.empty),.sl true 1 [],.lit (.bool false),.sl true 1 []]),(109,.agg [.lit (.int .i64 0),.lit (.int .i64 0),.lit (.int .i64 0),.lit (.int .i64 0)]),(127,.agg [.lit .nilFunc,.lit .nilFunc,.lit .nilFunc,.lit .nilFunc,.lit .nilFunc,.lit .nilFunc,.lit .nilFunc,.lit .nilFunc,.lit .nilFunc,.lit .nilFunc,.lit .nilFunc,.lit .nilFunc,.lit .nilFunc,.lit .nilFunc,.lit .nilFunc,.lit .nilFunc]),(151,.agg [.lit (.string ByteArray.empty),.sl true 1 [],.lit (.bool false),.sl true 1 [],.lit (.string ByteArray.empty),.sl true 1 [],.lit (.bool false),.sl true 1 [],.lit (.string ByteArray.empty),.sl true 1 [],.lit (.bool false),.sl true 1 [],.lit (.string ByteArray.empty),.sl true 1 [],.lit (.bool false),.sl true 1 [],.lit (.string ByteArray.empty),.sl true 1 [],.lit (.bool false),.sl true 1 [],.lit (.string ByteArray.empty),.sl true 1 [],.lit (.bool false),.sl true 1 [],.lit (.string ByteArray.empty),.sl true 1 [],.lit (.bool false),.sl true 1 [],.lit (.string ByteArray.empty),.sl true 1 [],.lit (.bool false),.sl true 1 [],.lit (.string ByteArray.empty),.sl true 1 [],.lit (.bool false),.sl true 1 [],.lit (.string ByteArray.empty),.sl true 1 [],.lit (.bool false),.sl true 1 [],.lit (.string ByteArray.empty),.sl true 1 [],.lit (.bool false),.sl true 1 [],.lit (.string ByteArray.empty),.sl true 1 [],.lit (.bool false),.sl true 1 [],.lit (.string ByteArray.empty),.sl true 1 [],.lit (.bool false),.sl true 1 [],.lit (.string ByteArray.empty),.sl true 1 [],.lit (.bool false),.sl true 1 [],.lit (.string ByteArray.empty),.sl true 1 [],.lit (.bool false),.sl true 1 [],.lit (.string ByteArray.empty),.sl true 1 [],.lit (.bool false),.sl true 1 []]),(164,.agg [.lit (.string ByteArray.empty),.sl true 1 [],.lit (.string ByteArray.empty)]),(165,.agg [.lit (.string ByteArray.empty),.sl true 1 [],.lit (.string ByteArray.empty),.lit (.string ByteArray.empty),.sl true 1 [],.lit (.string ByteArray.empty),.lit (.string ByteArray.empty),.sl true 1 [],.lit (.string ByteArray.empty),.lit (.string ByteArray.empty),.sl true 1 [],.lit (.string ByteArray.empty),.lit (.string ByteArray.empty),.sl true 1 [],.lit (.string ByteArray.empty),.lit (.string ByteArray.empty),.sl true 1 [],.lit (.string ByteArray.empty),.lit (.string ByteArray.empty),.sl true 1 [],.lit (.string ByteArray.empty),.lit (.string ByteArray.empty),.sl true 1 [],.lit (.string ByteArray.empty),.lit (.string ByteArray.empty),.sl true 1 [],.lit (.string ByteArray.empty),.lit (.string ByteArray.empty),.sl true 1 [],.lit (.string ByteArray.empty),.lit (.string ByteArray.empty),.sl true 1 [],.lit (.string ByteArray.empty),.lit (.string ByteArray.empty),.sl true 1 [],.lit (.string ByteArray.empty),.lit (.string ByteArray.empty),.sl true 1 [],.lit (.string ByteArray.empty),.lit (.string ByteArray.empty),.sl true 1 [],.lit (.string ByteArray.empty),.lit (.string ByteArray.empty),.sl true 1 [],.lit (.string ByteArray.empty),.lit (.string ByteArray.empty),.sl true 1 [],.lit (.string ByteArray.empty),.lit (.string ByteArray.empty),.sl true 1 [],.lit (.string ByteArray.empty),.lit (.string ByteArray.empty),.sl true 1 [],.lit (.string ByteArray.empty),.lit (.string ByteArray.empty),.sl true 1 [],.lit (.string ByteArray.empty),.lit (.string ByteArray.empty),.sl true 1 [],.lit (.string ByteArray.empty),.lit (.string ByteArray.empty),.sl true 1 [],.lit (.string ByteArray.empty),.lit (.string ByteArray.empty),.sl true 1 [],.lit (.string ByteArray.empty)])]
def zer (t:TypeId):AV:=lookZ zerL t
theorem zr3:ZerOk Tryz.prog (3,.lit (.int .i64 0)):=fun v h=>by
  rw [show zeroT Tryz.prog 3=some (.int .i64 0) from by kernel_rfl] at h;cases h;exact .lit _
theorem zv3:zer 3= .lit (.int .i64 0):=rfl
theorem zr4:ZerOk Tryz.prog (4,.lit (.bool false)):=fun v h=>by
  rw [show zeroT Tryz.prog 4=some (.bool false) from by kernel_rfl] at h;cases h;exact .lit _
theorem zv4:zer 4= .lit (.bool false):=rfl
theorem zr9:ZerOk Tryz.prog (9,.lit (.string ByteArray.empty)):=fun v h=>by
  rw [show zeroT Tryz.prog 9=some (.string ByteArray.empty) from by kernel_rfl] at h;cases h;exact .lit _
theorem zv9:zer 9= .lit (.string ByteArray.empty):=rfl
theorem zr23:ZerOk Tryz.prog (23,.sl true 2 []):=fun v h=>by
  rw [show zeroT Tryz.prog 23=some (.slice none 0 0) from by kernel_rfl] at h;cases h;exact .nil _ _ _
theorem zv23:zer 23= .sl true 2 []:=rfl
theorem zr26:ZerOk Tryz.prog (26,.agg [.lit (.int .i64 0),.lit (.int .i64 0),.sl true 6 [],.sl true 2 [],.sl true 2 [],.sl true 3 []]):=fun v h=>by
  rw [show zeroT Tryz.prog 26=some (.agg #[(.int .i64 0),(.int .i64 0),(.slice none 0 0),(.slice none 0 0),(.slice none 0 0),(.slice none 0 0)]) from by kernel_rfl] at h;cases h
  exact zr_agg _ _ (zl_cons (.lit _) rfl (zl_cons (.lit _) rfl (zl_cons (.nil _ _ _) rfl (zl_cons (.nil _ _ _) rfl (zl_cons (.nil _ _ _) rfl (zl_cons (.nil _ _ _) rfl (zl_nil)))))))
theorem zv26:zer 26= .agg [.lit (.int .i64 0),.lit (.int .i64 0),.sl true 6 [],.sl true 2 [],.sl true 2 [],.sl true 3 []]:=rfl
theorem zr33:ZerOk Tryz.prog (33,.agg [.lit (.int .i64 0),.lit (.int .i64 0),.lit (.int .i64 0),.lit (.int .i64 0)]):=fun v h=>by
  rw [show zeroT Tryz.prog 33=some (.agg #[(.int .i64 0),(.int .i64 0),(.int .i64 0),(.int .i64 0)]) from by kernel_rfl] at h;cases h
  exact zr_agg _ _ (zl_cons (.lit _) rfl (zl_cons (.lit _) rfl (zl_cons (.lit _) rfl (zl_cons (.lit _) rfl (zl_nil)))))
theorem zv33:zer 33= .agg [.lit (.int .i64 0),.lit (.int .i64 0),.lit (.int .i64 0),.lit (.int .i64 0)]:=rfl
theorem zr36:ZerOk Tryz.prog (36,.agg [.sl true 3 [],.lit (.int .i64 0),.lit (.int .i64 0),.lit (.int .i64 0),.lit (.int .i64 0),.sl true 1 []]):=fun v h=>by
  rw [show zeroT Tryz.prog 36=some (.agg #[(.slice none 0 0),(.int .i64 0),(.int .i64 0),(.int .i64 0),(.int .i64 0),(.slice none 0 0)]) from by kernel_rfl] at h;cases h
  exact zr_agg _ _ (zl_cons (.nil _ _ _) rfl (zl_cons (.lit _) rfl (zl_cons (.lit _) rfl (zl_cons (.lit _) rfl (zl_cons (.lit _) rfl (zl_cons (.nil _ _ _) rfl (zl_nil)))))))
theorem zv36:zer 36= .agg [.sl true 3 [],.lit (.int .i64 0),.lit (.int .i64 0),.lit (.int .i64 0),.lit (.int .i64 0),.sl true 1 []]:=rfl
theorem zr45:ZerOk Tryz.prog (45,.agg [.lit (.string ByteArray.empty),.sl true 1 [],.sl true 1 []]):=fun v h=>by
  rw [show zeroT Tryz.prog 45=some (.agg #[(.string ByteArray.empty),(.slice none 0 0),(.slice none 0 0)]) from by kernel_rfl] at h;cases h
  exact zr_agg _ _ (zl_cons (.lit _) rfl (zl_cons (.nil _ _ _) rfl (zl_cons (.nil _ _ _) rfl (zl_nil))))
theorem zv45:zer 45= .agg [.lit (.string ByteArray.empty),.sl true 1 [],.sl true 1 []]:=rfl
theorem zr53:ZerOk Tryz.prog (53,.sl true 2 []):=fun v h=>by
  rw [show zeroT Tryz.prog 53=some (.slice none 0 0) from by kernel_rfl] at h;cases h;exact .nil _ _ _
theorem zv53:zer 53= .sl true 2 []:=rfl
theorem zr56:ZerOk Tryz.prog (56,.agg [.lit (.int .i64 0),.lit (.string ByteArray.empty),.lit (.int .i64 0),.lit (.int .i64 0),.lit (.int .i64 0),.lit (.int .i64 0)]):=fun v h=>by
  rw [show zeroT Tryz.prog 56=some (.agg #[(.int .i64 0),(.string ByteArray.empty),(.int .i64 0),(.int .i64 0),(.int .i64 0),(.int .i64 0)]) from by kernel_rfl] at h;cases h
  exact zr_agg _ _ (zl_cons (.lit _) rfl (zl_cons (.lit _) rfl (zl_cons (.lit _) rfl (zl_cons (.lit _) rfl (zl_cons (.lit _) rfl (zl_cons (.lit _) rfl (zl_nil)))))))
theorem zv56:zer 56= .agg [.lit (.int .i64 0),.lit (.string ByteArray.empty),.lit (.int .i64 0),.lit (.int .i64 0),.lit (.int .i64 0),.lit (.int .i64 0)]:=rfl
theorem zr62:ZerOk Tryz.prog (62,.agg [.lit (.int .i64 0),.lit (.int .i64 0),.sl true 6 [],.sl true 2 [],.sl true 2 [],.sl true 3 [],.sl true 1 [],.sl true 1 [],.sl true 1 [],.lit (.int .i64 0),.lit (.int .i64 0),.lit (.int .i64 0),.lit (.int .i64 0),.sl true 1 [],.lit (.int .i64 0),.lit (.int .i64 0),.lit (.int .i64 0)]):=fun v h=>by
  rw [show zeroT Tryz.prog 62=some (.agg #[(.int .i64 0),(.int .i64 0),(.slice none 0 0),(.slice none 0 0),(.slice none 0 0),(.slice none 0 0),(.slice none 0 0),(.slice none 0 0),(.slice none 0 0),(.int .i64 0),(.int .i64 0),(.int .i64 0),(.int .i64 0),(.slice none 0 0),(.int .i64 0),(.int .i64 0),(.int .i64 0)]) from by kernel_rfl] at h;cases h
  exact zr_agg _ _ (zl_cons (.lit _) rfl (zl_cons (.lit _) rfl (zl_cons (.nil _ _ _) rfl (zl_cons (.nil _ _ _) rfl (zl_cons (.nil _ _ _) rfl (zl_cons (.nil _ _ _) rfl (zl_cons (.nil _ _ _) rfl (zl_cons (.nil _ _ _) rfl (zl_cons (.nil _ _ _) rfl (zl_cons (.lit _) rfl (zl_cons (.lit _) rfl (zl_cons (.lit _) rfl (zl_cons (.lit _) rfl (zl_cons (.nil _ _ _) rfl (zl_cons (.lit _) rfl (zl_cons (.lit _) rfl (zl_cons (.lit _) rfl (zl_nil))))))))))))))))))
theorem zv62:zer 62= .agg [.lit (.int .i64 0),.lit (.int .i64 0),.sl true 6 [],.sl true 2 [],.sl true 2 [],.sl true 3 [],.sl true 1 [],.sl true 1 [],.sl true 1 [],.lit (.int .i64 0),.lit (.int .i64 0),.lit (.int .i64 0),.lit (.int .i64 0),.sl true 1 [],.lit (.int .i64 0),.lit (.int .i64 0),.lit (.int .i64 0)]:=rfl
theorem zr73:ZerOk Tryz.prog (73,.agg [.lit (.int .i64 0),.lit (.int .i64 0)]):=fun v h=>by
  rw [show zeroT Tryz.prog 73=some (.agg #[(.int .i64 0),(.int .i64 0)]) from by kernel_rfl] at h;cases h
  exact zr_agg _ _ (zl_cons (.lit _) rfl (zl_cons (.lit _) rfl (zl_nil)))
theorem zv73:zer 73= .agg [.lit (.int .i64 0),.lit (.int .i64 0)]:=rfl
theorem zr86:ZerOk Tryz.prog (86,.agg [.lit (.int .i64 0),.lit (.int .i64 0),.sl true 6 [],.sl true 2 [],.sl true 2 [],.sl true 3 [],.sl true 1 [],.sl true 1 [],.lit (.map none)]):=fun v h=>by
  rw [show zeroT Tryz.prog 86=some (.agg #[(.int .i64 0),(.int .i64 0),(.slice none 0 0),(.slice none 0 0),(.slice none 0 0),(.slice none 0 0),(.slice none 0 0),(.slice none 0 0),(.map none)]) from by kernel_rfl] at h;cases h
  exact zr_agg _ _ (zl_cons (.lit _) rfl (zl_cons (.lit _) rfl (zl_cons (.nil _ _ _) rfl (zl_cons (.nil _ _ _) rfl (zl_cons (.nil _ _ _) rfl (zl_cons (.nil _ _ _) rfl (zl_cons (.nil _ _ _) rfl (zl_cons (.nil _ _ _) rfl (zl_cons (.lit _) rfl (zl_nil))))))))))
theorem zv86:zer 86= .agg [.lit (.int .i64 0),.lit (.int .i64 0),.sl true 6 [],.sl true 2 [],.sl true 2 [],.sl true 3 [],.sl true 1 [],.sl true 1 [],.lit (.map none)]:=rfl
theorem zr89:ZerOk Tryz.prog (89,.agg [.lit (.int .i64 0),.lit (.int .i64 0)]):=fun v h=>by
  rw [show zeroT Tryz.prog 89=some (.agg #[(.int .i64 0),(.int .i64 0)]) from by kernel_rfl] at h;cases h
  exact zr_agg _ _ (zl_cons (.lit _) rfl (zl_cons (.lit _) rfl (zl_nil)))
theorem zv89:zer 89= .agg [.lit (.int .i64 0),.lit (.int .i64 0)]:=rfl
theorem zr106:ZerOk Tryz.prog (106,.agg [.lit (.string ByteArray.empty),.sl true 1 [],.lit (.bool false),.sl true 1 []]):=fun v h=>by
  rw [show zeroT Tryz.prog 106=some (.agg #[(.string ByteArray.empty),(.slice none 0 0),(.bool false),(.slice none 0 0)]) from by kernel_rfl] at h;cases h
  exact zr_agg _ _ (zl_cons (.lit _) rfl (zl_cons (.nil _ _ _) rfl (zl_cons (.lit _) rfl (zl_cons (.nil _ _ _) rfl (zl_nil)))))
theorem zv106:zer 106= .agg [.lit (.string ByteArray.empty),.sl true 1 [],.lit (.bool false),.sl true 1 []]:=rfl
theorem zr109:ZerOk Tryz.prog (109,.agg [.lit (.int .i64 0),.lit (.int .i64 0),.lit (.int .i64 0),.lit (.int .i64 0)]):=fun v h=>by
  rw [show zeroT Tryz.prog 109=some (.agg #[(.int .i64 0),(.int .i64 0),(.int .i64 0),(.int .i64 0)]) from by kernel_rfl] at h;cases h
  exact zr_agg _ _ (zl_cons (.lit _) rfl (zl_cons (.lit _) rfl (zl_cons (.lit _) rfl (zl_cons (.lit _) rfl (zl_nil)))))
theorem zv109:zer 109= .agg [.lit (.int .i64 0),.lit (.int .i64 0),.lit (.int .i64 0),.lit (.int .i64 0)]:=rfl
theorem zr127:ZerOk Tryz.prog (127,.agg [.lit .nilFunc,.lit .nilFunc,.lit .nilFunc,.lit .nilFunc,.lit .nilFunc,.lit .nilFunc,.lit .nilFunc,.lit .nilFunc,.lit .nilFunc,.lit .nilFunc,.lit .nilFunc,.lit .nilFunc,.lit .nilFunc,.lit .nilFunc,.lit .nilFunc,.lit .nilFunc]):=fun v h=>by
  rw [show zeroT Tryz.prog 127=some (.agg #[.nilFunc,.nilFunc,.nilFunc,.nilFunc,.nilFunc,.nilFunc,.nilFunc,.nilFunc,.nilFunc,.nilFunc,.nilFunc,.nilFunc,.nilFunc,.nilFunc,.nilFunc,.nilFunc]) from by kernel_rfl] at h;cases h
  exact zr_agg _ _ (zl_cons (.lit _) rfl (zl_cons (.lit _) rfl (zl_cons (.lit _) rfl (zl_cons (.lit _) rfl (zl_cons (.lit _) rfl (zl_cons (.lit _) rfl (zl_cons (.lit _) rfl (zl_cons (.lit _) rfl (zl_cons (.lit _) rfl (zl_cons (.lit _) rfl (zl_cons (.lit _) rfl (zl_cons (.lit _) rfl (zl_cons (.lit _) rfl (zl_cons (.lit _) rfl (zl_cons (.lit _) rfl (zl_cons (.lit _) rfl (zl_nil)))))))))))))))))
theorem zv127:zer 127= .agg [.lit .nilFunc,.lit .nilFunc,.lit .nilFunc,.lit .nilFunc,.lit .nilFunc,.lit .nilFunc,.lit .nilFunc,.lit .nilFunc,.lit .nilFunc,.lit .nilFunc,.lit .nilFunc,.lit .nilFunc,.lit .nilFunc,.lit .nilFunc,.lit .nilFunc,.lit .nilFunc]:=rfl
theorem zr151:ZerOk Tryz.prog (151,.agg [.lit (.string ByteArray.empty),.sl true 1 [],.lit (.bool false),.sl true 1 [],.lit (.string ByteArray.empty),.sl true 1 [],.lit (.bool false),.sl true 1 [],.lit (.string ByteArray.empty),.sl true 1 [],.lit (.bool false),.sl true 1 [],.lit (.string ByteArray.empty),.sl true 1 [],.lit (.bool false),.sl true 1 [],.lit (.string ByteArray.empty),.sl true 1 [],.lit (.bool false),.sl true 1 [],.lit (.string ByteArray.empty),.sl true 1 [],.lit (.bool false),.sl true 1 [],.lit (.string ByteArray.empty),.sl true 1 [],.lit (.bool false),.sl true 1 [],.lit (.string ByteArray.empty),.sl true 1 [],.lit (.bool false),.sl true 1 [],.lit (.string ByteArray.empty),.sl true 1 [],.lit (.bool false),.sl true 1 [],.lit (.string ByteArray.empty),.sl true 1 [],.lit (.bool false),.sl true 1 [],.lit (.string ByteArray.empty),.sl true 1 [],.lit (.bool false),.sl true 1 [],.lit (.string ByteArray.empty),.sl true 1 [],.lit (.bool false),.sl true 1 [],.lit (.string ByteArray.empty),.sl true 1 [],.lit (.bool false),.sl true 1 [],.lit (.string ByteArray.empty),.sl true 1 [],.lit (.bool false),.sl true 1 [],.lit (.string ByteArray.empty),.sl true 1 [],.lit (.bool false),.sl true 1 [],.lit (.string ByteArray.empty),.sl true 1 [],.lit (.bool false),.sl true 1 []]):=fun v h=>by
  rw [show zeroT Tryz.prog 151=some (.agg #[(.string ByteArray.empty),(.slice none 0 0),(.bool false),(.slice none 0 0),(.string ByteArray.empty),(.slice none 0 0),(.bool false),(.slice none 0 0),(.string ByteArray.empty),(.slice none 0 0),(.bool false),(.slice none 0 0),(.string ByteArray.empty),(.slice none 0 0),(.bool false),(.slice none 0 0),(.string ByteArray.empty),(.slice none 0 0),(.bool false),(.slice none 0 0),(.string ByteArray.empty),(.slice none 0 0),(.bool false),(.slice none 0 0),(.string ByteArray.empty),(.slice none 0 0),(.bool false),(.slice none 0 0),(.string ByteArray.empty),(.slice none 0 0),(.bool false),(.slice none 0 0),(.string ByteArray.empty),(.slice none 0 0),(.bool false),(.slice none 0 0),(.string ByteArray.empty),(.slice none 0 0),(.bool false),(.slice none 0 0),(.string ByteArray.empty),(.slice none 0 0),(.bool false),(.slice none 0 0),(.string ByteArray.empty),(.slice none 0 0),(.bool false),(.slice none 0 0),(.string ByteArray.empty),(.slice none 0 0),(.bool false),(.slice none 0 0),(.string ByteArray.empty),(.slice none 0 0),(.bool false),(.slice none 0 0),(.string ByteArray.empty),(.slice none 0 0),(.bool false),(.slice none 0 0),(.string ByteArray.empty),(.slice none 0 0),(.bool false),(.slice none 0 0)]) from by kernel_rfl] at h;cases h
  exact zr_agg _ _ (zl_cons (.lit _) rfl (zl_cons (.nil _ _ _) rfl (zl_cons (.lit _) rfl (zl_cons (.nil _ _ _) rfl (zl_cons (.lit _) rfl (zl_cons (.nil _ _ _) rfl (zl_cons (.lit _) rfl (zl_cons (.nil _ _ _) rfl (zl_cons (.lit _) rfl (zl_cons (.nil _ _ _) rfl (zl_cons (.lit _) rfl (zl_cons (.nil _ _ _) rfl (zl_cons (.lit _) rfl (zl_cons (.nil _ _ _) rfl (zl_cons (.lit _) rfl (zl_cons (.nil _ _ _) rfl (zl_cons (.lit _) rfl (zl_cons (.nil _ _ _) rfl (zl_cons (.lit _) rfl (zl_cons (.nil _ _ _) rfl (zl_cons (.lit _) rfl (zl_cons (.nil _ _ _) rfl (zl_cons (.lit _) rfl (zl_cons (.nil _ _ _) rfl (zl_cons (.lit _) rfl (zl_cons (.nil _ _ _) rfl (zl_cons (.lit _) rfl (zl_cons (.nil _ _ _) rfl (zl_cons (.lit _) rfl (zl_cons (.nil _ _ _) rfl (zl_cons (.lit _) rfl (zl_cons (.nil _ _ _) rfl (zl_cons (.lit _) rfl (zl_cons (.nil _ _ _) rfl (zl_cons (.lit _) rfl (zl_cons (.nil _ _ _) rfl (zl_cons (.lit _) rfl (zl_cons (.nil _ _ _) rfl (zl_cons (.lit _) rfl (zl_cons (.nil _ _ _) rfl (zl_cons (.lit _) rfl (zl_cons (.nil _ _ _) rfl (zl_cons (.lit _) rfl (zl_cons (.nil _ _ _) rfl (zl_cons (.lit _) rfl (zl_cons (.nil _ _ _) rfl (zl_cons (.lit _) rfl (zl_cons (.nil _ _ _) rfl (zl_cons (.lit _) rfl (zl_cons (.nil _ _ _) rfl (zl_cons (.lit _) rfl (zl_cons (.nil _ _ _) rfl (zl_cons (.lit _) rfl (zl_cons (.nil _ _ _) rfl (zl_cons (.lit _) rfl (zl_cons (.nil _ _ _) rfl (zl_cons (.lit _) rfl (zl_cons (.nil _ _ _) rfl (zl_cons (.lit _) rfl (zl_cons (.nil _ _ _) rfl (zl_cons (.lit _) rfl (zl_cons (.nil _ _ _) rfl (zl_cons (.lit _) rfl (zl_cons (.nil _ _ _) rfl (zl_nil)))))))))))))))))))))))))))))))))))))))))))))))))))))))))))))))))
theorem zv151:zer 151= .agg [.lit (.string ByteArray.empty),.sl true 1 [],.lit (.bool false),.sl true 1 [],.lit (.string ByteArray.empty),.sl true 1 [],.lit (.bool false),.sl true 1 [],.lit (.string ByteArray.empty),.sl true 1 [],.lit (.bool false),.sl true 1 [],.lit (.string ByteArray.empty),.sl true 1 [],.lit (.bool false),.sl true 1 [],.lit (.string ByteArray.empty),.sl true 1 [],.lit (.bool false),.sl true 1 [],.lit (.string ByteArray.empty),.sl true 1 [],.lit (.bool false),.sl true 1 [],.lit (.string ByteArray.empty),.sl true 1 [],.lit (.bool false),.sl true 1 [],.lit (.string ByteArray.empty),.sl true 1 [],.lit (.bool false),.sl true 1 [],.lit (.string ByteArray.empty),.sl true 1 [],.lit (.bool false),.sl true 1 [],.lit (.string ByteArray.empty),.sl true 1 [],.lit (.bool false),.sl true 1 [],.lit (.string ByteArray.empty),.sl true 1 [],.lit (.bool false),.sl true 1 [],.lit (.string ByteArray.empty),.sl true 1 [],.lit (.bool false),.sl true 1 [],.lit (.string ByteArray.empty),.sl true 1 [],.lit (.bool false),.sl true 1 [],.lit (.string ByteArray.empty),.sl true 1 [],.lit (.bool false),.sl true 1 [],.lit (.string ByteArray.empty),.sl true 1 [],.lit (.bool false),.sl true 1 [],.lit (.string ByteArray.empty),.sl true 1 [],.lit (.bool false),.sl true 1 []]:=rfl
theorem zr164:ZerOk Tryz.prog (164,.agg [.lit (.string ByteArray.empty),.sl true 1 [],.lit (.string ByteArray.empty)]):=fun v h=>by
  rw [show zeroT Tryz.prog 164=some (.agg #[(.string ByteArray.empty),(.slice none 0 0),(.string ByteArray.empty)]) from by kernel_rfl] at h;cases h
  exact zr_agg _ _ (zl_cons (.lit _) rfl (zl_cons (.nil _ _ _) rfl (zl_cons (.lit _) rfl (zl_nil))))
theorem zv164:zer 164= .agg [.lit (.string ByteArray.empty),.sl true 1 [],.lit (.string ByteArray.empty)]:=rfl
theorem zr165:ZerOk Tryz.prog (165,.agg [.lit (.string ByteArray.empty),.sl true 1 [],.lit (.string ByteArray.empty),.lit (.string ByteArray.empty),.sl true 1 [],.lit (.string ByteArray.empty),.lit (.string ByteArray.empty),.sl true 1 [],.lit (.string ByteArray.empty),.lit (.string ByteArray.empty),.sl true 1 [],.lit (.string ByteArray.empty),.lit (.string ByteArray.empty),.sl true 1 [],.lit (.string ByteArray.empty),.lit (.string ByteArray.empty),.sl true 1 [],.lit (.string ByteArray.empty),.lit (.string ByteArray.empty),.sl true 1 [],.lit (.string ByteArray.empty),.lit (.string ByteArray.empty),.sl true 1 [],.lit (.string ByteArray.empty),.lit (.string ByteArray.empty),.sl true 1 [],.lit (.string ByteArray.empty),.lit (.string ByteArray.empty),.sl true 1 [],.lit (.string ByteArray.empty),.lit (.string ByteArray.empty),.sl true 1 [],.lit (.string ByteArray.empty),.lit (.string ByteArray.empty),.sl true 1 [],.lit (.string ByteArray.empty),.lit (.string ByteArray.empty),.sl true 1 [],.lit (.string ByteArray.empty),.lit (.string ByteArray.empty),.sl true 1 [],.lit (.string ByteArray.empty),.lit (.string ByteArray.empty),.sl true 1 [],.lit (.string ByteArray.empty),.lit (.string ByteArray.empty),.sl true 1 [],.lit (.string ByteArray.empty),.lit (.string ByteArray.empty),.sl true 1 [],.lit (.string ByteArray.empty),.lit (.string ByteArray.empty),.sl true 1 [],.lit (.string ByteArray.empty),.lit (.string ByteArray.empty),.sl true 1 [],.lit (.string ByteArray.empty),.lit (.string ByteArray.empty),.sl true 1 [],.lit (.string ByteArray.empty),.lit (.string ByteArray.empty),.sl true 1 [],.lit (.string ByteArray.empty),.lit (.string ByteArray.empty),.sl true 1 [],.lit (.string ByteArray.empty)]):=fun v h=>by
  rw [show zeroT Tryz.prog 165=some (.agg #[(.string ByteArray.empty),(.slice none 0 0),(.string ByteArray.empty),(.string ByteArray.empty),(.slice none 0 0),(.string ByteArray.empty),(.string ByteArray.empty),(.slice none 0 0),(.string ByteArray.empty),(.string ByteArray.empty),(.slice none 0 0),(.string ByteArray.empty),(.string ByteArray.empty),(.slice none 0 0),(.string ByteArray.empty),(.string ByteArray.empty),(.slice none 0 0),(.string ByteArray.empty),(.string ByteArray.empty),(.slice none 0 0),(.string ByteArray.empty),(.string ByteArray.empty),(.slice none 0 0),(.string ByteArray.empty),(.string ByteArray.empty),(.slice none 0 0),(.string ByteArray.empty),(.string ByteArray.empty),(.slice none 0 0),(.string ByteArray.empty),(.string ByteArray.empty),(.slice none 0 0),(.string ByteArray.empty),(.string ByteArray.empty),(.slice none 0 0),(.string ByteArray.empty),(.string ByteArray.empty),(.slice none 0 0),(.string ByteArray.empty),(.string ByteArray.empty),(.slice none 0 0),(.string ByteArray.empty),(.string ByteArray.empty),(.slice none 0 0),(.string ByteArray.empty),(.string ByteArray.empty),(.slice none 0 0),(.string ByteArray.empty),(.string ByteArray.empty),(.slice none 0 0),(.string ByteArray.empty),(.string ByteArray.empty),(.slice none 0 0),(.string ByteArray.empty),(.string ByteArray.empty),(.slice none 0 0),(.string ByteArray.empty),(.string ByteArray.empty),(.slice none 0 0),(.string ByteArray.empty),(.string ByteArray.empty),(.slice none 0 0),(.string ByteArray.empty),(.string ByteArray.empty),(.slice none 0 0),(.string ByteArray.empty)]) from by kernel_rfl] at h;cases h
  exact zr_agg _ _ (zl_cons (.lit _) rfl (zl_cons (.nil _ _ _) rfl (zl_cons (.lit _) rfl (zl_cons (.lit _) rfl (zl_cons (.nil _ _ _) rfl (zl_cons (.lit _) rfl (zl_cons (.lit _) rfl (zl_cons (.nil _ _ _) rfl (zl_cons (.lit _) rfl (zl_cons (.lit _) rfl (zl_cons (.nil _ _ _) rfl (zl_cons (.lit _) rfl (zl_cons (.lit _) rfl (zl_cons (.nil _ _ _) rfl (zl_cons (.lit _) rfl (zl_cons (.lit _) rfl (zl_cons (.nil _ _ _) rfl (zl_cons (.lit _) rfl (zl_cons (.lit _) rfl (zl_cons (.nil _ _ _) rfl (zl_cons (.lit _) rfl (zl_cons (.lit _) rfl (zl_cons (.nil _ _ _) rfl (zl_cons (.lit _) rfl (zl_cons (.lit _) rfl (zl_cons (.nil _ _ _) rfl (zl_cons (.lit _) rfl (zl_cons (.lit _) rfl (zl_cons (.nil _ _ _) rfl (zl_cons (.lit _) rfl (zl_cons (.lit _) rfl (zl_cons (.nil _ _ _) rfl (zl_cons (.lit _) rfl (zl_cons (.lit _) rfl (zl_cons (.nil _ _ _) rfl (zl_cons (.lit _) rfl (zl_cons (.lit _) rfl (zl_cons (.nil _ _ _) rfl (zl_cons (.lit _) rfl (zl_cons (.lit _) rfl (zl_cons (.nil _ _ _) rfl (zl_cons (.lit _) rfl (zl_cons (.lit _) rfl (zl_cons (.nil _ _ _) rfl (zl_cons (.lit _) rfl (zl_cons (.lit _) rfl (zl_cons (.nil _ _ _) rfl (zl_cons (.lit _) rfl (zl_cons (.lit _) rfl (zl_cons (.nil _ _ _) rfl (zl_cons (.lit _) rfl (zl_cons (.lit _) rfl (zl_cons (.nil _ _ _) rfl (zl_cons (.lit _) rfl (zl_cons (.lit _) rfl (zl_cons (.nil _ _ _) rfl (zl_cons (.lit _) rfl (zl_cons (.lit _) rfl (zl_cons (.nil _ _ _) rfl (zl_cons (.lit _) rfl (zl_cons (.lit _) rfl (zl_cons (.nil _ _ _) rfl (zl_cons (.lit _) rfl (zl_cons (.lit _) rfl (zl_cons (.nil _ _ _) rfl (zl_cons (.lit _) rfl (zl_nil)))))))))))))))))))))))))))))))))))))))))))))))))))))))))))))))))))
theorem zv165:zer 165= .agg [.lit (.string ByteArray.empty),.sl true 1 [],.lit (.string ByteArray.empty),.lit (.string ByteArray.empty),.sl true 1 [],.lit (.string ByteArray.empty),.lit (.string ByteArray.empty),.sl true 1 [],.lit (.string ByteArray.empty),.lit (.string ByteArray.empty),.sl true 1 [],.lit (.string ByteArray.empty),.lit (.string ByteArray.empty),.sl true 1 [],.lit (.string ByteArray.empty),.lit (.string ByteArray.empty),.sl true 1 [],.lit (.string ByteArray.empty),.lit (.string ByteArray.empty),.sl true 1 [],.lit (.string ByteArray.empty),.lit (.string ByteArray.empty),.sl true 1 [],.lit (.string ByteArray.empty),.lit (.string ByteArray.empty),.sl true 1 [],.lit (.string ByteArray.empty),.lit (.string ByteArray.empty),.sl true 1 [],.lit (.string ByteArray.empty),.lit (.string ByteArray.empty),.sl true 1 [],.lit (.string ByteArray.empty),.lit (.string ByteArray.empty),.sl true 1 [],.lit (.string ByteArray.empty),.lit (.string ByteArray.empty),.sl true 1 [],.lit (.string ByteArray.empty),.lit (.string ByteArray.empty),.sl true 1 [],.lit (.string ByteArray.empty),.lit (.string ByteArray.empty),.sl true 1 [],.lit (.string ByteArray.empty),.lit (.string ByteArray.empty),.sl true 1 [],.lit (.string ByteArray.empty),.lit (.string ByteArray.empty),.sl true 1 [],.lit (.string ByteArray.empty),.lit (.string ByteArray.empty),.sl true 1 [],.lit (.string ByteArray.empty),.lit (.string ByteArray.empty),.sl true 1 [],.lit (.string ByteArray.empty),.lit (.string ByteArray.empty),.sl true 1 [],.lit (.string ByteArray.empty),.lit (.string ByteArray.empty),.sl true 1 [],.lit (.string ByteArray.empty),.lit (.string ByteArray.empty),.sl true 1 [],.lit (.string ByteArray.empty)]:=rfl
theorem zer_ok:∀ t v,zeroT Tryz.prog t=some v→RC (fun _ _=>none) (zer t) v:=zer_sound zerL (zs_cons zr3 (zs_cons zr4 (zs_cons zr9 (zs_cons zr23 (zs_cons zr26 (zs_cons zr33 (zs_cons zr36 (zs_cons zr45 (zs_cons zr53 (zs_cons zr56 (zs_cons zr62 (zs_cons zr73 (zs_cons zr86 (zs_cons zr89 (zs_cons zr106 (zs_cons zr109 (zs_cons zr127 (zs_cons zr151 (zs_cons zr164 (zs_cons zr165 zs_nil))))))))))))))))))))
theorem mixed:Tryz.prog.follows .mixedOrders=true:=by kernel_rfl
theorem fk6:fok Tryz.prog 6=true:=by kernel_rfl
theorem fk7:fok Tryz.prog 7=true:=by kernel_rfl
theorem fk8:fok Tryz.prog 8=true:=by kernel_rfl
theorem fk9:fok Tryz.prog 9=true:=by kernel_rfl
theorem fk10:fok Tryz.prog 10=true:=by kernel_rfl
theorem fk13:fok Tryz.prog 13=true:=by kernel_rfl
theorem fk16:fok Tryz.prog 16=true:=by kernel_rfl
theorem fk17:fok Tryz.prog 17=true:=by kernel_rfl
theorem fk18:fok Tryz.prog 18=true:=by kernel_rfl
theorem fk19:fok Tryz.prog 19=true:=by kernel_rfl
theorem fk20:fok Tryz.prog 20=true:=by kernel_rfl
theorem fk21:fok Tryz.prog 21=true:=by kernel_rfl
theorem fk22:fok Tryz.prog 22=true:=by kernel_rfl
theorem fk23:fok Tryz.prog 23=true:=by kernel_rfl
theorem fk24:fok Tryz.prog 24=true:=by kernel_rfl
theorem fk25:fok Tryz.prog 25=true:=by kernel_rfl
theorem fk26:fok Tryz.prog 26=true:=by kernel_rfl
theorem fk30:fok Tryz.prog 30=true:=by kernel_rfl
theorem fk31:fok Tryz.prog 31=true:=by kernel_rfl
theorem fk32:fok Tryz.prog 32=true:=by kernel_rfl
theorem fk33:fok Tryz.prog 33=true:=by kernel_rfl
theorem fk34:fok Tryz.prog 34=true:=by kernel_rfl
theorem fk35:fok Tryz.prog 35=true:=by kernel_rfl
theorem fk36:fok Tryz.prog 36=true:=by kernel_rfl
theorem fk37:fok Tryz.prog 37=true:=by kernel_rfl
theorem fk38:fok Tryz.prog 38=true:=by kernel_rfl
theorem fk39:fok Tryz.prog 39=true:=by kernel_rfl
theorem fk40:fok Tryz.prog 40=true:=by kernel_rfl
theorem fk41:fok Tryz.prog 41=true:=by kernel_rfl
theorem fk42:fok Tryz.prog 42=true:=by kernel_rfl
theorem fk43:fok Tryz.prog 43=true:=by kernel_rfl
theorem fk44:fok Tryz.prog 44=true:=by kernel_rfl
theorem fk45:fok Tryz.prog 45=true:=by kernel_rfl
theorem fk46:fok Tryz.prog 46=true:=by kernel_rfl
theorem fk47:fok Tryz.prog 47=true:=by kernel_rfl
theorem fk48:fok Tryz.prog 48=true:=by kernel_rfl
theorem fk49:fok Tryz.prog 49=true:=by kernel_rfl
theorem fk50:fok Tryz.prog 50=true:=by kernel_rfl
theorem fk51:fok Tryz.prog 51=true:=by kernel_rfl
theorem fk57:fok Tryz.prog 57=true:=by kernel_rfl
theorem fk58:fok Tryz.prog 58=true:=by kernel_rfl
theorem fk59:fok Tryz.prog 59=true:=by kernel_rfl
theorem fk60:fok Tryz.prog 60=true:=by kernel_rfl
theorem fk61:fok Tryz.prog 61=true:=by kernel_rfl
theorem fk62:fok Tryz.prog 62=true:=by kernel_rfl
theorem fk63:fok Tryz.prog 63=true:=by kernel_rfl
theorem fk64:fok Tryz.prog 64=true:=by kernel_rfl
theorem fk65:fok Tryz.prog 65=true:=by kernel_rfl
theorem fk66:fok Tryz.prog 66=true:=by kernel_rfl
theorem fk67:fok Tryz.prog 67=true:=by kernel_rfl
theorem fk68:fok Tryz.prog 68=true:=by kernel_rfl
theorem fk69:fok Tryz.prog 69=true:=by kernel_rfl
theorem fk70:fok Tryz.prog 70=true:=by kernel_rfl
theorem fk71:fok Tryz.prog 71=true:=by kernel_rfl
theorem fk72:fok Tryz.prog 72=true:=by kernel_rfl
theorem fk73:fok Tryz.prog 73=true:=by kernel_rfl
theorem fk74:fok Tryz.prog 74=true:=by kernel_rfl
theorem fk75:fok Tryz.prog 75=true:=by kernel_rfl
theorem fk76:fok Tryz.prog 76=true:=by kernel_rfl
theorem fk77:fok Tryz.prog 77=true:=by kernel_rfl
theorem fk78:fok Tryz.prog 78=true:=by kernel_rfl
theorem fk79:fok Tryz.prog 79=true:=by kernel_rfl
theorem fk91:fok Tryz.prog 91=true:=by kernel_rfl
theorem fk100:fok Tryz.prog 100=true:=by kernel_rfl
theorem fk101:fok Tryz.prog 101=true:=by kernel_rfl
theorem fk102:fok Tryz.prog 102=true:=by kernel_rfl
theorem fk103:fok Tryz.prog 103=true:=by kernel_rfl
theorem fk104:fok Tryz.prog 104=true:=by kernel_rfl
theorem fk105:fok Tryz.prog 105=true:=by kernel_rfl
theorem fk106:fok Tryz.prog 106=true:=by kernel_rfl
theorem fk107:fok Tryz.prog 107=true:=by kernel_rfl
theorem fk108:fok Tryz.prog 108=true:=by kernel_rfl
theorem fk109:fok Tryz.prog 109=true:=by kernel_rfl
theorem fk110:fok Tryz.prog 110=true:=by kernel_rfl
theorem fk111:fok Tryz.prog 111=true:=by kernel_rfl
theorem fk112:fok Tryz.prog 112=true:=by kernel_rfl
theorem fk113:fok Tryz.prog 113=true:=by kernel_rfl
theorem fk114:fok Tryz.prog 114=true:=by kernel_rfl
theorem fk115:fok Tryz.prog 115=true:=by kernel_rfl
theorem fk116:fok Tryz.prog 116=true:=by kernel_rfl
theorem fk117:fok Tryz.prog 117=true:=by kernel_rfl
theorem fk118:fok Tryz.prog 118=true:=by kernel_rfl
theorem fk119:fok Tryz.prog 119=true:=by kernel_rfl
theorem fk120:fok Tryz.prog 120=true:=by kernel_rfl
theorem fk121:fok Tryz.prog 121=true:=by kernel_rfl
theorem fk122:fok Tryz.prog 122=true:=by kernel_rfl
theorem fk123:fok Tryz.prog 123=true:=by kernel_rfl
theorem fk124:fok Tryz.prog 124=true:=by kernel_rfl
theorem fk125:fok Tryz.prog 125=true:=by kernel_rfl
theorem fk126:fok Tryz.prog 126=true:=by kernel_rfl
theorem fk127:fok Tryz.prog 127=true:=by kernel_rfl
theorem fk133:fok Tryz.prog 133=true:=by kernel_rfl
theorem fk136:fok Tryz.prog 136=true:=by kernel_rfl
theorem fk140:fok Tryz.prog 140=true:=by kernel_rfl
theorem fk141:fok Tryz.prog 141=true:=by kernel_rfl
theorem fk142:fok Tryz.prog 142=true:=by kernel_rfl
theorem fk143:fok Tryz.prog 143=true:=by kernel_rfl
theorem fk144:fok Tryz.prog 144=true:=by kernel_rfl
theorem fk145:fok Tryz.prog 145=true:=by kernel_rfl
theorem fk146:fok Tryz.prog 146=true:=by kernel_rfl
theorem fk147:fok Tryz.prog 147=true:=by kernel_rfl
theorem fk148:fok Tryz.prog 148=true:=by kernel_rfl
theorem fk149:fok Tryz.prog 149=true:=by kernel_rfl
theorem fk150:fok Tryz.prog 150=true:=by kernel_rfl
theorem fk157:fok Tryz.prog 157=true:=by kernel_rfl
theorem fk158:fok Tryz.prog 158=true:=by kernel_rfl
theorem fk159:fok Tryz.prog 159=true:=by kernel_rfl
theorem fk160:fok Tryz.prog 160=true:=by kernel_rfl
theorem fk161:fok Tryz.prog 161=true:=by kernel_rfl
theorem fk162:fok Tryz.prog 162=true:=by kernel_rfl
theorem fk163:fok Tryz.prog 163=true:=by kernel_rfl
theorem fk164:fok Tryz.prog 164=true:=by kernel_rfl
theorem fk165:fok Tryz.prog 165=true:=by kernel_rfl
theorem fk166:fok Tryz.prog 166=true:=by kernel_rfl
theorem fk167:fok Tryz.prog 167=true:=by kernel_rfl
theorem fk171:fok Tryz.prog 171=true:=by kernel_rfl
theorem fk172:fok Tryz.prog 172=true:=by kernel_rfl
theorem fk173:fok Tryz.prog 173=true:=by kernel_rfl
theorem fk174:fok Tryz.prog 174=true:=by kernel_rfl
theorem fk175:fok Tryz.prog 175=true:=by kernel_rfl
theorem fk176:fok Tryz.prog 176=true:=by kernel_rfl
attribute [go_sem] sz2 u3 sz3 u5 u9 u22 u23 u24 ag26 u34 sz45 ag45 sz56 ag56 sz73 ag73 zv3 zv4 zv9 zv23 zv26 zv33 zv36 zv45 zv53 zv56 zv62 zv73 zv86 zv89 zv106 zv109 zv127 zv151 zv164 zv165 g3 g4 g9 g21 g22 g23 g24 g26 g29 g33 g34 g36 g45 g51 g53 g56 g57 g62 g73 g84 g86 g89 g99 g106 g109 g112 g122 g127 g151 g164 g165
end Go.Proofs.YtnlimcijgpaegaaGreat

namespace Go.Proofs.YtnlimcijgpaegaaGreat
def kp3 (i:Nat):List Nat:=if i<5 then if i<2 then if i<1 then [1,2] else [1,2,12] else if i<3 then [4] else if i<4 then [1,2,16] else [4] else if i<8 then if i<6 then [1,2,6] else if i<7 then [1,2,23] else [4] else if i<9 then [1,2,8] else if i<10 then [2,8,9,10] else [4]
def kp6 (i:Nat):List Nat:=if i<2 then if i<1 then [] else [1] else if i<3 then [1,2,3] else if i<4 then [2,3,4,5] else [0]
def kp7 (i:Nat):List Nat:=if i<3 then if i<1 then [1,2] else if i<2 then [1,2,5] else [1,2,5,9] else if i<5 then if i<4 then [1,2,5] else [1,2,5,17] else if i<6 then [4] else [4]
def kp8 (i:Nat):List Nat:=if i<5 then if i<2 then if i<1 then [1] else [1,8] else if i<3 then [2,3] else if i<4 then [1,10,11,12] else [1,10,11,12,13] else if i<7 then if i<6 then [1,4,5,10,11,12] else [1,4,10,11,12,30] else if i<8 then [2,3] else if i<9 then [1,10,11,12] else [2,3]
def kp9 (i:Nat):List Nat:=if i<3 then if i<1 then [1,2,4] else if i<2 then [4,6,7] else [4,6,7,15] else if i<4 then [4,5] else if i<5 then [4,6] else [4,5]
def kp10 (i:Nat):List Nat:=if i<4 then if i<2 then if i<1 then [1,2] else [2,5,6] else if i<3 then [2,5,6,13] else [2,5,6,13,14] else if i<6 then if i<5 then [4,5] else [5,6,19] else if i<7 then [4,5] else [4,5]
def kp13 (i:Nat):List Nat:=if i<2 then if i<1 then [1,2] else [6,7] else if i<3 then [6,7,15] else if i<4 then [4,5] else [4,5]
def kp16 (i:Nat):List Nat:=if i<1 then [0] else if i<2 then [0,1,2] else [0]
def kp19 (i:Nat):List Nat:=if i<3 then if i<1 then [1,2] else if i<2 then [1,2,5] else [1,2,5,10] else if i<5 then if i<4 then [1,2,5] else [1,2,5,40] else if i<6 then [4] else [4]
def kp20 (i:Nat):List Nat:=if i<7 then if i<3 then if i<1 then [1] else if i<2 then [1,39] else [2] else if i<5 then if i<4 then [1,4] else [1,53] else if i<6 then [2] else [1,59,60,61] else if i<10 then if i<8 then [1,59,60,61,62] else if i<9 then [1,5,6,59,60,61] else [1,6,7,8,59,60,61] else if i<12 then if i<11 then [1,59,60,61,96] else [2] else if i<13 then [1,59,60,61] else [2]
def kp21 (i:Nat):List Nat:=if i<6 then if i<3 then if i<1 then [1] else if i<2 then [1,10] else [2] else if i<4 then [1,3] else if i<5 then [1,5] else [1,5] else if i<9 then if i<7 then [5,35,36,37] else if i<8 then [5,35,36,37,38] else [5,6,7,35,36,37] else if i<11 then if i<10 then [5,6,35,36,37,49] else [5,35,36,37] else if i<12 then [5,35,36,37] else [2]
def kp22 (i:Nat):List Nat:=if i<6 then if i<3 then if i<1 then [1,2,3] else if i<2 then [1,3,7] else [1,3,7,12] else if i<4 then [1,3,7,12,13] else if i<5 then [6] else [1,3,7,12,21] else if i<9 then if i<7 then [6] else if i<8 then [1,3,7,12,30] else [6] else if i<10 then [1,3,7,40] else if i<11 then [6] else [6]
def kp23 (i:Nat):List Nat:=if i<8 then if i<4 then if i<2 then if i<1 then [1,2] else [1,2,25] else if i<3 then [4,5] else [1,2,6] else if i<6 then if i<5 then [1,2,8] else [2,8,42,43,44] else if i<7 then [2,8,42,43,44,45] else [2,8,9,10,42,43,44] else if i<12 then if i<10 then if i<9 then [2,8,9,10,42,43,44,49] else [4,5] else if i<11 then [2,8,9,10,42,43,44,59] else [4,5] else if i<14 then if i<13 then [2,8,9,42,43,44] else [2,8,42,43,44] else if i<15 then [2,8,42,43,44] else if i<16 then [8] else [4,5]
def kp24 (i:Nat):List Nat:=if i<1 then [0,2] else []
def kp25 (i:Nat):List Nat:=if i<8 then if i<4 then if i<2 then if i<1 then [0] else [0,3] else if i<3 then [0,3,14,15,16] else [0,3,14,15,16,17] else if i<6 then if i<5 then [0,3,4,5,14,15,16] else [0,3,5,6,14,15,16] else if i<7 then [0,3,6,7,14,15,16] else [0,3,6,7,14,15,16,56,57,58] else if i<12 then if i<10 then if i<9 then [0,3,6,7,14,15,16,56,57,58,59] else [0,3,6,7,8,9,14,15,16,56,57,58] else if i<11 then [0,3,6,7,8,14,15,16,56,57,58,69] else [0,3,6,7,14,15,16,56,57,58] else if i<14 then if i<13 then [0,3,6,7,14,15,16,56,57,58] else [0,3,14,15,16] else if i<15 then [0,3,14,15,16] else [2]
def kp26 (i:Nat):List Nat:=if i<8 then if i<4 then if i<2 then if i<1 then [0] else [0,8] else if i<3 then [2] else [0,3] else if i<6 then if i<5 then [0,3,13] else [0,3] else if i<7 then [0,3,25] else [0,3,4] else if i<12 then if i<10 then if i<9 then [0,3,4,5] else [0,3,4,5,32] else if i<11 then [0,3,4,5] else [0,3,4,5,44] else if i<14 then if i<13 then [0,3,4,5] else [0,3,4,5] else if i<15 then [0,3] else if i<16 then [2] else [2]
def kp30 (i:Nat):List Nat:=if i<3 then if i<1 then [0,1] else if i<2 then [0,1,5] else [0,1,5,9] else if i<5 then if i<4 then [0,1,5] else [0,1,5,18] else if i<6 then [4] else [4]
def kp31 (i:Nat):List Nat:=if i<13 then if i<6 then if i<3 then if i<1 then [0] else if i<2 then [0,11] else [2,3] else if i<4 then [0,4,5] else if i<5 then [0,4,5,12,13,14] else [0,4,5,12,13,14,15] else if i<9 then if i<7 then [0,4,5,6,7,12,13,14] else if i<8 then [0,4,5,6,7,12,13,14] else [0,4,5,6,7,8,12,13,14] else if i<11 then if i<10 then [0,4,5,6,7,8,12,13,14,27] else [0,4,5,6,7,8,12,13,14,27,28] else if i<12 then [0,4,5,6,7,8,12,13,14,27,28] else [0,4,5,12,13,14] else if i<20 then if i<16 then if i<14 then [0,4,5,12,13,14,37] else if i<15 then [2,3] else [0,4,5,6,7,8,12,13,14,27,38] else if i<18 then if i<17 then [0,4,5,6,7,8,12,13,14,38] else [0,4,5,6,7,8,12,13,14,58] else if i<19 then [2,3] else [0,4,5,6,7,8,12,13,14] else if i<23 then if i<21 then [0,4,5,6,7,12,13,14] else if i<22 then [0,4,5,6,12,13,14,71] else [0,4,5,12,13,14] else if i<25 then if i<24 then [0,4,5,12,13,14] else [4,79] else if i<26 then [2,3] else [2,3]
def kp32 (i:Nat):List Nat:=if i<1 then [0,1] else [4]
def kp33 (i:Nat):List Nat:=if i<1 then [1,2] else [3]
def kp34 (i:Nat):List Nat:=if i<5 then if i<2 then if i<1 then [1,2] else [1,2,5,6] else if i<3 then [1,2,5,25] else if i<4 then [4] else [1,5,27,28] else if i<8 then if i<6 then [1,5,27,28,29] else if i<7 then [1,5,7,8,27,28] else [1,5,27,28,58] else if i<9 then [4] else if i<10 then [1,5,27,28] else [4]
def kp35 (i:Nat):List Nat:=if i<8 then if i<4 then if i<2 then if i<1 then [0] else [0,3] else if i<3 then [0,3,9,10,11] else [0,3,9,10,11,12] else if i<6 then if i<5 then [0,3,5,9,10,11] else [0,3,9,10,11] else if i<7 then [0,3,9,10,11,20] else [0,3,9,10,11] else if i<12 then if i<10 then if i<9 then [0,3,9,10,11] else [0,6] else if i<11 then [6,25,26,27] else [6,25,26,27,28] else if i<14 then if i<13 then [6,8,25,26,27] else [6,25,26,27] else if i<15 then [6,25,26,27] else [2]
def kp36 (i:Nat):List Nat:=if i<1 then [1] else if i<2 then [1,4,5] else [2,3]
def kp37 (i:Nat):List Nat:=if i<8 then if i<4 then if i<2 then if i<1 then [0,1,2,3] else [0,2,3,9] else if i<3 then [0,2,3,9,16] else [0,2,3,9] else if i<6 then if i<5 then [0,2,3,9,10] else [0,2,3,9,10] else if i<7 then [0,2,3,9,10,36] else [0,2,3,9,10,11,12] else if i<12 then if i<10 then if i<9 then [0,2,3,9,10,11,42] else [0,2,3,9] else if i<11 then [0,2,3,9,10,36,49] else [0,2,3,9] else if i<14 then if i<13 then [0,2,3,9,10,58] else [0,2,3,9] else if i<15 then [0,2,3,9] else [8]
def kp38 (i:Nat):List Nat:=if i<2 then if i<1 then [1,2,4] else [2,4,5,6] else if i<3 then [4,5,7] else [4]
def kp39 (i:Nat):List Nat:=if i<1 then [2,3] else [4]
def kp40 (i:Nat):List Nat:=if i<1 then [0] else [0]
def kp41 (i:Nat):List Nat:=if i<5 then if i<2 then if i<1 then [0,1] else [1,5,7] else if i<3 then [1,5,24] else if i<4 then [4] else [5,25,26,27] else if i<8 then if i<6 then [5,25,26,27,28] else if i<7 then [5,8,9,25,26,27] else [5,25,26,27,55] else if i<9 then [4] else if i<10 then [5,25,26,27] else [4]
def kp42 (i:Nat):List Nat:=if i<4 then if i<2 then if i<1 then [1,2] else [1,2,5] else if i<3 then [1,5,9,10,11] else [1,5,9,10,11,12] else if i<6 then if i<5 then [1,5,7,9,10,11] else [1,5,9,10,11] else if i<7 then [1,5,9,10,11] else [4]
def kp43 (i:Nat):List Nat:=if i<1 then [0] else [0]
def kp44 (i:Nat):List Nat:=if i<1 then [0,1] else [4]
def kp45 (i:Nat):List Nat:=if i<1 then [1] else [2]
def kp48 (i:Nat):List Nat:=if i<3 then if i<1 then [1] else if i<2 then [1,2] else [1,2,3] else if i<4 then [1,2,3,4] else if i<5 then [1,3] else []
def kp49 (i:Nat):List Nat:=if i<15 then if i<7 then if i<3 then if i<1 then [0,1,2,3,8] else if i<2 then [0,1,2,3,8,9] else [0,1,2,3,8,9,10] else if i<5 then if i<4 then [0,1,2,3,8,9,10,23] else [] else if i<6 then [0,1,2,3,8,9,10,29] else [] else if i<11 then if i<9 then if i<8 then [0,1,2,3,8,9,10,35] else [0,1,2,3,8,9,10] else if i<10 then [0,1,2,3,8,9,10] else [0,1,2,3,8,9,10,11,12] else if i<13 then if i<12 then [0,1,2,3,8,9,10,11,12,50] else [0,1,2,3,8,9,10,11] else if i<14 then [0,1,2,3,8,9,10,11] else [0,1,2,3,8,9,10,11,12] else if i<23 then if i<19 then if i<17 then if i<16 then [0,1,2,3,8,9,10,11,68] else [0,1,2,3,8,9,10,11,72] else if i<18 then [0,1,2,3,8,9,10,11,87] else [0,2,3,8,9,13] else if i<21 then if i<20 then [0,1,2,3,8,9] else [0,1,2,3,10,14,15] else if i<22 then [0,1,2,3,9,10,14] else [0,1,2,3,9,10,14,16,17] else if i<27 then if i<25 then if i<24 then [0,1,2,3,9,14,16,17,18] else [0,1,2,3,9,14,16,17,18,113] else if i<26 then [0,1,2,3,8,9,14] else [0,2,3,8,9,14] else if i<29 then if i<28 then [0,1,2,3,8,9] else [0,1,2,3,8,9,14] else if i<30 then [0,1,3,8,9,14] else [0,1,2,3,8,9]
def kp51 (i:Nat):List Nat:=if i<2 then if i<1 then [0] else [0,4] else if i<3 then [2] else [2]
def kp57 (i:Nat):List Nat:=if i<4 then if i<2 then if i<1 then [0,1] else [0,1,7,8] else if i<3 then [0,1,7,8,9] else [0,1,5,7,8] else if i<6 then if i<5 then [0,1,5,7,8,16] else [4] else if i<7 then [0,1,7,8] else [4]
def kp58 (i:Nat):List Nat:=if i<6 then if i<3 then if i<1 then [1,2] else if i<2 then [1,2,16] else [2,3] else if i<4 then [1,2,4] else if i<5 then [1,2,4,24] else [2,3] else if i<9 then if i<7 then [2,4,5,7] else if i<8 then [2,4,7,34,35] else [2,4,7,34,35,36] else if i<11 then if i<10 then [2,4,7,8,34,35] else [2,4,7,34,35] else if i<12 then [2,4,7,34,35] else [2,3]
def kp59 (i:Nat):List Nat:=if i<1 then [1,2] else [2]
def kp60 (i:Nat):List Nat:=if i<5 then if i<2 then if i<1 then [0,1,2] else [1,2,7] else if i<3 then [1,2,7,8] else if i<4 then [6] else [1,7,17] else if i<8 then if i<6 then [6] else if i<7 then [1,7,25] else [6] else if i<9 then [1,33] else if i<10 then [6] else [6]
def kp63 (i:Nat):List Nat:=if i<2 then if i<1 then [0] else [0,4] else if i<3 then [2] else [2]
def kp64 (i:Nat):List Nat:=if i<3 then if i<1 then [0,1,2] else if i<2 then [0,1,2,8] else [0,1,2,8,9] else if i<5 then if i<4 then [0,2,8,9,10] else [0,2,8,9,10,11] else if i<6 then [10,11,12] else [6,7]
def kp65 (i:Nat):List Nat:=if i<7 then if i<3 then if i<1 then [0,1,2] else if i<2 then [0,1,2,7] else [0,1,2,7,8] else if i<5 then if i<4 then [0,1,2,7,8,38] else [2] else if i<6 then [6] else [0,1,2,7,8,9,10] else if i<11 then if i<9 then if i<8 then [0,1,2,7,8,9,61] else [0,1,2,7,8,9] else if i<10 then [0,1,7,8,9] else [0,1,7,8,9] else if i<13 then if i<12 then [0,1,7,8,9,11] else [0,1,7,8,9,11,92] else if i<14 then [6] else [0,1,7,8,9]
def kp66 (i:Nat):List Nat:=if i<2 then if i<1 then [1] else [1,19] else if i<3 then [2,3] else [2,3]
def kp67 (i:Nat):List Nat:=if i<2 then if i<1 then [0,1,5] else [1,5,7] else if i<3 then [7] else [6]
def kp68 (i:Nat):List Nat:=if i<10 then if i<5 then if i<2 then if i<1 then [1,2,4] else [1,2,4,8] else if i<3 then [1,2,4,8,9] else if i<4 then [4] else [1,2,4,8,16] else if i<7 then if i<6 then [4] else [1,2,4,8,23] else if i<8 then [4] else if i<9 then [1,2,4,8,52] else [4] else if i<15 then if i<12 then if i<11 then [1,2,4,8,81] else [2,4,5,6] else if i<13 then [2,4,5,93] else if i<14 then [4,5] else [4] else if i<17 then if i<16 then [1,2,4,8,98] else [4] else if i<18 then [4,107] else if i<19 then [4] else [4]
def kp69 (i:Nat):List Nat:=if i<1 then [0,2] else [2]
def kp71 (i:Nat):List Nat:=if i<4 then if i<2 then if i<1 then [1] else [1,3] else if i<3 then [1,3,5] else [1,5,14,15,16] else if i<6 then if i<5 then [1,5,14,15,16,17] else [1,5,7,14,15,16] else if i<7 then [1,5,14,15,16] else if i<8 then [1,5,14,15,16] else [2]
def kp72 (i:Nat):List Nat:=if i<4 then if i<2 then if i<1 then [0,1] else [0,1,7,8] else if i<3 then [0,1,7,8,9] else [0,1,5,7,8] else if i<6 then if i<5 then [0,1,5,7,8,16] else [4] else if i<7 then [0,1,7,8] else [4]
def kp74 (i:Nat):List Nat:=if i<1 then [1,2] else [2]
def kp75 (i:Nat):List Nat:=if i<4 then if i<2 then if i<1 then [0,2,3,5] else [0,2,3,5,6,7] else if i<3 then [0,2,3,5,7,8] else [0,2,3,5,7,8,35] else if i<6 then if i<5 then [0,2,3,5,7,8] else [0,2,3,5,7,8] else if i<7 then [0,2,3,5,7,8] else [0,2,3,5,7,8]
def kp76 (i:Nat):List Nat:=if i<1 then [0] else if i<2 then [0,13] else []
def kp77 (i:Nat):List Nat:=if i<9 then if i<4 then if i<2 then if i<1 then [1,2,3,4,5,8] else [1,2,3,4,5,8,22] else if i<3 then [1,2,3,4,5,8] else [1,2,3,4,5,8,9] else if i<6 then if i<5 then [1,2,3,4,5,8,9] else [1,2,3,4,5,8,9,39] else if i<7 then [1,2,3,4,5,8,9,41] else if i<8 then [1,2,3,4,5,8,48] else [1,2,3,4,5,8] else if i<14 then if i<11 then if i<10 then [1,2,3,4,5,8,9,41,52] else [1,2,3,4,5,8] else if i<12 then [1,2,3,4,5,8] else if i<13 then [1,2,3,4,5,8,9,65] else [1,2,3,4,5,8,9,10] else if i<16 then if i<15 then [1,2,3,4,5,8,9,10,11] else [1,2,3,4,5,8,10,11,89] else if i<17 then [1,2,3,4,5,11] else if i<18 then [1,2,3,4,5,11] else [1,2,3,4,5,8]
def kp78 (i:Nat):List Nat:=if i<1 then [0,1,2,10] else []
def kp79 (i:Nat):List Nat:=if i<3 then if i<1 then [0,1,2,6] else if i<2 then [0,1,2,6,12] else [0,1,2,6] else if i<5 then if i<4 then [0,1,2,6,7] else [0,1,2,6,7,30] else if i<6 then [0,1,2,6,7] else [0,1,2,6,7]
def kp100 (i:Nat):List Nat:=if i<1 then [0] else [0]
def kp102 (i:Nat):List Nat:=if i<2 then if i<1 then [0,1,2,3,4,11] else [0,1,2,3,4,11,17] else if i<3 then [] else if i<4 then [12] else [12]
def kp103 (i:Nat):List Nat:=if i<6 then if i<3 then if i<1 then [2,3] else if i<2 then [2,3,8] else [4] else if i<4 then [2,3,12] else if i<5 then [4] else [2,3,5] else if i<9 then if i<7 then [5,6] else if i<8 then [5,6,21,22] else [5,6,21,22,23] else if i<11 then if i<10 then [5,6,7,21,22] else [5,6,21,22] else if i<12 then [5,6,21,22] else [4]
def kp104 (i:Nat):List Nat:=if i<2 then if i<1 then [0,2,6] else [0,2,6,10] else if i<3 then [0,2,6] else [0,2,6]
def kp105 (i:Nat):List Nat:=if i<4 then if i<2 then if i<1 then [0,1] else [0,1,5] else if i<3 then [0,5,12,13,14] else [0,5,12,13,14,15] else if i<6 then if i<5 then [0,5,6,7,12,13,14] else [0,5,6,7,12,13,14,24] else if i<7 then [0,5,12,13,14] else if i<8 then [0,5,12,13,14] else [4]
def kp106 (i:Nat):List Nat:=if i<5 then if i<2 then if i<1 then [0,1] else [0,1,10] else if i<3 then [4] else if i<4 then [0,1,12,13] else [0,1,12,13,14] else if i<7 then if i<6 then [0,1,5,12,13] else [0,1,12,13,24] else if i<8 then [4] else if i<9 then [0,1,12,13] else [4]
def kp107 (i:Nat):List Nat:=if i<2 then if i<1 then [2,3,4] else [2,3,4,7] else if i<3 then [4] else [4]
def kp108 (i:Nat):List Nat:=if i<3 then if i<1 then [0,1,4] else if i<2 then [0,1,4,11] else [4,5] else if i<5 then if i<4 then [0,1,4,6,7] else [0,1,4,6,19] else if i<6 then [4,5] else [4,5]
def kp109 (i:Nat):List Nat:=if i<2 then if i<1 then [0,2] else [2,4] else if i<3 then [2,13] else if i<4 then [2] else [2]
def kp110 (i:Nat):List Nat:=if i<4 then if i<2 then if i<1 then [0] else [0,7] else if i<3 then [0] else [0,3] else if i<6 then if i<5 then [0,3,4] else [0,3,4,15] else if i<7 then [0,3,4] else if i<8 then [0,3,4] else [2]
def kp111 (i:Nat):List Nat:=if i<4 then if i<2 then if i<1 then [0] else [0,7] else if i<3 then [0] else [0,3] else if i<6 then if i<5 then [0,3,4] else [0,3,4,15] else if i<7 then [0,3,4] else if i<8 then [0,3,4] else [2]
def kp115 (i:Nat):List Nat:=if i<1 then [2,3] else [4]
def kp116 (i:Nat):List Nat:=if i<1 then [1] else [2]
def kp117 (i:Nat):List Nat:=if i<2 then if i<1 then [0,3] else [0,3,5] else if i<3 then [5] else [4]
def kp118 (i:Nat):List Nat:=if i<1 then [1,2] else [3]
def kp119 (i:Nat):List Nat:=if i<1 then [1,2] else [3]
def kp120 (i:Nat):List Nat:=if i<5 then if i<2 then if i<1 then [0,3] else [0,3,5] else if i<3 then [0,3,5,11,12,13] else if i<4 then [0,3,5,11,12,13,14] else [0,3,5,7,11,12,13] else if i<8 then if i<6 then [0,3,5,11,12,13] else if i<7 then [0,3,5,11,12,13] else [0,3,8,9] else if i<9 then [0,9] else if i<10 then [9] else [4]
def kp121 (i:Nat):List Nat:=if i<3 then if i<1 then [0,3] else if i<2 then [0,3,15] else [4] else if i<4 then [0] else if i<5 then [] else [4]
def kp122 (i:Nat):List Nat:=if i<4 then if i<2 then if i<1 then [0,3] else [0,3,5] else if i<3 then [0,3,5,29] else [4] else if i<6 then if i<5 then [0,5] else [0,5] else if i<7 then [] else [4]
def kp123 (i:Nat):List Nat:=if i<2 then if i<1 then [1,2] else [1] else if i<3 then [] else [3]
def kp124 (i:Nat):List Nat:=if i<2 then if i<1 then [0,3] else [0,3,13] else if i<3 then [] else [4]
def kp125 (i:Nat):List Nat:=if i<1 then [1,2] else [3]
def kp127 (i:Nat):List Nat:=if i<1 then [1] else if i<2 then [] else [3]
def kp141 (i:Nat):List Nat:=if i<1 then [0,1,2,4] else [4]
def kp142 (i:Nat):List Nat:=if i<1 then [2,3,4] else [4]
def kp143 (i:Nat):List Nat:=if i<4 then if i<2 then if i<1 then [1,2] else [1,2,8,9,10] else if i<3 then [1,2,8,9,10,11] else [1,2,4,8,9,10] else if i<6 then if i<5 then [1,2,4,8,9,10,16] else [2] else if i<7 then [1,2,8,9,10] else [2]
def kp144 (i:Nat):List Nat:=if i<1 then [] else [0]
def kp148 (i:Nat):List Nat:=if i<1 then [1,2,3] else if i<2 then [] else [4]
def kp150 (i:Nat):List Nat:=if i<1 then [0,1] else [4]
def kp157 (i:Nat):List Nat:=if i<1 then [0,2] else [2]
def kp158 (i:Nat):List Nat:=if i<1 then [0,2] else [2]
def kp159 (i:Nat):List Nat:=if i<1 then [0,2] else if i<2 then [2,3,4] else [2]
def kp160 (i:Nat):List Nat:=if i<1 then [0,2] else [2]
def kp161 (i:Nat):List Nat:=if i<1 then [0,2] else [2]
def kp162 (i:Nat):List Nat:=if i<2 then if i<1 then [0,2] else [0,2,7] else if i<3 then [2] else [2]
def kp163 (i:Nat):List Nat:=if i<1 then [2] else [2]
def kp164 (i:Nat):List Nat:=if i<1 then [2] else [2]
def kp165 (i:Nat):List Nat:=if i<1 then [0,2] else [2]
end Go.Proofs.YtnlimcijgpaegaaGreat

namespace Go.Proofs.YtnlimcijgpaegaaGreat
open Go Go.Fw
set_option maxRecDepth 20000
def sInt:ByteArray:=⟨#[105,110,116]⟩
def sBool:ByteArray:=⟨#[98,111,111,108]⟩
def vld (s:ByteArray) (n:Int):Bool:=if eqS s sInt=true then decide (-2147483648≤n∧n≤2147483647) else if eqS s sBool=true then decide (n=0∨n=1) else false
def badD (d:Int):Bool:=decide (d<0)||decide (d>4096)
def prodS:List Int→Int→Int×Int
  |[],n=>(n,0)
  |d::t,n=>if n*d>4096 then (0,3) else prodS t (n*d)
def sizeS (l:List Int):Int×Int:=if l.length>6 then (0,13) else if l.any badD=true then (0,2) else if l.any (fun d=>0==d)=true then (0,0) else prodS l 1
structure Arr where
  e:ByteArray
  d:List Int
  x:List Int
def arrV (a:Arr):AV:= .agg [.lit (.string a.e),.sl false 1 (ints .i64 a.d),.sl false 1 (ints .i64 a.x)]
def nilA:Arr:=⟨⟨#[]⟩,[],[]⟩
instance:Inhabited Arr:=⟨nilA⟩
def arrs (l:List Arr):List AV:=l.map arrV
def ofE (a:Arr):Int:=if (eqS a.e sInt||eqS a.e sBool)=false then 12 else if (sizeS a.d).2≠0 then (sizeS a.d).2 else if (a.x.length:Int)≠(sizeS a.d).1 then 1 else if a.x.any (fun n=> !vld a.e n)=true then 2 else 0
def ofS (a:Arr):Arr×Int:=if ofE a=0 then (a,0) else (nilA,ofE a)
theorem prodS_bd {l:List Int} {n:Int} (hl:∀ d∈l,0≤d∧d≤4096) (hn:0≤n∧n≤4096):0≤(prodS l n).1∧(prodS l n).1≤4096:=by
  induction l generalizing n with
  |nil=>exact hn
  |cons d t ih=>
   unfold prodS
   split
   ·exact ⟨by decide,by decide⟩
   ·rename_i h
    have h1:=hl d (by simp)
    exact ih (fun x hx=>hl x (by simp [hx])) ⟨Int.mul_nonneg hn.1 h1.1,by omega⟩
theorem bad_no {l:List Int} (h: ¬ l.any badD=true):∀ d∈l,0≤d∧d≤4096:=by
  intro d hd
  have: ¬ badD d=true:=fun hb=>h (List.any_eq_true.2 ⟨d,hd,hb⟩)
  unfold badD at this
  simp only [Bool.or_eq_true,decide_eq_true_eq,not_or] at this
  omega
theorem sizeS_bd (l:List Int):0≤(sizeS l).1∧(sizeS l).1≤4096:=by
  unfold sizeS
  split
  ·exact ⟨by decide,by decide⟩
  split
  ·exact ⟨by decide,by decide⟩
  split
  ·exact ⟨by decide,by decide⟩
  rename_i h _
  exact prodS_bd (bad_no h) ⟨by decide,by decide⟩
theorem arrs_length (l:List Arr):(arrs l).length=l.length:=by simp [arrs]
theorem drop_getD {α:Type} {l:List α} {i:Nat} (z:α) (h:i<l.length):l.drop i=l.getD i z::l.drop (i+1):=by
  rw [List.drop_eq_getElem_cons h];simp [List.getD,h]
end Go.Proofs.YtnlimcijgpaegaaGreat

namespace Go.Proofs.YtnlimcijgpaegaaGreat
open Go Go.Fw
set_option maxRecDepth 20000
noncomputable def E0:Env:=envOf (P:=Tryz.prog) zer (fun _=>false) (fun _=>false) [] []
theorem E0_ok:EnvOk Tryz.prog E0:=envOk zer_ok
theorem eqS_iff {a b:ByteArray}:eqS a b=true ↔ a=b:=by
  unfold eqS
  rw [beq_iff_eq]
  constructor
  ·intro h
   apply ByteArray.ext
   apply Array.ext'
   simpa using h
  ·intro h;rw [h]
theorem vld_pc {f:FuncId} {s:ByteArray} {n:Int} (hf:f=147∨f=91):PC Tryz.prog f [.lit (.string s),.lit (.int .i64 n)] (.lit (.bool (vld s n))):=by
  unfold vld sInt sBool
  by_cases h1:eqS s ⟨#[105,110,116]⟩=true
  ·have hs:s=⟨#[105,110,116]⟩:=eqS_iff.1 h1
   have h2:eqS s ⟨#[98,111,111,108]⟩=false:=by rw [hs];rfl
   rw [if_pos h1]
   by_cases h3:n≥ -2147483648
   ·have z3:decide (n≥ -2147483648)=true:=decide_eq_true h3
    have e:decide (-2147483648≤n∧n≤2147483647)=decide (n≤2147483647):=by simp;omega
    rw [e]
    rcases hf with rfl|rfl
    ·skip
     refine pcO E0_ok (fun _=>[0,1,4,5,6,14]) Tryz.func147 (h:=fun KF=>?_)
     unfold E0
     with_reducible repeat' first|(refine nx ?_;intros)|refine t_br (fun hc=>?_) fun hc=>?_|refine t_bx ?_|apply And.intro|intro vr|((first|refine ny ?_|refine t_dwh (h:=fun K KL=>?_));intros;simp only [go_sem,geff,h1,h2,z3])
     refine end_ret rfl ?_
     simp only [fin,go_sem]
     exact LeA.refl _
    ·skip
     refine pcO E0_ok (fun _=>[0,1,4,6]) Tryz.func91 (h:=fun KF=>?_)
     unfold E0
     with_reducible repeat' first|(refine nx ?_;intros)|refine t_br (fun hc=>?_) fun hc=>?_|refine t_bx ?_|apply And.intro|intro vr|((first|refine ny ?_|refine t_dwh (h:=fun K KL=>?_));intros;simp only [go_sem,geff,h1,h2,z3])
     refine end_ret rfl ?_
     simp only [fin,go_sem]
     exact LeA.refl _
   ·have z3:decide (n≥ -2147483648)=false:=decide_eq_false h3
    have e:decide (-2147483648≤n∧n≤2147483647)=false:=by simp;omega
    rw [e]
    rcases hf with rfl|rfl
    ·skip
     refine pcO E0_ok (fun _=>[0,1,4,5,6,14]) Tryz.func147 (h:=fun KF=>?_)
     unfold E0
     with_reducible repeat' first|(refine nx ?_;intros)|refine t_br (fun hc=>?_) fun hc=>?_|refine t_bx ?_|apply And.intro|intro vr|((first|refine ny ?_|refine t_dwh (h:=fun K KL=>?_));intros;simp only [go_sem,geff,h1,h2,z3])
     refine end_ret rfl ?_
     simp only [fin,go_sem]
     exact LeA.refl _
    ·skip
     refine pcO E0_ok (fun _=>[0,1,4,6]) Tryz.func91 (h:=fun KF=>?_)
     unfold E0
     with_reducible repeat' first|(refine nx ?_;intros)|refine t_br (fun hc=>?_) fun hc=>?_|refine t_bx ?_|apply And.intro|intro vr|((first|refine ny ?_|refine t_dwh (h:=fun K KL=>?_));intros;simp only [go_sem,geff,h1,h2,z3])
     refine end_ret rfl ?_
     simp only [fin,go_sem]
     exact LeA.refl _
  ·have h1':eqS s ⟨#[105,110,116]⟩=false:=by simpa using h1
   rw [if_neg h1]
   by_cases h2:eqS s ⟨#[98,111,111,108]⟩=true
   ·rw [if_pos h2]
    by_cases h3:n=0
    ·have z3:(n==0)=true:=by rw [beq_iff_eq];exact h3
     have e:decide (n=0∨n=1)=true:=decide_eq_true (.inl h3)
     rw [e]
     rcases hf with rfl|rfl
     ·skip
      refine pcO E0_ok (fun _=>[0,1,4,5,6,14]) Tryz.func147 (h:=fun KF=>?_)
      unfold E0
      with_reducible repeat' first|(refine nx ?_;intros)|refine t_br (fun hc=>?_) fun hc=>?_|refine t_bx ?_|apply And.intro|intro vr|((first|refine ny ?_|refine t_dwh (h:=fun K KL=>?_));intros;simp only [go_sem,geff,h1',h2,z3])
      refine end_ret rfl ?_
      simp only [fin,go_sem]
      exact LeA.refl _
     ·skip
      refine pcO E0_ok (fun _=>[0,1,4,6]) Tryz.func91 (h:=fun KF=>?_)
      unfold E0
      with_reducible repeat' first|(refine nx ?_;intros)|refine t_br (fun hc=>?_) fun hc=>?_|refine t_bx ?_|apply And.intro|intro vr|((first|refine ny ?_|refine t_dwh (h:=fun K KL=>?_));intros;simp only [go_sem,geff,h1',h2,z3])
      refine end_ret rfl ?_
      simp only [fin,go_sem]
      exact LeA.refl _
    ·have z3:(n==0)=false:=by rw [beq_eq_false_iff_ne];exact h3
     have e:decide (n=0∨n=1)=(n==1):=by
       by_cases h4:n=1
       ·subst h4;rfl
       ·rw [decide_eq_false (by omega)];symm;rw [beq_eq_false_iff_ne];exact h4
     rw [e]
     rcases hf with rfl|rfl
     ·skip
      refine pcO E0_ok (fun _=>[0,1,4,5,6,14]) Tryz.func147 (h:=fun KF=>?_)
      unfold E0
      with_reducible repeat' first|(refine nx ?_;intros)|refine t_br (fun hc=>?_) fun hc=>?_|refine t_bx ?_|apply And.intro|intro vr|((first|refine ny ?_|refine t_dwh (h:=fun K KL=>?_));intros;simp only [go_sem,geff,h1',h2,z3])
      refine end_ret rfl ?_
      simp only [fin,go_sem]
      exact LeA.refl _
     ·skip
      refine pcO E0_ok (fun _=>[0,1,4,6]) Tryz.func91 (h:=fun KF=>?_)
      unfold E0
      with_reducible repeat' first|(refine nx ?_;intros)|refine t_br (fun hc=>?_) fun hc=>?_|refine t_bx ?_|apply And.intro|intro vr|((first|refine ny ?_|refine t_dwh (h:=fun K KL=>?_));intros;simp only [go_sem,geff,h1',h2,z3])
      refine end_ret rfl ?_
      simp only [fin,go_sem]
      exact LeA.refl _
   ·have h2':eqS s ⟨#[98,111,111,108]⟩=false:=by simpa using h2
    rw [if_neg h2]
    rcases hf with rfl|rfl
    ·skip
     refine pcO E0_ok (fun _=>[0,1,4,5,6,14]) Tryz.func147 (h:=fun KF=>?_)
     unfold E0
     with_reducible repeat' first|(refine nx ?_;intros)|refine t_br (fun hc=>?_) fun hc=>?_|refine t_bx ?_|apply And.intro|intro vr|((first|refine ny ?_|refine t_dwh (h:=fun K KL=>?_));intros;simp only [go_sem,geff,h1',h2'])
     refine end_ret rfl ?_
     simp only [fin,go_sem]
     exact LeA.refl _
    ·skip
     refine pcO E0_ok (fun _=>[0,1,4,6]) Tryz.func91 (h:=fun KF=>?_)
     unfold E0
     with_reducible repeat' first|(refine nx ?_;intros)|refine t_br (fun hc=>?_) fun hc=>?_|refine t_bx ?_|apply And.intro|intro vr|((first|refine ny ?_|refine t_dwh (h:=fun K KL=>?_));intros;simp only [go_sem,geff,h1',h2'])
     refine end_ret rfl ?_
     simp only [fin,go_sem]
     exact LeA.refl _
noncomputable def con147:PCon Tryz.prog where
  f:=147
  c:=fun
   |[.lit (.string s),.lit (.int .i64 n)]=>some (True,.lit (.bool (vld s n)))
   |_=>none
  ok:=by
   intro args p r hc hp
   split at hc
   ·cases hc;exact (vld_pc (.inl rfl))
   ·cases hc
  fk:=fk147
theorem con147_f:con147.f=147:=rfl
theorem con147_c {s:ByteArray} {n:Int}:con147.c [.lit (.string s),.lit (.int .i64 n)]=some (True,.lit (.bool (vld s n))):=rfl
def idxG (p:Int→Bool):List Int→Int→Int
  |[],_=> -1
  |d::t,i=>if p d=true then i else idxG p t (i+1)
theorem idxG_any (p:Int→Bool):∀ (l:List Int) (i:Int),0≤i→decide (idxG p l i≥0)=l.any p
  |[],_,_=>rfl
  |d::t,i,hi=>by
   unfold idxG
   by_cases h:p d=true
   ·rw [if_pos h,List.any_cons,h,decide_eq_true hi];rfl
   ·rw [if_neg h,idxG_any p t (i+1) (by omega),List.any_cons]
    simp only [Bool.not_eq_true] at h
    rw [h];rfl
theorem index_pc {l:List Int} {v:Int} (hl:l.length≤1000000):PC Tryz.prog 140 [.sl false 1 (ints .i64 l),.lit (.int .i64 v)] (.lit (.int .i64 (idxG (fun d=>v==d) l 0))):=by
  generalize hR:idxG (fun d=>v==d) l 0=R
  refine pcO E0_ok (fun _=>[0,1,4,5,7,8,9,16]) Tryz.func140 (h:=fun KF=>?_)
  unfold E0
  with_reducible repeat' first|(refine nx ?_;intros)|apply And.intro|intro vr|(refine ny ?_;intros;simp only [go_sem,geff])
  refine t_loop (ι:={i:Nat // i≤l.length∧idxG (fun d=>v==d) (l.drop i) i=R}) (fun i=>⟨upd (upd (upd (upd topF 8 (.lit (.int .i64 i.1))) 7 (.lit (.int .i64 l.length))) 1 (.lit (.int .i64 v))) 0 (.sl false 1 (ints .i64 l)),[]⟩) (fun i=>l.length - i.1) ⟨0,by omega,hR⟩ ?_ ?_
  ·skip
   (refine Le.frame ?_;repeat' (first|exact leF_top _|(with_reducible refine leF_sl ?_ ?_)|(refine leF_upd (LeR.of_eq ?_) ?_)))<;>(try (simp only [go_sem];try rfl))
  ·rintro ⟨i,hi,hF⟩ K0
   rcases Nat.lt_or_ge i l.length with hc|hc
   ·have g1:decide ((i:Int)<(l.length:Int))=true:=decide_eq_true (by omega)
    have g2:=ints_getD .i64 l i hc
    rw [drop_getD 0 hc,idxG] at hF
    generalize l.getD i 0=d at g2 hF
    by_cases he:(v==d)=true
    ·rw [if_pos he] at hF
     subst hF
     with_reducible repeat' first|(refine nx ?_;intros)|apply And.intro|intro vr|(refine ny ?_;intros;simp only [go_sem,geff,g1,g2,he,Int.toNat_natCast])
     all_goals try exact om
     refine end_ret rfl ?_
     simp only [fin,go_sem]
     exact LeA.refl _
    ·rw [if_neg he] at hF
     have he':(v==d)=false:=by simpa using he
     with_reducible repeat' first|(refine nx ?_;intros)|apply And.intro|intro vr|(refine ny ?_;intros;simp only [go_sem,geff,g1,g2,he',Int.toNat_natCast])
     all_goals try exact om
     refine ⟨⟨i+1,by omega,by rw [←hF];congr 1⟩,by simp only;omega,?_⟩
     (refine Le.frame ?_;repeat' (first|exact leF_top _|(with_reducible refine leF_sl ?_ ?_)|(refine leF_upd (LeR.of_eq ?_) ?_)))<;>(try (simp only [go_sem];try rfl))
   ·have g1:decide ((i:Int)<(l.length:Int))=false:=decide_eq_false (by omega)
    rw [List.drop_eq_nil_of_le hc,idxG] at hF
    subst hF
    with_reducible repeat' first|(refine nx ?_;intros)|apply And.intro|intro vr|(refine ny ?_;intros;simp only [go_sem,geff,g1])
    refine end_ret rfl ?_
    simp only [fin,go_sem]
    exact LeA.refl _
noncomputable def con140:PCon Tryz.prog where
  f:=140
  c:=fun
   |[xl,.lit (.int .i64 v)]=>match slK .i64 xl with|some l=>some (l.length≤1000000,.lit (.int .i64 (idxG (fun d=>v==d) l 0)))|_=>none
   |_=>none
  ok:=by
   intro args p r hc hp
   split at hc
   ·split at hc
    ·rename_i hl
     cases hc
     exact PC.weak (index_pc hp) ⟨slK_le hl,LeA.refl _,trivial⟩
    ·cases hc
   ·cases hc
  fk:=fk140
theorem con140_f:con140.f=140:=rfl
theorem con140_c {xl:AV} {v:Int}:con140.c [xl,.lit (.int .i64 v)]=match slK .i64 xl with|some l=>some (l.length≤1000000,.lit (.int .i64 (idxG (fun d=>v==d) l 0)))|_=>none:=rfl
noncomputable def E1:Env:=envOf (P:=Tryz.prog) zer (fun _=>false) (fun _=>false) [con140] []
theorem E1_ok:EnvOk Tryz.prog E1:=envOk zer_ok
theorem contains_pc {l:List Int} {v:Int} (hl:l.length≤1000000):PC Tryz.prog 101 [.sl false 1 (ints .i64 l),.lit (.int .i64 v)] (.lit (.bool (l.any fun d=>v==d))):=by
  have h:=idxG_any (fun d=>v==d) l 0 (by omega)
  refine pcO E1_ok (fun _=>[0,1,4]) Tryz.func101 (h:=fun KF=>?_)
  unfold E1
  with_reducible repeat' first|(refine nx ?_;intros)|apply And.intro|intro vr|(refine ny ?_;intros;simp only [go_sem,geff,con140_f,con140_c,slK_sl,h])
  all_goals try exact om
  refine end_ret rfl ?_
  simp only [fin,go_sem]
  exact LeA.refl _
noncomputable def con101:PCon Tryz.prog where
  f:=101
  c:=fun
   |[xl,.lit (.int .i64 v)]=>match slK .i64 xl with|some l=>some (l.length≤1000000,.lit (.bool (l.any fun d=>v==d)))|_=>none
   |_=>none
  ok:=by
   intro args p r hc hp
   split at hc
   ·split at hc
    ·rename_i hl
     cases hc
     exact PC.weak (contains_pc hp) ⟨slK_le hl,LeA.refl _,trivial⟩
    ·cases hc
   ·cases hc
  fk:=fk101
theorem con101_f:con101.f=101:=rfl
theorem con101_c {xl:AV} {v:Int}:con101.c [xl,.lit (.int .i64 v)]=match slK .i64 xl with|some l=>some (l.length≤1000000,.lit (.bool (l.any fun d=>v==d)))|_=>none:=rfl
theorem clone_pc {l:List Int} (hl:l.length≤1000000):PC Tryz.prog 51 [.sl false 1 (ints .i64 l)] (.sl false 1 (ints .i64 l)):=by
  refine pcO E0_ok (fun _=>[0,2,4]) Tryz.func51 (h:=fun KF=>?_)
  unfold E0
  with_reducible repeat' first|(refine nx ?_;intros)|apply And.intro|intro vr|(refine ny ?_;intros;simp only [go_sem,geff])
  all_goals try exact om
  ·skip
   refine end_ret rfl ?_
   simp only [fin,go_sem]
   rw [show ints .i64 l=[] from by assumption]
   exact LeA.nil false 1
  ·skip
   refine end_ret rfl ?_
   simp only [fin,go_sem]
   exact LeA.refl _
noncomputable def con51:PCon Tryz.prog where
  f:=51
  c:=fun
   |[xl]=>match slK .i64 xl with|some l=>some (l.length≤1000000,.sl false 1 (ints .i64 l))|_=>none
   |_=>none
  ok:=by
   intro args p r hc hp
   split at hc
   ·split at hc
    ·rename_i hl
     cases hc
     exact PC.weak (clone_pc hp) ⟨slK_le hl,trivial⟩
    ·cases hc
   ·cases hc
  fk:=fk51
theorem con51_f:con51.f=51:=rfl
theorem con51_c {xl:AV}:con51.c [xl]=match slK .i64 xl with|some l=>some (l.length≤1000000,.sl false 1 (ints .i64 l))|_=>none:=rfl
theorem drop_ne {l m:List Int} {i:Nat} (hl:i<l.length) (hm:i<m.length) (h:(l.getD i 0 !=m.getD i 0)=true):decide (l.drop i=m.drop i)=false:=by
  rw [drop_getD 0 hl,drop_getD 0 hm]
  rw [bne_iff_ne] at h
  exact decide_eq_false fun e=>h (List.cons.inj e).1
theorem drop_eq {l m:List Int} {i:Nat} (hl:i<l.length) (hm:i<m.length) (h:(l.getD i 0 !=m.getD i 0)=false):decide (l.drop i=m.drop i)=decide (l.drop (i+1)=m.drop (i+1)):=by
  rw [drop_getD 0 hl,drop_getD 0 hm]
  rw [bne_eq_false_iff_eq] at h
  rw [h]
  simp
theorem equal_pc {l m:List Int} (hl:l.length≤1000000):PC Tryz.prog 47 [.sl false 1 (ints .i64 l),.sl false 1 (ints .i64 m)] (.lit (.bool (decide (l=m)))):=by
  by_cases hn:l.length=m.length
  ·have g0:((l.length:Int) !=(m.length:Int))=false:=by rw [bne_eq_false_iff_eq];omega
   generalize hR:decide (l=m)=R
   refine pcO E0_ok (fun _=>[0,1,4,5,10,12,13,14,24]) Tryz.func47 (h:=fun KF=>?_)
   unfold E0
   with_reducible repeat' first|(refine nx ?_;intros)|apply And.intro|intro vr|((first|refine ny ?_|refine t_dwh (h:=fun K KL=>?_));intros;simp only [go_sem,geff,g0])
   refine t_loop (ι:={i:Nat // i≤l.length∧decide (l.drop i=m.drop i)=R}) (fun i=>⟨upd (upd (upd (upd topF 1 (.sl false 1 (ints .i64 m))) 0 (.sl false 1 (ints .i64 l))) 13 (.lit (.int .i64 i.1))) 12 (.lit (.int .i64 l.length)),[]⟩) (fun i=>l.length - i.1) ⟨0,by omega,hR⟩ ?_ ?_
   ·skip
    (refine Le.frame ?_;repeat' (first|exact leF_top _|(with_reducible refine leF_sl ?_ ?_)|(refine leF_upd (LeR.of_eq ?_) ?_)))<;>(try (simp only [go_sem];try rfl))
   ·rintro ⟨i,hi,hF⟩ K0
    rcases Nat.lt_or_ge i l.length with hc|hc
    ·have g1:decide ((i:Int)<(l.length:Int))=true:=decide_eq_true (by omega)
     have g2:=ints_getD .i64 l i hc
     have g3:=ints_getD .i64 m i (by omega)
     by_cases he:(l.getD i 0 !=m.getD i 0)=true
     ·rw [drop_ne hc (by omega) he] at hF
      subst hF
      with_reducible repeat' first|(refine nx ?_;intros)|apply And.intro|intro vr|((first|refine ny ?_|refine t_dwh (h:=fun K KL=>?_));intros;simp only [go_sem,geff,g1,g2,g3,he,Int.toNat_natCast])
      all_goals try exact om
      refine end_ret rfl ?_
      simp only [fin,go_sem]
      exact LeA.refl _
     ·have he':(l.getD i 0 !=m.getD i 0)=false:=by simpa using he
      rw [drop_eq hc (by omega) he'] at hF
      with_reducible repeat' first|(refine nx ?_;intros)|apply And.intro|intro vr|((first|refine ny ?_|refine t_dwh (h:=fun K KL=>?_));intros;simp only [go_sem,geff,g1,g2,g3,he',Int.toNat_natCast])
      all_goals try exact om
      refine ⟨⟨i+1,by omega,hF⟩,by simp only;omega,?_⟩
      (refine Le.frame ?_;repeat' (first|exact leF_top _|(with_reducible refine leF_sl ?_ ?_)|(refine leF_upd (LeR.of_eq ?_) ?_)))<;>(try (simp only [go_sem];try rfl))
    ·have g1:decide ((i:Int)<(l.length:Int))=false:=decide_eq_false (by omega)
     rw [List.drop_eq_nil_of_le hc,List.drop_eq_nil_of_le (by omega)] at hF
     subst hF
     with_reducible repeat' first|(refine nx ?_;intros)|apply And.intro|intro vr|((first|refine ny ?_|refine t_dwh (h:=fun K KL=>?_));intros;simp only [go_sem,geff,g1])
     refine end_ret rfl ?_
     simp only [fin,go_sem]
     exact LeA.refl _
  ·have g0:((l.length:Int) !=(m.length:Int))=true:=by rw [bne_iff_ne];omega
   have:decide (l=m)=false:=decide_eq_false fun e=>hn (by rw [e])
   rw [this]
   refine pcO E0_ok (fun _=>[0,1,4,5,10,12,13,14,24]) Tryz.func47 (h:=fun KF=>?_)
   unfold E0
   with_reducible repeat' first|(refine nx ?_;intros)|apply And.intro|intro vr|((first|refine ny ?_|refine t_dwh (h:=fun K KL=>?_));intros;simp only [go_sem,geff,g0])
   refine end_ret rfl ?_
   simp only [fin,go_sem]
   exact LeA.refl _
noncomputable def con47:PCon Tryz.prog where
  f:=47
  c:=fun
   |[xl,xm]=>match slK .i64 xl,slK .i64 xm with|some l,some m=>some (l.length≤1000000,.lit (.bool (decide (l=m))))|_,_=>none
   |_=>none
  ok:=by
   intro args p r hc hp
   split at hc
   ·split at hc
    ·rename_i hl hm
     cases hc
     exact PC.weak (equal_pc hp) ⟨slK_le hl,slK_le hm,trivial⟩
    ·cases hc
   ·cases hc
  fk:=fk47
theorem con47_f:con47.f=47:=rfl
theorem con47_c {xl:AV} {xm:AV}:con47.c [xl,xm]=match slK .i64 xl,slK .i64 xm with|some l,some m=>some (l.length≤1000000,.lit (.bool (decide (l=m))))|_,_=>none:=rfl
theorem same_pc {l m:List Int} (hl:l.length≤1000000):PC Tryz.prog 17 [.sl false 1 (ints .i64 l),.sl false 1 (ints .i64 m)] (.lit (.bool (decide (l=m)))):=by
  by_cases hn:l.length=m.length
  ·have g0:((l.length:Int) !=(m.length:Int))=false:=by rw [bne_eq_false_iff_eq];omega
   generalize hR:decide (l=m)=R
   refine pcO E0_ok (fun _=>[0,1,4,5,10,14,25]) Tryz.func17 (h:=fun KF=>?_)
   unfold E0
   with_reducible repeat' first|(refine nx ?_;intros)|apply And.intro|intro vr|((first|refine ny ?_|refine t_dwh (h:=fun K KL=>?_));intros;simp only [go_sem,geff,g0])
   refine t_loop (ι:={i:Nat // i≤l.length∧decide (l.drop i=m.drop i)=R}) (fun i=>⟨upd (upd (upd topF 1 (.sl false 1 (ints .i64 m))) 0 (.sl false 1 (ints .i64 l))) 5 (.lit (.int .i64 i.1)),[]⟩) (fun i=>l.length - i.1) ⟨0,by omega,hR⟩ ?_ ?_
   ·skip
    (refine Le.frame ?_;repeat' (first|exact leF_top _|(with_reducible refine leF_sl ?_ ?_)|(refine leF_upd (LeR.of_eq ?_) ?_)))<;>(try (simp only [go_sem];try rfl))
   ·rintro ⟨i,hi,hF⟩ K0
    rcases Nat.lt_or_ge i l.length with hc|hc
    ·have g1:decide ((i:Int)<(l.length:Int))=true:=decide_eq_true (by omega)
     have g2:=ints_getD .i64 l i hc
     have g3:=ints_getD .i64 m i (by omega)
     by_cases he:(l.getD i 0 !=m.getD i 0)=true
     ·rw [drop_ne hc (by omega) he] at hF
      subst hF
      with_reducible repeat' first|(refine nx ?_;intros)|apply And.intro|intro vr|((first|refine ny ?_|refine t_dwh (h:=fun K KL=>?_));intros;simp only [go_sem,geff,g1,g2,g3,he,Int.toNat_natCast])
      all_goals try exact om
      refine end_ret rfl ?_
      simp only [fin,go_sem]
      exact LeA.refl _
     ·have he':(l.getD i 0 !=m.getD i 0)=false:=by simpa using he
      rw [drop_eq hc (by omega) he'] at hF
      with_reducible repeat' first|(refine nx ?_;intros)|apply And.intro|intro vr|((first|refine ny ?_|refine t_dwh (h:=fun K KL=>?_));intros;simp only [go_sem,geff,g1,g2,g3,he',Int.toNat_natCast])
      all_goals try exact om
      refine ⟨⟨i+1,by omega,hF⟩,by simp only;omega,?_⟩
      (refine Le.frame ?_;repeat' (first|exact leF_top _|(with_reducible refine leF_sl ?_ ?_)|(refine leF_upd (LeR.of_eq ?_) ?_)))<;>(try (simp only [go_sem];try rfl))
    ·have g1:decide ((i:Int)<(l.length:Int))=false:=decide_eq_false (by omega)
     rw [List.drop_eq_nil_of_le hc,List.drop_eq_nil_of_le (by omega)] at hF
     subst hF
     with_reducible repeat' first|(refine nx ?_;intros)|apply And.intro|intro vr|((first|refine ny ?_|refine t_dwh (h:=fun K KL=>?_));intros;simp only [go_sem,geff,g1])
     refine end_ret rfl ?_
     simp only [fin,go_sem]
     exact LeA.refl _
  ·have g0:((l.length:Int) !=(m.length:Int))=true:=by rw [bne_iff_ne];omega
   have:decide (l=m)=false:=decide_eq_false fun e=>hn (by rw [e])
   rw [this]
   refine pcO E0_ok (fun _=>[0,1,4,5,10,14,25]) Tryz.func17 (h:=fun KF=>?_)
   unfold E0
   with_reducible repeat' first|(refine nx ?_;intros)|apply And.intro|intro vr|((first|refine ny ?_|refine t_dwh (h:=fun K KL=>?_));intros;simp only [go_sem,geff,g0])
   refine end_ret rfl ?_
   simp only [fin,go_sem]
   exact LeA.refl _
noncomputable def con17:PCon Tryz.prog where
  f:=17
  c:=fun
   |[xl,xm]=>match slK .i64 xl,slK .i64 xm with|some l,some m=>some (l.length≤1000000,.lit (.bool (decide (l=m))))|_,_=>none
   |_=>none
  ok:=by
   intro args p r hc hp
   split at hc
   ·split at hc
    ·rename_i hl hm
     cases hc
     exact PC.weak (same_pc hp) ⟨slK_le hl,slK_le hm,trivial⟩
    ·cases hc
   ·cases hc
  fk:=fk17
theorem con17_f:con17.f=17:=rfl
theorem con17_c {xl:AV} {xm:AV}:con17.c [xl,xm]=match slK .i64 xl,slK .i64 xm with|some l,some m=>some (l.length≤1000000,.lit (.bool (decide (l=m))))|_,_=>none:=rfl
end Go.Proofs.YtnlimcijgpaegaaGreat

namespace Go.Proofs.YtnlimcijgpaegaaGreat
open Go Go.Fw
set_option maxRecDepth 20000
def szV (p:Int×Int):AV:= .tup [.lit (.int .i64 p.1),.lit (.int .i64 p.2)]
theorem mul_bd {n d:Int} (hn:0≤n∧n≤4096) (hd:0≤d∧d≤4096):0≤n*d∧n*d≤16777216:=by
  constructor
  ·exact Int.mul_nonneg hn.1 hd.1
  ·have:=Int.mul_le_mul hn.2 hd.2 hd.1 (by omega)
   omega
structure Ls (l:List Int) (G:Int×Int) where
  i:Nat
  n:Int
  hi:i≤l.length
  hn:0≤n∧n≤4096
  hF:prodS (l.drop i) n=G
noncomputable def E2:Env:=envOf (P:=Tryz.prog) zer (fun _=>false) (fun _=>false) [con101] []
theorem E2_ok:EnvOk Tryz.prog E2:=envOk zer_ok
set_option maxHeartbeats 1000000 in
theorem size_pc {l:List Int} (hl:l.length≤1000000):PC Tryz.prog 62 [.sl false 1 (ints .i64 l)] (szV (sizeS l)):=by
  unfold sizeS
  by_cases h6:l.length>6
  ·have g0:decide ((l.length:Int)>6)=true:=decide_eq_true (by omega)
   rw [if_pos h6]
   refine pcO E2_ok (fun _=>[0,2,3,5,6,8,11,12,13,14,15,23,26,27,28,29,30,37]) Tryz.func62 (h:=fun KF=>?_)
   unfold E2
   with_reducible repeat' first|(refine nx ?_;intros)|apply And.intro|intro vr|(refine ny ?_;intros;simp only [go_sem,geff,con101_f,g0])
   refine end_ret rfl ?_
   simp only [fin,go_sem,szV]
   exact LeA.refl _
  ·have g0:decide ((l.length:Int)>6)=false:=decide_eq_false (by omega)
   rw [if_neg h6]
   generalize hB:l.any badD=Bb
   generalize hG:prodS l 1=G
   refine pcO E2_ok (fun _=>[0,2,3,5,6,8,11,12,13,14,15,23,26,27,28,29,30,37]) Tryz.func62 (h:=fun KF=>?_)
   unfold E2
   with_reducible repeat' first|(refine nx ?_;intros)|apply And.intro|intro vr|(refine ny ?_;intros;simp only [go_sem,geff,con101_f,g0])
   refine t_loop (ι:={i:Nat // i≤l.length∧(l.drop i).any badD=Bb}) (fun i=>⟨upd (upd (upd (upd topF 14 (.lit (.int .i64 i.1))) 13 (.lit (.int .i64 l.length))) 12 (.sl false 1 (ints .i64 l))) 0 (.sl false 1 (ints .i64 l)),[]⟩) (fun i=>l.length - i.1) ⟨0,by omega,hB⟩ ?_ ?_
   ·skip
    (refine Le.frame ?_;repeat' (first|exact leF_top _|(with_reducible refine leF_sl ?_ ?_)|(refine leF_upd (LeR.of_eq ?_) ?_)))<;>(try (simp only [go_sem];try rfl))
   ·rintro ⟨i,hi,hF⟩ K0
    rcases Nat.lt_or_ge i l.length with hc|hc
    ·have g1:decide ((i:Int)<(l.length:Int))=true:=decide_eq_true (by omega)
     have g2:=ints_getD .i64 l i hc
     rw [drop_getD 0 hc,List.any_cons] at hF
     generalize l.getD i 0=d at g2 hF
     rw [show badD d=(decide (d<0)||decide (d>4096)) from rfl] at hF
     by_cases d1:d<0
     ·have d1':decide (d<0)=true:=decide_eq_true d1
      have:Bb=true:=by rw [←hF,d1'];rfl
      subst this
      with_reducible repeat' first|(refine nx ?_;intros)|apply And.intro|intro vr|(refine ny ?_;intros;simp only [go_sem,geff,con101_f,g1,g2,d1',Int.toNat_natCast])
      all_goals try exact om
      refine end_ret rfl ?_
      simp only [fin,go_sem,szV]
      exact LeA.refl _
     ·have d1':decide (d<0)=false:=decide_eq_false d1
      by_cases d2:d>4096
      ·have d2':decide (d>4096)=true:=decide_eq_true d2
       have:Bb=true:=by rw [←hF,d1',d2'];rfl
       subst this
       with_reducible repeat' first|(refine nx ?_;intros)|apply And.intro|intro vr|(refine ny ?_;intros;simp only [go_sem,geff,con101_f,g1,g2,d1',d2',Int.toNat_natCast])
       all_goals try exact om
       refine end_ret rfl ?_
       simp only [fin,go_sem,szV]
       exact LeA.refl _
      ·have d2':decide (d>4096)=false:=decide_eq_false d2
       rw [d1',d2',Bool.false_or,Bool.false_or] at hF
       with_reducible repeat' first|(refine nx ?_;intros)|apply And.intro|intro vr|(refine ny ?_;intros;simp only [go_sem,geff,con101_f,g1,g2,d1',d2',Int.toNat_natCast])
       all_goals try exact om
       refine ⟨⟨i+1,by omega,hF⟩,by simp only;omega,?_⟩
       (refine Le.frame ?_;repeat' (first|exact leF_top _|(with_reducible refine leF_sl ?_ ?_)|(refine leF_upd (LeR.of_eq ?_) ?_)))<;>(try (simp only [go_sem];try rfl))
    ·have g1:decide ((i:Int)<(l.length:Int))=false:=decide_eq_false (by omega)
     rw [List.drop_eq_nil_of_le hc,List.any_nil] at hF
     subst hF
     have hd:=bad_no (by rw [hB];simp)
     by_cases h0:(l.any fun d=>0==d)=true
     ·skip
      with_reducible repeat' first|(refine nx ?_;intros)|apply And.intro|intro vr|(refine ny ?_;intros;simp only [go_sem,geff,con101_f,con101_c,slK_sl,g1,h0])
      all_goals try exact om
      refine end_ret rfl ?_
      simp only [fin,go_sem,szV,h0,Bool.false_eq_true]
      exact LeA.refl _
     ·have h0':(l.any fun d=>0==d)=false:=Bool.eq_false_iff.2 h0
      with_reducible repeat' first|(refine nx ?_;intros)|apply And.intro|intro vr|(refine ny ?_;intros;simp only [go_sem,geff,con101_f,con101_c,slK_sl,g1,h0'])
      all_goals try exact om
      refine t_loop (ι:=Ls l G) (fun i=>⟨upd (upd (upd (upd topF 29 (.lit (.int .i64 i.i))) 28 (.lit (.int .i64 l.length))) 27 (.sl false 1 (ints .i64 l))) 6 (.lit (.int .i64 i.n)),[]⟩) (fun i=>l.length - i.i) ⟨0,1,by omega,by omega,hG⟩ ?_ ?_
      ·skip
       (refine Le.frame ?_;repeat' (first|exact leF_top _|(with_reducible refine leF_sl ?_ ?_)|(refine leF_upd (LeR.of_eq ?_) ?_)))<;>(try (simp only [go_sem];try rfl))
      ·rintro ⟨i,n,hi,hn,hF⟩ K1
       rcases Nat.lt_or_ge i l.length with hc|hc
       ·have g1:decide ((i:Int)<(l.length:Int))=true:=decide_eq_true (by omega)
        have g2:=ints_getD .i64 l i hc
        have hd':=hd (l.getD i 0) (by rw [List.getD_eq_getElem?_getD,List.getElem?_eq_getElem hc];exact List.getElem_mem _)
        rw [drop_getD 0 hc,prodS] at hF
        generalize l.getD i 0=d at g2 hF hd'
        have hb:=mul_bd hn hd'
        by_cases hp:n*d>4096
        ·have hp':decide (n*d>4096)=true:=decide_eq_true hp
         rw [if_pos hp] at hF
         subst hF
         with_reducible repeat' first|(refine nx ?_;intros)|apply And.intro|intro vr|(refine ny ?_;intros;simp only [go_sem,geff,con101_f,g1,g2,hp',Int.toNat_natCast])
         all_goals try exact om
         refine end_ret rfl ?_
         simp only [fin,go_sem,szV,h0',Bool.false_eq_true]
         exact LeA.refl _
        ·have hp':decide (n*d>4096)=false:=decide_eq_false hp
         rw [if_neg hp] at hF
         with_reducible repeat' first|(refine nx ?_;intros)|apply And.intro|intro vr|(refine ny ?_;intros;simp only [go_sem,geff,con101_f,g1,g2,hp',Int.toNat_natCast])
         all_goals try exact om
         refine ⟨⟨i+1,n*d,by omega,by omega,hF⟩,by simp only;omega,?_⟩
         (refine Le.frame ?_;repeat' (first|exact leF_top _|(with_reducible refine leF_sl ?_ ?_)|(refine leF_upd (LeR.of_eq ?_) ?_)))<;>(try (simp only [go_sem];try rfl))
       ·have g1:decide ((i:Int)<(l.length:Int))=false:=decide_eq_false (by omega)
        rw [List.drop_eq_nil_of_le hc,prodS] at hF
        subst hF
        with_reducible repeat' first|(refine nx ?_;intros)|apply And.intro|intro vr|(refine ny ?_;intros;simp only [go_sem,geff,con101_f,g1])
        refine end_ret rfl ?_
        simp only [fin,go_sem,szV,h0',Bool.false_eq_true]
        exact LeA.refl _
noncomputable def con62:PCon Tryz.prog where
  f:=62
  c:=fun
   |[xl]=>match slK .i64 xl with|some l=>some (l.length≤1000000,szV (sizeS l))|_=>none
   |_=>none
  ok:=by
   intro args p r hc hp
   split at hc
   ·split at hc
    ·rename_i hl
     cases hc
     exact PC.weak (size_pc hp) ⟨slK_le hl,trivial⟩
    ·cases hc
   ·cases hc
  fk:=fk62
theorem con62_f:con62.f=62:=rfl
theorem con62_c {xl:AV}:con62.c [xl]=match slK .i64 xl with|some l=>some (l.length≤1000000,szV (sizeS l))|_=>none:=rfl
end Go.Proofs.YtnlimcijgpaegaaGreat

namespace Go.Proofs.YtnlimcijgpaegaaGreat
open Go Go.Fw
set_option maxRecDepth 20000
theorem LeL.len:∀ {xs ys:List AV},LeL xs ys→xs.length=ys.length
  |[],[],_=>rfl
  |_::_,_::_,h=>by simp [LeL.len h.2]
  |[],_::_,h=>h.elim
  |_::_,[],h=>h.elim
theorem LeA.agg {xs ys:List AV} (h:LeL xs ys):LeA (.agg xs) (.agg ys):=fun C v hv=>by
  cases hv with
  |agg _ vs hl h1 hh=>exact .agg ys vs (h.rl ⟨hl,hh⟩).1 (fun i hi=>h1 i (by rw [LeL.len h];exact hi)) (h.rl ⟨hl,hh⟩).2
theorem LeL.append:∀ {xs ys us vs:List AV},LeL xs ys→LeL us vs→LeL (xs++us) (ys++vs)
  |[],[],_,_,_,h=>h
  |_::_,_::_,_,_,h,h'=>⟨h.1,LeL.append h.2 h'⟩
  |[],_::_,_,_,h,_=>h.elim
  |_::_,[],_,_,h,_=>h.elim
theorem LeL.get:∀ {xs ys:List AV},LeL xs ys→∀ i,LeA (xs.getD i .top) (ys.getD i .top)
  |[],[],_,_=>LeA.refl _
  |x::xs,y::ys,h,0=>by simpa using h.1
  |x::xs,y::ys,h,i+1=>by simpa using LeL.get h.2 i
  |[],_::_,h,_=>h.elim
  |_::_,[],h,_=>h.elim
theorem LeA.sl {b:Bool} {sz:Nat} {xs ys:List AV} (hl:xs.length=ys.length) (hw:∀ y∈ys,y.cells.length=sz) (h:LeL (flat xs) (flat ys)):LeA (.sl b sz xs) (.sl false sz ys):=fun C v hv=>by
  cases hv with
  |nil full sz a=>
   have:ys=[]:=List.eq_nil_of_length_eq_zero (by simpa using hl.symm)
   subst this
   exact .nil false sz a
  |sl full sz xs bb off cap f hc hm hf hw' hC h1 hR=>
   rw [hl]
   exact .sl false sz ys bb off cap f (by rw [←hl];exact hc) hm (by simp) hw (fun j hj=>hC j (by rw [LeL.len h];exact hj)) (fun j hj=>h1 j (by rw [LeL.len h];exact hj))
     (fun j hj=>LeL.get h j _ _ (hR j (by rw [LeL.len h];exact hj)))
def arrOf:AV→Option Arr
  |.agg [.lit (.string e),x,y]=>match slK .i64 x,slK .i64 y with
   |some d,some w=>some ⟨e,d,w⟩
   |_,_=>none
  |_=>none
theorem arrOf_agg {e:ByteArray} {x y:AV}:arrOf (.agg [.lit (.string e),x,y])=match slK .i64 x,slK .i64 y with
    |some d,some w=>some ⟨e,d,w⟩
    |_,_=>none:=rfl
theorem arrOf_V (a:Arr):arrOf (arrV a)=some a:=by simp [arrV,arrOf,slK_sl]
theorem arrOf_inv {x:AV} {a:Arr} (h:arrOf x=some a):∃ p q,x= .agg [.lit (.string a.e),p,q]∧LeA p (.sl false 1 (ints .i64 a.d))∧LeA q (.sl false 1 (ints .i64 a.x)):=by
  unfold arrOf at h
  split at h
  ·split at h
   ·rename_i h1 h2
    cases h
    exact ⟨_,_,rfl,slK_le h1,slK_le h2⟩
   ·cases h
  ·cases h
theorem arrOf_le {x:AV} {a:Arr} (h:arrOf x=some a):LeA x (arrV a):=by
  obtain ⟨p,q,rfl,h1,h2⟩:=arrOf_inv h
  exact LeA.agg ⟨LeA.refl _,h1,h2,trivial⟩
def arrL:List AV→Option (List Arr)
  |[]=>some []
  |x::xs=>match arrOf x,arrL xs with
   |some a,some l=>some (a::l)
   |_,_=>none
theorem arrL_cons {x:AV} {xs:List AV}:arrL (x::xs)=match arrOf x,arrL xs with
    |some a,some l=>some (a::l)
    |_,_=>none:=rfl
theorem arrL_arrs:∀ l:List Arr,arrL (arrs l)=some l
  |[]=>rfl
  |a::l=>by
   have:=arrL_arrs l
   unfold arrs at this ⊢
   rw [List.map_cons,arrL_cons,arrOf_V,this]
theorem arrL_inv:∀ {xs:List AV} {l:List Arr},arrL xs=some l→xs.length=l.length∧LeL (flat xs) (flat (arrs l))
  |[],l,h=>by cases h;exact ⟨rfl,trivial⟩
  |x::xs,l,h=>by
   rw [arrL_cons] at h
   split at h
   ·rename_i a m h1 h2
    cases h
    obtain ⟨e1,e2⟩:=arrL_inv h2
    obtain ⟨p,q,rfl,g1,g2⟩:=arrOf_inv h1
    refine ⟨by simp [e1],?_⟩
    have:LeL (AV.cells (.agg [.lit (.string a.e),p,q])) (AV.cells (arrV a)):=⟨LeA.refl _,g1,g2,trivial⟩
    exact LeL.append this e2
   ·cases h
theorem arrs_wid (l:List Arr):∀ y∈arrs l,y.cells.length=3:=by
  intro y hy
  obtain ⟨a,_,rfl⟩:=List.mem_map.1 hy
  rfl
def arrsOf (x:AV):Option (List Arr):=(slA 3 x).bind arrL
theorem arrsOf_le {x:AV} {l:List Arr} (h:arrsOf x=some l):LeA x (.sl false 3 (arrs l)):=by
  unfold arrsOf at h
  cases hx:slA 3 x with
  |none=>rw [hx] at h;cases h
  |some xs=>
   rw [hx] at h
   obtain ⟨h1,h2⟩:=arrL_inv (l:=l) h
   intro C v hv
   exact LeA.sl (b:=false) (by rw [arrs_length];exact h1) (arrs_wid l) h2 C v (slA_le hx C v hv)
theorem arrsOf_sl {b:Bool} {l:List Arr}:arrsOf (.sl b 3 (arrs l))=some l:=by simp [arrsOf,slA,arrL_arrs]
def aeV (p:Arr×Int):AV:= .tup [arrV p.1,.lit (.int .i64 p.2)]
end Go.Proofs.YtnlimcijgpaegaaGreat

namespace Go.Proofs.YtnlimcijgpaegaaGreat
open Go Go.Fw
set_option maxRecDepth 20000
noncomputable def E3:Env:=envOf (P:=Tryz.prog) zer (fun _=>false) (fun _=>false) [con147] []
theorem E3_ok:EnvOk Tryz.prog E3:=envOk zer_ok
theorem notel_ec {σ:List AObj} {o:Nat} {e:ByteArray} {n:Int} (ho:σ[o]? =some (.box 9 [.lit (.string e)])) {k:AV→List AObj→Prop} (hk:k (.lit (.bool (!vld e n))) σ):EC Tryz.prog 146 [.lit (.int .i64 n),.ref o 0] σ k:=by
  refine ecO E3_ok (fun _=>[0,1,3]) Tryz.func146 (h:=fun KF=>?_)
  unfold E3
  with_reducible repeat' first|(refine nx ?_;intros)|refine t_br (fun hc=>?_) fun hc=>?_|refine t_bx ?_|apply And.intro|intro vr|((first|refine ny ?_|refine t_dwh (h:=fun K KL=>?_));intros;simp only [go_sem,geff,con147_f,con147_c,ho])
  refine end_ret rfl ?_
  simp only [go_sem]
  exact hk
noncomputable def con146:ECon Tryz.prog where
  f:=146
  c:=fun args σ k=>match args with
   |[.lit (.int .i64 n),.ref o 0]=>match σ[o]? with
    |some (.box 9 [.lit (.string e)])=>k (.lit (.bool (!vld e n))) σ
    |_=>False
   |_=>False
  ok:=by
   intro args σ k h
   split at h
   ·split at h
    ·rename_i ho
     exact notel_ec ho h
    ·exact h.elim
   ·exact h.elim
  fk:=fk146
theorem con146_f:con146.f=146:=rfl
theorem con146_c {σ:List AObj} {k:AV→List AObj→Prop} {o:Nat} {n:Int}:con146.c [.lit (.int .i64 n),.ref o 0] σ k=match σ[o]? with
      |some (.box 9 [.lit (.string e)])=>k (.lit (.bool (!vld e n))) σ
      |_=>False:=rfl
noncomputable def E4:Env:=envOf (P:=Tryz.prog) zer (fun _=>false) (fun _=>false) [] [con146]
theorem E4_ok:EnvOk Tryz.prog E4:=envOk zer_ok
theorem indexf_ec {σ:List AObj} {o:Nat} {e:ByteArray} {l:List Int} (hl:l.length≤1000000) (ho:σ[o]? =some (.box 9 [.lit (.string e)])) {k:AV→List AObj→Prop} (hk:k (.lit (.int .i64 (idxG (fun n=> !vld e n) l 0))) σ):
    EC Tryz.prog 166 [.sl false 1 (ints .i64 l),.fn (.func 146) [] [.ref o 0]] σ k:=by
  generalize hR:idxG (fun n=> !vld e n) l 0=R at hk
  refine ecO E4_ok (fun _=>[0,1,4,5,7,8,9,16]) Tryz.func166 (h:=fun KF=>?_)
  unfold E4
  with_reducible repeat' first|(refine nx ?_;intros)|apply And.intro|intro vr|(refine ny ?_;intros;simp only [go_sem,geff,con146_f])
  refine t_loop (ι:={i:Nat // i≤l.length∧idxG (fun n=> !vld e n) (l.drop i) i=R}) (fun i=>⟨upd (upd (upd (upd topF 8 (.lit (.int .i64 i.1))) 7 (.lit (.int .i64 l.length))) 1 (.fn (.func 146) [] [.ref o 0])) 0 (.sl false 1 (ints .i64 l)),σ⟩) (fun i=>l.length - i.1) ⟨0,by omega,hR⟩ ?_ ?_
  ·skip
   (refine Le.frame ?_;repeat' (first|exact leF_top _|(with_reducible refine leF_sl ?_ ?_)|(refine leF_upd (LeR.of_eq ?_) ?_)))<;>(try (simp only [go_sem];try rfl))
  ·rintro ⟨i,hi,hF⟩ K0
   rcases Nat.lt_or_ge i l.length with hc|hc
   ·have g1:decide ((i:Int)<(l.length:Int))=true:=decide_eq_true (by omega)
    have g2:=ints_getD .i64 l i hc
    rw [drop_getD 0 hc,idxG] at hF
    generalize l.getD i 0=d at g2 hF
    by_cases he:vld e d=true
    ·rw [if_neg (by simp [he])] at hF
     with_reducible repeat' first|(refine nx ?_;intros)|apply And.intro|intro vr|(refine ny ?_;intros;simp only [go_sem,geff,con146_f,con146_c,ho,g1,g2,he,Int.toNat_natCast,Bool.not_true])
     all_goals try exact om
     refine ⟨⟨i+1,by omega,by rw [←hF];congr 1⟩,by simp only;omega,?_⟩
     (refine Le.frame ?_;repeat' (first|exact leF_top _|(with_reducible refine leF_sl ?_ ?_)|(refine leF_upd (LeR.of_eq ?_) ?_)))<;>(try (simp only [go_sem];try rfl))
    ·have he':vld e d=false:=by simpa using he
     rw [if_pos (by simp [he'])] at hF
     subst hF
     with_reducible repeat' first|(refine nx ?_;intros)|apply And.intro|intro vr|(refine ny ?_;intros;simp only [go_sem,geff,con146_f,con146_c,ho,g1,g2,he',Int.toNat_natCast,Bool.not_false])
     all_goals try exact om
     refine end_ret rfl ?_
     simp only [go_sem]
     exact hk
   ·have g1:decide ((i:Int)<(l.length:Int))=false:=decide_eq_false (by omega)
    rw [List.drop_eq_nil_of_le hc,idxG] at hF
    subst hF
    with_reducible repeat' first|(refine nx ?_;intros)|apply And.intro|intro vr|(refine ny ?_;intros;simp only [go_sem,geff,con146_f,g1])
    refine end_ret rfl ?_
    simp only [go_sem]
    exact hk
noncomputable def con166:ECon Tryz.prog where
  f:=166
  c:=fun args σ k=>match args with
   |[x,.fn (.func 146) [] [.ref o 0]]=>match slK .i64 x,σ[o]? with
    |some l,some (.box 9 [.lit (.string e)])=>l.length≤1000000∧k (.lit (.int .i64 (idxG (fun n=> !vld e n) l 0))) σ
    |_,_=>False
   |_=>False
  ok:=by
   intro args σ k h
   split at h
   ·split at h
    ·rename_i hx ho
     exact EC.weak (indexf_ec h.1 ho h.2) (LeRL.cons (slK_leR hx) (LeRL.cons (LeR.refl _) LeRL.nil))
    ·exact h.elim
   ·exact h.elim
  fk:=fk166
theorem con166_f:con166.f=166:=rfl
theorem con166_c {σ:List AObj} {k:AV→List AObj→Prop} {x:AV} {o:Nat}:con166.c [x,.fn (.func 146) [] [.ref o 0]] σ k=match slK .i64 x,σ[o]? with
      |some l,some (.box 9 [.lit (.string e)])=>l.length≤1000000∧k (.lit (.int .i64 (idxG (fun n=> !vld e n) l 0))) σ
      |_,_=>False:=rfl
noncomputable def E5:Env:=envOf (P:=Tryz.prog) zer (fun _=>false) (fun _=>false) [] [con166]
theorem E5_ok:EnvOk Tryz.prog E5:=envOk zer_ok
theorem containsf_ec {σ:List AObj} {o:Nat} {e:ByteArray} {l:List Int} (hl:l.length≤1000000) (ho:σ[o]? =some (.box 9 [.lit (.string e)])) {k:AV→List AObj→Prop} (hk:k (.lit (.bool (l.any fun n=> !vld e n))) σ):
    EC Tryz.prog 145 [.sl false 1 (ints .i64 l),.fn (.func 146) [] [.ref o 0]] σ k:=by
  rw [←idxG_any _ l 0 (by omega)] at hk
  refine ecO E5_ok (fun _=>[0,1,4]) Tryz.func145 (h:=fun KF=>?_)
  unfold E5
  with_reducible repeat' first|(refine nx ?_;intros)|apply And.intro|intro vr|(refine ny ?_;intros;simp only [go_sem,geff,con166_f,con166_c,slK_sl,ho])
  all_goals try exact om
  refine end_ret rfl ?_
  simp only [go_sem]
  exact hk
noncomputable def con145:ECon Tryz.prog where
  f:=145
  c:=fun args σ k=>match args with
   |[x,.fn (.func 146) [] [.ref o 0]]=>match slK .i64 x,σ[o]? with
    |some l,some (.box 9 [.lit (.string e)])=>l.length≤1000000∧k (.lit (.bool (l.any fun n=> !vld e n))) σ
    |_,_=>False
   |_=>False
  ok:=by
   intro args σ k h
   split at h
   ·split at h
    ·rename_i hx ho
     exact EC.weak (containsf_ec h.1 ho h.2) (LeRL.cons (slK_leR hx) (LeRL.cons (LeR.refl _) LeRL.nil))
    ·exact h.elim
   ·exact h.elim
  fk:=fk145
theorem con145_f:con145.f=145:=rfl
theorem con145_c {σ:List AObj} {k:AV→List AObj→Prop} {x:AV} {o:Nat}:con145.c [x,.fn (.func 146) [] [.ref o 0]] σ k=match slK .i64 x,σ[o]? with
      |some l,some (.box 9 [.lit (.string e)])=>l.length≤1000000∧k (.lit (.bool (l.any fun n=> !vld e n))) σ
      |_,_=>False:=rfl
noncomputable def E6:Env:=envOf (P:=Tryz.prog) zer (fun _=>false) (fun _=>false) [] [con145]
theorem E6_ok:EnvOk Tryz.prog E6:=envOk zer_ok
theorem elements_pc {e:ByteArray} {l:List Int} (hl:l.length≤1000000):PC Tryz.prog 114 [.lit (.string e),.sl false 1 (ints .i64 l)] (.lit (.bool (!(l.any fun n=> !vld e n)))):=by
  refine pcO E6_ok (fun _=>[1,2,4]) Tryz.func114 (h:=fun KF=>?_)
  unfold E6
  with_reducible repeat' first|(refine nx ?_;intros)|apply And.intro|intro vr|(refine ny ?_;intros;simp only [go_sem,geff,con145_f,con145_c,slK_sl])
  all_goals try exact om
  refine end_ret rfl ?_
  simp only [fin,go_sem]
  exact LeA.refl _
noncomputable def con114:PCon Tryz.prog where
  f:=114
  c:=fun
   |[.lit (.string e),xl]=>match slK .i64 xl with|some l=>some (l.length≤1000000,.lit (.bool (!(l.any fun n=> !vld e n))))|_=>none
   |_=>none
  ok:=by
   intro args p r hc hp
   split at hc
   ·split at hc
    ·rename_i hl
     cases hc
     exact PC.weak (elements_pc hp) ⟨LeA.refl _,slK_le hl,trivial⟩
    ·cases hc
   ·cases hc
  fk:=fk114
theorem con114_f:con114.f=114:=rfl
theorem con114_c {e:ByteArray} {xl:AV}:con114.c [.lit (.string e),xl]=match slK .i64 xl with|some l=>some (l.length≤1000000,.lit (.bool (!(l.any fun n=> !vld e n))))|_=>none:=rfl
theorem szV_def {p:Int×Int}:szV p= .tup [.lit (.int .i64 p.1),.lit (.int .i64 p.2)]:=rfl
theorem arrV_def {a:Arr}:arrV a= .agg [.lit (.string a.e),.sl false 1 (ints .i64 a.d),.sl false 1 (ints .i64 a.x)]:=rfl
theorem nilA_le:LeA (.agg [.lit (.string ByteArray.empty),.sl true 1 [],.sl true 1 []]) (arrV nilA):=LeA.agg ⟨LeA.of_eq rfl,LeA.full _ _ _,LeA.full _ _ _,trivial⟩
theorem nilAe_le {e:Int}:LeA (.tup [.agg [.lit (.string ByteArray.empty),.sl true 1 [],.sl true 1 []],.lit (.int .i64 e)]) (aeV (nilA,e)):=LeA.tup ⟨nilA_le,LeA.refl _,trivial⟩
def tyOk (e:ByteArray):Bool:=eqS e ⟨#[105,110,116]⟩||eqS e ⟨#[98,111,111,108]⟩
def bad (a:Arr):Bool:=a.x.any fun n=> !vld a.e n
theorem ofE_ty {a:Arr} (h:tyOk a.e=false):ofE a=12:=if_pos h
theorem ofE_sz {a:Arr} (h:tyOk a.e=true) (h2:(sizeS a.d).2≠0):ofE a=(sizeS a.d).2:=by
  unfold ofE;rw [if_neg (show ¬ (eqS a.e sInt||eqS a.e sBool)=false from fun e=>by have e:tyOk a.e=false:=e;rw [h] at e;cases e),if_pos h2]
theorem ofE_len {a:Arr} (h:tyOk a.e=true) (h2:(sizeS a.d).2=0) (h3:(a.x.length:Int)≠(sizeS a.d).1):ofE a=1:=by
  unfold ofE;rw [if_neg (show ¬ (eqS a.e sInt||eqS a.e sBool)=false from fun e=>by have e:tyOk a.e=false:=e;rw [h] at e;cases e),if_neg (by simpa using h2),if_pos h3]
theorem ofE_el {a:Arr} (h:tyOk a.e=true) (h2:(sizeS a.d).2=0) (h3:(a.x.length:Int)=(sizeS a.d).1):ofE a=if bad a=true then 2 else 0:=by
  unfold ofE;rw [if_neg (show ¬ (eqS a.e sInt||eqS a.e sBool)=false from fun e=>by have e:tyOk a.e=false:=e;rw [h] at e;cases e),if_neg (by simpa using h2),if_neg (by simpa using h3)];rfl
theorem ofS_err {a:Arr} {e:Int} (h:ofE a=e) (h0:e≠0):ofS a=(nilA,e):=by unfold ofS;rw [h,if_neg h0]
theorem ofS_ok {a:Arr} (h:ofE a=0):ofS a=(a,0):=by unfold ofS;rw [if_pos h]
noncomputable def E7:Env:=envOf (P:=Tryz.prog) zer (fun _=>false) (fun _=>false) [con51,con62,con114] []
theorem E7_ok:EnvOk Tryz.prog E7:=envOk zer_ok
set_option maxRecDepth 20000 in
set_option maxHeartbeats 2000000 in
theorem of_pc {e:ByteArray} {d x:List Int} (hd:d.length≤1000000) (hx:x.length≤1000000):PC Tryz.prog 73 [.lit (.string e),.sl false 1 (ints .i64 d),.sl false 1 (ints .i64 x)] (aeV (ofS ⟨e,d,x⟩)):=by
  have hz:=sizeS_bd d
  by_cases t:tyOk e=true
  ·generalize hS:sizeS d=s at hz
   obtain ⟨n,er⟩:=s
   simp only at hz
   have hS1:(sizeS d).1=n:=by rw [hS]
   have hS2:(sizeS d).2=er:=by rw [hS]
   by_cases t1:eqS e ⟨#[105,110,116]⟩=true
   ·skip
    by_cases e0:er=0
    ·subst e0
     by_cases hn:(x.length:Int)=n
     ·have n1:((x.length:Int) !=n)=false:=by rw [bne_eq_false_iff_eq];exact hn
      by_cases hb:bad ⟨e,d,x⟩=true
      ·rw [ofS_err (e:=2) (by rw [ofE_el t hS2 (by rw [hS1];exact hn),if_pos hb]) (by decide)]
       have hb':(x.any fun n=> !vld e n)=true:=hb
       refine pcO E7_ok (fun _=>[0,1,2,6,7,8,9,15,22,27,33]) Tryz.func73 (h:=fun KF=>?_)
       unfold E7
       with_reducible repeat' first|(refine nx ?_;intros)|apply And.intro|intro vr|(refine ny ?_;intros;simp only [go_sem,geff,con51_f,con62_f,con114_f,con51_c,con62_c,con114_c,slK_sl,t1,hS,szV_def,n1,hb',Bool.not_true])
       all_goals try exact om
       refine end_ret rfl ?_
       simp only [fin,go_sem]
       exact nilAe_le
      ·rw [ofS_ok (by rw [ofE_el t hS2 (by rw [hS1];exact hn),if_neg hb])]
       have hb':(x.any fun n=> !vld e n)=false:=Bool.eq_false_iff.2 hb
       refine pcO E7_ok (fun _=>[0,1,2,6,7,8,9,15,22,27,33]) Tryz.func73 (h:=fun KF=>?_)
       unfold E7
       with_reducible repeat' first|(refine nx ?_;intros)|apply And.intro|intro vr|(refine ny ?_;intros;simp only [go_sem,geff,con51_f,con62_f,con114_f,con51_c,con62_c,con114_c,slK_sl,t1,hS,szV_def,n1,hb',Bool.not_false])
       all_goals try exact om
       refine end_ret rfl ?_
       simp only [fin,go_sem]
       exact LeA.refl _
     ·have n1:((x.length:Int) !=n)=true:=by rw [bne_iff_ne];exact hn
      rw [ofS_err (e:=1) (ofE_len t hS2 (by rw [hS1];exact hn)) (by decide)]
      refine pcO E7_ok (fun _=>[0,1,2,6,7,8,9,15,22,27,33]) Tryz.func73 (h:=fun KF=>?_)
      unfold E7
      with_reducible repeat' first|(refine nx ?_;intros)|apply And.intro|intro vr|(refine ny ?_;intros;simp only [go_sem,geff,con51_f,con62_f,con114_f,con51_c,con62_c,con114_c,slK_sl,t1,hS,szV_def,n1])
      all_goals try exact om
      refine end_ret rfl ?_
      simp only [fin,go_sem]
      exact nilAe_le
    ·have e1:(er !=0)=true:=by rw [bne_iff_ne];exact e0
     rw [ofS_err (by rw [ofE_sz t (by rw [hS2];exact e0)]) (by rw [hS2];exact e0)]
     refine pcO E7_ok (fun _=>[0,1,2,6,7,8,9,15,22,27,33]) Tryz.func73 (h:=fun KF=>?_)
     unfold E7
     with_reducible repeat' first|(refine nx ?_;intros)|apply And.intro|intro vr|(refine ny ?_;intros;simp only [go_sem,geff,con51_f,con62_f,con114_f,con51_c,con62_c,con114_c,slK_sl,t1,hS,szV_def,e1])
     all_goals try exact om
     refine end_ret rfl ?_
     simp only [fin,go_sem,hS]
     exact nilAe_le
   ·have t2:eqS e ⟨#[98,111,111,108]⟩=true:=by unfold tyOk at t;rw [Bool.or_eq_true] at t;exact t.resolve_left t1
    have t1':eqS e ⟨#[105,110,116]⟩=false:=by simpa using t1
    by_cases e0:er=0
    ·subst e0
     by_cases hn:(x.length:Int)=n
     ·have n1:((x.length:Int) !=n)=false:=by rw [bne_eq_false_iff_eq];exact hn
      by_cases hb:bad ⟨e,d,x⟩=true
      ·rw [ofS_err (e:=2) (by rw [ofE_el t hS2 (by rw [hS1];exact hn),if_pos hb]) (by decide)]
       have hb':(x.any fun n=> !vld e n)=true:=hb
       refine pcO E7_ok (fun _=>[0,1,2,6,7,8,9,15,22,27,33]) Tryz.func73 (h:=fun KF=>?_)
       unfold E7
       with_reducible repeat' first|(refine nx ?_;intros)|apply And.intro|intro vr|(refine ny ?_;intros;simp only [go_sem,geff,con51_f,con62_f,con114_f,con51_c,con62_c,con114_c,slK_sl,t1',t2,hS,szV_def,n1,hb',Bool.not_true])
       all_goals try exact om
       refine end_ret rfl ?_
       simp only [fin,go_sem]
       exact nilAe_le
      ·rw [ofS_ok (by rw [ofE_el t hS2 (by rw [hS1];exact hn),if_neg hb])]
       have hb':(x.any fun n=> !vld e n)=false:=Bool.eq_false_iff.2 hb
       refine pcO E7_ok (fun _=>[0,1,2,6,7,8,9,15,22,27,33]) Tryz.func73 (h:=fun KF=>?_)
       unfold E7
       with_reducible repeat' first|(refine nx ?_;intros)|apply And.intro|intro vr|(refine ny ?_;intros;simp only [go_sem,geff,con51_f,con62_f,con114_f,con51_c,con62_c,con114_c,slK_sl,t1',t2,hS,szV_def,n1,hb',Bool.not_false])
       all_goals try exact om
       refine end_ret rfl ?_
       simp only [fin,go_sem]
       exact LeA.refl _
     ·have n1:((x.length:Int) !=n)=true:=by rw [bne_iff_ne];exact hn
      rw [ofS_err (e:=1) (ofE_len t hS2 (by rw [hS1];exact hn)) (by decide)]
      refine pcO E7_ok (fun _=>[0,1,2,6,7,8,9,15,22,27,33]) Tryz.func73 (h:=fun KF=>?_)
      unfold E7
      with_reducible repeat' first|(refine nx ?_;intros)|apply And.intro|intro vr|(refine ny ?_;intros;simp only [go_sem,geff,con51_f,con62_f,con114_f,con51_c,con62_c,con114_c,slK_sl,t1',t2,hS,szV_def,n1])
      all_goals try exact om
      refine end_ret rfl ?_
      simp only [fin,go_sem]
      exact nilAe_le
    ·have e1:(er !=0)=true:=by rw [bne_iff_ne];exact e0
     rw [ofS_err (by rw [ofE_sz t (by rw [hS2];exact e0)]) (by rw [hS2];exact e0)]
     refine pcO E7_ok (fun _=>[0,1,2,6,7,8,9,15,22,27,33]) Tryz.func73 (h:=fun KF=>?_)
     unfold E7
     with_reducible repeat' first|(refine nx ?_;intros)|apply And.intro|intro vr|(refine ny ?_;intros;simp only [go_sem,geff,con51_f,con62_f,con114_f,con51_c,con62_c,con114_c,slK_sl,t1',t2,hS,szV_def,e1])
     all_goals try exact om
     refine end_ret rfl ?_
     simp only [fin,go_sem,hS]
     exact nilAe_le
  ·have t':tyOk e=false:=by simpa using t
   have t1:eqS e ⟨#[105,110,116]⟩=false:=(Bool.or_eq_false_iff.1 t').1
   have t2:eqS e ⟨#[98,111,111,108]⟩=false:=(Bool.or_eq_false_iff.1 t').2
   rw [ofS_err (ofE_ty t') (by decide)]
   refine pcO E7_ok (fun _=>[0,1,2,6,7,8,9,15,22,27,33]) Tryz.func73 (h:=fun KF=>?_)
   unfold E7
   with_reducible repeat' first|(refine nx ?_;intros)|apply And.intro|intro vr|(refine ny ?_;intros;simp only [go_sem,geff,con51_f,con62_f,con114_f,con51_c,con62_c,con114_c,t1,t2])
   all_goals try exact om
   refine end_ret rfl ?_
   simp only [fin,go_sem]
   exact nilAe_le
noncomputable def con73:PCon Tryz.prog where
  f:=73
  c:=fun
   |[.lit (.string e),xd,xx]=>match slK .i64 xd,slK .i64 xx with|some d,some x=>some (d.length≤1000000∧x.length≤1000000,aeV (ofS ⟨e,d,x⟩))|_,_=>none
   |_=>none
  ok:=by
   intro args p r hc hp
   split at hc
   ·split at hc
    ·rename_i hd hx
     cases hc
     exact PC.weak ((fun hp:_∧_=>of_pc hp.1 hp.2) hp) ⟨LeA.refl _,slK_le hd,slK_le hx,trivial⟩
    ·cases hc
   ·cases hc
  fk:=fk73
theorem con73_f:con73.f=73:=rfl
theorem con73_c {e:ByteArray} {xd:AV} {xx:AV}:con73.c [.lit (.string e),xd,xx]=match slK .i64 xd,slK .i64 xx with|some d,some x=>some (d.length≤1000000∧x.length≤1000000,aeV (ofS ⟨e,d,x⟩))|_,_=>none:=rfl
theorem aeV_def {p:Arr×Int}:aeV p= .tup [arrV p.1,.lit (.int .i64 p.2)]:=rfl
theorem ofS_snd (a:Arr):(ofS a).2=ofE a:=by
  unfold ofS
  split
  ·rename_i h;exact h.symm
  ·rfl
noncomputable def E9:Env:=envOf (P:=Tryz.prog) zer (fun _=>false) (fun _=>false) [con73] []
theorem E9_ok:EnvOk Tryz.prog E9:=envOk zer_ok
theorem valid_pc {a:Arr} (hd:a.d.length≤1000000) (hx:a.x.length≤1000000):PC Tryz.prog 46 [arrV a] (.lit (.bool (ofE a==0))):=by
  rw [←ofS_snd]
  refine pcO E9_ok (fun _=>[1,2,4]) Tryz.func46 (h:=fun KF=>?_)
  unfold E9
  with_reducible repeat' first|(refine nx ?_;intros)|apply And.intro|intro vr|(refine ny ?_;intros;simp only [go_sem,geff,con73_f,con73_c,slK_sl,arrV_def,aeV_def])
  all_goals try exact om
  refine end_ret rfl ?_
  simp only [fin,go_sem]
  exact LeA.refl _
noncomputable def con46:PCon Tryz.prog where
  f:=46
  c:=fun
   |[xa]=>match arrOf xa with|some a=>some (a.d.length≤1000000∧a.x.length≤1000000,.lit (.bool (ofE a==0)))|_=>none
   |_=>none
  ok:=by
   intro args p r hc hp
   split at hc
   ·split at hc
    ·rename_i ha
     cases hc
     exact PC.weak ((fun hp:_∧_=>valid_pc hp.1 hp.2) hp) ⟨arrOf_le ha,trivial⟩
    ·cases hc
   ·cases hc
  fk:=fk46
theorem con46_f:con46.f=46:=rfl
theorem con46_c {xa:AV}:con46.c [xa]=match arrOf xa with|some a=>some (a.d.length≤1000000∧a.x.length≤1000000,.lit (.bool (ofE a==0)))|_=>none:=rfl
end Go.Proofs.YtnlimcijgpaegaaGreat

namespace Go.Proofs.YtnlimcijgpaegaaGreat
open Go Go.Fw
set_option maxRecDepth 20000
def okA (a:Arr):Prop:=a.d.length≤1000000∧a.x.length≤1000000
def fewA (a:Arr) (n:Int):Bool:=decide ((a.e.size:Int)≤20)&&(decide ((a.d.length:Int)≤8)&&decide ((a.x.length:Int)≤n))
theorem few_pc {a:Arr} {n:Int}:PC Tryz.prog 18 [arrV a,.lit (.int .i64 n)] (.lit (.bool (fewA a n))):=by
  unfold fewA
  by_cases h1:(a.e.size:Int)≤20
  ·have e1:decide ((a.e.size:Int)≤20)=true:=decide_eq_true h1
   by_cases h2:(a.d.length:Int)≤8
   ·have e2:decide ((a.d.length:Int)≤8)=true:=decide_eq_true h2
    rw [e1,e2]
    refine pcO E0_ok (fun _=>[1,2,4]) Tryz.func18 (h:=fun KF=>?_)
    unfold E0
    with_reducible repeat' first|(refine nx ?_;intros)|refine t_br (fun hc=>?_) fun hc=>?_|refine t_bx ?_|apply And.intro|intro vr|((first|refine ny ?_|refine t_dwh (h:=fun K KL=>?_));intros;simp only [go_sem,geff,arrV_def,e1,e2])
    all_goals try exact om
    refine end_ret rfl ?_
    simp only [fin,go_sem]
    exact LeA.refl _
   ·have e2:decide ((a.d.length:Int)≤8)=false:=decide_eq_false h2
    rw [e1,e2]
    refine pcO E0_ok (fun _=>[1,2,4]) Tryz.func18 (h:=fun KF=>?_)
    unfold E0
    with_reducible repeat' first|(refine nx ?_;intros)|refine t_br (fun hc=>?_) fun hc=>?_|refine t_bx ?_|apply And.intro|intro vr|((first|refine ny ?_|refine t_dwh (h:=fun K KL=>?_));intros;simp only [go_sem,geff,arrV_def,e1,e2])
    all_goals try exact om
    refine end_ret rfl ?_
    simp only [fin,go_sem]
    exact LeA.refl _
  ·have e1:decide ((a.e.size:Int)≤20)=false:=decide_eq_false h1
   rw [e1]
   refine pcO E0_ok (fun _=>[1,2,4]) Tryz.func18 (h:=fun KF=>?_)
   unfold E0
   with_reducible repeat' first|(refine nx ?_;intros)|refine t_br (fun hc=>?_) fun hc=>?_|refine t_bx ?_|apply And.intro|intro vr|((first|refine ny ?_|refine t_dwh (h:=fun K KL=>?_));intros;simp only [go_sem,geff,arrV_def,e1])
   all_goals try exact om
   refine end_ret rfl ?_
   simp only [fin,go_sem]
   exact LeA.refl _
noncomputable def con18:PCon Tryz.prog where
  f:=18
  c:=fun
   |[xa,.lit (.int .i64 n)]=>match arrOf xa with|some a=>some (True,.lit (.bool (fewA a n)))|_=>none
   |_=>none
  ok:=by
   intro args p r hc hp
   split at hc
   ·split at hc
    ·rename_i ha
     cases hc
     exact PC.weak few_pc ⟨arrOf_le ha,LeA.refl _,trivial⟩
    ·cases hc
   ·cases hc
  fk:=fk18
theorem con18_f:con18.f=18:=rfl
theorem con18_c {xa:AV} {n:Int}:con18.c [xa,.lit (.int .i64 n)]=match arrOf xa with|some a=>some (True,.lit (.bool (fewA a n)))|_=>none:=rfl
end Go.Proofs.YtnlimcijgpaegaaGreat

namespace Go.Proofs.YtnlimcijgpaegaaGreat
open Go Go.Fw
set_option maxRecDepth 20000
def fieldTs (P:Program) (t:TypeId):List TypeId:=match P.underlying t with
  |some (.struct fs)=>fs.toList.map (·.type)
  |_=>[]
theorem struct_of {P:Program} {t:TypeId} {ts:List TypeId} (hne:ts≠[]) (h:fieldTs P t=ts):∃ fs:Array Field,P.underlying t=some (.struct fs)∧fs.toList.map (·.type)=ts:=by
  unfold fieldTs at h
  split at h
  ·rename_i e;exact ⟨_,e,h⟩
  ·exact absurd h.symm hne
theorem sh_fields {P:Program} {t:TypeId} {ts:List TypeId} {xs:List AV} (hne:ts≠[]) (ht:fieldTs P t=ts) (h:Sh P t xs):
    ∃ xss:List (List AV),xs=xss.flatten∧xss.length=ts.length∧∀ (i:Nat) (u:TypeId) (ys:List AV),ts[i]? =some u→xss[i]? =some ys→Sh P u ys:=by
  obtain ⟨fs,hf,hm⟩:=struct_of hne ht
  obtain ⟨xss,h1,h2,h3⟩:=sh_struct hf h
  refine ⟨xss,h1,by rw [h2,←hm];simp,fun i u ys hu hy=>?_⟩
  rw [←hm,List.getElem?_map] at hu
  cases hi:fs.toList[i]? with
  |none=>rw [hi] at hu;cases hu
  |some f=>rw [hi] at hu;cases hu;exact h3 i f ys hi hy
theorem sh_three {P:Program} {t a b c:TypeId} {xs:List AV} (ht:fieldTs P t=[a,b,c]) (h:Sh P t xs):∃ p q r,xs=p++(q++r)∧Sh P a p∧Sh P b q∧Sh P c r:=by
  obtain ⟨xss,h1,h2,h3⟩:=sh_fields (by simp) ht h
  match xss,h2 with
  |[p,q,r],_=>exact ⟨p,q,r,by simpa using h1,h3 0 a p rfl rfl,h3 1 b q rfl rfl,h3 2 c r rfl rfl⟩
theorem sh_two {P:Program} {t a b:TypeId} {xs:List AV} (ht:fieldTs P t=[a,b]) (h:Sh P t xs):∃ p q,xs=p++q∧Sh P a p∧Sh P b q:=by
  obtain ⟨xss,h1,h2,h3⟩:=sh_fields (by simp) ht h
  match xss,h2 with
  |[p,q],_=>exact ⟨p,q,by simpa using h1,h3 0 a p rfl rfl,h3 1 b q rfl rfl⟩
theorem ft45:fieldTs Tryz.prog 45=[9,34,34]:=by kernel_rfl
def okW (a:Arr):Prop:=(∀ n∈a.d,inI64 n)∧(∀ n∈a.x,inI64 n)∧a.d.length≤maxLen∧a.x.length≤maxLen
theorem shv_arr {x:AV} (h:ShV Tryz.prog 45 x):∃ a:Arr,x=arrV a∧okW a:=by
  obtain ⟨c,rfl,hc⟩:=shv_agg ag45 h
  obtain ⟨p,q,r,rfl,hp,hq,hr⟩:=sh_three ft45 hc
  obtain ⟨s,rfl,hs⟩:=sh_str u9 hp
  obtain ⟨d,rfl,hd,hd'⟩:=sh_ints u34 u3 sz3 hq
  obtain ⟨w,rfl,hw,hw'⟩:=sh_ints u34 u3 sz3 hr
  exact ⟨⟨s,d,w⟩,rfl,fun n hn=>wf_i64 (hd' n hn),fun n hn=>wf_i64 (hw' n hn),hd,hw⟩
theorem list_arrs {q:Arr→Prop}:∀ {ys:List AV},(∀ y∈ys,∃ a,y=arrV a∧q a)→∃ l:List Arr,ys=arrs l∧∀ a∈l,q a
  |[],_=>⟨[],rfl,by simp⟩
  |y::ys,h=>by
   obtain ⟨n,rfl,hn⟩:=h y (by simp)
   obtain ⟨l,rfl,hl⟩:=list_arrs (ys:=ys) fun z hz=>h z (by simp [hz])
   exact ⟨n::l,rfl,fun m hm=>by rcases List.mem_cons.1 hm with rfl|hm;exact hn;exact hl m hm⟩
theorem shv_arrs {x:AV} (h:ShV Tryz.prog 24 x):∃ l:List Arr,x= .sl false 3 (arrs l)∧l.length≤maxLen∧∀ a∈l,okW a:=by
  obtain ⟨ys,rfl,hl,hy⟩:=shv_slice u24 h
  obtain ⟨l,rfl,hq⟩:=list_arrs fun y hm=>shv_arr (hy y hm)
  exact ⟨l,by rw [sz45],by simpa [arrs] using hl,hq⟩
end Go.Proofs.YtnlimcijgpaegaaGreat

namespace Go.Fw
end Go.Fw
namespace Go.Proofs.YtnlimcijgpaegaaGreat
open Go Go.Fw
set_option maxRecDepth 20000
end Go.Proofs.YtnlimcijgpaegaaGreat

namespace Go.Proofs.YtnlimcijgpaegaaGreat
open Go Go.Fw
set_option maxRecDepth 20000
def axOk (n:Int) (axes:List Int) (i:Nat):Bool:= !decide (axes.getD i 0<0)&&(!decide (axes.getD i 0≥n)&& !(decide ((i:Int)>0)&&decide (axes.getD (i - 1) 0≥axes.getD i 0)))
def axP (n:Int) (axes:List Int):Prop:=∀ i,i<axes.length→axOk n axes i=true
instance (n:Int) (axes:List Int):Decidable (axP n axes):=inferInstanceAs (Decidable (∀ i,i<axes.length→axOk n axes i=true))
end Go.Proofs.YtnlimcijgpaegaaGreat

namespace Go.Proofs.YtnlimcijgpaegaaGreat
open Go Go.Fw
set_option maxRecDepth 20000
def jA:AV:=arrV nilA
def jI:AV:= .sl false 1 []
def jk:TypeId→AV:=lookZ [(3,.lit (.int .i64 0)),(9,.lit (.string ByteArray.empty)),(34,jI),(45,jA)]
theorem jk3:jk 3= .lit (.int .i64 0):=rfl
theorem jk9:jk 9= .lit (.string ByteArray.empty):=rfl
theorem jk34:jk 34=jI:=rfl
theorem jk45:jk 45=jA:=rfl
theorem arrs_getJ (l:List Arr) (i:Nat):(arrs l).getD i jA=arrV (l.getD i nilA):=by
  simp only [arrs,jA,List.getD_eq_getElem?_getD,List.getElem?_map];cases l[i]? <;>rfl
attribute [go_sem] jk3 jk9 jk34 jk45 arrs_getJ
end Go.Proofs.YtnlimcijgpaegaaGreat

namespace Go.Proofs.YtnlimcijgpaegaaGreat.El
open Go.Proofs.YtnlimcijgpaegaaGreat
open Go Go.Fw
set_option maxRecDepth 20000
noncomputable def E0:Env:=envOf (P:=Tryz.prog) zer (fun _=>false) (fun _=>false) [] []
theorem E0_ok:EnvOk Tryz.prog E0:=envOk zer_ok
def el (n:Int):Prop:= -2147483648≤n∧n≤2147483647
def w32 (n:Int):Int:=IntKind.i32.wrap n
theorem w32_eq (n:Int):w32 n=(n+2147483648) % 4294967296 - 2147483648:=by
  unfold w32 IntKind.wrap
  have e1:IntKind.i32.bits=32:=rfl
  have e2:IntKind.i32.signed=true:=rfl
  simp only [e1,e2]
  simp
  try omega
theorem w32_el (n:Int):el (w32 n):=by rw [w32_eq];unfold el;omega
theorem w32_id {n:Int} (h:el n):w32 n=n:=by rw [w32_eq];unfold el at h;omega
theorem el_i64 {n:Int} (h:el n):inI64 n:=by unfold el at h;unfold inI64;omega
theorem wrap_w32 (n:Int):IntKind.i64.wrap (IntKind.i32.wrap n)=w32 n:=wrap_i64 (el_i64 (w32_el n))
theorem wrap_pc {f:FuncId} {n:Int} (hf:f=126∨f=136):PC Tryz.prog f [.lit (.int .i64 n)] (.lit (.int .i64 (w32 n))):=by
  rcases hf with rfl|rfl
  ·skip
   refine pcO E0_ok (fun _=>[0,2]) Tryz.func126 (h:=fun KF=>?_)
   unfold E0
   with_reducible repeat' first|(refine nx ?_;intros)|refine t_br (fun hc=>?_) fun hc=>?_|refine t_bx ?_|apply And.intro|intro vr|((first|refine ny ?_|refine t_dwh (h:=fun K KL=>?_));intros;simp only [go_sem,geff])
   refine end_ret rfl ?_
   simp only [fin,go_sem,wrap_w32]
   exact LeA.refl _
  ·skip
   refine pcO E0_ok (fun _=>[0,2]) Tryz.func136 (h:=fun KF=>?_)
   unfold E0
   with_reducible repeat' first|(refine nx ?_;intros)|refine t_br (fun hc=>?_) fun hc=>?_|refine t_bx ?_|apply And.intro|intro vr|((first|refine ny ?_|refine t_dwh (h:=fun K KL=>?_));intros;simp only [go_sem,geff])
   refine end_ret rfl ?_
   simp only [fin,go_sem,wrap_w32]
   exact LeA.refl _
noncomputable def wrapCon (f:FuncId) (h:f=126∨f=136):PCon Tryz.prog where
  f:=f
  c:=fun
   |[.lit (.int .i64 n)]=>some (True,.lit (.int .i64 (w32 n)))
   |_=>none
  ok:=by
   intro args p r hc hp
   split at hc
   ·cases hc;exact wrap_pc h
   ·cases hc
  fk:=by
   rcases h with rfl|rfl
   ·exact fk126
   ·exact fk136
noncomputable def con126:=wrapCon 126 (.inl rfl)
theorem con126_f:con126.f=126:=rfl
theorem con126_c {n:Int}:con126.c [.lit (.int .i64 n)]=some (True,.lit (.int .i64 (w32 n))):=rfl
def tru (b:Bool):Int:=if b=true then 1 else 0
theorem tru_pc {f:FuncId} {b:Bool} (hf:f=171∨f=176):PC Tryz.prog f [.lit (.bool b)] (.lit (.int .i64 (tru b))):=by
  rcases hf with rfl|rfl<;>cases b
  ·skip
   refine pcO E0_ok (fun _=>[0,2,3]) Tryz.func171 (h:=fun KF=>?_)
   unfold E0
   with_reducible repeat' first|(refine nx ?_;intros)|refine t_br (fun hc=>?_) fun hc=>?_|refine t_bx ?_|apply And.intro|intro vr|((first|refine ny ?_|refine t_dwh (h:=fun K KL=>?_));intros;simp only [go_sem,geff])
   refine end_ret rfl ?_
   simp only [fin,go_sem]
   exact LeA.refl _
  ·skip
   refine pcO E0_ok (fun _=>[0,2,3]) Tryz.func171 (h:=fun KF=>?_)
   unfold E0
   with_reducible repeat' first|(refine nx ?_;intros)|refine t_br (fun hc=>?_) fun hc=>?_|refine t_bx ?_|apply And.intro|intro vr|((first|refine ny ?_|refine t_dwh (h:=fun K KL=>?_));intros;simp only [go_sem,geff])
   refine end_ret rfl ?_
   simp only [fin,go_sem]
   exact LeA.refl _
  ·skip
   refine pcO E0_ok (fun _=>[0,2,3]) Tryz.func176 (h:=fun KF=>?_)
   unfold E0
   with_reducible repeat' first|(refine nx ?_;intros)|refine t_br (fun hc=>?_) fun hc=>?_|refine t_bx ?_|apply And.intro|intro vr|((first|refine ny ?_|refine t_dwh (h:=fun K KL=>?_));intros;simp only [go_sem,geff])
   refine end_ret rfl ?_
   simp only [fin,go_sem]
   exact LeA.refl _
  ·skip
   refine pcO E0_ok (fun _=>[0,2,3]) Tryz.func176 (h:=fun KF=>?_)
   unfold E0
   with_reducible repeat' first|(refine nx ?_;intros)|refine t_br (fun hc=>?_) fun hc=>?_|refine t_bx ?_|apply And.intro|intro vr|((first|refine ny ?_|refine t_dwh (h:=fun K KL=>?_));intros;simp only [go_sem,geff])
   refine end_ret rfl ?_
   simp only [fin,go_sem]
   exact LeA.refl _
noncomputable def truCon (f:FuncId) (h:f=171∨f=176):PCon Tryz.prog where
  f:=f
  c:=fun
   |[.lit (.bool b)]=>some (True,.lit (.int .i64 (tru b)))
   |_=>none
  ok:=by
   intro args p r hc hp
   split at hc
   ·cases hc;exact tru_pc h
   ·cases hc
  fk:=by
   rcases h with rfl|rfl
   ·exact fk171
   ·exact fk176
noncomputable def con176:=truCon 176 (.inr rfl)
theorem con176_f:con176.f=176:=rfl
theorem con176_c {b:Bool}:con176.c [.lit (.bool b)]=some (True,.lit (.int .i64 (tru b))):=rfl
theorem tdiv_bd {a b:Int} (ha:el a) (hb:b≠0): -2147483648≤a.tdiv b∧a.tdiv b≤2147483648:=by
  unfold el at ha
  have:=Int.natAbs_tdiv_le_natAbs a b
  omega
def flo (a b:Int):Int:=if b=0 then 0 else if a.tmod b≠0∧decide (a<0)≠decide (b<0) then a.tdiv b - 1 else a.tdiv b
theorem flo_pc {f:FuncId} {a b:Int} (hf:f=173∨f=172) (ha:el a):PC Tryz.prog f [.lit (.int .i64 a),.lit (.int .i64 b)] (.lit (.int .i64 (flo a b))):=by
  unfold flo
  by_cases hb:b=0
  ·subst hb
   rcases hf with rfl|rfl
   ·skip
    refine pcO E0_ok (fun _=>[0,1,4,5,7,21]) Tryz.func173 (h:=fun KF=>?_)
    unfold E0
    with_reducible repeat' first|(refine nx ?_;intros)|apply And.intro|intro vr|(refine ny ?_;intros;simp only [go_sem,geff])
    refine end_ret rfl ?_
    simp only [fin,go_sem]
    exact LeA.refl _
   ·skip
    refine pcO E0_ok (fun _=>[0,1,4,5,7,21]) Tryz.func172 (h:=fun KF=>?_)
    unfold E0
    with_reducible repeat' first|(refine nx ?_;intros)|apply And.intro|intro vr|(refine ny ?_;intros;simp only [go_sem,geff])
    refine end_ret rfl ?_
    simp only [fin,go_sem]
    exact LeA.refl _
  have hd:=tdiv_bd ha hb
  have z:(b==0)=false:=by rw [beq_eq_false_iff_ne];exact hb
  rw [if_neg hb]
  by_cases h0:a.tmod b=0
  ·have z0:(a.tmod b !=0)=false:=by rw [bne_eq_false_iff_eq];exact h0
   rw [if_neg (fun h=>h.1 h0)]
   rcases hf with rfl|rfl
   ·skip
    refine pcO E0_ok (fun _=>[0,1,4,5,7,21]) Tryz.func173 (h:=fun KF=>?_)
    unfold E0
    with_reducible repeat' first|(refine nx ?_;intros)|apply And.intro|intro vr|(refine ny ?_;intros;simp only [go_sem,geff,z,z0])
    all_goals try exact om
    refine end_ret rfl ?_
    simp only [fin,go_sem]
    exact LeA.refl _
   ·skip
    refine pcO E0_ok (fun _=>[0,1,4,5,7,21]) Tryz.func172 (h:=fun KF=>?_)
    unfold E0
    with_reducible repeat' first|(refine nx ?_;intros)|apply And.intro|intro vr|(refine ny ?_;intros;simp only [go_sem,geff,z,z0])
    all_goals try exact om
    refine end_ret rfl ?_
    simp only [fin,go_sem]
    exact LeA.refl _
  have z0:(a.tmod b !=0)=true:=by rw [bne_iff_ne];exact h0
  by_cases h1:decide (a<0)=decide (b<0)
  ·have z1:(decide (a<0)==decide (b<0))=true:=by rw [beq_iff_eq];exact h1
   rw [if_neg (fun h=>h.2 h1)]
   rcases hf with rfl|rfl
   ·skip
    refine pcO E0_ok (fun _=>[0,1,4,5,7,21]) Tryz.func173 (h:=fun KF=>?_)
    unfold E0
    with_reducible repeat' first|(refine nx ?_;intros)|apply And.intro|intro vr|(refine ny ?_;intros;simp only [go_sem,geff,z,z0,z1])
    all_goals try exact om
    refine end_ret rfl ?_
    simp only [fin,go_sem]
    exact LeA.refl _
   ·skip
    refine pcO E0_ok (fun _=>[0,1,4,5,7,21]) Tryz.func172 (h:=fun KF=>?_)
    unfold E0
    with_reducible repeat' first|(refine nx ?_;intros)|apply And.intro|intro vr|(refine ny ?_;intros;simp only [go_sem,geff,z,z0,z1])
    all_goals try exact om
    refine end_ret rfl ?_
    simp only [fin,go_sem]
    exact LeA.refl _
  ·have z1:(decide (a<0)==decide (b<0))=false:=by rw [beq_eq_false_iff_ne];exact h1
   rw [if_pos ⟨h0,h1⟩]
   rcases hf with rfl|rfl
   ·skip
    refine pcO E0_ok (fun _=>[0,1,4,5,7,21]) Tryz.func173 (h:=fun KF=>?_)
    unfold E0
    with_reducible repeat' first|(refine nx ?_;intros)|apply And.intro|intro vr|(refine ny ?_;intros;simp only [go_sem,geff,z,z0,z1])
    all_goals try exact om
    refine end_ret rfl ?_
    simp only [fin,go_sem]
    exact LeA.refl _
   ·skip
    refine pcO E0_ok (fun _=>[0,1,4,5,7,21]) Tryz.func172 (h:=fun KF=>?_)
    unfold E0
    with_reducible repeat' first|(refine nx ?_;intros)|apply And.intro|intro vr|(refine ny ?_;intros;simp only [go_sem,geff,z,z0,z1])
    all_goals try exact om
    refine end_ret rfl ?_
    simp only [fin,go_sem]
    exact LeA.refl _
noncomputable def floCon (f:FuncId) (h:f=173∨f=172):PCon Tryz.prog where
  f:=f
  c:=fun
   |[.lit (.int .i64 a),.lit (.int .i64 b)]=>some (el a,.lit (.int .i64 (flo a b)))
   |_=>none
  ok:=by
   intro args p r hc hp
   split at hc
   ·cases hc;exact flo_pc h hp
   ·cases hc
  fk:=by
   rcases h with rfl|rfl
   ·exact fk173
   ·exact fk172
noncomputable def con173:=floCon 173 (.inl rfl)
theorem con173_f:con173.f=173:=rfl
theorem con173_c {a b:Int}:con173.c [.lit (.int .i64 a),.lit (.int .i64 b)]=some (el a,.lit (.int .i64 (flo a b))):=rfl
def sgn (a:Int):Int:=if a<0 then -1 else if a>0 then 1 else 0
theorem nan_pc {a:Int}:PC Tryz.prog 133 [.lit (.int .i64 a)] (.lit (.bool false)):=by
  refine pcO E0_ok (fun _=>[0,2]) Tryz.func133 (h:=fun KF=>?_)
  unfold E0
  with_reducible repeat' first|(refine nx ?_;intros)|refine t_br (fun hc=>?_) fun hc=>?_|refine t_bx ?_|apply And.intro|intro vr|((first|refine ny ?_|refine t_dwh (h:=fun K KL=>?_));intros;simp only [go_sem,geff,bne_self_eq_false])
  refine end_ret rfl ?_
  simp only [fin,go_sem,bne_self_eq_false]
  exact LeA.refl _
noncomputable def con133:PCon Tryz.prog where
  f:=133
  c:=fun
   |[.lit (.int .i64 _)]=>some (True,.lit (.bool false))
   |_=>none
  ok:=by
   intro args p r hc hp
   split at hc
   ·cases hc;exact nan_pc
   ·cases hc
  fk:=fk133
theorem con133_f:con133.f=133:=rfl
theorem con133_c {a:Int}:con133.c [.lit (.int .i64 a)]=some (True,.lit (.bool false)):=rfl
noncomputable def E1:Env:=envOf (P:=Tryz.prog) zer (fun _=>false) (fun _=>false) [con133] []
theorem E1_ok:EnvOk Tryz.prog E1:=envOk zer_ok
theorem cmp_pc {a:Int}:PC Tryz.prog 174 [.lit (.int .i64 a),.lit (.int .i64 0)] (.lit (.int .i64 (sgn a))):=by
  unfold sgn
  by_cases h1:a<0
  ·have z:decide (a<0)=true:=decide_eq_true h1
   rw [if_pos h1]
   refine pcO E1_ok (fun _=>[0,1,4,5,6,11,12,13,16,19]) Tryz.func174 (h:=fun KF=>?_)
   unfold E1
   with_reducible repeat' first|(refine nx ?_;intros)|refine t_br (fun hc=>?_) fun hc=>?_|refine t_bx ?_|apply And.intro|intro vr|((first|refine ny ?_|refine t_dwh (h:=fun K KL=>?_));intros;simp only [go_sem,geff,con133_f,con133_c,z])
   refine end_ret rfl ?_
   simp only [fin,go_sem]
   exact LeA.refl _
  have z:decide (a<0)=false:=decide_eq_false h1
  rw [if_neg h1]
  by_cases h2:a>0
  ·have z2:decide (a>0)=true:=decide_eq_true h2
   rw [if_pos h2]
   refine pcO E1_ok (fun _=>[0,1,4,5,6,11,12,13,16,19]) Tryz.func174 (h:=fun KF=>?_)
   unfold E1
   with_reducible repeat' first|(refine nx ?_;intros)|refine t_br (fun hc=>?_) fun hc=>?_|refine t_bx ?_|apply And.intro|intro vr|((first|refine ny ?_|refine t_dwh (h:=fun K KL=>?_));intros;simp only [go_sem,geff,con133_f,con133_c,z,z2])
   refine end_ret rfl ?_
   simp only [fin,go_sem]
   exact LeA.refl _
  ·have z2:decide (a>0)=false:=decide_eq_false h2
   rw [if_neg h2]
   refine pcO E1_ok (fun _=>[0,1,4,5,6,11,12,13,16,19]) Tryz.func174 (h:=fun KF=>?_)
   unfold E1
   with_reducible repeat' first|(refine nx ?_;intros)|refine t_br (fun hc=>?_) fun hc=>?_|refine t_bx ?_|apply And.intro|intro vr|((first|refine ny ?_|refine t_dwh (h:=fun K KL=>?_));intros;simp only [go_sem,geff,con133_f,con133_c,z,z2])
   refine end_ret rfl ?_
   simp only [fin,go_sem]
   exact LeA.refl _
noncomputable def con174:PCon Tryz.prog where
  f:=174
  c:=fun
   |[.lit (.int .i64 a),.lit (.int .i64 0)]=>some (True,.lit (.int .i64 (sgn a)))
   |_=>none
  ok:=by
   intro args p r hc hp
   split at hc
   ·cases hc;exact cmp_pc
   ·cases hc
  fk:=fk174
theorem con174_f:con174.f=174:=rfl
theorem con174_c {a:Int}:con174.c [.lit (.int .i64 a),.lit (.int .i64 0)]=some (True,.lit (.int .i64 (sgn a))):=rfl
def sInt:ByteArray:=⟨#[105,110,116]⟩
def sBool:ByteArray:=⟨#[98,111,111,108]⟩
def sA:ByteArray:=⟨#[65]⟩
def vld (s:ByteArray) (n:Int):Bool:=if eqS s sInt=true then decide (-2147483648≤n∧n≤2147483647) else if eqS s sBool=true then decide (n=0∨n=1) else false
theorem eqS_iff {a b:ByteArray}:eqS a b=true ↔ a=b:=by
  unfold eqS
  rw [beq_iff_eq]
  constructor
  ·intro h
   apply ByteArray.ext
   apply Array.ext'
   simpa using h
  ·intro h;rw [h]
theorem eqS_refl (b:ByteArray):eqS b b=true:=eqS_iff.2 rfl
theorem vld_pc {f:FuncId} {s:ByteArray} {n:Int} (hf:f=147∨f=91):PC Tryz.prog f [.lit (.string s),.lit (.int .i64 n)] (.lit (.bool (vld s n))):=by
  unfold vld sInt sBool
  by_cases h1:eqS s ⟨#[105,110,116]⟩=true
  ·have hs:s=⟨#[105,110,116]⟩:=eqS_iff.1 h1
   have h2:eqS s ⟨#[98,111,111,108]⟩=false:=by rw [hs];rfl
   rw [if_pos h1]
   by_cases h3:n≥ -2147483648
   ·have z3:decide (n≥ -2147483648)=true:=decide_eq_true h3
    have e:decide (-2147483648≤n∧n≤2147483647)=decide (n≤2147483647):=by simp;omega
    rw [e]
    rcases hf with rfl|rfl
    ·skip
     refine pcO E0_ok (fun _=>[0,1,4,5,6,14]) Tryz.func147 (h:=fun KF=>?_)
     unfold E0
     with_reducible repeat' first|(refine nx ?_;intros)|refine t_br (fun hc=>?_) fun hc=>?_|refine t_bx ?_|apply And.intro|intro vr|((first|refine ny ?_|refine t_dwh (h:=fun K KL=>?_));intros;simp only [go_sem,geff,h1,h2,z3])
     refine end_ret rfl ?_
     simp only [fin,go_sem]
     exact LeA.refl _
    ·skip
     refine pcO E0_ok (fun _=>[0,1,4,6]) Tryz.func91 (h:=fun KF=>?_)
     unfold E0
     with_reducible repeat' first|(refine nx ?_;intros)|refine t_br (fun hc=>?_) fun hc=>?_|refine t_bx ?_|apply And.intro|intro vr|((first|refine ny ?_|refine t_dwh (h:=fun K KL=>?_));intros;simp only [go_sem,geff,h1,h2,z3])
     refine end_ret rfl ?_
     simp only [fin,go_sem]
     exact LeA.refl _
   ·have z3:decide (n≥ -2147483648)=false:=decide_eq_false h3
    have e:decide (-2147483648≤n∧n≤2147483647)=false:=by simp;omega
    rw [e]
    rcases hf with rfl|rfl
    ·skip
     refine pcO E0_ok (fun _=>[0,1,4,5,6,14]) Tryz.func147 (h:=fun KF=>?_)
     unfold E0
     with_reducible repeat' first|(refine nx ?_;intros)|refine t_br (fun hc=>?_) fun hc=>?_|refine t_bx ?_|apply And.intro|intro vr|((first|refine ny ?_|refine t_dwh (h:=fun K KL=>?_));intros;simp only [go_sem,geff,h1,h2,z3])
     refine end_ret rfl ?_
     simp only [fin,go_sem]
     exact LeA.refl _
    ·skip
     refine pcO E0_ok (fun _=>[0,1,4,6]) Tryz.func91 (h:=fun KF=>?_)
     unfold E0
     with_reducible repeat' first|(refine nx ?_;intros)|refine t_br (fun hc=>?_) fun hc=>?_|refine t_bx ?_|apply And.intro|intro vr|((first|refine ny ?_|refine t_dwh (h:=fun K KL=>?_));intros;simp only [go_sem,geff,h1,h2,z3])
     refine end_ret rfl ?_
     simp only [fin,go_sem]
     exact LeA.refl _
  ·have h1':eqS s ⟨#[105,110,116]⟩=false:=by simpa using h1
   rw [if_neg h1]
   by_cases h2:eqS s ⟨#[98,111,111,108]⟩=true
   ·rw [if_pos h2]
    by_cases h3:n=0
    ·have z3:(n==0)=true:=by rw [beq_iff_eq];exact h3
     have e:decide (n=0∨n=1)=true:=decide_eq_true (.inl h3)
     rw [e]
     rcases hf with rfl|rfl
     ·skip
      refine pcO E0_ok (fun _=>[0,1,4,5,6,14]) Tryz.func147 (h:=fun KF=>?_)
      unfold E0
      with_reducible repeat' first|(refine nx ?_;intros)|refine t_br (fun hc=>?_) fun hc=>?_|refine t_bx ?_|apply And.intro|intro vr|((first|refine ny ?_|refine t_dwh (h:=fun K KL=>?_));intros;simp only [go_sem,geff,h1',h2,z3])
      refine end_ret rfl ?_
      simp only [fin,go_sem]
      exact LeA.refl _
     ·skip
      refine pcO E0_ok (fun _=>[0,1,4,6]) Tryz.func91 (h:=fun KF=>?_)
      unfold E0
      with_reducible repeat' first|(refine nx ?_;intros)|refine t_br (fun hc=>?_) fun hc=>?_|refine t_bx ?_|apply And.intro|intro vr|((first|refine ny ?_|refine t_dwh (h:=fun K KL=>?_));intros;simp only [go_sem,geff,h1',h2,z3])
      refine end_ret rfl ?_
      simp only [fin,go_sem]
      exact LeA.refl _
    ·have z3:(n==0)=false:=by rw [beq_eq_false_iff_ne];exact h3
     have e:decide (n=0∨n=1)=(n==1):=by
       by_cases h4:n=1
       ·subst h4;rfl
       ·rw [decide_eq_false (by omega)];symm;rw [beq_eq_false_iff_ne];exact h4
     rw [e]
     rcases hf with rfl|rfl
     ·skip
      refine pcO E0_ok (fun _=>[0,1,4,5,6,14]) Tryz.func147 (h:=fun KF=>?_)
      unfold E0
      with_reducible repeat' first|(refine nx ?_;intros)|refine t_br (fun hc=>?_) fun hc=>?_|refine t_bx ?_|apply And.intro|intro vr|((first|refine ny ?_|refine t_dwh (h:=fun K KL=>?_));intros;simp only [go_sem,geff,h1',h2,z3])
      refine end_ret rfl ?_
      simp only [fin,go_sem]
      exact LeA.refl _
     ·skip
      refine pcO E0_ok (fun _=>[0,1,4,6]) Tryz.func91 (h:=fun KF=>?_)
      unfold E0
      with_reducible repeat' first|(refine nx ?_;intros)|refine t_br (fun hc=>?_) fun hc=>?_|refine t_bx ?_|apply And.intro|intro vr|((first|refine ny ?_|refine t_dwh (h:=fun K KL=>?_));intros;simp only [go_sem,geff,h1',h2,z3])
      refine end_ret rfl ?_
      simp only [fin,go_sem]
      exact LeA.refl _
   ·have h2':eqS s ⟨#[98,111,111,108]⟩=false:=by simpa using h2
    rw [if_neg h2]
    rcases hf with rfl|rfl
    ·skip
     refine pcO E0_ok (fun _=>[0,1,4,5,6,14]) Tryz.func147 (h:=fun KF=>?_)
     unfold E0
     with_reducible repeat' first|(refine nx ?_;intros)|refine t_br (fun hc=>?_) fun hc=>?_|refine t_bx ?_|apply And.intro|intro vr|((first|refine ny ?_|refine t_dwh (h:=fun K KL=>?_));intros;simp only [go_sem,geff,h1',h2'])
     refine end_ret rfl ?_
     simp only [fin,go_sem]
     exact LeA.refl _
    ·skip
     refine pcO E0_ok (fun _=>[0,1,4,6]) Tryz.func91 (h:=fun KF=>?_)
     unfold E0
     with_reducible repeat' first|(refine nx ?_;intros)|refine t_br (fun hc=>?_) fun hc=>?_|refine t_bx ?_|apply And.intro|intro vr|((first|refine ny ?_|refine t_dwh (h:=fun K KL=>?_));intros;simp only [go_sem,geff,h1',h2'])
     refine end_ret rfl ?_
     simp only [fin,go_sem]
     exact LeA.refl _
noncomputable def vldCon (f:FuncId) (h:f=147∨f=91):PCon Tryz.prog where
  f:=f
  c:=fun
   |[.lit (.string s),.lit (.int .i64 n)]=>some (True,.lit (.bool (vld s n)))
   |_=>none
  ok:=by
   intro args p r hc hp
   split at hc
   ·cases hc;exact vld_pc h
   ·cases hc
  fk:=by
   rcases h with rfl|rfl
   ·exact fk147
   ·exact fk91
noncomputable def con147:=vldCon 147 (.inl rfl)
theorem con147_f:con147.f=147:=rfl
theorem con147_c {s:ByteArray} {n:Int}:con147.c [.lit (.string s),.lit (.int .i64 n)]=some (True,.lit (.bool (vld s n))):=rfl
end Go.Proofs.YtnlimcijgpaegaaGreat.El

namespace Go.Proofs.YtnlimcijgpaegaaGreat.El
open Go.Proofs.YtnlimcijgpaegaaGreat
open Go Go.Fw
set_option maxRecDepth 20000
abbrev w0:ByteArray:=⟨#[97,100,100]⟩
abbrev w1:ByteArray:=⟨#[115,117,98]⟩
abbrev w2:ByteArray:=⟨#[109,117,108]⟩
abbrev w3:ByteArray:=⟨#[100,105,118]⟩
abbrev w4:ByteArray:=⟨#[109,111,100]⟩
abbrev w5:ByteArray:=⟨#[109,105,110]⟩
abbrev w6:ByteArray:=⟨#[109,97,120]⟩
abbrev w7:ByteArray:=⟨#[110,101,103]⟩
abbrev w8:ByteArray:=⟨#[97,98,115]⟩
abbrev w9:ByteArray:=⟨#[115,105,103,110]⟩
abbrev w10:ByteArray:=⟨#[108,116]⟩
abbrev w11:ByteArray:=⟨#[108,101]⟩
abbrev w12:ByteArray:=⟨#[103,116]⟩
abbrev w13:ByteArray:=⟨#[103,101]⟩
abbrev w14:ByteArray:=⟨#[101,113]⟩
abbrev w15:ByteArray:=⟨#[110,101]⟩
abbrev w16:ByteArray:=⟨#[97,110,100]⟩
abbrev w17:ByteArray:=⟨#[111,114]⟩
abbrev w18:ByteArray:=⟨#[120,111,114]⟩
abbrev w19:ByteArray:=⟨#[110,111,116]⟩
abbrev w20:ByteArray:=⟨#[115,101,108,101,99,116]⟩
abbrev w21:ByteArray:=⟨#[116,111,105,110,116]⟩
abbrev w22:ByteArray:=⟨#[105,110,116]⟩
abbrev w23:ByteArray:=⟨#[98,111,111,108]⟩
abbrev w24:ByteArray:=⟨#[65]⟩
abbrev w25:ByteArray:=⟨#[]⟩
theorem qr0:eqS w0 w0=true∧eqS w0 w1=false∧eqS w0 w2=false∧eqS w0 w3=false∧eqS w0 w4=false∧eqS w0 w5=false∧eqS w0 w6=false∧eqS w0 w7=false∧eqS w0 w8=false∧eqS w0 w9=false∧eqS w0 w10=false∧eqS w0 w11=false∧eqS w0 w12=false∧eqS w0 w13=false∧eqS w0 w14=false∧eqS w0 w15=false∧eqS w0 w16=false∧eqS w0 w17=false∧eqS w0 w18=false∧eqS w0 w19=false∧eqS w0 w20=false∧eqS w0 w21=false∧eqS w0 w22=false∧eqS w0 w23=false∧eqS w0 w24=false∧eqS w0 w25=false:=by and_intros<;>rfl
theorem qr1:eqS w1 w0=false∧eqS w1 w1=true∧eqS w1 w2=false∧eqS w1 w3=false∧eqS w1 w4=false∧eqS w1 w5=false∧eqS w1 w6=false∧eqS w1 w7=false∧eqS w1 w8=false∧eqS w1 w9=false∧eqS w1 w10=false∧eqS w1 w11=false∧eqS w1 w12=false∧eqS w1 w13=false∧eqS w1 w14=false∧eqS w1 w15=false∧eqS w1 w16=false∧eqS w1 w17=false∧eqS w1 w18=false∧eqS w1 w19=false∧eqS w1 w20=false∧eqS w1 w21=false∧eqS w1 w22=false∧eqS w1 w23=false∧eqS w1 w24=false∧eqS w1 w25=false:=by and_intros<;>rfl
theorem qr2:eqS w2 w0=false∧eqS w2 w1=false∧eqS w2 w2=true∧eqS w2 w3=false∧eqS w2 w4=false∧eqS w2 w5=false∧eqS w2 w6=false∧eqS w2 w7=false∧eqS w2 w8=false∧eqS w2 w9=false∧eqS w2 w10=false∧eqS w2 w11=false∧eqS w2 w12=false∧eqS w2 w13=false∧eqS w2 w14=false∧eqS w2 w15=false∧eqS w2 w16=false∧eqS w2 w17=false∧eqS w2 w18=false∧eqS w2 w19=false∧eqS w2 w20=false∧eqS w2 w21=false∧eqS w2 w22=false∧eqS w2 w23=false∧eqS w2 w24=false∧eqS w2 w25=false:=by and_intros<;>rfl
theorem qr3:eqS w3 w0=false∧eqS w3 w1=false∧eqS w3 w2=false∧eqS w3 w3=true∧eqS w3 w4=false∧eqS w3 w5=false∧eqS w3 w6=false∧eqS w3 w7=false∧eqS w3 w8=false∧eqS w3 w9=false∧eqS w3 w10=false∧eqS w3 w11=false∧eqS w3 w12=false∧eqS w3 w13=false∧eqS w3 w14=false∧eqS w3 w15=false∧eqS w3 w16=false∧eqS w3 w17=false∧eqS w3 w18=false∧eqS w3 w19=false∧eqS w3 w20=false∧eqS w3 w21=false∧eqS w3 w22=false∧eqS w3 w23=false∧eqS w3 w24=false∧eqS w3 w25=false:=by and_intros<;>rfl
theorem qr4:eqS w4 w0=false∧eqS w4 w1=false∧eqS w4 w2=false∧eqS w4 w3=false∧eqS w4 w4=true∧eqS w4 w5=false∧eqS w4 w6=false∧eqS w4 w7=false∧eqS w4 w8=false∧eqS w4 w9=false∧eqS w4 w10=false∧eqS w4 w11=false∧eqS w4 w12=false∧eqS w4 w13=false∧eqS w4 w14=false∧eqS w4 w15=false∧eqS w4 w16=false∧eqS w4 w17=false∧eqS w4 w18=false∧eqS w4 w19=false∧eqS w4 w20=false∧eqS w4 w21=false∧eqS w4 w22=false∧eqS w4 w23=false∧eqS w4 w24=false∧eqS w4 w25=false:=by and_intros<;>rfl
theorem qr5:eqS w5 w0=false∧eqS w5 w1=false∧eqS w5 w2=false∧eqS w5 w3=false∧eqS w5 w4=false∧eqS w5 w5=true∧eqS w5 w6=false∧eqS w5 w7=false∧eqS w5 w8=false∧eqS w5 w9=false∧eqS w5 w10=false∧eqS w5 w11=false∧eqS w5 w12=false∧eqS w5 w13=false∧eqS w5 w14=false∧eqS w5 w15=false∧eqS w5 w16=false∧eqS w5 w17=false∧eqS w5 w18=false∧eqS w5 w19=false∧eqS w5 w20=false∧eqS w5 w21=false∧eqS w5 w22=false∧eqS w5 w23=false∧eqS w5 w24=false∧eqS w5 w25=false:=by and_intros<;>rfl
theorem qr6:eqS w6 w0=false∧eqS w6 w1=false∧eqS w6 w2=false∧eqS w6 w3=false∧eqS w6 w4=false∧eqS w6 w5=false∧eqS w6 w6=true∧eqS w6 w7=false∧eqS w6 w8=false∧eqS w6 w9=false∧eqS w6 w10=false∧eqS w6 w11=false∧eqS w6 w12=false∧eqS w6 w13=false∧eqS w6 w14=false∧eqS w6 w15=false∧eqS w6 w16=false∧eqS w6 w17=false∧eqS w6 w18=false∧eqS w6 w19=false∧eqS w6 w20=false∧eqS w6 w21=false∧eqS w6 w22=false∧eqS w6 w23=false∧eqS w6 w24=false∧eqS w6 w25=false:=by and_intros<;>rfl
theorem qr7:eqS w7 w0=false∧eqS w7 w1=false∧eqS w7 w2=false∧eqS w7 w3=false∧eqS w7 w4=false∧eqS w7 w5=false∧eqS w7 w6=false∧eqS w7 w7=true∧eqS w7 w8=false∧eqS w7 w9=false∧eqS w7 w10=false∧eqS w7 w11=false∧eqS w7 w12=false∧eqS w7 w13=false∧eqS w7 w14=false∧eqS w7 w15=false∧eqS w7 w16=false∧eqS w7 w17=false∧eqS w7 w18=false∧eqS w7 w19=false∧eqS w7 w20=false∧eqS w7 w21=false∧eqS w7 w22=false∧eqS w7 w23=false∧eqS w7 w24=false∧eqS w7 w25=false:=by and_intros<;>rfl
theorem qr8:eqS w8 w0=false∧eqS w8 w1=false∧eqS w8 w2=false∧eqS w8 w3=false∧eqS w8 w4=false∧eqS w8 w5=false∧eqS w8 w6=false∧eqS w8 w7=false∧eqS w8 w8=true∧eqS w8 w9=false∧eqS w8 w10=false∧eqS w8 w11=false∧eqS w8 w12=false∧eqS w8 w13=false∧eqS w8 w14=false∧eqS w8 w15=false∧eqS w8 w16=false∧eqS w8 w17=false∧eqS w8 w18=false∧eqS w8 w19=false∧eqS w8 w20=false∧eqS w8 w21=false∧eqS w8 w22=false∧eqS w8 w23=false∧eqS w8 w24=false∧eqS w8 w25=false:=by and_intros<;>rfl
theorem qr9:eqS w9 w0=false∧eqS w9 w1=false∧eqS w9 w2=false∧eqS w9 w3=false∧eqS w9 w4=false∧eqS w9 w5=false∧eqS w9 w6=false∧eqS w9 w7=false∧eqS w9 w8=false∧eqS w9 w9=true∧eqS w9 w10=false∧eqS w9 w11=false∧eqS w9 w12=false∧eqS w9 w13=false∧eqS w9 w14=false∧eqS w9 w15=false∧eqS w9 w16=false∧eqS w9 w17=false∧eqS w9 w18=false∧eqS w9 w19=false∧eqS w9 w20=false∧eqS w9 w21=false∧eqS w9 w22=false∧eqS w9 w23=false∧eqS w9 w24=false∧eqS w9 w25=false:=by and_intros<;>rfl
theorem qr10:eqS w10 w0=false∧eqS w10 w1=false∧eqS w10 w2=false∧eqS w10 w3=false∧eqS w10 w4=false∧eqS w10 w5=false∧eqS w10 w6=false∧eqS w10 w7=false∧eqS w10 w8=false∧eqS w10 w9=false∧eqS w10 w10=true∧eqS w10 w11=false∧eqS w10 w12=false∧eqS w10 w13=false∧eqS w10 w14=false∧eqS w10 w15=false∧eqS w10 w16=false∧eqS w10 w17=false∧eqS w10 w18=false∧eqS w10 w19=false∧eqS w10 w20=false∧eqS w10 w21=false∧eqS w10 w22=false∧eqS w10 w23=false∧eqS w10 w24=false∧eqS w10 w25=false:=by and_intros<;>rfl
theorem qr11:eqS w11 w0=false∧eqS w11 w1=false∧eqS w11 w2=false∧eqS w11 w3=false∧eqS w11 w4=false∧eqS w11 w5=false∧eqS w11 w6=false∧eqS w11 w7=false∧eqS w11 w8=false∧eqS w11 w9=false∧eqS w11 w10=false∧eqS w11 w11=true∧eqS w11 w12=false∧eqS w11 w13=false∧eqS w11 w14=false∧eqS w11 w15=false∧eqS w11 w16=false∧eqS w11 w17=false∧eqS w11 w18=false∧eqS w11 w19=false∧eqS w11 w20=false∧eqS w11 w21=false∧eqS w11 w22=false∧eqS w11 w23=false∧eqS w11 w24=false∧eqS w11 w25=false:=by and_intros<;>rfl
theorem qr12:eqS w12 w0=false∧eqS w12 w1=false∧eqS w12 w2=false∧eqS w12 w3=false∧eqS w12 w4=false∧eqS w12 w5=false∧eqS w12 w6=false∧eqS w12 w7=false∧eqS w12 w8=false∧eqS w12 w9=false∧eqS w12 w10=false∧eqS w12 w11=false∧eqS w12 w12=true∧eqS w12 w13=false∧eqS w12 w14=false∧eqS w12 w15=false∧eqS w12 w16=false∧eqS w12 w17=false∧eqS w12 w18=false∧eqS w12 w19=false∧eqS w12 w20=false∧eqS w12 w21=false∧eqS w12 w22=false∧eqS w12 w23=false∧eqS w12 w24=false∧eqS w12 w25=false:=by and_intros<;>rfl
theorem qr13:eqS w13 w0=false∧eqS w13 w1=false∧eqS w13 w2=false∧eqS w13 w3=false∧eqS w13 w4=false∧eqS w13 w5=false∧eqS w13 w6=false∧eqS w13 w7=false∧eqS w13 w8=false∧eqS w13 w9=false∧eqS w13 w10=false∧eqS w13 w11=false∧eqS w13 w12=false∧eqS w13 w13=true∧eqS w13 w14=false∧eqS w13 w15=false∧eqS w13 w16=false∧eqS w13 w17=false∧eqS w13 w18=false∧eqS w13 w19=false∧eqS w13 w20=false∧eqS w13 w21=false∧eqS w13 w22=false∧eqS w13 w23=false∧eqS w13 w24=false∧eqS w13 w25=false:=by and_intros<;>rfl
theorem qr14:eqS w14 w0=false∧eqS w14 w1=false∧eqS w14 w2=false∧eqS w14 w3=false∧eqS w14 w4=false∧eqS w14 w5=false∧eqS w14 w6=false∧eqS w14 w7=false∧eqS w14 w8=false∧eqS w14 w9=false∧eqS w14 w10=false∧eqS w14 w11=false∧eqS w14 w12=false∧eqS w14 w13=false∧eqS w14 w14=true∧eqS w14 w15=false∧eqS w14 w16=false∧eqS w14 w17=false∧eqS w14 w18=false∧eqS w14 w19=false∧eqS w14 w20=false∧eqS w14 w21=false∧eqS w14 w22=false∧eqS w14 w23=false∧eqS w14 w24=false∧eqS w14 w25=false:=by and_intros<;>rfl
theorem qr15:eqS w15 w0=false∧eqS w15 w1=false∧eqS w15 w2=false∧eqS w15 w3=false∧eqS w15 w4=false∧eqS w15 w5=false∧eqS w15 w6=false∧eqS w15 w7=false∧eqS w15 w8=false∧eqS w15 w9=false∧eqS w15 w10=false∧eqS w15 w11=false∧eqS w15 w12=false∧eqS w15 w13=false∧eqS w15 w14=false∧eqS w15 w15=true∧eqS w15 w16=false∧eqS w15 w17=false∧eqS w15 w18=false∧eqS w15 w19=false∧eqS w15 w20=false∧eqS w15 w21=false∧eqS w15 w22=false∧eqS w15 w23=false∧eqS w15 w24=false∧eqS w15 w25=false:=by and_intros<;>rfl
theorem qr16:eqS w16 w0=false∧eqS w16 w1=false∧eqS w16 w2=false∧eqS w16 w3=false∧eqS w16 w4=false∧eqS w16 w5=false∧eqS w16 w6=false∧eqS w16 w7=false∧eqS w16 w8=false∧eqS w16 w9=false∧eqS w16 w10=false∧eqS w16 w11=false∧eqS w16 w12=false∧eqS w16 w13=false∧eqS w16 w14=false∧eqS w16 w15=false∧eqS w16 w16=true∧eqS w16 w17=false∧eqS w16 w18=false∧eqS w16 w19=false∧eqS w16 w20=false∧eqS w16 w21=false∧eqS w16 w22=false∧eqS w16 w23=false∧eqS w16 w24=false∧eqS w16 w25=false:=by and_intros<;>rfl
theorem qr17:eqS w17 w0=false∧eqS w17 w1=false∧eqS w17 w2=false∧eqS w17 w3=false∧eqS w17 w4=false∧eqS w17 w5=false∧eqS w17 w6=false∧eqS w17 w7=false∧eqS w17 w8=false∧eqS w17 w9=false∧eqS w17 w10=false∧eqS w17 w11=false∧eqS w17 w12=false∧eqS w17 w13=false∧eqS w17 w14=false∧eqS w17 w15=false∧eqS w17 w16=false∧eqS w17 w17=true∧eqS w17 w18=false∧eqS w17 w19=false∧eqS w17 w20=false∧eqS w17 w21=false∧eqS w17 w22=false∧eqS w17 w23=false∧eqS w17 w24=false∧eqS w17 w25=false:=by and_intros<;>rfl
theorem qr18:eqS w18 w0=false∧eqS w18 w1=false∧eqS w18 w2=false∧eqS w18 w3=false∧eqS w18 w4=false∧eqS w18 w5=false∧eqS w18 w6=false∧eqS w18 w7=false∧eqS w18 w8=false∧eqS w18 w9=false∧eqS w18 w10=false∧eqS w18 w11=false∧eqS w18 w12=false∧eqS w18 w13=false∧eqS w18 w14=false∧eqS w18 w15=false∧eqS w18 w16=false∧eqS w18 w17=false∧eqS w18 w18=true∧eqS w18 w19=false∧eqS w18 w20=false∧eqS w18 w21=false∧eqS w18 w22=false∧eqS w18 w23=false∧eqS w18 w24=false∧eqS w18 w25=false:=by and_intros<;>rfl
theorem qr19:eqS w19 w0=false∧eqS w19 w1=false∧eqS w19 w2=false∧eqS w19 w3=false∧eqS w19 w4=false∧eqS w19 w5=false∧eqS w19 w6=false∧eqS w19 w7=false∧eqS w19 w8=false∧eqS w19 w9=false∧eqS w19 w10=false∧eqS w19 w11=false∧eqS w19 w12=false∧eqS w19 w13=false∧eqS w19 w14=false∧eqS w19 w15=false∧eqS w19 w16=false∧eqS w19 w17=false∧eqS w19 w18=false∧eqS w19 w19=true∧eqS w19 w20=false∧eqS w19 w21=false∧eqS w19 w22=false∧eqS w19 w23=false∧eqS w19 w24=false∧eqS w19 w25=false:=by and_intros<;>rfl
theorem qr20:eqS w20 w0=false∧eqS w20 w1=false∧eqS w20 w2=false∧eqS w20 w3=false∧eqS w20 w4=false∧eqS w20 w5=false∧eqS w20 w6=false∧eqS w20 w7=false∧eqS w20 w8=false∧eqS w20 w9=false∧eqS w20 w10=false∧eqS w20 w11=false∧eqS w20 w12=false∧eqS w20 w13=false∧eqS w20 w14=false∧eqS w20 w15=false∧eqS w20 w16=false∧eqS w20 w17=false∧eqS w20 w18=false∧eqS w20 w19=false∧eqS w20 w20=true∧eqS w20 w21=false∧eqS w20 w22=false∧eqS w20 w23=false∧eqS w20 w24=false∧eqS w20 w25=false:=by and_intros<;>rfl
theorem qr21:eqS w21 w0=false∧eqS w21 w1=false∧eqS w21 w2=false∧eqS w21 w3=false∧eqS w21 w4=false∧eqS w21 w5=false∧eqS w21 w6=false∧eqS w21 w7=false∧eqS w21 w8=false∧eqS w21 w9=false∧eqS w21 w10=false∧eqS w21 w11=false∧eqS w21 w12=false∧eqS w21 w13=false∧eqS w21 w14=false∧eqS w21 w15=false∧eqS w21 w16=false∧eqS w21 w17=false∧eqS w21 w18=false∧eqS w21 w19=false∧eqS w21 w20=false∧eqS w21 w21=true∧eqS w21 w22=false∧eqS w21 w23=false∧eqS w21 w24=false∧eqS w21 w25=false:=by and_intros<;>rfl
theorem qr22:eqS w22 w0=false∧eqS w22 w1=false∧eqS w22 w2=false∧eqS w22 w3=false∧eqS w22 w4=false∧eqS w22 w5=false∧eqS w22 w6=false∧eqS w22 w7=false∧eqS w22 w8=false∧eqS w22 w9=false∧eqS w22 w10=false∧eqS w22 w11=false∧eqS w22 w12=false∧eqS w22 w13=false∧eqS w22 w14=false∧eqS w22 w15=false∧eqS w22 w16=false∧eqS w22 w17=false∧eqS w22 w18=false∧eqS w22 w19=false∧eqS w22 w20=false∧eqS w22 w21=false∧eqS w22 w22=true∧eqS w22 w23=false∧eqS w22 w24=false∧eqS w22 w25=false:=by and_intros<;>rfl
theorem qr23:eqS w23 w0=false∧eqS w23 w1=false∧eqS w23 w2=false∧eqS w23 w3=false∧eqS w23 w4=false∧eqS w23 w5=false∧eqS w23 w6=false∧eqS w23 w7=false∧eqS w23 w8=false∧eqS w23 w9=false∧eqS w23 w10=false∧eqS w23 w11=false∧eqS w23 w12=false∧eqS w23 w13=false∧eqS w23 w14=false∧eqS w23 w15=false∧eqS w23 w16=false∧eqS w23 w17=false∧eqS w23 w18=false∧eqS w23 w19=false∧eqS w23 w20=false∧eqS w23 w21=false∧eqS w23 w22=false∧eqS w23 w23=true∧eqS w23 w24=false∧eqS w23 w25=false:=by and_intros<;>rfl
theorem qr24:eqS w24 w0=false∧eqS w24 w1=false∧eqS w24 w2=false∧eqS w24 w3=false∧eqS w24 w4=false∧eqS w24 w5=false∧eqS w24 w6=false∧eqS w24 w7=false∧eqS w24 w8=false∧eqS w24 w9=false∧eqS w24 w10=false∧eqS w24 w11=false∧eqS w24 w12=false∧eqS w24 w13=false∧eqS w24 w14=false∧eqS w24 w15=false∧eqS w24 w16=false∧eqS w24 w17=false∧eqS w24 w18=false∧eqS w24 w19=false∧eqS w24 w20=false∧eqS w24 w21=false∧eqS w24 w22=false∧eqS w24 w23=false∧eqS w24 w24=true∧eqS w24 w25=false:=by and_intros<;>rfl
theorem qr25:eqS w25 w0=false∧eqS w25 w1=false∧eqS w25 w2=false∧eqS w25 w3=false∧eqS w25 w4=false∧eqS w25 w5=false∧eqS w25 w6=false∧eqS w25 w7=false∧eqS w25 w8=false∧eqS w25 w9=false∧eqS w25 w10=false∧eqS w25 w11=false∧eqS w25 w12=false∧eqS w25 w13=false∧eqS w25 w14=false∧eqS w25 w15=false∧eqS w25 w16=false∧eqS w25 w17=false∧eqS w25 w18=false∧eqS w25 w19=false∧eqS w25 w20=false∧eqS w25 w21=false∧eqS w25 w22=false∧eqS w25 w23=false∧eqS w25 w24=false∧eqS w25 w25=true:=by and_intros<;>rfl
attribute [go_sem] qr0 qr1 qr2 qr3 qr4 qr5 qr6 qr7 qr8 qr9 qr10 qr11 qr12 qr13 qr14 qr15 qr16 qr17 qr18 qr19 qr20 qr21 qr22 qr23 qr24 qr25
structure Rw where
  op:ByteArray
  ps:List ByteArray
  rs:ByteArray
instance:Inhabited Rw:=⟨⟨⟨#[]⟩,[],⟨#[]⟩⟩⟩
def rowsL:List Rw:=[⟨(⟨#[97,100,100]⟩:ByteArray),[(⟨#[105,110,116]⟩:ByteArray),(⟨#[105,110,116]⟩:ByteArray)],(⟨#[105,110,116]⟩:ByteArray)⟩,⟨(⟨#[115,117,98]⟩:ByteArray),[(⟨#[105,110,116]⟩:ByteArray),(⟨#[105,110,116]⟩:ByteArray)],(⟨#[105,110,116]⟩:ByteArray)⟩,⟨(⟨#[109,117,108]⟩:ByteArray),[(⟨#[105,110,116]⟩:ByteArray),(⟨#[105,110,116]⟩:ByteArray)],(⟨#[105,110,116]⟩:ByteArray)⟩,⟨(⟨#[100,105,118]⟩:ByteArray),[(⟨#[105,110,116]⟩:ByteArray),(⟨#[105,110,116]⟩:ByteArray)],(⟨#[105,110,116]⟩:ByteArray)⟩,⟨(⟨#[109,111,100]⟩:ByteArray),[(⟨#[105,110,116]⟩:ByteArray),(⟨#[105,110,116]⟩:ByteArray)],(⟨#[105,110,116]⟩:ByteArray)⟩,⟨(⟨#[109,105,110]⟩:ByteArray),[(⟨#[105,110,116]⟩:ByteArray),(⟨#[105,110,116]⟩:ByteArray)],(⟨#[105,110,116]⟩:ByteArray)⟩,⟨(⟨#[109,97,120]⟩:ByteArray),[(⟨#[105,110,116]⟩:ByteArray),(⟨#[105,110,116]⟩:ByteArray)],(⟨#[105,110,116]⟩:ByteArray)⟩,⟨(⟨#[110,101,103]⟩:ByteArray),[(⟨#[105,110,116]⟩:ByteArray)],(⟨#[105,110,116]⟩:ByteArray)⟩,⟨(⟨#[97,98,115]⟩:ByteArray),[(⟨#[105,110,116]⟩:ByteArray)],(⟨#[105,110,116]⟩:ByteArray)⟩,⟨(⟨#[115,105,103,110]⟩:ByteArray),[(⟨#[105,110,116]⟩:ByteArray)],(⟨#[105,110,116]⟩:ByteArray)⟩,⟨(⟨#[108,116]⟩:ByteArray),[(⟨#[105,110,116]⟩:ByteArray),(⟨#[105,110,116]⟩:ByteArray)],(⟨#[98,111,111,108]⟩:ByteArray)⟩,⟨(⟨#[108,101]⟩:ByteArray),[(⟨#[105,110,116]⟩:ByteArray),(⟨#[105,110,116]⟩:ByteArray)],(⟨#[98,111,111,108]⟩:ByteArray)⟩,⟨(⟨#[103,116]⟩:ByteArray),[(⟨#[105,110,116]⟩:ByteArray),(⟨#[105,110,116]⟩:ByteArray)],(⟨#[98,111,111,108]⟩:ByteArray)⟩,⟨(⟨#[103,101]⟩:ByteArray),[(⟨#[105,110,116]⟩:ByteArray),(⟨#[105,110,116]⟩:ByteArray)],(⟨#[98,111,111,108]⟩:ByteArray)⟩,⟨(⟨#[101,113]⟩:ByteArray),[(⟨#[65]⟩:ByteArray),(⟨#[65]⟩:ByteArray)],(⟨#[98,111,111,108]⟩:ByteArray)⟩,⟨(⟨#[110,101]⟩:ByteArray),[(⟨#[65]⟩:ByteArray),(⟨#[65]⟩:ByteArray)],(⟨#[98,111,111,108]⟩:ByteArray)⟩,⟨(⟨#[97,110,100]⟩:ByteArray),[(⟨#[98,111,111,108]⟩:ByteArray),(⟨#[98,111,111,108]⟩:ByteArray)],(⟨#[98,111,111,108]⟩:ByteArray)⟩,⟨(⟨#[111,114]⟩:ByteArray),[(⟨#[98,111,111,108]⟩:ByteArray),(⟨#[98,111,111,108]⟩:ByteArray)],(⟨#[98,111,111,108]⟩:ByteArray)⟩,⟨(⟨#[120,111,114]⟩:ByteArray),[(⟨#[98,111,111,108]⟩:ByteArray),(⟨#[98,111,111,108]⟩:ByteArray)],(⟨#[98,111,111,108]⟩:ByteArray)⟩,⟨(⟨#[110,111,116]⟩:ByteArray),[(⟨#[98,111,111,108]⟩:ByteArray)],(⟨#[98,111,111,108]⟩:ByteArray)⟩,⟨(⟨#[115,101,108,101,99,116]⟩:ByteArray),[(⟨#[98,111,111,108]⟩:ByteArray),(⟨#[65]⟩:ByteArray),(⟨#[65]⟩:ByteArray)],(⟨#[65]⟩:ByteArray)⟩,⟨(⟨#[116,111,105,110,116]⟩:ByteArray),[(⟨#[98,111,111,108]⟩:ByteArray)],(⟨#[105,110,116]⟩:ByteArray)⟩]
def rowC (r:Rw):List AV:=[.lit (.string r.op),.sl true 1 (strs r.ps),.lit (.string r.rs)]
def rowCells:List AV:=rowsL.flatMap rowC
theorem rowCells_len:rowCells.length=66:=rfl
set_option maxHeartbeats 4000000 in
theorem rows_pc:PC Tryz.prog 112 [] (.agg rowCells):=by
  refine pcO E0_ok (fun _=>[0,1,2,3,4]) Tryz.func112 (h:=fun KF=>?_)
  unfold E0
  with_reducible repeat' first|(refine nx ?_;intros)|refine t_br (fun hc=>?_) fun hc=>?_|refine t_bx ?_|apply And.intro|intro vr|((first|refine ny ?_|refine t_dwh (h:=fun K KL=>?_));intros;simp only [go_sem,geff])
  all_goals try exact om
  refine end_ret rfl ?_
  simp only [fin,go_sem]
  exact LeA.refl _
end Go.Proofs.YtnlimcijgpaegaaGreat.El

namespace Go.Proofs.YtnlimcijgpaegaaGreat.El
open Go.Proofs.YtnlimcijgpaegaaGreat
open Go Go.Fw
set_option maxRecDepth 20000
noncomputable def con112:PCon Tryz.prog where
  f:=112
  c:=fun
   |[]=>some (True,.agg rowCells)
   |_=>none
  ok:=by
   intro args p r hc hp
   split at hc
   ·cases hc;exact rows_pc
   ·cases hc
  fk:=fk112
theorem con112_f:con112.f=112:=rfl
theorem con112_c:con112.c []=some (True,.agg rowCells):=rfl
theorem clone_pc {l:List ByteArray} (hl:l.length≤1000000):PC Tryz.prog 113 [.sl false 1 (strs l)] (.sl false 1 (strs l)):=by
  refine pcO E0_ok (fun _=>[0,2,4]) Tryz.func113 (h:=fun KF=>?_)
  unfold E0
  with_reducible repeat' first|(refine nx ?_;intros)|apply And.intro|intro vr|(refine ny ?_;intros;simp only [go_sem,geff])
  all_goals try exact om
  ·skip
   refine end_ret rfl ?_
   simp only [fin,go_sem]
   rw [show strs l=[] from by assumption]
   exact LeA.nil false 1
  ·skip
   refine end_ret rfl ?_
   simp only [fin,go_sem]
   exact LeA.refl _
noncomputable def con113:PCon Tryz.prog where
  f:=113
  c:=fun
   |[x]=>(slS x).map fun l=>(l.length≤1000000,.sl false 1 (strs l))
   |_=>none
  ok:=by
   intro args p r hc hp
   split at hc
   ·rename_i x
    cases hx:slS x with
    |none=>rw [hx] at hc;cases hc
    |some l=>
     rw [hx] at hc
     cases hc
     exact PC.weak (clone_pc hp) ⟨slS_le hx,trivial⟩
   ·cases hc
  fk:=fk113
theorem con113_f:con113.f=113:=rfl
theorem con113_c {x:AV}:con113.c [x]=(slS x).map fun l=>(l.length≤1000000,.sl false 1 (strs l)):=rfl
theorem yes_def {x:AV}:yes x=some (True,x):=rfl
theorem need_def {p:Prop} {x:AV}:need p x=some (p,x):=rfl
def typesS (op:ByteArray):Option Rw:=rowsL.find? fun r=>eqS r.op op
def typesV (o:Option Rw):AV:=match o with
  |some r=> .tup [.sl false 1 (strs r.ps),.lit (.string r.rs),.lit (.bool true)]
  |none=> .tup [.lit (.slice none 0 0),.lit (.string ⟨#[]⟩),.lit (.bool false)]
theorem rows_len:rowsL.length=22:=rfl
theorem rows_ps:∀ r∈rowsL,r.ps.length≤3:=by decide
theorem row_cells:∀ i,i<22→(rowCells.drop (i*3)).take 3=rowC (rowsL.getD i default):=by
  intro i hi
  have:i=0∨i=1∨i=2∨i=3∨i=4∨i=5∨i=6∨i=7∨i=8∨i=9∨i=10∨i=11∨i=12∨i=13∨i=14∨i=15∨i=16∨i=17∨i=18∨i=19∨i=20∨i=21:=by omega
  rcases this with rfl|rfl|rfl|rfl|rfl|rfl|rfl|rfl|rfl|rfl|rfl|rfl|rfl|rfl|rfl|rfl|rfl|rfl|rfl|rfl|rfl|rfl<;>rfl
theorem rowCells_all:rowCells.all scal0=false:=rfl
noncomputable def E2:Env:=envOf (P:=Tryz.prog) zer (fun _=>false) (fun _=>false) [con112,con113] []
theorem E2_ok:EnvOk Tryz.prog E2:=envOk zer_ok
set_option maxHeartbeats 1000000 in
theorem types_pc {op:ByteArray}:PC Tryz.prog 70 [.lit (.string op)] (typesV (typesS op)):=by
  unfold typesS
  generalize hR:rowsL.find? (fun r=>eqS r.op op)=R
  refine pcO E2_ok (fun _=>[0,2,3,4,6,7,8,9,14]) Tryz.func70 (h:=fun KF=>?_)
  unfold E2
  with_reducible repeat' first|(refine nx ?_;intros)|apply And.intro|intro vr|((first|refine ny ?_|refine t_dwh (h:=fun K KL=>?_));intros;simp only [go_sem,geff,con112_f,con112_c,rowCells_all,Bool.false_eq_true])
  refine t_loop (ι:={i:Nat // i≤22∧(rowsL.drop i).find? (fun r=>eqS r.op op)=R}×List AObj) (fun i=>⟨upd (upd (upd topF 8 (.lit (.int .i64 i.1.1))) 7 (.agg rowCells)) 0 (.lit (.string op)),i.2⟩) (fun i=>22 - i.1.1) (⟨0,by omega,hR⟩,[]) ?_ ?_
  ·skip
   (refine Le.frame ?_;repeat' (first|exact leF_top _|(with_reducible refine leF_sl ?_ ?_)|(refine leF_upd (LeR.of_eq ?_) ?_)))<;>(try (simp only [go_sem];try rfl))
  ·rintro ⟨⟨i,hi,hF⟩,g⟩ K0
   rcases Nat.lt_or_ge i 22 with hc|hc
   ·have g1:decide ((i:Int)<22)=true:=decide_eq_true (by omega)
    have g2:=row_cells i hc
    have g3:(i*3+3≤66)=True:=eq_true (by omega)
    have hd:rowsL.drop i=rowsL.getD i default::rowsL.drop (i+1):=by
      rw [List.drop_eq_getElem_cons (by rw [rows_len];exact hc),getD_elem _ _ (by rw [rows_len];exact hc)]
    have hps:=rows_ps (rowsL.getD i default) (by rw [getD_elem _ _ (by rw [rows_len];exact hc)];exact List.getElem_mem _)
    generalize rowsL.getD i default=r at g2 hd hps
    obtain ⟨nm,ps,rs⟩:=r
    simp only at hps
    rw [hd,List.find?_cons] at hF
    have k1:∀ (A:AObj),(g++[A])[g.length]? =some A:=fun A=>getA0 rfl
    have k2:∀ (A B:AObj),(g++[A]).set g.length B=g++[B]:=fun A B=>setA0 rfl
    by_cases he:eqS nm op=true
    ·have:R=some ⟨nm,ps,rs⟩:=by rw [←hF];simp only [he]
     subst this
     with_reducible repeat' first|(refine nx ?_;intros)|apply And.intro|intro vr|((first|refine ny ?_|refine t_dwh (h:=fun K KL=>?_));intros;simp only [go_sem,geff,g1,Int.toNat_natCast,g3,rowCells_len,g2,rowC,yes_def,need_def,k1,k2,he,con112_f,con113_f,con113_c,slS_sl,typesV])
     all_goals try exact om
     refine end_ret rfl ?_
     simp only [fin,go_sem]
     exact LeA.refl _
    ·have he':eqS nm op=false:=by simpa using he
     have hF':(rowsL.drop (i+1)).find? (fun r=>eqS r.op op)=R:=by rw [←hF];simp only [he']
     with_reducible repeat' first|(refine nx ?_;intros)|apply And.intro|intro vr|((first|refine ny ?_|refine t_dwh (h:=fun K KL=>?_));intros;simp only [go_sem,geff,g1,Int.toNat_natCast,g3,rowCells_len,g2,rowC,yes_def,need_def,k1,k2,he',con112_f,con113_f,con113_c,slS_sl])
     all_goals try exact om
     refine ⟨(⟨i+1,by omega,hF'⟩,g++[.box 164 [.lit (.string nm),.sl true 1 (strs ps),.lit (.string rs)]]),by simp only;omega,?_⟩
     (refine Le.frame ?_;repeat' (first|exact leF_top _|(with_reducible refine leF_sl ?_ ?_)|(refine leF_upd (LeR.of_eq ?_) ?_)))<;>(try (simp only [go_sem];try rfl))
   ·have g1:decide ((i:Int)<22)=false:=decide_eq_false (by omega)
    have:i=22:=by omega
    subst this
    have:R=none:=by rw [←hF];rfl
    subst this
    with_reducible repeat' first|(refine nx ?_;intros)|apply And.intro|intro vr|((first|refine ny ?_|refine t_dwh (h:=fun K KL=>?_));intros;simp only [go_sem,geff,g1,typesV])
    refine end_ret rfl ?_
    simp only [fin,go_sem]
    exact LeA.refl _
end Go.Proofs.YtnlimcijgpaegaaGreat.El

namespace Go.Proofs.YtnlimcijgpaegaaGreat.El
open Go.Proofs.YtnlimcijgpaegaaGreat
open Go Go.Fw
set_option maxRecDepth 20000
theorem vld_int {n:Int}:vld sInt n=true ↔ el n:=by
  unfold vld el
  rw [if_pos (eqS_refl _)]
  simp
theorem vld_bool {n:Int}:vld sBool n=true ↔ n=0∨n=1:=by
  unfold vld
  rw [if_neg (show ¬ eqS sBool sInt=true by decide),if_pos (eqS_refl _)]
  simp
theorem flo_spec {a b:Int} (hb:b≠0):(0<b→0≤a - b*flo a b∧a - b*flo a b<b)∧(b<0→a - b*flo a b≤0∧b<a - b*flo a b):=by
  have e:=Int.mul_tdiv_add_tmod a b
  have p1:0≤a→0≤a.tmod b:=Int.tmod_nonneg b
  have p2:a≤0→a.tmod b≤0:=fun h=>by
    have:=Int.tmod_nonneg b (show 0≤ -a by omega)
    rw [Int.neg_tmod] at this
    omega
  have p3:(a.tmod b).natAbs<b.natAbs:=by
    rw [Int.natAbs_tmod]
    exact Nat.mod_lt _ (by omega)
  unfold flo
  rw [if_neg hb]
  have e2:b*(a.tdiv b - 1)=b*a.tdiv b - b:=by rw [Int.mul_sub,Int.mul_one]
  by_cases h0:a.tmod b=0
  ·rw [if_neg (fun h=>h.1 h0)]
   constructor<;>intro h<;>omega
  ·by_cases h1:decide (a<0)=decide (b<0)
   ·rw [if_neg (fun h=>h.2 h1)]
    have h2:a<0 ↔ b<0:=decide_eq_decide.1 h1
    constructor<;>intro h<;>omega
   ·rw [if_pos ⟨h0,h1⟩,e2]
    have h2: ¬ (a<0 ↔ b<0):=fun h=>h1 (by rw [decide_eq_decide];exact h)
    constructor<;>intro h<;>omega
def vS:Nat→List Int→Int
  |0,[a,b]=>w32 (a+b)
  |1,[a,b]=>w32 (a - b)
  |2,[a,b]=>w32 (a*b)
  |3,[a,b]=>w32 (flo a b)
  |4,[a,b]=>if b=0 then 0 else a - b*flo a b
  |5,[a,b]=>minI a b
  |6,[a,b]=>maxI a b
  |7,[a]=>w32 (0 - a)
  |8,[a]=>w32 (maxI a (0 - a))
  |9,[a]=>sgn a
  |10,[a,b]=>tru (decide (a<b))
  |11,[a,b]=>tru (decide (a≤b))
  |12,[a,b]=>tru (decide (a>b))
  |13,[a,b]=>tru (decide (a≥b))
  |14,[a,b]=>tru (a==b)
  |15,[a,b]=>tru (a !=b)
  |16,[a,b]=>minI a b
  |17,[a,b]=>maxI a b
  |18,[a,b]=>if a=b then 0 else 1
  |19,[a]=>1 - a
  |20,[a,b,c]=>if a=1 then b else c
  |21,[a]=>a
  |_,_=>0
def elT (s:ByteArray):ByteArray:=if eqS s sA=true then sInt else s
def okA (ps:List ByteArray) (xs:List Int):Bool:=(ps.zip xs).all fun p=>vld (elT p.1) p.2
def psN (i:Nat):List ByteArray:=(rowsL.getD i default).ps
def okL (i:Nat) (xs:List Int):Prop:=xs.length=(psN i).length∧okA (psN i) xs=true
def rowIx (op:ByteArray):Option Nat:=(List.range 22).find? fun i=>eqS (rowsL.getD i default).op op
theorem ix_cases (op:ByteArray):(∃ i,i<22∧op=(rowsL.getD i default).op∧rowIx op=some i∧typesS op=some (rowsL.getD i default))∨(rowIx op=none∧typesS op=none):=by
  by_cases h:∃ i,i<22∧op=(rowsL.getD i default).op
  ·left
   obtain ⟨i,hi,rfl⟩:=h
   refine ⟨i,hi,rfl,?_⟩
   have:i=0∨i=1∨i=2∨i=3∨i=4∨i=5∨i=6∨i=7∨i=8∨i=9∨i=10∨i=11∨i=12∨i=13∨i=14∨i=15∨i=16∨i=17∨i=18∨i=19∨i=20∨i=21:=by omega
   rcases this with rfl|rfl|rfl|rfl|rfl|rfl|rfl|rfl|rfl|rfl|rfl|rfl|rfl|rfl|rfl|rfl|rfl|rfl|rfl|rfl|rfl|rfl
   all_goals exact ⟨rfl,rfl⟩
  ·right
   constructor
   ·unfold rowIx
    rw [List.find?_eq_none]
    intro i hi he
    exact h ⟨i,by simpa using hi,(eqS_iff.1 he).symm⟩
   ·unfold typesS
    rw [List.find?_eq_none]
    intro r hr he
    obtain ⟨i,hi,rfl⟩:=List.mem_iff_getElem.1 hr
    rw [rows_len] at hi
    exact h ⟨i,hi,by rw [getD_elem _ _ (by rw [rows_len];exact hi)];exact (eqS_iff.1 he).symm⟩
theorem okL_0 {xs:List Int}:okL 0 xs ↔ ∃ a b,xs=[a,b]∧el a∧el b:=by
  constructor
  ·rintro ⟨h1,h2⟩
   match xs,h1,h2 with
   |[a,b],_,h2=>
    refine ⟨a,b,rfl,?_⟩
    simp only [okA,psN,rowsL,List.getD_cons_zero,List.getD_cons_succ,List.zip_cons_cons,List.zip_nil_right,List.zip_nil_left,List.all_cons,List.all_nil,Bool.and_true,Bool.and_eq_true] at h2
    exact ⟨vld_int.1 h2.1,vld_int.1 h2.2⟩
  ·rintro ⟨a,b,rfl,h0,h1⟩
   refine ⟨rfl,?_⟩
   simp only [okA,psN,rowsL,List.getD_cons_zero,List.getD_cons_succ,List.zip_cons_cons,List.zip_nil_right,List.zip_nil_left,List.all_cons,List.all_nil,Bool.and_true,Bool.and_eq_true]
   exact ⟨vld_int.2 h0,vld_int.2 h1⟩
theorem okL_1 {xs:List Int}:okL 1 xs ↔ ∃ a b,xs=[a,b]∧el a∧el b:=by
  constructor
  ·rintro ⟨h1,h2⟩
   match xs,h1,h2 with
   |[a,b],_,h2=>
    refine ⟨a,b,rfl,?_⟩
    simp only [okA,psN,rowsL,List.getD_cons_zero,List.getD_cons_succ,List.zip_cons_cons,List.zip_nil_right,List.zip_nil_left,List.all_cons,List.all_nil,Bool.and_true,Bool.and_eq_true] at h2
    exact ⟨vld_int.1 h2.1,vld_int.1 h2.2⟩
  ·rintro ⟨a,b,rfl,h0,h1⟩
   refine ⟨rfl,?_⟩
   simp only [okA,psN,rowsL,List.getD_cons_zero,List.getD_cons_succ,List.zip_cons_cons,List.zip_nil_right,List.zip_nil_left,List.all_cons,List.all_nil,Bool.and_true,Bool.and_eq_true]
   exact ⟨vld_int.2 h0,vld_int.2 h1⟩
theorem okL_2 {xs:List Int}:okL 2 xs ↔ ∃ a b,xs=[a,b]∧el a∧el b:=by
  constructor
  ·rintro ⟨h1,h2⟩
   match xs,h1,h2 with
   |[a,b],_,h2=>
    refine ⟨a,b,rfl,?_⟩
    simp only [okA,psN,rowsL,List.getD_cons_zero,List.getD_cons_succ,List.zip_cons_cons,List.zip_nil_right,List.zip_nil_left,List.all_cons,List.all_nil,Bool.and_true,Bool.and_eq_true] at h2
    exact ⟨vld_int.1 h2.1,vld_int.1 h2.2⟩
  ·rintro ⟨a,b,rfl,h0,h1⟩
   refine ⟨rfl,?_⟩
   simp only [okA,psN,rowsL,List.getD_cons_zero,List.getD_cons_succ,List.zip_cons_cons,List.zip_nil_right,List.zip_nil_left,List.all_cons,List.all_nil,Bool.and_true,Bool.and_eq_true]
   exact ⟨vld_int.2 h0,vld_int.2 h1⟩
theorem okL_3 {xs:List Int}:okL 3 xs ↔ ∃ a b,xs=[a,b]∧el a∧el b:=by
  constructor
  ·rintro ⟨h1,h2⟩
   match xs,h1,h2 with
   |[a,b],_,h2=>
    refine ⟨a,b,rfl,?_⟩
    simp only [okA,psN,rowsL,List.getD_cons_zero,List.getD_cons_succ,List.zip_cons_cons,List.zip_nil_right,List.zip_nil_left,List.all_cons,List.all_nil,Bool.and_true,Bool.and_eq_true] at h2
    exact ⟨vld_int.1 h2.1,vld_int.1 h2.2⟩
  ·rintro ⟨a,b,rfl,h0,h1⟩
   refine ⟨rfl,?_⟩
   simp only [okA,psN,rowsL,List.getD_cons_zero,List.getD_cons_succ,List.zip_cons_cons,List.zip_nil_right,List.zip_nil_left,List.all_cons,List.all_nil,Bool.and_true,Bool.and_eq_true]
   exact ⟨vld_int.2 h0,vld_int.2 h1⟩
theorem okL_4 {xs:List Int}:okL 4 xs ↔ ∃ a b,xs=[a,b]∧el a∧el b:=by
  constructor
  ·rintro ⟨h1,h2⟩
   match xs,h1,h2 with
   |[a,b],_,h2=>
    refine ⟨a,b,rfl,?_⟩
    simp only [okA,psN,rowsL,List.getD_cons_zero,List.getD_cons_succ,List.zip_cons_cons,List.zip_nil_right,List.zip_nil_left,List.all_cons,List.all_nil,Bool.and_true,Bool.and_eq_true] at h2
    exact ⟨vld_int.1 h2.1,vld_int.1 h2.2⟩
  ·rintro ⟨a,b,rfl,h0,h1⟩
   refine ⟨rfl,?_⟩
   simp only [okA,psN,rowsL,List.getD_cons_zero,List.getD_cons_succ,List.zip_cons_cons,List.zip_nil_right,List.zip_nil_left,List.all_cons,List.all_nil,Bool.and_true,Bool.and_eq_true]
   exact ⟨vld_int.2 h0,vld_int.2 h1⟩
theorem okL_5 {xs:List Int}:okL 5 xs ↔ ∃ a b,xs=[a,b]∧el a∧el b:=by
  constructor
  ·rintro ⟨h1,h2⟩
   match xs,h1,h2 with
   |[a,b],_,h2=>
    refine ⟨a,b,rfl,?_⟩
    simp only [okA,psN,rowsL,List.getD_cons_zero,List.getD_cons_succ,List.zip_cons_cons,List.zip_nil_right,List.zip_nil_left,List.all_cons,List.all_nil,Bool.and_true,Bool.and_eq_true] at h2
    exact ⟨vld_int.1 h2.1,vld_int.1 h2.2⟩
  ·rintro ⟨a,b,rfl,h0,h1⟩
   refine ⟨rfl,?_⟩
   simp only [okA,psN,rowsL,List.getD_cons_zero,List.getD_cons_succ,List.zip_cons_cons,List.zip_nil_right,List.zip_nil_left,List.all_cons,List.all_nil,Bool.and_true,Bool.and_eq_true]
   exact ⟨vld_int.2 h0,vld_int.2 h1⟩
theorem okL_6 {xs:List Int}:okL 6 xs ↔ ∃ a b,xs=[a,b]∧el a∧el b:=by
  constructor
  ·rintro ⟨h1,h2⟩
   match xs,h1,h2 with
   |[a,b],_,h2=>
    refine ⟨a,b,rfl,?_⟩
    simp only [okA,psN,rowsL,List.getD_cons_zero,List.getD_cons_succ,List.zip_cons_cons,List.zip_nil_right,List.zip_nil_left,List.all_cons,List.all_nil,Bool.and_true,Bool.and_eq_true] at h2
    exact ⟨vld_int.1 h2.1,vld_int.1 h2.2⟩
  ·rintro ⟨a,b,rfl,h0,h1⟩
   refine ⟨rfl,?_⟩
   simp only [okA,psN,rowsL,List.getD_cons_zero,List.getD_cons_succ,List.zip_cons_cons,List.zip_nil_right,List.zip_nil_left,List.all_cons,List.all_nil,Bool.and_true,Bool.and_eq_true]
   exact ⟨vld_int.2 h0,vld_int.2 h1⟩
theorem okL_7 {xs:List Int}:okL 7 xs ↔ ∃ a,xs=[a]∧el a:=by
  constructor
  ·rintro ⟨h1,h2⟩
   match xs,h1,h2 with
   |[a],_,h2=>
    refine ⟨a,rfl,?_⟩
    simp only [okA,psN,rowsL,List.getD_cons_zero,List.getD_cons_succ,List.zip_cons_cons,List.zip_nil_right,List.zip_nil_left,List.all_cons,List.all_nil,Bool.and_true,Bool.and_eq_true] at h2
    exact vld_int.1 h2
  ·rintro ⟨a,rfl,h0⟩
   refine ⟨rfl,?_⟩
   simp only [okA,psN,rowsL,List.getD_cons_zero,List.getD_cons_succ,List.zip_cons_cons,List.zip_nil_right,List.zip_nil_left,List.all_cons,List.all_nil,Bool.and_true,Bool.and_eq_true]
   exact vld_int.2 h0
theorem okL_8 {xs:List Int}:okL 8 xs ↔ ∃ a,xs=[a]∧el a:=by
  constructor
  ·rintro ⟨h1,h2⟩
   match xs,h1,h2 with
   |[a],_,h2=>
    refine ⟨a,rfl,?_⟩
    simp only [okA,psN,rowsL,List.getD_cons_zero,List.getD_cons_succ,List.zip_cons_cons,List.zip_nil_right,List.zip_nil_left,List.all_cons,List.all_nil,Bool.and_true,Bool.and_eq_true] at h2
    exact vld_int.1 h2
  ·rintro ⟨a,rfl,h0⟩
   refine ⟨rfl,?_⟩
   simp only [okA,psN,rowsL,List.getD_cons_zero,List.getD_cons_succ,List.zip_cons_cons,List.zip_nil_right,List.zip_nil_left,List.all_cons,List.all_nil,Bool.and_true,Bool.and_eq_true]
   exact vld_int.2 h0
theorem okL_9 {xs:List Int}:okL 9 xs ↔ ∃ a,xs=[a]∧el a:=by
  constructor
  ·rintro ⟨h1,h2⟩
   match xs,h1,h2 with
   |[a],_,h2=>
    refine ⟨a,rfl,?_⟩
    simp only [okA,psN,rowsL,List.getD_cons_zero,List.getD_cons_succ,List.zip_cons_cons,List.zip_nil_right,List.zip_nil_left,List.all_cons,List.all_nil,Bool.and_true,Bool.and_eq_true] at h2
    exact vld_int.1 h2
  ·rintro ⟨a,rfl,h0⟩
   refine ⟨rfl,?_⟩
   simp only [okA,psN,rowsL,List.getD_cons_zero,List.getD_cons_succ,List.zip_cons_cons,List.zip_nil_right,List.zip_nil_left,List.all_cons,List.all_nil,Bool.and_true,Bool.and_eq_true]
   exact vld_int.2 h0
theorem okL_10 {xs:List Int}:okL 10 xs ↔ ∃ a b,xs=[a,b]∧el a∧el b:=by
  constructor
  ·rintro ⟨h1,h2⟩
   match xs,h1,h2 with
   |[a,b],_,h2=>
    refine ⟨a,b,rfl,?_⟩
    simp only [okA,psN,rowsL,List.getD_cons_zero,List.getD_cons_succ,List.zip_cons_cons,List.zip_nil_right,List.zip_nil_left,List.all_cons,List.all_nil,Bool.and_true,Bool.and_eq_true] at h2
    exact ⟨vld_int.1 h2.1,vld_int.1 h2.2⟩
  ·rintro ⟨a,b,rfl,h0,h1⟩
   refine ⟨rfl,?_⟩
   simp only [okA,psN,rowsL,List.getD_cons_zero,List.getD_cons_succ,List.zip_cons_cons,List.zip_nil_right,List.zip_nil_left,List.all_cons,List.all_nil,Bool.and_true,Bool.and_eq_true]
   exact ⟨vld_int.2 h0,vld_int.2 h1⟩
theorem okL_11 {xs:List Int}:okL 11 xs ↔ ∃ a b,xs=[a,b]∧el a∧el b:=by
  constructor
  ·rintro ⟨h1,h2⟩
   match xs,h1,h2 with
   |[a,b],_,h2=>
    refine ⟨a,b,rfl,?_⟩
    simp only [okA,psN,rowsL,List.getD_cons_zero,List.getD_cons_succ,List.zip_cons_cons,List.zip_nil_right,List.zip_nil_left,List.all_cons,List.all_nil,Bool.and_true,Bool.and_eq_true] at h2
    exact ⟨vld_int.1 h2.1,vld_int.1 h2.2⟩
  ·rintro ⟨a,b,rfl,h0,h1⟩
   refine ⟨rfl,?_⟩
   simp only [okA,psN,rowsL,List.getD_cons_zero,List.getD_cons_succ,List.zip_cons_cons,List.zip_nil_right,List.zip_nil_left,List.all_cons,List.all_nil,Bool.and_true,Bool.and_eq_true]
   exact ⟨vld_int.2 h0,vld_int.2 h1⟩
theorem okL_12 {xs:List Int}:okL 12 xs ↔ ∃ a b,xs=[a,b]∧el a∧el b:=by
  constructor
  ·rintro ⟨h1,h2⟩
   match xs,h1,h2 with
   |[a,b],_,h2=>
    refine ⟨a,b,rfl,?_⟩
    simp only [okA,psN,rowsL,List.getD_cons_zero,List.getD_cons_succ,List.zip_cons_cons,List.zip_nil_right,List.zip_nil_left,List.all_cons,List.all_nil,Bool.and_true,Bool.and_eq_true] at h2
    exact ⟨vld_int.1 h2.1,vld_int.1 h2.2⟩
  ·rintro ⟨a,b,rfl,h0,h1⟩
   refine ⟨rfl,?_⟩
   simp only [okA,psN,rowsL,List.getD_cons_zero,List.getD_cons_succ,List.zip_cons_cons,List.zip_nil_right,List.zip_nil_left,List.all_cons,List.all_nil,Bool.and_true,Bool.and_eq_true]
   exact ⟨vld_int.2 h0,vld_int.2 h1⟩
theorem okL_13 {xs:List Int}:okL 13 xs ↔ ∃ a b,xs=[a,b]∧el a∧el b:=by
  constructor
  ·rintro ⟨h1,h2⟩
   match xs,h1,h2 with
   |[a,b],_,h2=>
    refine ⟨a,b,rfl,?_⟩
    simp only [okA,psN,rowsL,List.getD_cons_zero,List.getD_cons_succ,List.zip_cons_cons,List.zip_nil_right,List.zip_nil_left,List.all_cons,List.all_nil,Bool.and_true,Bool.and_eq_true] at h2
    exact ⟨vld_int.1 h2.1,vld_int.1 h2.2⟩
  ·rintro ⟨a,b,rfl,h0,h1⟩
   refine ⟨rfl,?_⟩
   simp only [okA,psN,rowsL,List.getD_cons_zero,List.getD_cons_succ,List.zip_cons_cons,List.zip_nil_right,List.zip_nil_left,List.all_cons,List.all_nil,Bool.and_true,Bool.and_eq_true]
   exact ⟨vld_int.2 h0,vld_int.2 h1⟩
theorem okL_14 {xs:List Int}:okL 14 xs ↔ ∃ a b,xs=[a,b]∧el a∧el b:=by
  constructor
  ·rintro ⟨h1,h2⟩
   match xs,h1,h2 with
   |[a,b],_,h2=>
    refine ⟨a,b,rfl,?_⟩
    simp only [okA,psN,rowsL,List.getD_cons_zero,List.getD_cons_succ,List.zip_cons_cons,List.zip_nil_right,List.zip_nil_left,List.all_cons,List.all_nil,Bool.and_true,Bool.and_eq_true] at h2
    exact ⟨vld_int.1 h2.1,vld_int.1 h2.2⟩
  ·rintro ⟨a,b,rfl,h0,h1⟩
   refine ⟨rfl,?_⟩
   simp only [okA,psN,rowsL,List.getD_cons_zero,List.getD_cons_succ,List.zip_cons_cons,List.zip_nil_right,List.zip_nil_left,List.all_cons,List.all_nil,Bool.and_true,Bool.and_eq_true]
   exact ⟨vld_int.2 h0,vld_int.2 h1⟩
theorem okL_15 {xs:List Int}:okL 15 xs ↔ ∃ a b,xs=[a,b]∧el a∧el b:=by
  constructor
  ·rintro ⟨h1,h2⟩
   match xs,h1,h2 with
   |[a,b],_,h2=>
    refine ⟨a,b,rfl,?_⟩
    simp only [okA,psN,rowsL,List.getD_cons_zero,List.getD_cons_succ,List.zip_cons_cons,List.zip_nil_right,List.zip_nil_left,List.all_cons,List.all_nil,Bool.and_true,Bool.and_eq_true] at h2
    exact ⟨vld_int.1 h2.1,vld_int.1 h2.2⟩
  ·rintro ⟨a,b,rfl,h0,h1⟩
   refine ⟨rfl,?_⟩
   simp only [okA,psN,rowsL,List.getD_cons_zero,List.getD_cons_succ,List.zip_cons_cons,List.zip_nil_right,List.zip_nil_left,List.all_cons,List.all_nil,Bool.and_true,Bool.and_eq_true]
   exact ⟨vld_int.2 h0,vld_int.2 h1⟩
theorem okL_16 {xs:List Int}:okL 16 xs ↔ ∃ a b,xs=[a,b]∧(a=0∨a=1)∧(b=0∨b=1):=by
  constructor
  ·rintro ⟨h1,h2⟩
   match xs,h1,h2 with
   |[a,b],_,h2=>
    refine ⟨a,b,rfl,?_⟩
    simp only [okA,psN,rowsL,List.getD_cons_zero,List.getD_cons_succ,List.zip_cons_cons,List.zip_nil_right,List.zip_nil_left,List.all_cons,List.all_nil,Bool.and_true,Bool.and_eq_true] at h2
    exact ⟨vld_bool.1 h2.1,vld_bool.1 h2.2⟩
  ·rintro ⟨a,b,rfl,h0,h1⟩
   refine ⟨rfl,?_⟩
   simp only [okA,psN,rowsL,List.getD_cons_zero,List.getD_cons_succ,List.zip_cons_cons,List.zip_nil_right,List.zip_nil_left,List.all_cons,List.all_nil,Bool.and_true,Bool.and_eq_true]
   exact ⟨vld_bool.2 h0,vld_bool.2 h1⟩
theorem okL_17 {xs:List Int}:okL 17 xs ↔ ∃ a b,xs=[a,b]∧(a=0∨a=1)∧(b=0∨b=1):=by
  constructor
  ·rintro ⟨h1,h2⟩
   match xs,h1,h2 with
   |[a,b],_,h2=>
    refine ⟨a,b,rfl,?_⟩
    simp only [okA,psN,rowsL,List.getD_cons_zero,List.getD_cons_succ,List.zip_cons_cons,List.zip_nil_right,List.zip_nil_left,List.all_cons,List.all_nil,Bool.and_true,Bool.and_eq_true] at h2
    exact ⟨vld_bool.1 h2.1,vld_bool.1 h2.2⟩
  ·rintro ⟨a,b,rfl,h0,h1⟩
   refine ⟨rfl,?_⟩
   simp only [okA,psN,rowsL,List.getD_cons_zero,List.getD_cons_succ,List.zip_cons_cons,List.zip_nil_right,List.zip_nil_left,List.all_cons,List.all_nil,Bool.and_true,Bool.and_eq_true]
   exact ⟨vld_bool.2 h0,vld_bool.2 h1⟩
theorem okL_18 {xs:List Int}:okL 18 xs ↔ ∃ a b,xs=[a,b]∧(a=0∨a=1)∧(b=0∨b=1):=by
  constructor
  ·rintro ⟨h1,h2⟩
   match xs,h1,h2 with
   |[a,b],_,h2=>
    refine ⟨a,b,rfl,?_⟩
    simp only [okA,psN,rowsL,List.getD_cons_zero,List.getD_cons_succ,List.zip_cons_cons,List.zip_nil_right,List.zip_nil_left,List.all_cons,List.all_nil,Bool.and_true,Bool.and_eq_true] at h2
    exact ⟨vld_bool.1 h2.1,vld_bool.1 h2.2⟩
  ·rintro ⟨a,b,rfl,h0,h1⟩
   refine ⟨rfl,?_⟩
   simp only [okA,psN,rowsL,List.getD_cons_zero,List.getD_cons_succ,List.zip_cons_cons,List.zip_nil_right,List.zip_nil_left,List.all_cons,List.all_nil,Bool.and_true,Bool.and_eq_true]
   exact ⟨vld_bool.2 h0,vld_bool.2 h1⟩
theorem okL_19 {xs:List Int}:okL 19 xs ↔ ∃ a,xs=[a]∧(a=0∨a=1):=by
  constructor
  ·rintro ⟨h1,h2⟩
   match xs,h1,h2 with
   |[a],_,h2=>
    refine ⟨a,rfl,?_⟩
    simp only [okA,psN,rowsL,List.getD_cons_zero,List.getD_cons_succ,List.zip_cons_cons,List.zip_nil_right,List.zip_nil_left,List.all_cons,List.all_nil,Bool.and_true,Bool.and_eq_true] at h2
    exact vld_bool.1 h2
  ·rintro ⟨a,rfl,h0⟩
   refine ⟨rfl,?_⟩
   simp only [okA,psN,rowsL,List.getD_cons_zero,List.getD_cons_succ,List.zip_cons_cons,List.zip_nil_right,List.zip_nil_left,List.all_cons,List.all_nil,Bool.and_true,Bool.and_eq_true]
   exact vld_bool.2 h0
theorem okL_20 {xs:List Int}:okL 20 xs ↔ ∃ a b c,xs=[a,b,c]∧(a=0∨a=1)∧el b∧el c:=by
  constructor
  ·rintro ⟨h1,h2⟩
   match xs,h1,h2 with
   |[a,b,c],_,h2=>
    refine ⟨a,b,c,rfl,?_⟩
    simp only [okA,psN,rowsL,List.getD_cons_zero,List.getD_cons_succ,List.zip_cons_cons,List.zip_nil_right,List.zip_nil_left,List.all_cons,List.all_nil,Bool.and_true,Bool.and_eq_true] at h2
    exact ⟨vld_bool.1 h2.1,vld_int.1 h2.2.1,vld_int.1 h2.2.2⟩
  ·rintro ⟨a,b,c,rfl,h0,h1,h2⟩
   refine ⟨rfl,?_⟩
   simp only [okA,psN,rowsL,List.getD_cons_zero,List.getD_cons_succ,List.zip_cons_cons,List.zip_nil_right,List.zip_nil_left,List.all_cons,List.all_nil,Bool.and_true,Bool.and_eq_true]
   exact ⟨vld_bool.2 h0,vld_int.2 h1,vld_int.2 h2⟩
theorem okL_21 {xs:List Int}:okL 21 xs ↔ ∃ a,xs=[a]∧(a=0∨a=1):=by
  constructor
  ·rintro ⟨h1,h2⟩
   match xs,h1,h2 with
   |[a],_,h2=>
    refine ⟨a,rfl,?_⟩
    simp only [okA,psN,rowsL,List.getD_cons_zero,List.getD_cons_succ,List.zip_cons_cons,List.zip_nil_right,List.zip_nil_left,List.all_cons,List.all_nil,Bool.and_true,Bool.and_eq_true] at h2
    exact vld_bool.1 h2
  ·rintro ⟨a,rfl,h0⟩
   refine ⟨rfl,?_⟩
   simp only [okA,psN,rowsL,List.getD_cons_zero,List.getD_cons_succ,List.zip_cons_cons,List.zip_nil_right,List.zip_nil_left,List.all_cons,List.all_nil,Bool.and_true,Bool.and_eq_true]
   exact vld_bool.2 h0
noncomputable def E4:Env:=envOf (P:=Tryz.prog) zer (fun _=>false) (fun _=>false) [con176] []
theorem E4_ok:EnvOk Tryz.prog E4:=envOk zer_ok
theorem compare_10 {a b:Int}:PC Tryz.prog 175 [.lit (.string (⟨#[108,116]⟩:ByteArray)),.lit (.int .i64 a),.lit (.int .i64 b)] (.lit (.int .i64 (tru (decide (a<b))))):=by
  refine pcO E4_ok (fun _=>[0,1,2,6,7,8,14,20,26,32]) Tryz.func175 (h:=fun KF=>?_)
  unfold E4
  with_reducible repeat' first|(refine nx ?_;intros)|refine t_br (fun hc=>?_) fun hc=>?_|refine t_bx ?_|apply And.intro|intro vr|((first|refine ny ?_|refine t_dwh (h:=fun K KL=>?_));intros;simp only [go_sem,geff,con176_f,con176_c])
  refine end_ret rfl ?_
  simp only [fin,go_sem]
  exact LeA.refl _
theorem compare_11 {a b:Int}:PC Tryz.prog 175 [.lit (.string (⟨#[108,101]⟩:ByteArray)),.lit (.int .i64 a),.lit (.int .i64 b)] (.lit (.int .i64 (tru (decide (a≤b))))):=by
  refine pcO E4_ok (fun _=>[0,1,2,6,7,8,14,20,26,32]) Tryz.func175 (h:=fun KF=>?_)
  unfold E4
  with_reducible repeat' first|(refine nx ?_;intros)|refine t_br (fun hc=>?_) fun hc=>?_|refine t_bx ?_|apply And.intro|intro vr|((first|refine ny ?_|refine t_dwh (h:=fun K KL=>?_));intros;simp only [go_sem,geff,con176_f,con176_c])
  refine end_ret rfl ?_
  simp only [fin,go_sem]
  exact LeA.refl _
theorem compare_12 {a b:Int}:PC Tryz.prog 175 [.lit (.string (⟨#[103,116]⟩:ByteArray)),.lit (.int .i64 a),.lit (.int .i64 b)] (.lit (.int .i64 (tru (decide (a>b))))):=by
  refine pcO E4_ok (fun _=>[0,1,2,6,7,8,14,20,26,32]) Tryz.func175 (h:=fun KF=>?_)
  unfold E4
  with_reducible repeat' first|(refine nx ?_;intros)|refine t_br (fun hc=>?_) fun hc=>?_|refine t_bx ?_|apply And.intro|intro vr|((first|refine ny ?_|refine t_dwh (h:=fun K KL=>?_));intros;simp only [go_sem,geff,con176_f,con176_c])
  refine end_ret rfl ?_
  simp only [fin,go_sem]
  exact LeA.refl _
theorem compare_13 {a b:Int}:PC Tryz.prog 175 [.lit (.string (⟨#[103,101]⟩:ByteArray)),.lit (.int .i64 a),.lit (.int .i64 b)] (.lit (.int .i64 (tru (decide (a≥b))))):=by
  refine pcO E4_ok (fun _=>[0,1,2,6,7,8,14,20,26,32]) Tryz.func175 (h:=fun KF=>?_)
  unfold E4
  with_reducible repeat' first|(refine nx ?_;intros)|refine t_br (fun hc=>?_) fun hc=>?_|refine t_bx ?_|apply And.intro|intro vr|((first|refine ny ?_|refine t_dwh (h:=fun K KL=>?_));intros;simp only [go_sem,geff,con176_f,con176_c])
  refine end_ret rfl ?_
  simp only [fin,go_sem]
  exact LeA.refl _
theorem compare_14 {a b:Int}:PC Tryz.prog 175 [.lit (.string (⟨#[101,113]⟩:ByteArray)),.lit (.int .i64 a),.lit (.int .i64 b)] (.lit (.int .i64 (tru (a==b)))):=by
  refine pcO E4_ok (fun _=>[0,1,2,6,7,8,14,20,26,32]) Tryz.func175 (h:=fun KF=>?_)
  unfold E4
  with_reducible repeat' first|(refine nx ?_;intros)|refine t_br (fun hc=>?_) fun hc=>?_|refine t_bx ?_|apply And.intro|intro vr|((first|refine ny ?_|refine t_dwh (h:=fun K KL=>?_));intros;simp only [go_sem,geff,con176_f,con176_c])
  refine end_ret rfl ?_
  simp only [fin,go_sem]
  exact LeA.refl _
theorem compare_15 {a b:Int}:PC Tryz.prog 175 [.lit (.string (⟨#[110,101]⟩:ByteArray)),.lit (.int .i64 a),.lit (.int .i64 b)] (.lit (.int .i64 (tru (a !=b)))):=by
  refine pcO E4_ok (fun _=>[0,1,2,6,7,8,14,20,26,32]) Tryz.func175 (h:=fun KF=>?_)
  unfold E4
  with_reducible repeat' first|(refine nx ?_;intros)|refine t_br (fun hc=>?_) fun hc=>?_|refine t_bx ?_|apply And.intro|intro vr|((first|refine ny ?_|refine t_dwh (h:=fun K KL=>?_));intros;simp only [go_sem,geff,con176_f,con176_c])
  refine end_ret rfl ?_
  simp only [fin,go_sem]
  exact LeA.refl _
noncomputable def con175:PCon Tryz.prog where
  f:=175
  c:=fun
   |[.lit (.string op),.lit (.int .i64 a),.lit (.int .i64 b)]=>match rowIx op with
    |some 10=>some (True,.lit (.int .i64 (tru (decide (a<b)))))
    |some 11=>some (True,.lit (.int .i64 (tru (decide (a≤b)))))
    |some 12=>some (True,.lit (.int .i64 (tru (decide (a>b)))))
    |some 13=>some (True,.lit (.int .i64 (tru (decide (a≥b)))))
    |some 14=>some (True,.lit (.int .i64 (tru (a==b))))
    |some 15=>some (True,.lit (.int .i64 (tru (a !=b))))
    |_=>none
   |_=>none
  ok:=by
   intro args p r hc hp
   split at hc
   ·rename_i op a b
    rcases ix_cases op with ⟨i,hi,he,hx,_⟩|⟨hx,_⟩
    ·rw [hx] at hc
     split at hc
     ·rename_i e;cases e;cases hc;subst he;exact compare_10
     ·rename_i e;cases e;cases hc;subst he;exact compare_11
     ·rename_i e;cases e;cases hc;subst he;exact compare_12
     ·rename_i e;cases e;cases hc;subst he;exact compare_13
     ·rename_i e;cases e;cases hc;subst he;exact compare_14
     ·rename_i e;cases e;cases hc;subst he;exact compare_15
     ·cases hc
    ·rw [hx] at hc;cases hc
   ·cases hc
  fk:=fk175
theorem con175_f:con175.f=175:=rfl
theorem con175_10 {a b:Int}:con175.c [.lit (.string (⟨#[108,116]⟩:ByteArray)),.lit (.int .i64 a),.lit (.int .i64 b)]=some (True,.lit (.int .i64 (tru (decide (a<b))))):=rfl
theorem con175_11 {a b:Int}:con175.c [.lit (.string (⟨#[108,101]⟩:ByteArray)),.lit (.int .i64 a),.lit (.int .i64 b)]=some (True,.lit (.int .i64 (tru (decide (a≤b))))):=rfl
theorem con175_12 {a b:Int}:con175.c [.lit (.string (⟨#[103,116]⟩:ByteArray)),.lit (.int .i64 a),.lit (.int .i64 b)]=some (True,.lit (.int .i64 (tru (decide (a>b))))):=rfl
theorem con175_13 {a b:Int}:con175.c [.lit (.string (⟨#[103,101]⟩:ByteArray)),.lit (.int .i64 a),.lit (.int .i64 b)]=some (True,.lit (.int .i64 (tru (decide (a≥b))))):=rfl
theorem con175_14 {a b:Int}:con175.c [.lit (.string (⟨#[101,113]⟩:ByteArray)),.lit (.int .i64 a),.lit (.int .i64 b)]=some (True,.lit (.int .i64 (tru (a==b)))):=rfl
theorem con175_15 {a b:Int}:con175.c [.lit (.string (⟨#[110,101]⟩:ByteArray)),.lit (.int .i64 a),.lit (.int .i64 b)]=some (True,.lit (.int .i64 (tru (a !=b)))):=rfl
theorem flo_bd {a b:Int} (ha:el a): -2147483649≤flo a b∧flo a b≤2147483648:=by
  unfold flo
  split
  ·omega
  ·rename_i hb
   have:=tdiv_bd ha hb
   split<;>omega
theorem mul_bd {a b:Int} (ha:el a) (hb:el b): -4611686018427387904≤a*b∧a*b≤4611686018427387904:=by
  unfold el at*
  have h:(a*b).natAbs≤2147483648*2147483648:=by
    rw [Int.natAbs_mul]
    exact Nat.mul_le_mul (by omega) (by omega)
  omega
theorem bflo_bd {a b:Int} (ha:el a) (hb:el b) (h:b≠0): -4294967296≤b*flo a b∧b*flo a b≤4294967296:=by
  have:=flo_spec (a:=a) h
  unfold el at*
  omega
theorem max_el {a b:Int} (ha:el a):a≤maxI a b∧maxI a b≤max a b:=by
  unfold maxI
  split<;>omega
end Go.Proofs.YtnlimcijgpaegaaGreat.El

namespace Go.Proofs.YtnlimcijgpaegaaGreat.El
open Go.Proofs.YtnlimcijgpaegaaGreat
open Go Go.Fw
set_option maxRecDepth 20000
noncomputable def E5:Env:=envOf (P:=Tryz.prog) zer (fun _=>false) (fun _=>false) [con126,con173,con174,con175] []
theorem E5_ok:EnvOk Tryz.prog E5:=envOk zer_ok
set_option maxHeartbeats 1000000 in
theorem v26_0 {a b:Int} (h0:el a) (h1:el b):PC Tryz.prog 167 [.lit (.string (⟨#[97,100,100]⟩:ByteArray)),.sl false 1 [.lit (.int .i64 a),.lit (.int .i64 b)]] (.lit (.int .i64 (vS 0 [a,b]))):=by
  unfold el at h0 h1
  refine pcO E5_ok (fun _=>[0,1,4,5,6,16,26,36,46,51,67,77,87,94,105,111,120,126,135]) Tryz.func167 (h:=fun KF=>?_)
  unfold E5
  with_reducible repeat' first|(refine nx ?_;intros)|apply And.intro|intro vr|((first|refine ny ?_|refine t_dwh (h:=fun K KL=>?_));intros;simp only [go_sem,geff,con126_f,con173_f,con174_f,con175_f,con126_c,con173_c,con174_c,con175_10,con175_11,con175_12,con175_13,con175_14,con175_15])
  all_goals try exact om
  refine end_ret rfl ?_
  simp only [fin,go_sem,vS]
  exact LeA.refl _
set_option maxHeartbeats 1000000 in
theorem v26_1 {a b:Int} (h0:el a) (h1:el b):PC Tryz.prog 167 [.lit (.string (⟨#[115,117,98]⟩:ByteArray)),.sl false 1 [.lit (.int .i64 a),.lit (.int .i64 b)]] (.lit (.int .i64 (vS 1 [a,b]))):=by
  unfold el at h0 h1
  refine pcO E5_ok (fun _=>[0,1,4,5,6,16,26,36,46,51,67,77,87,94,105,111,120,126,135]) Tryz.func167 (h:=fun KF=>?_)
  unfold E5
  with_reducible repeat' first|(refine nx ?_;intros)|apply And.intro|intro vr|((first|refine ny ?_|refine t_dwh (h:=fun K KL=>?_));intros;simp only [go_sem,geff,con126_f,con173_f,con174_f,con175_f,con126_c,con173_c,con174_c,con175_10,con175_11,con175_12,con175_13,con175_14,con175_15])
  all_goals try exact om
  refine end_ret rfl ?_
  simp only [fin,go_sem,vS]
  exact LeA.refl _
set_option maxHeartbeats 1000000 in
theorem v26_2 {a b:Int} (h0:el a) (h1:el b):PC Tryz.prog 167 [.lit (.string (⟨#[109,117,108]⟩:ByteArray)),.sl false 1 [.lit (.int .i64 a),.lit (.int .i64 b)]] (.lit (.int .i64 (vS 2 [a,b]))):=by
  have hm:=mul_bd h0 h1
  refine pcO E5_ok (fun _=>[0,1,4,5,6,16,26,36,46,51,67,77,87,94,105,111,120,126,135]) Tryz.func167 (h:=fun KF=>?_)
  unfold E5
  with_reducible repeat' first|(refine nx ?_;intros)|apply And.intro|intro vr|((first|refine ny ?_|refine t_dwh (h:=fun K KL=>?_));intros;simp only [go_sem,geff,con126_f,con173_f,con174_f,con175_f,con126_c,con173_c,con174_c,con175_10,con175_11,con175_12,con175_13,con175_14,con175_15])
  all_goals try exact om
  refine end_ret rfl ?_
  simp only [fin,go_sem,vS]
  exact LeA.refl _
set_option maxHeartbeats 1000000 in
theorem v26_3 {a b:Int} (h0:el a) (h1:el b):PC Tryz.prog 167 [.lit (.string (⟨#[100,105,118]⟩:ByteArray)),.sl false 1 [.lit (.int .i64 a),.lit (.int .i64 b)]] (.lit (.int .i64 (vS 3 [a,b]))):=by
  refine pcO E5_ok (fun _=>[0,1,4,5,6,16,26,36,46,51,67,77,87,94,105,111,120,126,135]) Tryz.func167 (h:=fun KF=>?_)
  unfold E5
  with_reducible repeat' first|(refine nx ?_;intros)|apply And.intro|intro vr|((first|refine ny ?_|refine t_dwh (h:=fun K KL=>?_));intros;simp only [go_sem,geff,con126_f,con173_f,con174_f,con175_f,con126_c,con173_c,con174_c,con175_10,con175_11,con175_12,con175_13,con175_14,con175_15,eq_true h0])
  all_goals try exact om
  refine end_ret rfl ?_
  simp only [fin,go_sem,vS]
  exact LeA.refl _
set_option maxHeartbeats 1000000 in
theorem v26_4 {a b:Int} (h0:el a) (h1:el b):PC Tryz.prog 167 [.lit (.string (⟨#[109,111,100]⟩:ByteArray)),.sl false 1 [.lit (.int .i64 a),.lit (.int .i64 b)]] (.lit (.int .i64 (vS 4 [a,b]))):=by
  simp only [vS]
  by_cases hb:b=0
  ·have g1:(b==0)=true:=by rw [beq_iff_eq];exact hb
   rw [if_pos hb]
   refine pcO E5_ok (fun _=>[0,1,4,5,6,16,26,36,46,51,67,77,87,94,105,111,120,126,135]) Tryz.func167 (h:=fun KF=>?_)
   unfold E5
   with_reducible repeat' first|(refine nx ?_;intros)|apply And.intro|intro vr|((first|refine ny ?_|refine t_dwh (h:=fun K KL=>?_));intros;simp only [go_sem,geff,con126_f,con173_f,con174_f,con175_f,con126_c,con173_c,con174_c,con175_10,con175_11,con175_12,con175_13,con175_14,con175_15,g1])
   all_goals try exact om
   refine end_ret rfl ?_
   simp only [fin,go_sem,vS]
   exact LeA.refl _
  ·have g1:(b==0)=false:=by rw [beq_eq_false_iff_ne];exact hb
   rw [if_neg hb]
   have hm:=bflo_bd h0 h1 hb
   have hl:=flo_bd (b:=b) h0
   have h0':=h0
   have h1':=h1
   unfold el at h0' h1'
   refine pcO E5_ok (fun _=>[0,1,4,5,6,16,26,36,46,51,67,77,87,94,105,111,120,126,135]) Tryz.func167 (h:=fun KF=>?_)
   unfold E5
   with_reducible repeat' first|(refine nx ?_;intros)|apply And.intro|intro vr|((first|refine ny ?_|refine t_dwh (h:=fun K KL=>?_));intros;simp only [go_sem,geff,con126_f,con173_f,con174_f,con175_f,con126_c,con173_c,con174_c,con175_10,con175_11,con175_12,con175_13,con175_14,con175_15,g1,eq_true h0])
   all_goals try exact om
   refine end_ret rfl ?_
   simp only [fin,go_sem,vS]
   exact LeA.refl _
set_option maxHeartbeats 1000000 in
theorem v26_5 {a b:Int} (h0:el a) (h1:el b):PC Tryz.prog 167 [.lit (.string (⟨#[109,105,110]⟩:ByteArray)),.sl false 1 [.lit (.int .i64 a),.lit (.int .i64 b)]] (.lit (.int .i64 (vS 5 [a,b]))):=by
  refine pcO E5_ok (fun _=>[0,1,4,5,6,16,26,36,46,51,67,77,87,94,105,111,120,126,135]) Tryz.func167 (h:=fun KF=>?_)
  unfold E5
  with_reducible repeat' first|(refine nx ?_;intros)|apply And.intro|intro vr|((first|refine ny ?_|refine t_dwh (h:=fun K KL=>?_));intros;simp only [go_sem,geff,con126_f,con173_f,con174_f,con175_f,con126_c,con173_c,con174_c,con175_10,con175_11,con175_12,con175_13,con175_14,con175_15])
  all_goals try exact om
  refine end_ret rfl ?_
  simp only [fin,go_sem,vS]
  exact LeA.refl _
set_option maxHeartbeats 1000000 in
theorem v26_6 {a b:Int} (h0:el a) (h1:el b):PC Tryz.prog 167 [.lit (.string (⟨#[109,97,120]⟩:ByteArray)),.sl false 1 [.lit (.int .i64 a),.lit (.int .i64 b)]] (.lit (.int .i64 (vS 6 [a,b]))):=by
  refine pcO E5_ok (fun _=>[0,1,4,5,6,16,26,36,46,51,67,77,87,94,105,111,120,126,135]) Tryz.func167 (h:=fun KF=>?_)
  unfold E5
  with_reducible repeat' first|(refine nx ?_;intros)|apply And.intro|intro vr|((first|refine ny ?_|refine t_dwh (h:=fun K KL=>?_));intros;simp only [go_sem,geff,con126_f,con173_f,con174_f,con175_f,con126_c,con173_c,con174_c,con175_10,con175_11,con175_12,con175_13,con175_14,con175_15])
  all_goals try exact om
  refine end_ret rfl ?_
  simp only [fin,go_sem,vS]
  exact LeA.refl _
set_option maxHeartbeats 1000000 in
theorem v26_7 {a:Int} (h0:el a):PC Tryz.prog 167 [.lit (.string (⟨#[110,101,103]⟩:ByteArray)),.sl false 1 [.lit (.int .i64 a)]] (.lit (.int .i64 (vS 7 [a]))):=by
  unfold el at h0
  refine pcO E5_ok (fun _=>[0,1,4,5,6,16,26,36,46,51,67,77,87,94,105,111,120,126,135]) Tryz.func167 (h:=fun KF=>?_)
  unfold E5
  with_reducible repeat' first|(refine nx ?_;intros)|apply And.intro|intro vr|(refine ny ?_;intros;simp only [go_sem,geff,con126_f,con173_f,con174_f,con175_f,con126_c,con173_c,con174_c,con175_10,con175_11,con175_12,con175_13,con175_14,con175_15])
  all_goals try exact om
  refine end_ret rfl ?_
  simp only [fin,go_sem,vS]
  exact LeA.refl _
set_option maxHeartbeats 1000000 in
theorem v26_8 {a:Int} (h0:el a):PC Tryz.prog 167 [.lit (.string (⟨#[97,98,115]⟩:ByteArray)),.sl false 1 [.lit (.int .i64 a)]] (.lit (.int .i64 (vS 8 [a]))):=by
  unfold el at h0
  have hm:=max_el (b:=0 - a) h0
  refine pcO E5_ok (fun _=>[0,1,4,5,6,16,26,36,46,51,67,77,87,94,105,111,120,126,135]) Tryz.func167 (h:=fun KF=>?_)
  unfold E5
  with_reducible repeat' first|(refine nx ?_;intros)|apply And.intro|intro vr|((first|refine ny ?_|refine t_dwh (h:=fun K KL=>?_));intros;simp only [go_sem,geff,con126_f,con173_f,con174_f,con175_f,con126_c,con173_c,con174_c,con175_10,con175_11,con175_12,con175_13,con175_14,con175_15])
  all_goals try exact om
  refine end_ret rfl ?_
  simp only [fin,go_sem,vS]
  exact LeA.refl _
set_option maxHeartbeats 1000000 in
theorem v26_9 {a:Int} (h0:el a):PC Tryz.prog 167 [.lit (.string (⟨#[115,105,103,110]⟩:ByteArray)),.sl false 1 [.lit (.int .i64 a)]] (.lit (.int .i64 (vS 9 [a]))):=by
  refine pcO E5_ok (fun _=>[0,1,4,5,6,16,26,36,46,51,67,77,87,94,105,111,120,126,135]) Tryz.func167 (h:=fun KF=>?_)
  unfold E5
  with_reducible repeat' first|(refine nx ?_;intros)|refine t_br (fun hc=>?_) fun hc=>?_|refine t_bx ?_|apply And.intro|intro vr|((first|refine ny ?_|refine t_dwh (h:=fun K KL=>?_));intros;simp only [go_sem,geff,con126_f,con173_f,con174_f,con175_f,con126_c,con173_c,con174_c,con175_10,con175_11,con175_12,con175_13,con175_14,con175_15])
  all_goals try exact om
  refine end_ret rfl ?_
  simp only [fin,go_sem,vS]
  exact LeA.refl _
set_option maxHeartbeats 1000000 in
theorem v26_10 {a b:Int} (h0:el a) (h1:el b):PC Tryz.prog 167 [.lit (.string (⟨#[108,116]⟩:ByteArray)),.sl false 1 [.lit (.int .i64 a),.lit (.int .i64 b)]] (.lit (.int .i64 (vS 10 [a,b]))):=by
  refine pcO E5_ok (fun _=>[0,1,4,5,6,16,26,36,46,51,67,77,87,94,105,111,120,126,135]) Tryz.func167 (h:=fun KF=>?_)
  unfold E5
  with_reducible repeat' first|(refine nx ?_;intros)|apply And.intro|intro vr|((first|refine ny ?_|refine t_dwh (h:=fun K KL=>?_));intros;simp only [go_sem,geff,con126_f,con173_f,con174_f,con175_f,con126_c,con173_c,con174_c,con175_10,con175_11,con175_12,con175_13,con175_14,con175_15])
  all_goals try exact om
  refine end_ret rfl ?_
  simp only [fin,go_sem,vS]
  exact LeA.refl _
set_option maxHeartbeats 1000000 in
theorem v26_11 {a b:Int} (h0:el a) (h1:el b):PC Tryz.prog 167 [.lit (.string (⟨#[108,101]⟩:ByteArray)),.sl false 1 [.lit (.int .i64 a),.lit (.int .i64 b)]] (.lit (.int .i64 (vS 11 [a,b]))):=by
  refine pcO E5_ok (fun _=>[0,1,4,5,6,16,26,36,46,51,67,77,87,94,105,111,120,126,135]) Tryz.func167 (h:=fun KF=>?_)
  unfold E5
  with_reducible repeat' first|(refine nx ?_;intros)|apply And.intro|intro vr|((first|refine ny ?_|refine t_dwh (h:=fun K KL=>?_));intros;simp only [go_sem,geff,con126_f,con173_f,con174_f,con175_f,con126_c,con173_c,con174_c,con175_10,con175_11,con175_12,con175_13,con175_14,con175_15])
  all_goals try exact om
  refine end_ret rfl ?_
  simp only [fin,go_sem,vS]
  exact LeA.refl _
set_option maxHeartbeats 1000000 in
theorem v26_12 {a b:Int} (h0:el a) (h1:el b):PC Tryz.prog 167 [.lit (.string (⟨#[103,116]⟩:ByteArray)),.sl false 1 [.lit (.int .i64 a),.lit (.int .i64 b)]] (.lit (.int .i64 (vS 12 [a,b]))):=by
  refine pcO E5_ok (fun _=>[0,1,4,5,6,16,26,36,46,51,67,77,87,94,105,111,120,126,135]) Tryz.func167 (h:=fun KF=>?_)
  unfold E5
  with_reducible repeat' first|(refine nx ?_;intros)|apply And.intro|intro vr|((first|refine ny ?_|refine t_dwh (h:=fun K KL=>?_));intros;simp only [go_sem,geff,con126_f,con173_f,con174_f,con175_f,con126_c,con173_c,con174_c,con175_10,con175_11,con175_12,con175_13,con175_14,con175_15])
  all_goals try exact om
  refine end_ret rfl ?_
  simp only [fin,go_sem,vS]
  exact LeA.refl _
set_option maxHeartbeats 1000000 in
theorem v26_13 {a b:Int} (h0:el a) (h1:el b):PC Tryz.prog 167 [.lit (.string (⟨#[103,101]⟩:ByteArray)),.sl false 1 [.lit (.int .i64 a),.lit (.int .i64 b)]] (.lit (.int .i64 (vS 13 [a,b]))):=by
  refine pcO E5_ok (fun _=>[0,1,4,5,6,16,26,36,46,51,67,77,87,94,105,111,120,126,135]) Tryz.func167 (h:=fun KF=>?_)
  unfold E5
  with_reducible repeat' first|(refine nx ?_;intros)|apply And.intro|intro vr|((first|refine ny ?_|refine t_dwh (h:=fun K KL=>?_));intros;simp only [go_sem,geff,con126_f,con173_f,con174_f,con175_f,con126_c,con173_c,con174_c,con175_10,con175_11,con175_12,con175_13,con175_14,con175_15])
  all_goals try exact om
  refine end_ret rfl ?_
  simp only [fin,go_sem,vS]
  exact LeA.refl _
set_option maxHeartbeats 1000000 in
theorem v26_14 {a b:Int} (h0:el a) (h1:el b):PC Tryz.prog 167 [.lit (.string (⟨#[101,113]⟩:ByteArray)),.sl false 1 [.lit (.int .i64 a),.lit (.int .i64 b)]] (.lit (.int .i64 (vS 14 [a,b]))):=by
  refine pcO E5_ok (fun _=>[0,1,4,5,6,16,26,36,46,51,67,77,87,94,105,111,120,126,135]) Tryz.func167 (h:=fun KF=>?_)
  unfold E5
  with_reducible repeat' first|(refine nx ?_;intros)|apply And.intro|intro vr|((first|refine ny ?_|refine t_dwh (h:=fun K KL=>?_));intros;simp only [go_sem,geff,con126_f,con173_f,con174_f,con175_f,con126_c,con173_c,con174_c,con175_10,con175_11,con175_12,con175_13,con175_14,con175_15])
  all_goals try exact om
  refine end_ret rfl ?_
  simp only [fin,go_sem,vS]
  exact LeA.refl _
set_option maxHeartbeats 1000000 in
theorem v26_15 {a b:Int} (h0:el a) (h1:el b):PC Tryz.prog 167 [.lit (.string (⟨#[110,101]⟩:ByteArray)),.sl false 1 [.lit (.int .i64 a),.lit (.int .i64 b)]] (.lit (.int .i64 (vS 15 [a,b]))):=by
  refine pcO E5_ok (fun _=>[0,1,4,5,6,16,26,36,46,51,67,77,87,94,105,111,120,126,135]) Tryz.func167 (h:=fun KF=>?_)
  unfold E5
  with_reducible repeat' first|(refine nx ?_;intros)|apply And.intro|intro vr|((first|refine ny ?_|refine t_dwh (h:=fun K KL=>?_));intros;simp only [go_sem,geff,con126_f,con173_f,con174_f,con175_f,con126_c,con173_c,con174_c,con175_10,con175_11,con175_12,con175_13,con175_14,con175_15])
  all_goals try exact om
  refine end_ret rfl ?_
  simp only [fin,go_sem,vS]
  exact LeA.refl _
set_option maxHeartbeats 1000000 in
theorem v26_16 {a b:Int} (h0:a=0∨a=1) (h1:b=0∨b=1):PC Tryz.prog 167 [.lit (.string (⟨#[97,110,100]⟩:ByteArray)),.sl false 1 [.lit (.int .i64 a),.lit (.int .i64 b)]] (.lit (.int .i64 (vS 16 [a,b]))):=by
  refine pcO E5_ok (fun _=>[0,1,4,5,6,16,26,36,46,51,67,77,87,94,105,111,120,126,135]) Tryz.func167 (h:=fun KF=>?_)
  unfold E5
  with_reducible repeat' first|(refine nx ?_;intros)|apply And.intro|intro vr|((first|refine ny ?_|refine t_dwh (h:=fun K KL=>?_));intros;simp only [go_sem,geff,con126_f,con173_f,con174_f,con175_f,con126_c,con173_c,con174_c,con175_10,con175_11,con175_12,con175_13,con175_14,con175_15])
  all_goals try exact om
  refine end_ret rfl ?_
  simp only [fin,go_sem,vS]
  exact LeA.refl _
set_option maxHeartbeats 1000000 in
theorem v26_17 {a b:Int} (h0:a=0∨a=1) (h1:b=0∨b=1):PC Tryz.prog 167 [.lit (.string (⟨#[111,114]⟩:ByteArray)),.sl false 1 [.lit (.int .i64 a),.lit (.int .i64 b)]] (.lit (.int .i64 (vS 17 [a,b]))):=by
  refine pcO E5_ok (fun _=>[0,1,4,5,6,16,26,36,46,51,67,77,87,94,105,111,120,126,135]) Tryz.func167 (h:=fun KF=>?_)
  unfold E5
  with_reducible repeat' first|(refine nx ?_;intros)|apply And.intro|intro vr|((first|refine ny ?_|refine t_dwh (h:=fun K KL=>?_));intros;simp only [go_sem,geff,con126_f,con173_f,con174_f,con175_f,con126_c,con173_c,con174_c,con175_10,con175_11,con175_12,con175_13,con175_14,con175_15])
  all_goals try exact om
  refine end_ret rfl ?_
  simp only [fin,go_sem,vS]
  exact LeA.refl _
set_option maxHeartbeats 1000000 in
theorem v26_18 {a b:Int} (h0:a=0∨a=1) (h1:b=0∨b=1):PC Tryz.prog 167 [.lit (.string (⟨#[120,111,114]⟩:ByteArray)),.sl false 1 [.lit (.int .i64 a),.lit (.int .i64 b)]] (.lit (.int .i64 (vS 18 [a,b]))):=by
  rcases h0 with rfl|rfl<;>rcases h1 with rfl|rfl
  ·skip
   refine pcO E5_ok (fun _=>[0,1,4,5,6,16,26,36,46,51,67,77,87,94,105,111,120,126,135]) Tryz.func167 (h:=fun KF=>?_)
   unfold E5
   with_reducible repeat' first|(refine nx ?_;intros)|apply And.intro|intro vr|((first|refine ny ?_|refine t_dwh (h:=fun K KL=>?_));intros;simp only [go_sem,geff,con126_f,con173_f,con174_f,con175_f,con126_c,con173_c,con174_c,con175_10,con175_11,con175_12,con175_13,con175_14,con175_15])
   all_goals try exact om
   refine end_ret rfl ?_
   simp only [fin,go_sem,vS]
   exact LeA.refl _
  ·skip
   refine pcO E5_ok (fun _=>[0,1,4,5,6,16,26,36,46,51,67,77,87,94,105,111,120,126,135]) Tryz.func167 (h:=fun KF=>?_)
   unfold E5
   with_reducible repeat' first|(refine nx ?_;intros)|apply And.intro|intro vr|((first|refine ny ?_|refine t_dwh (h:=fun K KL=>?_));intros;simp only [go_sem,geff,con126_f,con173_f,con174_f,con175_f,con126_c,con173_c,con174_c,con175_10,con175_11,con175_12,con175_13,con175_14,con175_15])
   all_goals try exact om
   refine end_ret rfl ?_
   simp only [fin,go_sem,vS]
   exact LeA.refl _
  ·skip
   refine pcO E5_ok (fun _=>[0,1,4,5,6,16,26,36,46,51,67,77,87,94,105,111,120,126,135]) Tryz.func167 (h:=fun KF=>?_)
   unfold E5
   with_reducible repeat' first|(refine nx ?_;intros)|apply And.intro|intro vr|((first|refine ny ?_|refine t_dwh (h:=fun K KL=>?_));intros;simp only [go_sem,geff,con126_f,con173_f,con174_f,con175_f,con126_c,con173_c,con174_c,con175_10,con175_11,con175_12,con175_13,con175_14,con175_15])
   all_goals try exact om
   refine end_ret rfl ?_
   simp only [fin,go_sem,vS]
   exact LeA.refl _
  ·skip
   refine pcO E5_ok (fun _=>[0,1,4,5,6,16,26,36,46,51,67,77,87,94,105,111,120,126,135]) Tryz.func167 (h:=fun KF=>?_)
   unfold E5
   with_reducible repeat' first|(refine nx ?_;intros)|apply And.intro|intro vr|((first|refine ny ?_|refine t_dwh (h:=fun K KL=>?_));intros;simp only [go_sem,geff,con126_f,con173_f,con174_f,con175_f,con126_c,con173_c,con174_c,con175_10,con175_11,con175_12,con175_13,con175_14,con175_15])
   all_goals try exact om
   refine end_ret rfl ?_
   simp only [fin,go_sem,vS]
   exact LeA.refl _
set_option maxHeartbeats 1000000 in
theorem v26_19 {a:Int} (h0:a=0∨a=1):PC Tryz.prog 167 [.lit (.string (⟨#[110,111,116]⟩:ByteArray)),.sl false 1 [.lit (.int .i64 a)]] (.lit (.int .i64 (vS 19 [a]))):=by
  have h0': -1≤a∧a≤1:=by omega
  refine pcO E5_ok (fun _=>[0,1,4,5,6,16,26,36,46,51,67,77,87,94,105,111,120,126,135]) Tryz.func167 (h:=fun KF=>?_)
  unfold E5
  with_reducible repeat' first|(refine nx ?_;intros)|apply And.intro|intro vr|(refine ny ?_;intros;simp only [go_sem,geff,con126_f,con173_f,con174_f,con175_f,con126_c,con173_c,con174_c,con175_10,con175_11,con175_12,con175_13,con175_14,con175_15])
  all_goals try exact om
  refine end_ret rfl ?_
  simp only [fin,go_sem,vS]
  exact LeA.refl _
set_option maxHeartbeats 1000000 in
theorem v26_20 {a b c:Int} (h0:a=0∨a=1) (h1:el b) (h2:el c):PC Tryz.prog 167 [.lit (.string (⟨#[115,101,108,101,99,116]⟩:ByteArray)),.sl false 1 [.lit (.int .i64 a),.lit (.int .i64 b),.lit (.int .i64 c)]] (.lit (.int .i64 (vS 20 [a,b,c]))):=by
  rcases h0 with rfl|rfl
  ·skip
   refine pcO E5_ok (fun _=>[0,1,4,5,6,16,26,36,46,51,67,77,87,94,105,111,120,126,135]) Tryz.func167 (h:=fun KF=>?_)
   unfold E5
   with_reducible repeat' first|(refine nx ?_;intros)|apply And.intro|intro vr|(refine ny ?_;intros;simp only [go_sem,geff,con126_f,con173_f,con174_f,con175_f,con126_c,con173_c,con174_c,con175_10,con175_11,con175_12,con175_13,con175_14,con175_15])
   all_goals try exact om
   refine end_ret rfl ?_
   simp only [fin,go_sem,vS]
   exact LeA.refl _
  ·skip
   refine pcO E5_ok (fun _=>[0,1,4,5,6,16,26,36,46,51,67,77,87,94,105,111,120,126,135]) Tryz.func167 (h:=fun KF=>?_)
   unfold E5
   with_reducible repeat' first|(refine nx ?_;intros)|apply And.intro|intro vr|(refine ny ?_;intros;simp only [go_sem,geff,con126_f,con173_f,con174_f,con175_f,con126_c,con173_c,con174_c,con175_10,con175_11,con175_12,con175_13,con175_14,con175_15])
   all_goals try exact om
   refine end_ret rfl ?_
   simp only [fin,go_sem,vS]
   exact LeA.refl _
set_option maxHeartbeats 1000000 in
theorem v26_21 {a:Int} (h0:a=0∨a=1):PC Tryz.prog 167 [.lit (.string (⟨#[116,111,105,110,116]⟩:ByteArray)),.sl false 1 [.lit (.int .i64 a)]] (.lit (.int .i64 (vS 21 [a]))):=by
  refine pcO E5_ok (fun _=>[0,1,4,5,6,16,26,36,46,51,67,77,87,94,105,111,120,126,135]) Tryz.func167 (h:=fun KF=>?_)
  unfold E5
  with_reducible repeat' first|(refine nx ?_;intros)|refine t_br (fun hc=>?_) fun hc=>?_|refine t_bx ?_|apply And.intro|intro vr|((first|refine ny ?_|refine t_dwh (h:=fun K KL=>?_));intros;simp only [go_sem,geff,con126_f,con173_f,con174_f,con175_f,con126_c,con173_c,con174_c,con175_10,con175_11,con175_12,con175_13,con175_14,con175_15])
  all_goals try exact om
  refine end_ret rfl ?_
  simp only [fin,go_sem,vS]
  exact LeA.refl _
noncomputable def con167:PCon Tryz.prog where
  f:=167
  c:=fun
   |[.lit (.string op),x]=>(rowIx op).bind fun i=>(slK .i64 x).map fun xs=>(okL i xs,.lit (.int .i64 (vS i xs)))
   |_=>none
  ok:=by
   intro args p r hc hp
   split at hc
   ·rename_i op x
    rcases ix_cases op with ⟨i,hi,he,hx,_⟩|⟨hx,_⟩
    ·rw [hx] at hc
     cases hl:slK .i64 x with
     |none=>rw [hl] at hc;cases hc
     |some xs=>
      rw [hl] at hc
      cases hc
      refine PC.weak (bs:=[.lit (.string op),.sl false 1 (ints .i64 xs)]) ?_ ⟨LeA.refl _,slK_le hl,trivial⟩
      subst he
      clear hx hl
      have:i=0∨i=1∨i=2∨i=3∨i=4∨i=5∨i=6∨i=7∨i=8∨i=9∨i=10∨i=11∨i=12∨i=13∨i=14∨i=15∨i=16∨i=17∨i=18∨i=19∨i=20∨i=21:=by omega
      rcases this with rfl|rfl|rfl|rfl|rfl|rfl|rfl|rfl|rfl|rfl|rfl|rfl|rfl|rfl|rfl|rfl|rfl|rfl|rfl|rfl|rfl|rfl
      ·obtain ⟨a,b,rfl,h0,h1⟩:=okL_0.1 hp;exact v26_0 h0 h1
      ·obtain ⟨a,b,rfl,h0,h1⟩:=okL_1.1 hp;exact v26_1 h0 h1
      ·obtain ⟨a,b,rfl,h0,h1⟩:=okL_2.1 hp;exact v26_2 h0 h1
      ·obtain ⟨a,b,rfl,h0,h1⟩:=okL_3.1 hp;exact v26_3 h0 h1
      ·obtain ⟨a,b,rfl,h0,h1⟩:=okL_4.1 hp;exact v26_4 h0 h1
      ·obtain ⟨a,b,rfl,h0,h1⟩:=okL_5.1 hp;exact v26_5 h0 h1
      ·obtain ⟨a,b,rfl,h0,h1⟩:=okL_6.1 hp;exact v26_6 h0 h1
      ·obtain ⟨a,rfl,h0⟩:=okL_7.1 hp;exact v26_7 h0
      ·obtain ⟨a,rfl,h0⟩:=okL_8.1 hp;exact v26_8 h0
      ·obtain ⟨a,rfl,h0⟩:=okL_9.1 hp;exact v26_9 h0
      ·obtain ⟨a,b,rfl,h0,h1⟩:=okL_10.1 hp;exact v26_10 h0 h1
      ·obtain ⟨a,b,rfl,h0,h1⟩:=okL_11.1 hp;exact v26_11 h0 h1
      ·obtain ⟨a,b,rfl,h0,h1⟩:=okL_12.1 hp;exact v26_12 h0 h1
      ·obtain ⟨a,b,rfl,h0,h1⟩:=okL_13.1 hp;exact v26_13 h0 h1
      ·obtain ⟨a,b,rfl,h0,h1⟩:=okL_14.1 hp;exact v26_14 h0 h1
      ·obtain ⟨a,b,rfl,h0,h1⟩:=okL_15.1 hp;exact v26_15 h0 h1
      ·obtain ⟨a,b,rfl,h0,h1⟩:=okL_16.1 hp;exact v26_16 h0 h1
      ·obtain ⟨a,b,rfl,h0,h1⟩:=okL_17.1 hp;exact v26_17 h0 h1
      ·obtain ⟨a,b,rfl,h0,h1⟩:=okL_18.1 hp;exact v26_18 h0 h1
      ·obtain ⟨a,rfl,h0⟩:=okL_19.1 hp;exact v26_19 h0
      ·obtain ⟨a,b,c,rfl,h0,h1,h2⟩:=okL_20.1 hp;exact v26_20 h0 h1 h2
      ·obtain ⟨a,rfl,h0⟩:=okL_21.1 hp;exact v26_21 h0
    ·rw [hx] at hc;cases hc
   ·cases hc
  fk:=fk167
theorem con167_f:con167.f=167:=rfl
theorem con167_c {op:ByteArray} {x:AV}:con167.c [.lit (.string op),x]=(rowIx op).bind fun i=>(slK .i64 x).map fun xs=>(okL i xs,.lit (.int .i64 (vS i xs))):=rfl
end Go.Proofs.YtnlimcijgpaegaaGreat.El

namespace Go.Proofs.YtnlimcijgpaegaaGreat.El
open Go.Proofs.YtnlimcijgpaegaaGreat
open Go Go.Fw
set_option maxRecDepth 20000
end Go.Proofs.YtnlimcijgpaegaaGreat.El

namespace Go.Proofs.YtnlimcijgpaegaaGreat.El
open Go.Proofs.YtnlimcijgpaegaaGreat
open Go Go.Fw
set_option maxRecDepth 20000
noncomputable def con70:PCon Tryz.prog where
  f:=70
  c:=fun
   |[.lit (.string op)]=>some (True,typesV (typesS op))
   |_=>none
  ok:=by
   intro args p r hc hp
   split at hc
   ·cases hc;exact types_pc
   ·cases hc
  fk:=fk70
theorem con70_f:con70.f=70:=rfl
theorem con70_c {op:ByteArray}:con70.c [.lit (.string op)]=some (True,typesV (typesS op)):=rfl
theorem typesV_none:typesV none= .tup [.lit (.slice none 0 0),.lit (.string ⟨#[]⟩),.lit (.bool false)]:=rfl
theorem typesV_row (i:Nat):typesV (some (rowsL.getD i default))= .tup [.sl false 1 (strs (psN i)),.lit (.string (rowsL.getD i default).rs),.lit (.bool true)]:=rfl
def okB (i:Nat) (xs:List Int):Bool:=decide (xs.length=(psN i).length)&&okA (psN i) xs
def applyS (op:ByteArray) (xs:List Int):Option Int:=(rowIx op).bind fun i=>if okB i xs=true then some (vS i xs) else none
def applyV (o:Option Int):AV:=match o with
  |some n=> .tup [.lit (.int .i64 n),.lit (.bool true)]
  |none=> .tup [.lit (.int .i64 0),.lit (.bool false)]
theorem okA_drop {ps:List ByteArray} {xs:List Int} {i:Nat} (h1:i<ps.length) (h2:i<xs.length):
    okA (ps.drop i) (xs.drop i)=(vld (elT (ps.getD i ByteArray.empty)) (xs.getD i 0)&&okA (ps.drop (i+1)) (xs.drop (i+1))):=by
  rw [getD_elem _ _ h1,getD_elem _ _ h2]
  conv=>lhs;rw [List.drop_eq_getElem_cons h1,List.drop_eq_getElem_cons h2]
  rfl
theorem psN_len:∀ i,i<22→(psN i).length≤3∧1≤(psN i).length∧((psN i).length=3→i=20):=by decide
theorem psN_el:∀ i,i<22→∀ p∈psN i,p=sInt∨p=sBool∨p=sA:=by
  intro i hi
  have:i=0∨i=1∨i=2∨i=3∨i=4∨i=5∨i=6∨i=7∨i=8∨i=9∨i=10∨i=11∨i=12∨i=13∨i=14∨i=15∨i=16∨i=17∨i=18∨i=19∨i=20∨i=21:=by omega
  rcases this with rfl|rfl|rfl|rfl|rfl|rfl|rfl|rfl|rfl|rfl|rfl|rfl|rfl|rfl|rfl|rfl|rfl|rfl|rfl|rfl|rfl|rfl
  all_goals (intro p hp;simp only [psN,rowsL,List.getD_cons_zero,List.getD_cons_succ,List.mem_cons,List.not_mem_nil,or_false] at hp;rcases hp with rfl|rfl|rfl)
  all_goals first|exact .inl rfl|exact .inr (.inl rfl)|exact .inr (.inr rfl)
noncomputable def E7:Env:=envOf (P:=Tryz.prog) zer (fun _=>false) (fun _=>false) [con147,con70,con167] []
theorem E7_ok:EnvOk Tryz.prog E7:=envOk zer_ok
set_option maxHeartbeats 2000000 in
theorem apply_pc {op:ByteArray} {xs:List Int}:PC Tryz.prog 149 [.lit (.string op),.sl false 1 (ints .i64 xs)] (applyV (applyS op xs)):=by
  rcases ix_cases op with ⟨i0,hi0, -,hx,ht⟩|⟨hx,ht⟩
  rotate_left
  ·have e:applyS op xs=none:=by unfold applyS;rw [hx];rfl
   rw [e]
   refine pcO E7_ok (fun _=>[0,1,4,5,6,8,9,10,11,26,27,28,29,30,39,43]) Tryz.func149 (h:=fun KF=>?_)
   unfold E7
   with_reducible repeat' first|(refine nx ?_;intros)|apply And.intro|intro vr|(refine ny ?_;intros;simp only [go_sem,geff,con147_f,con70_f,con167_f,con70_c,ht,typesV_none])
   refine end_ret rfl ?_
   simp only [fin,go_sem,applyV]
   exact LeA.refl _
  have hl:=psN_len i0 hi0
  have hT:=typesV_row i0
  by_cases hn:xs.length=(psN i0).length
  rotate_left
  ·have e:applyS op xs=none:=by unfold applyS;rw [hx];simp [okB,hn]
   have g1:((xs.length:Int) !=((psN i0).length:Int))=true:=by rw [bne_iff_ne];omega
   rw [e]
   refine pcO E7_ok (fun _=>[0,1,4,5,6,8,9,10,11,26,27,28,29,30,39,43]) Tryz.func149 (h:=fun KF=>?_)
   unfold E7
   with_reducible repeat' first|(refine nx ?_;intros)|apply And.intro|intro vr|(refine ny ?_;intros;simp only [go_sem,geff,con147_f,con70_f,con167_f,con70_c,ht,hT,g1,pickB])
   all_goals try exact om
   refine end_ret rfl ?_
   simp only [fin,go_sem,applyV]
   exact LeA.refl _
  have g1:((xs.length:Int) !=((psN i0).length:Int))=false:=by rw [bne_eq_false_iff_eq];omega
  have hR:applyS op xs=if okA (psN i0) xs=true then some (vS i0 xs) else none:=by
    unfold applyS
    rw [hx]
    simp [okB,hn]
  have hL:okA (psN i0) xs=true→okL i0 xs:=fun h=>⟨hn,h⟩
  rw [hR]
  clear hR
  generalize hps:psN i0=ps at*
  clear hps
  refine pcO E7_ok (fun _=>[0,1,4,5,6,8,9,10,11,26,27,28,29,30,39,43]) Tryz.func149 (h:=fun KF=>?_)
  unfold E7
  with_reducible repeat' first|(refine nx ?_;intros)|apply And.intro|intro vr|(refine ny ?_;intros;simp only [go_sem,geff,con147_f,con70_f,con167_f,con70_c,ht,hT,g1,pickB])
  all_goals try exact om
  refine t_loop (ι:={i:Nat // i≤xs.length∧okA (ps.drop i) (xs.drop i)=okA ps xs}) (fun i=>⟨upd (upd (upd (upd (upd (upd topF 29 (.lit (.int .i64 i.1))) 28 (.lit (.int .i64 xs.length))) 27 (.sl false 1 (ints .i64 xs))) 6 (.sl false 1 (strs ps))) 1 (.sl false 1 (ints .i64 xs))) 0 (.lit (.string op)),[]⟩) (fun i=>xs.length - i.1) ⟨0,by omega,rfl⟩ ?_ ?_
  ·skip
   (refine Le.frame ?_;repeat' (first|exact leF_top _|(with_reducible refine leF_sl ?_ ?_)|(refine leF_upd (LeR.of_eq ?_) ?_)))<;>(try (simp only [go_sem];try rfl))
  rintro ⟨i,hi,hF⟩ K0
  rcases Nat.lt_or_ge i xs.length with hc|hc
  ·have g2:decide ((i:Int)<(xs.length:Int))=true:=decide_eq_true (by omega)
   have hc':i<ps.length:=by omega
   have e1:=ints_getD .i64 xs i hc
   have e2:=strs_getD ps i hc'
   rw [okA_drop hc' hc] at hF
   generalize ps.getD i ByteArray.empty=p at*
   generalize xs.getD i 0=x at*
   by_cases hA:eqS p ⟨#[65]⟩=true
   ·have hel:elT p=⟨#[105,110,116]⟩:=by unfold elT sA sInt;rw [if_pos hA]
    rw [hel] at hF
    cases hv:vld ⟨#[105,110,116]⟩ x with
    |true=>
     rw [hv,Bool.true_and] at hF
     with_reducible repeat' first|(refine nx ?_;intros)|apply And.intro|intro vr|(refine ny ?_;intros;simp only [go_sem,geff,g2,Int.toNat_natCast,e1,e2,hA,hv,con147_f,con70_f,con167_f,con147_c])
     all_goals try exact om
     refine ⟨⟨i+1,by omega,hF⟩,by simp only;omega,?_⟩
     (refine Le.frame ?_;repeat' (first|exact leF_top _|(with_reducible refine leF_sl ?_ ?_)|(refine leF_upd (LeR.of_eq ?_) ?_)))<;>(try (simp only [go_sem];try rfl))
    |false=>
     rw [hv,Bool.false_and] at hF
     have hF2:okA ps xs=false:=hF.symm
     with_reducible repeat' first|(refine nx ?_;intros)|apply And.intro|intro vr|(refine ny ?_;intros;simp only [go_sem,geff,g2,Int.toNat_natCast,e1,e2,hA,hv,con147_f,con70_f,con167_f,con147_c])
     all_goals try exact om
     refine end_ret rfl ?_
     simp only [fin,go_sem,applyV,hF2,Bool.false_eq_true]
     exact LeA.refl _
   ·have hA':eqS p ⟨#[65]⟩=false:=by simpa using hA
    have hel:elT p=p:=by unfold elT sA;rw [if_neg hA]
    rw [hel] at hF
    cases hv:vld p x with
    |true=>
     rw [hv,Bool.true_and] at hF
     with_reducible repeat' first|(refine nx ?_;intros)|apply And.intro|intro vr|(refine ny ?_;intros;simp only [go_sem,geff,g2,Int.toNat_natCast,e1,e2,hA',hv,con147_f,con70_f,con167_f,con147_c])
     all_goals try exact om
     refine ⟨⟨i+1,by omega,hF⟩,by simp only;omega,?_⟩
     (refine Le.frame ?_;repeat' (first|exact leF_top _|(with_reducible refine leF_sl ?_ ?_)|(refine leF_upd (LeR.of_eq ?_) ?_)))<;>(try (simp only [go_sem];try rfl))
    |false=>
     rw [hv,Bool.false_and] at hF
     have hF2:okA ps xs=false:=hF.symm
     with_reducible repeat' first|(refine nx ?_;intros)|apply And.intro|intro vr|(refine ny ?_;intros;simp only [go_sem,geff,g2,Int.toNat_natCast,e1,e2,hA',hv,con147_f,con70_f,con167_f,con147_c])
     all_goals try exact om
     refine end_ret rfl ?_
     simp only [fin,go_sem,applyV,hF2,Bool.false_eq_true]
     exact LeA.refl _
  ·have g2:decide ((i:Int)<(xs.length:Int))=false:=decide_eq_false (by omega)
   have:i=xs.length:=by omega
   subst this
   have hF':okA ps xs=true:=by
     rw [←hF,List.drop_eq_nil_of_le (by omega:ps.length≤xs.length)];rfl
   with_reducible repeat' first|(refine nx ?_;intros)|apply And.intro|intro vr|(refine ny ?_;intros;simp only [go_sem,geff,g2,con147_f,con70_f,con167_f,con167_c,hx,slK_sl,Option.bind_some,Option.map_some])
   all_goals try exact om
   ·exact hL hF'
   refine end_ret rfl ?_
   simp only [fin,go_sem,applyV,hF']
   exact LeA.refl _
noncomputable def con149:PCon Tryz.prog where
  f:=149
  c:=fun
   |[.lit (.string op),x]=>(slK .i64 x).map fun xs=>(True,applyV (applyS op xs))
   |_=>none
  ok:=by
   intro args p r hc hp
   split at hc
   ·rename_i op x
    cases hl:slK .i64 x with
    |none=>rw [hl] at hc;cases hc
    |some xs=>
     rw [hl] at hc
     cases hc
     exact PC.weak apply_pc ⟨LeA.refl _,slK_le hl,trivial⟩
   ·cases hc
  fk:=fk149
theorem con149_f:con149.f=149:=rfl
theorem con149_c {op:ByteArray} {x:AV}:con149.c [.lit (.string op),x]=(slK .i64 x).map fun xs=>(True,applyV (applyS op xs)):=rfl
end Go.Proofs.YtnlimcijgpaegaaGreat.El

namespace Go.Proofs.YtnlimcijgpaegaaGreat.El
open Go.Proofs.YtnlimcijgpaegaaGreat
open Go Go.Fw
set_option maxRecDepth 20000
end Go.Proofs.YtnlimcijgpaegaaGreat.El

namespace Go.Proofs.YtnlimcijgpaegaaGreat.Bm
open Go.Proofs.YtnlimcijgpaegaaGreat
open Go Go.Fw
structure Ins where
  code:Int
  prim:ByteArray
  a:Int
  b:Int
  c:Int
  d:Int
def nilI:Ins:=⟨0,⟨#[]⟩,0,0,0,0⟩
structure Prg where
  regs:Int
  arena:Int
  ops:List Ins
  ins:List (Int×Int)
  outs:List (Int×Int)
  types:List Arr
def Prg.op (B:Prg) (i:Int):Ins:=B.ops.getD i.toNat nilI
def formS (x:Ins):Option (List Bool):=
  if x.code=1 then some [true,false]
  else if x.code=2∨x.code=10 then some [true,true,true,false]
  else if x.code=3∨x.code=4 then some [true,true,true]
  else if x.code=5 then (El.typesS x.prim).map fun r=>List.replicate (1+r.ps.length) true
  else if x.code=6∨x.code=7∨x.code=14 then some [true,true]
  else if x.code=8∨x.code=11 then some [true]
  else if x.code=9 then some [false,true]
  else if x.code=12∨x.code=13∨x.code=15 then some []
  else none
def oprs (x:Ins):List Int:=[x.a,x.b,x.c,x.d]
def maxC:Int:=1099511627776
def maxA:Int:=1048576
def oprOk (f:List Bool) (regs:Int) (i:Nat) (n:Int):Bool:=
  if i≥f.length then decide (n=0) else if f.getD i false=true then decide (0≤n∧n<regs) else true
def restOk (x:Ins):Bool:=
  if x.code=1 then decide (-maxC≤x.b∧x.b≤maxC)
  else if x.code=2 then decide (-maxA≤x.d∧x.d≤maxA)
  else if x.code=9 then decide (1≤x.a∧x.a≤1000000)
  else if x.code=10 then decide (1≤x.d∧x.d≤maxA)
  else true
def rightS (x:Ins) (regs:Int):Bool:=match formS x with
  |none=>false
  |some f=>(decide (x.code=5)||decide (x.prim.data.toList=[]))&&(oprOk f regs 0 x.a&&oprOk f regs 1 x.b&&oprOk f regs 2 x.c&&oprOk f regs 3 x.d)&&restOk x
def wrtB (c:Int):Bool:=decide (c=1)||decide (c=2)||decide (c=3)||decide (c=4)||decide (c=5)||decide (c=6)||decide (c=8)||decide (c=10)||decide (c=14)
def pickR (w:Bool):Nat→List Bool→List Int→List Int
  |i,true::f,n::l=>if 0<i∨w=false then n::pickR w (i+1) f l else pickR w (i+1) f l
  |i,false::f,_::l=>pickR w (i+1) f l
  |_,_,_=>[]
def readsS (x:Ins):List Int:=match formS x with
  |none=>[]
  |some f=>pickR (wrtB x.code) 0 f (oprs x)
def matchG (ops:List Ins):List Ins→Nat→List Int→List Nat→Option (List Int)
  |[],_,out,[]=>some out
  |[],_,_,_::_=>none
  |x::l,i,out,st=>
   if x.code=10∨x.code=11 then (if st.length≥40 then none else matchG ops l (i+1) (out++[(i:Int)]) (i::st))
   else if x.code=12 then (match st with
     |[]=>none
     |j::st'=>if (ops.getD j nilI).code=11 then matchG ops l (i+1) ((out++[(i:Int)]).set j i) (i::st') else none)
   else if x.code=13 then (match st with
     |[]=>none
     |j::st'=>matchG ops l (i+1) ((out++[(i:Int)]).set j i) st')
   else matchG ops l (i+1) (out++[(i:Int)]) st
def matchS (ops:List Ins):Option (List Int):=if ops.length>5000 then none else matchG ops ops 0 [] []
def typeOk (arena:Int) (t:Arr) (p:Int×Int):Bool:=
  (eqS t.e sInt||eqS t.e sBool)&&decide ((sizeS t.d).2=0)&&decide (t.x=[])&&decide (p.2=(sizeS t.d).1)&&decide (0≤p.1)&&decide (p.1≤arena - (sizeS t.d).1)
def typesOk (arena:Int):List Arr→List (Int×Int)→Bool
  |t::ts,p::ps=>typeOk arena t p&&typesOk arena ts ps
  |_,_=>true
def validS (B:Prg):Bool:=decide (0≤B.regs∧B.regs≤200)&&decide (0≤B.arena∧B.arena≤maxA)&&decide (B.types.length=B.ins.length+B.outs.length)&&B.ops.all (fun x=>rightS x B.regs)&&(matchS B.ops).isSome&&
  typesOk B.arena B.types (B.ins++B.outs)
structure Rng where
  lo:Int
  hi:Int
structure St where
  regs:List Int
  arena:List Int
  reads:Int
  writes:Int
  ops:Int
  peak:Int
  viol:List Int
  left:Int
  failed:Bool
  at_:Int
  out:Bool
def gt (l:List Int) (i:Int):Int:=l.getD i.toNat 0
def noteS (l:List Int) (n:Int):List Int:=
  let k:=(l.takeWhile fun m=>decide (m<n)).length
  if k<l.length∧l.getD k 0=n then l else l.take k++[n]++l.drop k
def inMc (n:Int):Bool:=decide (-maxC≤n∧n≤maxC)
def St.put (s:St) (i v:Int):St:={s with regs:=s.regs.set i.toNat v}
def simpleS (x:Ins) (s:St):St:=
  if x.code=1 then s.put x.a x.b
  else if x.code=2 then (if inMc (gt s.regs x.b+x.d*gt s.regs x.c)=true then s.put x.a (gt s.regs x.b+x.d*gt s.regs x.c) else {s with failed:=true})
  else if x.code=3 then s.put x.a (minI (gt s.regs x.b) (gt s.regs x.c))
  else if x.code=4 then s.put x.a (maxI (gt s.regs x.b) (gt s.regs x.c))
  else if x.code=5 then (match El.applyS x.prim ((readsS x).map (gt s.regs)) with
    |none=>{s with failed:=true}
    |some n=>{s.put x.a n with ops:=s.ops+1})
  else if x.code=6 then (if 0≤gt s.regs x.b∧gt s.regs x.b<s.arena.length then {s.put x.a (gt s.arena (gt s.regs x.b)) with reads:=s.reads+1} else {s with failed:=true})
  else if x.code=7 then (if (0≤gt s.regs x.a∧gt s.regs x.a<s.arena.length)∧vld sInt (gt s.regs x.b)=true then
    {s with arena:=s.arena.set (gt s.regs x.a).toNat (gt s.regs x.b),writes:=s.writes+1,peak:=maxI s.peak (gt s.regs x.a+1)} else {s with failed:=true})
  else if x.code=14 then s.put x.a (El.w32 (gt s.regs x.b))
  else if x.code=15 then {s with writes:=s.writes+1}
  else if x.code=8 then {s.put x.a 0 with reads:=s.reads+1}
  else if x.code=9 then (if gt s.regs x.b=0 then {s with viol:=noteS s.viol x.a} else s)
  else s
def stpS (s:St):Bool:=decide (s.left≤0)||s.failed||s.out
def inR (l:List Int) (r:List Rng):Bool:=decide (l.length=r.length)&&(l.zip r).all fun p=>decide (p.2.lo≤p.1∧p.1≤p.2.hi)
def look (seen:List (List Rng)) (i:Int) (s:St):St:=if seen.length>0 then {s with out:= !inR s.regs (seen.getD i.toNat [])} else s
def endS (B:Prg) (mt:List Int) (i:Int):Int:=if (B.op (gt mt i)).code=12 then gt mt (gt mt i) else gt mt i
inductive Tk where
  |blk (i to:Int)
  |lop (i n hi:Int)
def tick (s:St):St:={s with left:=s.left - 1}
def exec (B:Prg) (mt:List Int) (seen:List (List Rng)):Nat→Tk→St→St
  |0,_,s=>s
  |f+1,.blk i to,s=>if i<to∧stpS s=false then (
    let x:=B.op i
    let s:=tick (look seen i s)
    if x.code=10 then exec B mt seen f (.blk (gt mt i+1) to) (exec B mt seen f (.lop i (gt s.regs x.b) (gt s.regs x.c)) s)
    else if x.code=11 then exec B mt seen f (.blk (endS B mt i+1) to) (
      if gt s.regs x.a≥0 then exec B mt seen f (.blk (i+1) (gt mt i)) s
      else if (B.op (gt mt i)).code=12 then exec B mt seen f (.blk (gt mt i+1) (gt mt (gt mt i))) s else s)
    else exec B mt seen f (.blk (i+1) to) (if (simpleS x s).failed=true then {simpleS x s with at_:=i} else simpleS x s)) else s
  |f+1,.lop i n hi,s=>if n<hi∧stpS s=false then
    exec B mt seen f (.lop i (n+(B.op i).d) hi) (exec B mt seen f (.blk (i+1) (gt mt i)) ((tick s).put (B.op i).a n)) else s
def Runs (B:Prg) (mt:List Int) (seen:List (List Rng)) (t:Tk) (s s':St):Prop:=∃ F,∀ f,F≤f→exec B mt seen f t s=s'
section
variable {B:Prg} {mt:List Int} {seen:List (List Rng)} {s s' s'':St} {i to n hi:Int}
theorem Runs.det {t:Tk} (h:Runs B mt seen t s s') (k:Runs B mt seen t s s''):s'=s'':=by
  obtain ⟨F,hF⟩:=h
  obtain ⟨K,hK⟩:=k
  rw [←hF (max F K) (Nat.le_max_left _ _),hK (max F K) (Nat.le_max_right _ _)]
theorem runs_end (h: ¬ (i<to∧stpS s=false)):Runs B mt seen (.blk i to) s s:=⟨1,fun f hf=>by
  obtain ⟨f,rfl⟩:∃ g,f=g+1:=⟨f - 1,by omega⟩
  simp only [exec];rw [if_neg h]⟩
theorem runs_lend (h: ¬ (n<hi∧stpS s=false)):Runs B mt seen (.lop i n hi) s s:=⟨1,fun f hf=>by
  obtain ⟨f,rfl⟩:∃ g,f=g+1:=⟨f - 1,by omega⟩
  simp only [exec];rw [if_neg h]⟩
theorem runs_simple (h:i<to∧stpS s=false) (h1:(B.op i).code≠10) (h2:(B.op i).code≠11)
    (k:Runs B mt seen (.blk (i+1) to) (if (simpleS (B.op i) (tick (look seen i s))).failed=true then {simpleS (B.op i) (tick (look seen i s)) with at_:=i} else simpleS (B.op i) (tick (look seen i s))) s'):Runs B mt seen (.blk i to) s s':=by
  obtain ⟨F,hF⟩:=k
  refine ⟨F+1,fun f hf=>?_⟩
  obtain ⟨f,rfl⟩:∃ g,f=g+1:=⟨f - 1,by omega⟩
  simp only [exec]
  rw [if_pos h,if_neg h1,if_neg h2]
  exact hF f (by omega)
theorem runs_for (h:i<to∧stpS s=false) (h1:(B.op i).code=10) (j:Runs B mt seen (.lop i (gt (tick (look seen i s)).regs (B.op i).b) (gt (tick (look seen i s)).regs (B.op i).c)) (tick (look seen i s)) s')
    (k:Runs B mt seen (.blk (gt mt i+1) to) s' s''):Runs B mt seen (.blk i to) s s'':=by
  obtain ⟨J,hJ⟩:=j
  obtain ⟨K,hK⟩:=k
  refine ⟨max J K+1,fun f hf=>?_⟩
  obtain ⟨f,rfl⟩:∃ g,f=g+1:=⟨f - 1,by omega⟩
  simp only [exec]
  rw [if_pos h,if_pos h1,hJ f (by omega),hK f (by omega)]
theorem runs_turn (h:n<hi∧stpS s=false) (j:Runs B mt seen (.blk (i+1) (gt mt i)) ((tick s).put (B.op i).a n) s') (k:Runs B mt seen (.lop i (n+(B.op i).d) hi) s' s''):Runs B mt seen (.lop i n hi) s s'':=by
  obtain ⟨J,hJ⟩:=j
  obtain ⟨K,hK⟩:=k
  refine ⟨max J K+1,fun f hf=>?_⟩
  obtain ⟨f,rfl⟩:∃ g,f=g+1:=⟨f - 1,by omega⟩
  simp only [exec]
  rw [if_pos h,hJ f (by omega),hK f (by omega)]
theorem runs_yes (h:i<to∧stpS s=false) (h1:(B.op i).code=11) (hp:gt (tick (look seen i s)).regs (B.op i).a≥0) (j:Runs B mt seen (.blk (i+1) (gt mt i)) (tick (look seen i s)) s')
    (k:Runs B mt seen (.blk (endS B mt i+1) to) s' s''):Runs B mt seen (.blk i to) s s'':=by
  obtain ⟨J,hJ⟩:=j
  obtain ⟨K,hK⟩:=k
  refine ⟨max J K+1,fun f hf=>?_⟩
  obtain ⟨f,rfl⟩:∃ g,f=g+1:=⟨f - 1,by omega⟩
  simp only [exec]
  rw [if_pos h,if_neg (by omega),if_pos h1,if_pos hp,hJ f (by omega),hK f (by omega)]
theorem runs_no (h:i<to∧stpS s=false) (h1:(B.op i).code=11) (hp: ¬ gt (tick (look seen i s)).regs (B.op i).a≥0) (he:(B.op (gt mt i)).code=12)
    (j:Runs B mt seen (.blk (gt mt i+1) (gt mt (gt mt i))) (tick (look seen i s)) s') (k:Runs B mt seen (.blk (endS B mt i+1) to) s' s''):Runs B mt seen (.blk i to) s s'':=by
  obtain ⟨J,hJ⟩:=j
  obtain ⟨K,hK⟩:=k
  refine ⟨max J K+1,fun f hf=>?_⟩
  obtain ⟨f,rfl⟩:∃ g,f=g+1:=⟨f - 1,by omega⟩
  simp only [exec]
  rw [if_pos h,if_neg (by omega),if_pos h1,if_neg hp,if_pos he,hJ f (by omega),hK f (by omega)]
theorem runs_none (h:i<to∧stpS s=false) (h1:(B.op i).code=11) (hp: ¬ gt (tick (look seen i s)).regs (B.op i).a≥0) (he:(B.op (gt mt i)).code≠12)
    (k:Runs B mt seen (.blk (endS B mt i+1) to) (tick (look seen i s)) s''):Runs B mt seen (.blk i to) s s'':=by
  obtain ⟨K,hK⟩:=k
  refine ⟨K+1,fun f hf=>?_⟩
  obtain ⟨f,rfl⟩:∃ g,f=g+1:=⟨f - 1,by omega⟩
  simp only [exec]
  rw [if_pos h,if_neg (by omega),if_pos h1,if_neg hp,if_neg he,hK f (by omega)]
end
end Go.Proofs.YtnlimcijgpaegaaGreat.Bm

namespace Go.Proofs.YtnlimcijgpaegaaGreat.Bm
open Go.Proofs.YtnlimcijgpaegaaGreat
open Go Go.Fw
section
variable {B:Prg} {mt:List Int} {seen:List (List Rng)}
def step1 (B:Prg) (seen:List (List Rng)) (i:Int) (s:St):St:=if (simpleS (B.op i) (tick (look seen i s))).failed=true then {simpleS (B.op i) (tick (look seen i s)) with at_:=i} else simpleS (B.op i) (tick (look seen i s))
theorem exec_inv {P:St→Prop} (h1:∀ i s,P s→stpS s=false→P (step1 B seen i s)) (h2:∀ i s,P s→stpS s=false→P (tick (look seen i s))) (h3:∀ i n s,P s→stpS s=false→P ((tick s).put (B.op i).a n)):
    ∀ (f:Nat) (t:Tk) (s:St),P s→P (exec B mt seen f t s)
  |0,_,_,h=>h
  |f+1,.blk i to,s,h=>by
   simp only [exec]
   split
   ·rename_i hc
    have h2':=h2 i s h hc.2
    split
    ·exact exec_inv h1 h2 h3 f _ _ (exec_inv h1 h2 h3 f _ _ h2')
    ·split
     ·refine exec_inv h1 h2 h3 f _ _ ?_
      split
      ·exact exec_inv h1 h2 h3 f _ _ h2'
      ·split
       ·exact exec_inv h1 h2 h3 f _ _ h2'
       ·exact h2'
     ·exact exec_inv h1 h2 h3 f _ _ (h1 i s h hc.2)
   ·exact h
  |f+1,.lop i n hi,s,h=>by
   simp only [exec]
   split
   ·rename_i hc
    exact exec_inv h1 h2 h3 f _ _ (exec_inv h1 h2 h3 f _ _ (h3 i n s h hc.2))
   ·exact h
theorem exec_stop {f:Nat} {t:Tk} {s:St} (h:stpS s=true):exec B mt seen f t s=s:=by
  cases f with
  |zero=>rfl
  |succ f=>cases t<;>simp [exec,h]
theorem look_eq (i:Int) (s:St):∃ o,look seen i s={s with out:=o}:=by
  unfold look;split
  ·exact ⟨_,rfl⟩
  ·exact ⟨s.out,rfl⟩
structure Cnt (c:Int) (n m:Nat) (s:St):Prop where
  sum:s.reads+s.writes+s.ops+s.left≤c
  arena:s.arena.length=n
  regs:s.regs.length=m
  peak:s.peak≤n
theorem simple_P {P:St→Prop} {x:Ins} {s:St} (h0:P s) (hp:∀ v,P (s.put x.a v)) (hf:P {s with failed:=true}) (ho:∀ v,P {s.put x.a v with ops:=s.ops+1}) (hr:∀ v,P {s.put x.a v with reads:=s.reads+1})
    (hw:∀ (i v:Int),0≤i→i<s.arena.length→vld sInt v=true→P {s with arena:=s.arena.set i.toNat v,writes:=s.writes+1,peak:=maxI s.peak (i+1)}) (hk:P {s with writes:=s.writes+1}) (hv:∀ l,P {s with viol:=l}):P (simpleS x s):=by
  unfold simpleS
  by_cases c:x.code=1
  ·rw [if_pos c];exact hp _
  rw [if_neg c];clear c
  by_cases c:x.code=2
  ·rw [if_pos c];split
   ·exact hp _
   ·exact hf
  rw [if_neg c];clear c
  by_cases c:x.code=3
  ·rw [if_pos c];exact hp _
  rw [if_neg c];clear c
  by_cases c:x.code=4
  ·rw [if_pos c];exact hp _
  rw [if_neg c];clear c
  by_cases c:x.code=5
  ·rw [if_pos c];split
   ·exact hf
   ·exact ho _
  rw [if_neg c];clear c
  by_cases c:x.code=6
  ·rw [if_pos c];split
   ·exact hr _
   ·exact hf
  rw [if_neg c];clear c
  by_cases c:x.code=7
  ·rw [if_pos c];split
   ·rename_i h;exact hw _ _ h.1.1 h.1.2 h.2
   ·exact hf
  rw [if_neg c];clear c
  by_cases c:x.code=14
  ·rw [if_pos c];exact hp _
  rw [if_neg c];clear c
  by_cases c:x.code=15
  ·rw [if_pos c];exact hk
  rw [if_neg c];clear c
  by_cases c:x.code=8
  ·rw [if_pos c];exact hr _
  rw [if_neg c];clear c
  by_cases c:x.code=9
  ·rw [if_pos c];split
   ·exact hv _
   ·exact h0
  rw [if_neg c];exact h0
theorem Cnt.simple {c:Int} {n m:Nat} {s:St} {x:Ins} (h:Cnt (c - 1) n m s):Cnt c n m (simpleS x s):=by
  obtain ⟨h1,h2,h3,h4⟩:=h
  refine simple_P ?_ ?_ ?_ ?_ ?_ ?_ ?_ ?_
  all_goals intros
  all_goals (refine ⟨?_,?_,?_,?_⟩<;>(try simp only [St.put,List.length_set])<;>first|assumption|omega|skip)
  ·simp only [maxI];split<;>omega
def Words (s:St):Prop:=∀ n∈s.arena,vld sInt n=true
theorem Words.simple {s:St} {x:Ins} (h:Words s):Words (simpleS x s):=by
  refine simple_P h (fun _=>h) h (fun _=>h) (fun _=>h) (fun i v _ _ hv n hn=>?_) h (fun _=>h)
  rcases List.mem_or_eq_of_mem_set hn with hn|rfl
  ·exact h n hn
  ·exact hv
end
end Go.Proofs.YtnlimcijgpaegaaGreat.Bm

namespace Go.Proofs.YtnlimcijgpaegaaGreat.Bm
open Go.Proofs.YtnlimcijgpaegaaGreat
open Go Go.Fw
def opnr (c:Int):Bool:=decide (c=10)||decide (c=11)||decide (c=12)
def cd (ops:List Ins) (i:Nat):Int:=(ops.getD i nilI).code
structure Mid (ops:List Ins) (n:Nat) (out:List Int) (st:List Nat):Prop where
  len:out.length=n
  lt:∀ j∈st,j<n
  asc:st.Pairwise (fun a b=>b<a)
  opn:∀ j∈st,opnr (cd ops j)=true
  self:∀ j,j<n→(j∈st∨opnr (cd ops j)=false)→out.getD j 0=j
  clo:∀ j,j<n→j ∉ st→opnr (cd ops j)=true→∃ e:Nat,out.getD j 0=e∧j<e∧e<n∧(cd ops e=12→cd ops j=11)∧(cd ops e=12∨cd ops e=13)∧
    ∀ k,j<k→k<e→opnr (cd ops k)=true→∃ f:Nat,out.getD k 0=f∧k<f∧f<e
  deep:∀ j∈st,∀ k,j<k→k<n→k ∉ st→opnr (cd ops k)=true→∃ f:Nat,out.getD k 0=f∧k<f∧f<n
structure Nest (ops:List Ins) (mt:List Int):Prop where
  len:mt.length=ops.length
  self:∀ j,j<ops.length→opnr (cd ops j)=false→mt.getD j 0=j
  clo:∀ j,j<ops.length→opnr (cd ops j)=true→∃ e:Nat,mt.getD j 0=e∧j<e∧e<ops.length∧(cd ops e=12→cd ops j=11)∧(cd ops e=12∨cd ops e=13)∧
    ∀ k,j<k→k<e→opnr (cd ops k)=true→∃ f:Nat,mt.getD k 0=f∧k<f∧f<e
theorem getD_append_l {l m:List Int} {i:Nat} (h:i<l.length):(l++m).getD i 0=l.getD i 0:=by simp [List.getD,List.getElem?_append_left h]
theorem getD_set_ne {l:List Int} {i j:Nat} {x:Int} (h:i≠j):(l.set i x).getD j 0=l.getD j 0:=by simp [List.getD,List.getElem?_set_ne h]
theorem getD_set_eq {l:List Int} {i:Nat} {x:Int} (h:i<l.length):(l.set i x).getD i 0=x:=by simp [List.getD,List.getElem?_set_self h]
theorem Mid.plain {ops:List Ins} {n:Nat} {out:List Int} {st:List Nat} (h:Mid ops n out st) (hc:opnr (cd ops n)=false):Mid ops (n+1) (out++[(n:Int)]) st:=by
  have hl:=h.len
  have old:∀ j,j<n→(out++[(n:Int)]).getD j 0=out.getD j 0:=fun j hj=>getD_append_l (by omega)
  have new:(out++[(n:Int)]).getD n 0=n:=by simp [List.getD,←hl]
  refine ⟨by simp [hl],fun j hj=>Nat.lt_succ_of_lt (h.lt j hj),h.asc,h.opn,fun j hj hs=>?_,fun j hj hn ho=>?_,fun j hj k h1 h2 h3 h4=>?_⟩
  ·by_cases e:j=n
   ·subst e;exact new
   ·rw [old j (by omega)];exact h.self j (by omega) hs
  ·by_cases e:j=n
   ·subst e;rw [hc] at ho;cases ho
   ·obtain ⟨e',q1,q2,q3,q4,q5,q6⟩:=h.clo j (by omega) hn ho
    refine ⟨e',by rw [old j (by omega)];exact q1,q2,by omega,q4,q5,fun k k1 k2 k3=>?_⟩
    obtain ⟨f,f1,f0,f2⟩:=q6 k k1 k2 k3
    exact ⟨f,by rw [old k (by omega)];exact f1,f0,f2⟩
  ·by_cases e:k=n
   ·subst e;rw [hc] at h4;cases h4
   ·obtain ⟨f,f1,f0,f2⟩:=h.deep j hj k h1 (by omega) h3 h4
    exact ⟨f,by rw [old k (by omega)];exact f1,f0,by omega⟩
theorem Mid.push {ops:List Ins} {n:Nat} {out:List Int} {st:List Nat} (h:Mid ops n out st) (hc:opnr (cd ops n)=true):Mid ops (n+1) (out++[(n:Int)]) (n::st):=by
  have hl:=h.len
  have old:∀ j,j<n→(out++[(n:Int)]).getD j 0=out.getD j 0:=fun j hj=>getD_append_l (by omega)
  have new:(out++[(n:Int)]).getD n 0=n:=by simp [List.getD,←hl]
  refine ⟨by simp [hl],fun j hj=>?_,List.pairwise_cons.2 ⟨fun b hb=>h.lt b hb,h.asc⟩,fun j hj=>?_,fun j hj hs=>?_,fun j hj hn ho=>?_,fun j hj k h1 h2 h3 h4=>?_⟩
  ·rcases List.mem_cons.1 hj with rfl|hj
   ·omega
   ·exact Nat.lt_succ_of_lt (h.lt j hj)
  ·rcases List.mem_cons.1 hj with rfl|hj
   ·exact hc
   ·exact h.opn j hj
  ·by_cases e:j=n
   ·subst e;exact new
   ·rw [old j (by omega)]
    refine h.self j (by omega) ?_
    rcases hs with hs|hs
    ·rcases List.mem_cons.1 hs with rfl|hs
     ·exact absurd rfl e
     ·exact .inl hs
    ·exact .inr hs
  ·have hjn:j≠n:=fun e=>hn (by rw [e];simp)
   obtain ⟨e',q1,q2,q3,q4,q5,q6⟩:=h.clo j (by omega) (fun hm=>hn (by simp [hm])) ho
   refine ⟨e',by rw [old j (by omega)];exact q1,q2,by omega,q4,q5,fun k k1 k2 k3=>?_⟩
   obtain ⟨f,f1,f0,f2⟩:=q6 k k1 k2 k3
   exact ⟨f,by rw [old k (by omega)];exact f1,f0,f2⟩
  ·rcases List.mem_cons.1 hj with rfl|hj
   ·omega
   ·have hkn:k≠n:=fun e=>h3 (by rw [e];simp)
    obtain ⟨f,f1,f0,f2⟩:=h.deep j hj k h1 (by omega) (fun hm=>h3 (by simp [hm])) h4
    exact ⟨f,by rw [old k (by omega)];exact f1,f0,by omega⟩
theorem Mid.close {ops:List Ins} {n j:Nat} {out:List Int} {st:List Nat} (h:Mid ops n out (j::st)) (hc:(cd ops n=12∧cd ops j=11)∨cd ops n=13):
    Mid ops (n+1) ((out++[(n:Int)]).set j n) (if cd ops n=12 then n::st else st):=by
  have hl:=h.len
  have hjn:=h.lt j (by simp)
  have hj0:j<(out++[(n:Int)]).length:=by simp;omega
  have old:∀ k,k<n→k≠j→((out++[(n:Int)]).set j n).getD k 0=out.getD k 0:=fun k hk hn=>by rw [getD_set_ne (Ne.symm hn)];exact getD_append_l (by omega)
  have atj:((out++[(n:Int)]).set j n).getD j 0=n:=getD_set_eq hj0
  have new:((out++[(n:Int)]).set j n).getD n 0=n:=by rw [getD_set_ne (by omega)];simp [List.getD,←hl]
  have hasc:=List.pairwise_cons.1 h.asc
  have hst:∀ k∈st,k<j:=fun k hk=>hasc.1 k hk
  have hjs:j ∉ st:=fun hm=>Nat.lt_irrefl _ (hst j hm)
  have mem:∀ {k},k∈(if cd ops n=12 then n::st else st)→(k=n∧cd ops n=12)∨k∈st:=fun {k} hk=>by
    split at hk
    ·rename_i e;rcases List.mem_cons.1 hk with rfl|hk
     ·exact .inl ⟨rfl,e⟩
     ·exact .inr hk
    ·exact .inr hk
  have sub:∀ {k},k ∉ (if cd ops n=12 then n::st else st)→k ∉ st:=fun {k} hk hm=>hk (by
    split
    ·simp [hm]
    ·exact hm)
  have sub2:∀ {k},k ∉ (if cd ops n=12 then n::st else st)→k=n→opnr (cd ops n)=false:=fun {k} hk e=>by
    subst e
    split at hk
    ·simp at hk
    ·rename_i e12
     rcases hc with ⟨e,_⟩|e
     ·exact absurd e e12
     ·rw [e];decide
  refine ⟨by simp [hl],fun k hk=>?_,?_,fun k hk=>?_,fun k hk hs=>?_,fun k hk hn ho=>?_,fun i hi k h1 h2 h3 h4=>?_⟩
  ·rcases mem hk with ⟨rfl,_⟩|hk
   ·omega
   ·have:=hst k hk;omega
  ·split
   ·exact List.pairwise_cons.2 ⟨fun b hb=>by have:=hst b hb;omega,hasc.2⟩
   ·exact hasc.2
  ·rcases mem hk with ⟨rfl,e⟩|hk
   ·rw [e];decide
   ·exact h.opn k (by simp [hk])
  ·by_cases e:k=n
   ·subst e;exact new
   ·by_cases e2:k=j
    ·subst e2
     exfalso
     rcases hs with hs|hs
     ·rcases mem hs with ⟨rfl,_⟩|hs
      ·exact e rfl
      ·exact hjs hs
     ·have:=h.opn k (by simp);rw [hs] at this;cases this
    ·rw [old k (by omega) e2]
     refine h.self k (by omega) ?_
     rcases hs with hs|hs
     ·rcases mem hs with ⟨rfl,_⟩|hs
      ·exact absurd rfl e
      ·exact .inl (by simp [hs])
     ·exact .inr hs
  ·by_cases e:k=n
   ·rw [e] at ho;rw [sub2 hn e] at ho;cases ho
   ·by_cases e2:k=j
    ·subst e2
     refine ⟨n,atj,hjn,by omega,fun e12=>?_,?_,fun i i1 i2 i3=>?_⟩
     ·rcases hc with ⟨_,q⟩|q
      ·exact q
      ·omega
     ·rcases hc with ⟨q,_⟩|q
      ·exact .inl q
      ·exact .inr q
     ·have hi:i ∉ k::st:=fun hm=>by
        rcases List.mem_cons.1 hm with rfl|hm
        ·omega
        ·have:=hst i hm;omega
      obtain ⟨f,f1,f0,f2⟩:=h.deep k (by simp) i i1 i2 hi i3
      exact ⟨f,by rw [old i i2 (by omega)];exact f1,f0,f2⟩
    ·obtain ⟨e',q1,q2,q3,q4,q5,q6⟩:=h.clo k (by omega) (fun hm=>by
       rcases List.mem_cons.1 hm with rfl|hm
       ·exact e2 rfl
       ·exact sub hn hm) ho
     refine ⟨e',by rw [old k (by omega) e2];exact q1,q2,by omega,q4,q5,fun i i1 i2 i3=>?_⟩
     obtain ⟨f,f1,f0,f2⟩:=q6 i i1 i2 i3
     by_cases e3:i=j
     ·subst e3
      have:=h.self i (by omega) (.inl (by simp))
      omega
     ·exact ⟨f,by rw [old i (by omega) e3];exact f1,f0,f2⟩
  ·rcases mem hi with ⟨rfl,_⟩|hi
   ·omega
   ·by_cases e:k=n
    ·rw [e] at h4;rw [sub2 h3 e] at h4;cases h4
    ·by_cases e2:k=j
     ·subst e2;exact ⟨n,atj,by omega,by omega⟩
     ·obtain ⟨f,f1,f0,f2⟩:=h.deep i (by simp [hi]) k h1 (by omega) (fun hm=>by
        rcases List.mem_cons.1 hm with rfl|hm
        ·exact e2 rfl
        ·exact sub h3 hm) h4
      exact ⟨f,by rw [old k (by omega) e2];exact f1,f0,by omega⟩
theorem matchG_nest {ops:List Ins}:∀ (l:List Ins) (i:Nat) (out:List Int) (st:List Nat) (mt:List Int),ops.drop i=l→i≤ops.length→Mid ops i out st→matchG ops l i out st=some mt→Nest ops mt
  |[],i,out,st,mt,hl,hi,h,e=>by
   have hn:i=ops.length:=by
     have:=congrArg List.length hl
     simp at this;omega
   subst hn
   cases st with
   |cons j st=>cases e
   |nil=>
    cases e
    exact ⟨h.len,fun j hj ho=>h.self j hj (.inr ho),fun j hj ho=>h.clo j hj (by simp) ho⟩
  |x::l,i,out,st,mt,hl,hi,h,e=>by
   have hlt:i<ops.length:=by
     rcases Nat.lt_or_ge i ops.length with h|h
     ·exact h
     ·rw [List.drop_eq_nil_of_le h] at hl;cases hl
   have hx:cd ops i=x.code:=by
     have:=List.drop_eq_getElem_cons hlt
     rw [hl] at this
     simp only [List.cons.injEq] at this
     simp [cd,List.getD,hlt,this.1]
   have hl':ops.drop (i+1)=l:=by
     have:=List.drop_eq_getElem_cons hlt
     rw [hl] at this
     simp only [List.cons.injEq] at this
     exact this.2.symm
   simp only [matchG] at e
   split at e
   ·rename_i hc
    split at e
    ·cases e
    ·exact matchG_nest l (i+1) _ _ mt hl' hlt (h.push (by rw [hx];rcases hc with hc|hc<;>rw [hc]<;>decide)) e
   ·rename_i h1
    split at e
    ·rename_i h2
     split at e
     ·cases e
     ·rename_i j st'
      split at e
      ·rename_i h3
       have hj:=h.lt j (by simp)
       have hcj:cd ops j=11:=h3
       have:=h.close (.inl ⟨by rw [hx];exact h2,hcj⟩)
       rw [if_pos (by rw [hx];exact h2)] at this
       exact matchG_nest l (i+1) _ _ mt hl' hlt this e
      ·cases e
    ·rename_i h2
     split at e
     ·rename_i h3
      split at e
      ·cases e
      ·rename_i j st'
       have:=h.close (.inr (by rw [hx];exact h3))
       rw [if_neg (by rw [hx];exact h2)] at this
       exact matchG_nest l (i+1) _ _ mt hl' hlt this e
     ·rename_i h3
      exact matchG_nest l (i+1) _ _ mt hl' hlt (h.plain (by
        rw [hx]
        simp only [opnr,Bool.or_eq_false_iff,decide_eq_false_iff_not]
        omega)) e
theorem match_nest {ops:List Ins} {mt:List Int} (h:matchS ops=some mt):Nest ops mt:=by
  unfold matchS at h
  split at h
  ·cases h
  ·exact matchG_nest ops 0 [] [] mt (by simp) (Nat.zero_le _) ⟨rfl,by simp,by simp,by simp,by simp,by simp,by simp⟩ h
end Go.Proofs.YtnlimcijgpaegaaGreat.Bm

namespace Go.Proofs.YtnlimcijgpaegaaGreat.Bm
open Go.Proofs.YtnlimcijgpaegaaGreat
open Go Go.Fw
section
variable {B:Prg} {mt:List Int} {seen:List (List Rng)}
theorem simple_left {x:Ins} {s:St}:(simpleS x s).left=s.left:=by
  refine simple_P (P:=fun r=>r.left=s.left) ?_ ?_ ?_ ?_ ?_ ?_ ?_ ?_<;>intros<;>rfl
theorem step1_left {i:Int} {s:St}:(step1 B seen i s).left=s.left - 1:=by
  have:(tick (look seen i s)).left=s.left - 1:=by obtain ⟨o,ho⟩:=look_eq (seen:=seen) i s;rw [ho];rfl
  unfold step1
  split
  ·show (simpleS (B.op i) (tick (look seen i s))).left=_;rw [simple_left,this]
  ·rw [simple_left,this]
theorem look_left {i:Int} {s:St}:(tick (look seen i s)).left=s.left - 1:=by obtain ⟨o,ho⟩:=look_eq (seen:=seen) i s;rw [ho];rfl
theorem exec_left (f:Nat) (t:Tk) (s:St):(exec B mt seen f t s).left≤s.left:=
  exec_inv (P:=fun r=>r.left≤s.left) (fun i r h _=>by rw [step1_left];omega) (fun i r h _=>by rw [look_left];omega) (fun i n r h _=>by simp only [tick,St.put];omega) f t s (Int.le_refl _)
theorem Runs.left {t:Tk} {s s':St} (h:Runs B mt seen t s s'):s'.left≤s.left:=by
  obtain ⟨F,hF⟩:=h
  rw [←hF F (Nat.le_refl _)];exact exec_left F t s
theorem runs_total:∀ (n:Nat) (t:Tk) (s:St),s.left.toNat≤n→∃ s',Runs B mt seen t s s':=by
  intro n
  induction n using Nat.strongRecOn with
  |_ n ih=>
   intro t s hs
   have go:stpS s=false→∀ (t:Tk) (r:St),r.left≤s.left - 1→∃ s',Runs B mt seen t r s':=fun hst t r hr=>by
     have:0<s.left:=by simp [stpS] at hst;omega
     exact ih r.left.toNat (by omega) t r (Nat.le_refl _)
   cases t with
   |blk i to=>
    by_cases hc:i<to∧stpS s=false
    ·have hl:=look_left (seen:=seen) (i:=i) (s:=s)
     by_cases h1:(B.op i).code=10
     ·obtain ⟨s1,r1⟩:=go hc.2 (.lop i (gt (tick (look seen i s)).regs (B.op i).b) (gt (tick (look seen i s)).regs (B.op i).c)) (tick (look seen i s)) (by omega)
      obtain ⟨s2,r2⟩:=go hc.2 (.blk (gt mt i+1) to) s1 (by have:=r1.left;omega)
      exact ⟨s2,runs_for hc h1 r1 r2⟩
     ·by_cases h2:(B.op i).code=11
      ·by_cases h3:gt (tick (look seen i s)).regs (B.op i).a≥0
       ·obtain ⟨s1,r1⟩:=go hc.2 (.blk (i+1) (gt mt i)) (tick (look seen i s)) (by omega)
        obtain ⟨s2,r2⟩:=go hc.2 (.blk (endS B mt i+1) to) s1 (by have:=r1.left;omega)
        exact ⟨s2,runs_yes hc h2 h3 r1 r2⟩
       ·by_cases h4:(B.op (gt mt i)).code=12
        ·obtain ⟨s1,r1⟩:=go hc.2 (.blk (gt mt i+1) (gt mt (gt mt i))) (tick (look seen i s)) (by omega)
         obtain ⟨s2,r2⟩:=go hc.2 (.blk (endS B mt i+1) to) s1 (by have:=r1.left;omega)
         exact ⟨s2,runs_no hc h2 h3 h4 r1 r2⟩
        ·obtain ⟨s2,r2⟩:=go hc.2 (.blk (endS B mt i+1) to) (tick (look seen i s)) (by omega)
         exact ⟨s2,runs_none hc h2 h3 h4 r2⟩
      ·obtain ⟨s2,r2⟩:=go hc.2 (.blk (i+1) to) (step1 B seen i s) (by rw [step1_left];omega)
       exact ⟨s2,runs_simple hc h1 h2 r2⟩
    ·exact ⟨s,runs_end hc⟩
   |lop i n hi=>
    by_cases hc:n<hi∧stpS s=false
    ·obtain ⟨s1,r1⟩:=go hc.2 (.blk (i+1) (gt mt i)) ((tick s).put (B.op i).a n) (by simp [tick,St.put])
     obtain ⟨s2,r2⟩:=go hc.2 (.lop i (n+(B.op i).d) hi) s1 (by have:=r1.left;simp [tick,St.put] at this;omega)
     exact ⟨s2,runs_turn hc r1 r2⟩
    ·exact ⟨s,runs_lend hc⟩
noncomputable def endR (B:Prg) (mt:List Int) (seen:List (List Rng)) (t:Tk) (s:St):St:=(runs_total (B:=B) (mt:=mt) (seen:=seen) s.left.toNat t s (Nat.le_refl _)).choose
theorem endR_runs {t:Tk} {s:St}:Runs B mt seen t s (endR B mt seen t s):=(runs_total (B:=B) (mt:=mt) (seen:=seen) s.left.toNat t s (Nat.le_refl _)).choose_spec
theorem op_cd {i:Nat}:(B.op i).code=cd B.ops i:=rfl
theorem Nest.at (h:Nest B.ops mt) {i:Int} (h0:0≤i) (h1:i<B.ops.length) (ho:(B.op i).code=10∨(B.op i).code=11∨(B.op i).code=12):
    i<gt mt i∧gt mt i<B.ops.length∧((B.op (gt mt i)).code=12∨(B.op (gt mt i)).code=13)∧((B.op (gt mt i)).code=12→(B.op i).code=11):=by
  obtain ⟨n,rfl⟩:∃ n:Nat,i=n:=⟨i.toNat,by omega⟩
  obtain ⟨e,q1,q2,q3,q4,q5,_⟩:=h.clo n (by omega) (by rw [←op_cd];simp [opnr];omega)
  have:gt mt (n:Int)=e:=by simp [gt];simpa [List.getD] using q1
  rw [this]
  exact ⟨by omega,by omega,q5,q4⟩
end
end Go.Proofs.YtnlimcijgpaegaaGreat.Bm

namespace Go.Proofs.YtnlimcijgpaegaaGreat.Bm
open Go.Proofs.YtnlimcijgpaegaaGreat
open Go Go.Fw
instance:DecidableEq Rng:=fun a b=>if h:a.lo=b.lo∧a.hi=b.hi then isTrue (by obtain ⟨a,a'⟩:=a;obtain ⟨b,b'⟩:=b;obtain ⟨h1,h2⟩:=h;simp only at h1 h2;subst h1;subst h2;rfl) else isFalse (fun e=>h (by subst e;exact ⟨rfl,rfl⟩))
def intsR:Rng:=⟨-2147483648,2147483647⟩
def machR:Rng:=⟨-maxC,maxC⟩
def boolR:Rng:=⟨0,1⟩
def Rng.within (a b:Rng):Prop:=b.lo≤a.lo∧a.hi≤b.hi
instance (a b:Rng):Decidable (a.within b):=inferInstanceAs (Decidable (_∧_))
def Rng.has (a:Rng) (n:Int):Prop:=a.lo≤n∧n≤a.hi
def heldR (a b:Rng):Rng:=if a.within b then a else b
def hullR (a b:Rng):Rng:=⟨minI a.lo b.lo,maxI a.hi b.hi⟩
def min4 (a b c d:Int):Int:=minI (minI (minI a b) c) d
def max4 (a b c d:Int):Int:=maxI (maxI (maxI a b) c) d
def prodR (a b:Rng):Rng:=⟨min4 (a.lo*b.lo) (a.lo*b.hi) (a.hi*b.lo) (a.hi*b.hi),max4 (a.lo*b.lo) (a.lo*b.hi) (a.hi*b.lo) (a.hi*b.hi)⟩
def rngV:Nat→List Rng→Rng
  |0,[a,b]=>heldR ⟨a.lo+b.lo,a.hi+b.hi⟩ intsR
  |1,[a,b]=>heldR ⟨a.lo - b.hi,a.hi - b.lo⟩ intsR
  |2,[a,b]=>heldR (prodR a b) intsR
  |4,[a,b]=>if b.lo≥1 then ⟨0,b.hi - 1⟩ else intsR
  |5,[a,b]=>⟨minI a.lo b.lo,minI a.hi b.hi⟩
  |6,[a,b]=>⟨maxI a.lo b.lo,maxI a.hi b.hi⟩
  |9,_=>⟨-1,1⟩
  |20,[_,b,c]=>hullR b c
  |21,_=>boolR
  |i,_=>if 10≤i∧i≤19 then boolR else intsR
def fitR (p:ByteArray):Rng:=if eqS p El.sBool=true then boolR else intsR
def fitA (ps:List ByteArray) (l:List Rng):Bool:=(ps.zip l).all fun p=>decide (p.2.lo≤p.2.hi)&&decide (p.2.within (fitR p.1))
def fitsR (op:ByteArray) (l:List Rng):Option Nat:=(El.rowIx op).bind fun i=>if decide (l.length=(El.psN i).length)&&fitA (El.psN i) l then some i else none
def primR (op:ByteArray) (l:List Rng):Option Rng:=(fitsR op l).map fun i=>rngV i l
theorem minI_le (a b:Int):minI a b≤a∧minI a b≤b∧(minI a b=a∨minI a b=b):=by unfold minI;split<;>refine ⟨?_,?_,?_⟩<;>first|omega|exact .inl rfl|exact .inr rfl
theorem maxI_ge (a b:Int):a≤maxI a b∧b≤maxI a b∧(maxI a b=a∨maxI a b=b):=by unfold maxI;split<;>refine ⟨?_,?_,?_⟩<;>first|omega|exact .inl rfl|exact .inr rfl
theorem prod_lo {a b:Rng} {x y:Int} (hx:a.has x) (hy:b.has y):(prodR a b).lo≤x*y∧x*y≤(prodR a b).hi:=by
  obtain ⟨x1,x2⟩:=hx
  obtain ⟨y1,y2⟩:=hy
  have corner:∀ z:Int,(a.lo*z≤x*z∧x*z≤a.hi*z)∨(a.hi*z≤x*z∧x*z≤a.lo*z):=fun z=>by
    rcases Int.le_total 0 z with h|h
    ·exact .inl ⟨Int.mul_le_mul_of_nonneg_right x1 h,Int.mul_le_mul_of_nonneg_right x2 h⟩
    ·exact .inr ⟨Int.mul_le_mul_of_nonpos_right x2 h,Int.mul_le_mul_of_nonpos_right x1 h⟩
  have edge:(x*b.lo≤x*y∧x*y≤x*b.hi)∨(x*b.hi≤x*y∧x*y≤x*b.lo):=by
    rcases Int.le_total 0 x with h|h
    ·exact .inl ⟨Int.mul_le_mul_of_nonneg_left y1 h,Int.mul_le_mul_of_nonneg_left y2 h⟩
    ·exact .inr ⟨Int.mul_le_mul_of_nonpos_left h y2,Int.mul_le_mul_of_nonpos_left h y1⟩
  have h1:=corner b.lo
  have h2:=corner b.hi
  simp only [prodR,min4,max4]
  generalize a.lo*b.lo=p at*
  generalize a.lo*b.hi=q at*
  generalize a.hi*b.lo=r at*
  generalize a.hi*b.hi=t at*
  generalize x*b.lo=u at*
  generalize x*b.hi=v at*
  generalize x*y=z at*
  have m1:=minI_le p q
  have m2:=minI_le (minI p q) r
  have m3:=minI_le (minI (minI p q) r) t
  have n1:=maxI_ge p q
  have n2:=maxI_ge (maxI p q) r
  have n3:=maxI_ge (maxI (maxI p q) r) t
  omega
theorem held_has {a b:Rng} {n m:Int} (h:a.has n) (hb:b.has m) (he:b.has n→m=n):(heldR a b).has m:=by
  unfold heldR
  split
  ·rename_i hw
   have:b.has n:=⟨Int.le_trans hw.1 h.1,Int.le_trans h.2 hw.2⟩
   rw [he this];exact h
  ·exact hb
theorem vld_int {n:Int}:vld sInt n=true ↔ intsR.has n:=by simp [vld,intsR,Rng.has,show eqS sInt sInt=true from rfl]
theorem w32_has (n:Int):intsR.has (El.w32 n):=El.w32_el n
theorem w32_same {n:Int} (h:intsR.has n):El.w32 n=n:=El.w32_id h
inductive Has:List Rng→List Int→Prop
  |nil:Has [] []
  |cons {a:Rng} {n:Int} {l:List Rng} {m:List Int} (h:a.has n) (t:Has l m):Has (a::l) (n::m)
theorem Has.length {l:List Rng} {m:List Int} (h:Has l m):m.length=l.length:=by
  induction h with
  |nil=>rfl
  |cons _ _ ih=>simp [ih]
theorem fit_ok {p:ByteArray} (hp:p=El.sInt∨p=El.sBool∨p=El.sA) {a:Rng} {n:Int} (h:a.has n) (hw:a.within (fitR p)):El.vld (El.elT p) n=true:=by
  have h1:(fitR p).has n:=⟨Int.le_trans hw.1 h.1,Int.le_trans h.2 hw.2⟩
  rcases hp with rfl|rfl|rfl
  ·have:(fitR El.sInt)=intsR:=rfl
   rw [this] at h1
   have e:El.vld (El.elT El.sInt) n=decide (-2147483648≤n∧n≤2147483647):=rfl
   rw [e];simpa [Rng.has,intsR] using h1
  ·have:(fitR El.sBool)=boolR:=rfl
   rw [this] at h1
   have e:El.vld (El.elT El.sBool) n=decide (n=0∨n=1):=rfl
   rw [e];simp only [Rng.has,boolR] at h1;simp;omega
  ·have:(fitR El.sA)=intsR:=rfl
   rw [this] at h1
   have e:El.vld (El.elT El.sA) n=decide (-2147483648≤n∧n≤2147483647):=rfl
   rw [e];simpa [Rng.has,intsR] using h1
theorem fitA_ok:∀ {ps:List ByteArray} {l:List Rng} {m:List Int},(∀ p∈ps,p=El.sInt∨p=El.sBool∨p=El.sA)→Has l m→fitA ps l=true→El.okA ps m=true
  |[],l,m,_,_,_=>by simp [El.okA]
  |p::ps,_,_,hp,.nil,_=>by simp [El.okA]
  |p::ps,_,_,hp,.cons (a:=a) (n:=n) (l:=l) (m:=m) h t,hf=>by
   simp only [fitA,List.zip_cons_cons,List.all_cons,Bool.and_eq_true,decide_eq_true_eq] at hf
   have:=fitA_ok (ps:=ps) (fun q hq=>hp q (by simp [hq])) t (by simpa [fitA] using hf.2)
   simp only [El.okA,List.zip_cons_cons,List.all_cons,Bool.and_eq_true]
   exact ⟨fit_ok (hp p (by simp)) h hf.1.2,this⟩
theorem rng_ix {i:Nat} (h:i<22):i=0∨i=1∨i=2∨i=3∨i=4∨i=5∨i=6∨i=7∨i=8∨i=9∨i=10∨i=11∨i=12∨i=13∨i=14∨i=15∨i=16∨i=17∨i=18∨i=19∨i=20∨i=21:=by omega
theorem tru_has (b:Bool):boolR.has (El.tru b):=by cases b<;>exact ⟨by decide,by decide⟩
theorem len1L {α:Type} {l:List α} (h:l.length=1):∃ a,l=[a]:=by
  cases l with
  |nil=>simp at h
  |cons a l=>cases l with
   |nil=>exact ⟨a,rfl⟩
   |cons _ _=>simp at h
theorem len2L {α:Type} {l:List α} (h:l.length=2):∃ a b,l=[a,b]:=by
  cases l with
  |nil=>simp at h
  |cons a l=>obtain ⟨b,rfl⟩:=len1L (l:=l) (by simpa using h);exact ⟨a,b,rfl⟩
theorem len3L {α:Type} {l:List α} (h:l.length=3):∃ a b c,l=[a,b,c]:=by
  cases l with
  |nil=>simp at h
  |cons a l=>obtain ⟨b,c,rfl⟩:=len2L (l:=l) (by simpa using h);exact ⟨a,b,c,rfl⟩
theorem Has.one {a:Rng} {m:List Int} (h:Has [a] m):∃ x,m=[x]∧a.has x:=by
  cases h with
  |cons h t=>cases t;exact ⟨_,rfl,h⟩
theorem Has.two {a b:Rng} {m:List Int} (h:Has [a,b] m):∃ x y,m=[x,y]∧a.has x∧b.has y:=by
  cases h with
  |cons h t=>obtain ⟨y,rfl,hy⟩:=t.one;exact ⟨_,_,rfl,h,hy⟩
theorem Has.three {a b c:Rng} {m:List Int} (h:Has [a,b,c] m):∃ x y z,m=[x,y,z]∧a.has x∧b.has y∧c.has z:=by
  cases h with
  |cons h t=>obtain ⟨y,z,rfl,hy,hz⟩:=t.two;exact ⟨_,_,_,rfl,h,hy,hz⟩
theorem val_has {i:Nat} (hi:i<22) {l:List Rng} {m:List Int} (h:Has l m) (hl:l.length=(El.psN i).length) (hf:fitA (El.psN i) l=true):(rngV i l).has (El.vS i m):=by
  have two:∀ j,(El.psN j).length=2→j=i→∃ a b x y,l=[a,b]∧m=[x,y]∧a.has x∧b.has y:=fun j hj e=>by
    subst e
    obtain ⟨a,b,rfl⟩:=len2L (hl.trans hj)
    obtain ⟨x,y,rfl,hx,hy⟩:=h.two
    exact ⟨a,b,x,y,rfl,rfl,hx,hy⟩
  have one:∀ j,(El.psN j).length=1→j=i→∃ a x,l=[a]∧m=[x]∧a.has x:=fun j hj e=>by
    subst e
    obtain ⟨a,rfl⟩:=len1L (hl.trans hj)
    obtain ⟨x,rfl,hx⟩:=h.one
    exact ⟨a,x,rfl,rfl,hx⟩
  have wi:∀ {p:ByteArray} {a:Rng} {ps:List ByteArray} {l:List Rng},fitA (p::ps) (a::l)=true→a.within (fitR p)∧fitA ps l=true:=fun {p a ps l} h=>by
    simp only [fitA,List.zip_cons_cons,List.all_cons,Bool.and_eq_true,decide_eq_true_eq] at h
    exact ⟨h.1.2,by simpa [fitA] using h.2⟩
  rcases rng_ix hi with rfl|rfl|rfl|rfl|rfl|rfl|rfl|rfl|rfl|rfl|rfl|rfl|rfl|rfl|rfl|rfl|rfl|rfl|rfl|rfl|rfl|rfl
  ·obtain ⟨a,b,x,y,rfl,rfl,hx,hy⟩:=two 0 rfl rfl
   exact held_has (n:=x+y) ⟨Int.add_le_add hx.1 hy.1,Int.add_le_add hx.2 hy.2⟩ (w32_has _) fun h=>w32_same h
  ·obtain ⟨a,b,x,y,rfl,rfl,hx,hy⟩:=two 1 rfl rfl
   exact held_has (n:=x - y) ⟨Int.sub_le_sub hx.1 hy.2,Int.sub_le_sub hx.2 hy.1⟩ (w32_has _) fun h=>w32_same h
  ·obtain ⟨a,b,x,y,rfl,rfl,hx,hy⟩:=two 2 rfl rfl
   exact held_has (n:=x*y) (prod_lo hx hy) (w32_has _) fun h=>w32_same h
  ·obtain ⟨a,b,x,y,rfl,rfl,hx,hy⟩:=two 3 rfl rfl
   exact w32_has _
  ·obtain ⟨a,b,x,y,rfl,rfl,hx,hy⟩:=two 4 rfl rfl
   have hw1:intsR.has x:=⟨Int.le_trans (wi hf).1.1 hx.1,Int.le_trans hx.2 (wi hf).1.2⟩
   have hw2:intsR.has y:=⟨Int.le_trans (wi (wi hf).2).1.1 hy.1,Int.le_trans hy.2 (wi (wi hf).2).1.2⟩
   show (if b.lo≥1 then (⟨0,b.hi - 1⟩:Rng) else intsR).has (if y=0 then 0 else x - y*El.flo x y)
   by_cases e:y=0
   ·rw [if_pos e,if_neg (by have:=hy.1;omega)];exact ⟨by decide,by decide⟩
   ·have hs:=El.flo_spec (a:=x) e
    rw [if_neg e]
    simp only [Rng.has,intsR] at hw2
    split
    ·rename_i hb
     have:=hs.1 (by have:=hy.1;omega)
     exact ⟨this.1,by have:=hy.2;simp only;omega⟩
    ·rcases Int.lt_or_gt_of_ne e with hn|hp
     ·have:=hs.2 hn;exact ⟨by simp only [intsR];omega,by simp only [intsR];omega⟩
     ·have:=hs.1 hp;exact ⟨by simp only [intsR];omega,by simp only [intsR];omega⟩
  ·obtain ⟨a,b,x,y,rfl,rfl,hx,hy⟩:=two 5 rfl rfl
   obtain ⟨x1,x2⟩:=hx
   obtain ⟨y1,y2⟩:=hy
   have m1:=minI_le x y
   have m2:=minI_le a.lo b.lo
   have m3:=minI_le a.hi b.hi
   refine ⟨?_,?_⟩<;>simp only [rngV,El.vS]<;>omega
  ·obtain ⟨a,b,x,y,rfl,rfl,hx,hy⟩:=two 6 rfl rfl
   obtain ⟨x1,x2⟩:=hx
   obtain ⟨y1,y2⟩:=hy
   have m1:=maxI_ge x y
   have m2:=maxI_ge a.lo b.lo
   have m3:=maxI_ge a.hi b.hi
   refine ⟨?_,?_⟩<;>simp only [rngV,El.vS]<;>omega
  ·obtain ⟨a,x,rfl,rfl,hx⟩:=one 7 rfl rfl
   exact w32_has _
  ·obtain ⟨a,x,rfl,rfl,hx⟩:=one 8 rfl rfl
   exact w32_has _
  ·obtain ⟨a,x,rfl,rfl,hx⟩:=one 9 rfl rfl
   show (⟨-1,1⟩:Rng).has (El.sgn x)
   unfold El.sgn
   split
   ·exact ⟨by decide,by decide⟩
   ·split<;>exact ⟨by decide,by decide⟩
  ·obtain ⟨a,b,x,y,rfl,rfl,hx,hy⟩:=two 10 rfl rfl;exact tru_has _
  ·obtain ⟨a,b,x,y,rfl,rfl,hx,hy⟩:=two 11 rfl rfl;exact tru_has _
  ·obtain ⟨a,b,x,y,rfl,rfl,hx,hy⟩:=two 12 rfl rfl;exact tru_has _
  ·obtain ⟨a,b,x,y,rfl,rfl,hx,hy⟩:=two 13 rfl rfl;exact tru_has _
  ·obtain ⟨a,b,x,y,rfl,rfl,hx,hy⟩:=two 14 rfl rfl;exact tru_has _
  ·obtain ⟨a,b,x,y,rfl,rfl,hx,hy⟩:=two 15 rfl rfl;exact tru_has _
  ·obtain ⟨a,b,x,y,rfl,rfl,hx,hy⟩:=two 16 rfl rfl
   have k1:=(wi hf).1
   have k2:=(wi (wi hf).2).1
   have e1:a.within boolR:=k1
   have e2:b.within boolR:=k2
   have m1:=minI_le x y
   simp only [Rng.within,Rng.has,boolR] at e1 e2 hx hy
   show boolR.has (minI x y)
   simp only [Rng.has,boolR];omega
  ·obtain ⟨a,b,x,y,rfl,rfl,hx,hy⟩:=two 17 rfl rfl
   have e1:a.within boolR:=(wi hf).1
   have e2:b.within boolR:=(wi (wi hf).2).1
   have m1:=maxI_ge x y
   simp only [Rng.within,Rng.has,boolR] at e1 e2 hx hy
   show boolR.has (maxI x y)
   simp only [Rng.has,boolR];omega
  ·obtain ⟨a,b,x,y,rfl,rfl,hx,hy⟩:=two 18 rfl rfl
   show boolR.has (if x=y then 0 else 1)
   split<;>exact ⟨by decide,by decide⟩
  ·obtain ⟨a,x,rfl,rfl,hx⟩:=one 19 rfl rfl
   have e1:a.within boolR:=(wi hf).1
   simp only [Rng.within,Rng.has,boolR] at e1 hx
   show boolR.has (1 - x)
   simp only [Rng.has,boolR];omega
  ·obtain ⟨a,b,c,rfl⟩:=len3L (l:=l) (hl.trans rfl)
   obtain ⟨x,y,z,rfl,hx,hy,hz⟩:=h.three
   show (hullR b c).has (if x=1 then y else z)
   have m1:=minI_le b.lo c.lo
   have m2:=maxI_ge b.hi c.hi
   obtain ⟨y1,y2⟩:=hy
   obtain ⟨z1,z2⟩:=hz
   split<;>refine ⟨?_,?_⟩<;>simp only [hullR]<;>omega
  ·obtain ⟨a,x,rfl,rfl,hx⟩:=one 21 rfl rfl
   have e1:a.within boolR:=(wi hf).1
   exact ⟨Int.le_trans e1.1 hx.1,Int.le_trans hx.2 e1.2⟩
theorem row_lt {op:ByteArray} {i:Nat} (h:El.rowIx op=some i):i<22:=by
  rcases El.ix_cases op with ⟨j,hj,_,hx,_⟩|⟨hx,_⟩
  ·rw [hx] at h;cases h;exact hj
  ·rw [hx] at h;cases h
theorem fits_inv {op:ByteArray} {l:List Rng} {i:Nat} (h:fitsR op l=some i):El.rowIx op=some i∧l.length=(El.psN i).length∧fitA (El.psN i) l=true:=by
  unfold fitsR at h
  cases hx:El.rowIx op with
  |none=>rw [hx] at h;cases h
  |some j=>
   rw [hx] at h
   simp only [Option.bind_some,Bool.and_eq_true,decide_eq_true_eq] at h
   split at h
   ·rename_i hc;cases h;exact ⟨rfl,hc.1,hc.2⟩
   ·cases h
theorem prim_sound {op:ByteArray} {l:List Rng} {m:List Int} {r:Rng} (h:primR op l=some r) (hm:Has l m):∃ n,El.applyS op m=some n∧r.has n:=by
  unfold primR at h
  simp only [Option.map_eq_some_iff] at h
  obtain ⟨i,hi,rfl⟩:=h
  obtain ⟨h1,h2,h3⟩:=fits_inv hi
  refine ⟨El.vS i m,?_,val_has (row_lt h1) hm h2 h3⟩
  have hok:El.okB i m=true:=by
    unfold El.okB
    rw [Bool.and_eq_true,decide_eq_true_eq]
    exact ⟨hm.length.trans h2,fitA_ok (El.psN_el i (row_lt h1)) hm h3⟩
  unfold El.applyS
  rw [h1]
  simp only [Option.bind_some]
  rw [if_pos hok]
end Go.Proofs.YtnlimcijgpaegaaGreat.Bm

namespace Go.Proofs.YtnlimcijgpaegaaGreat.Bm
open Go.Proofs.YtnlimcijgpaegaaGreat
open Go Go.Fw
theorem Rng.within_refl (a:Rng):a.within a:=⟨Int.le_refl _,Int.le_refl _⟩
end Go.Proofs.YtnlimcijgpaegaaGreat.Bm

namespace Go.Proofs.YtnlimcijgpaegaaGreat.Bm
open Go.Proofs.YtnlimcijgpaegaaGreat
open Go Go.Fw
def nilR:Rng:=⟨0,0⟩
def gR (s:List Rng) (i:Int):Rng:=s.getD i.toNat nilR
def sumR (x:Ins) (s:List Rng):Rng:=⟨(gR s x.b).lo+minI (x.d*(gR s x.c).lo) (x.d*(gR s x.c).hi),(gR s x.b).hi+maxI (x.d*(gR s x.c).lo) (x.d*(gR s x.c).hi)⟩
def pickedR (x:Ins) (s:List Rng):List Rng:=(readsS x).map (gR s)
def wideR (op:ByteArray):Rng:=match El.typesS op with
  |some r=>if eqS r.rs El.sBool=true then boolR else intsR
  |none=>intsR
def resultR (x:Ins) (s:List Rng):Rng:=
  if x.code=1 then ⟨x.b,x.b⟩
  else if x.code=2 then heldR (sumR x s) machR
  else if x.code=3 then ⟨minI (gR s x.b).lo (gR s x.c).lo,minI (gR s x.b).hi (gR s x.c).hi⟩
  else if x.code=4 then ⟨maxI (gR s x.b).lo (gR s x.c).lo,maxI (gR s x.b).hi (gR s x.c).hi⟩
  else if x.code=5 then (match primR x.prim (pickedR x s) with
    |some r=>r
    |none=>wideR x.prim)
  else if x.code=14 then heldR (gR s x.b) intsR
  else if x.code=8 then nilR
  else intsR
def withR (s:List Rng) (i:Int) (x:Rng):List Rng:=s.set i.toNat x
def hullsR:Option (List Rng)→Option (List Rng)→Option (List Rng)
  |none,t=>t
  |s,none=>s
  |some s,some t=>some (List.zipWith hullR s t)
def widenR (r:Rng):Rng:=if r.within boolR then boolR else if r.within ⟨-1,1⟩ then ⟨-1,1⟩ else if r.within intsR then intsR else machR
def growR (a b:Rng):Rng:=if hullR a b=a then a else widenR (hullR a b)
def grownR (head t:List Rng):List Rng:=List.zipWith growR head t
def wipe (l:List (List Rng)) (i to:Int):List (List Rng):=l.mapIdx fun j s=>if i≤j∧(j:Int)<to then [] else s
def lookH:List (Int×List Rng)→Int→Option (List Rng)
  |[],_=>none
  |e::l,i=>if i=e.1 then some e.2 else lookH l i
def putH:List (Int×List Rng)→Int→List Rng→List (Int×List Rng)
  |[],i,s=>[(i,s)]
  |e::l,i,s=>if i=e.1 then (i,s)::l else e::putH l i s
structure W where
  before:List (List Rng)
  heads:List (Int×List Rng)
inductive VTk where
  |blk (i to:Int)
  |lop (i:Int) (v:Rng)
def partV (rec:VTk→List Rng→W→Option (List Rng×W)) (i to:Int) (s:List Rng) (r:Int) (x:Rng) (w:W):Option (Option (List Rng)×W):=
  if x.lo>x.hi then some (none,{w with before:=wipe w.before i to}) else match rec (.blk i to) (withR s r x) w with
   |some (t,w')=>some (some t,w')
   |none=>none
def vrun (B:Prg) (mt:List Int):Nat→VTk→List Rng→W→Option (List Rng×W)
  |0,_,_,_=>none
  |f+1,.blk i to,s,w=>if i<to then (
    let w:={w with before:=w.before.set i.toNat s}
    let x:=B.op i
    if x.code=11 then (match partV (vrun B mt f) (i+1) (gt mt i) s x.a ⟨maxI (gR s x.a).lo 0,(gR s x.a).hi⟩ w with
     |some (yes,w)=>(match partV (vrun B mt f) (minI (gt mt i+1) (gt mt (gt mt i))) (gt mt (gt mt i)) s x.a ⟨(gR s x.a).lo,minI (gR s x.a).hi (-1)⟩ w with
      |some (no,w)=>(match hullsR yes no with
       |some t=>vrun B mt f (.blk (gt mt (gt mt i)+1) to) t w
       |none=>none)
      |none=>none)
     |none=>none)
    else if x.code=10 then (if (gR s x.b).lo>(gR s x.c).hi - 1 then vrun B mt f (.blk (gt mt i+1) to) s {w with before:=wipe w.before (i+1) (gt mt i)}
      else match vrun B mt f (.lop i ⟨(gR s x.b).lo,(gR s x.c).hi - 1⟩) (grownR ((lookH w.heads i).getD s) s) w with
        |some (t,w)=>vrun B mt f (.blk (gt mt i+1) to) t w
        |none=>none)
    else vrun B mt f (.blk (i+1) to) (if wrtB x.code=true then withR s x.a (resultR x s) else s) w) else some (s,w)
  |f+1,.lop i v,head,w=>match vrun B mt f (.blk (i+1) (gt mt i)) (withR head (B.op i).a v) {w with heads:=putH w.heads i head} with
   |some (t,w)=>if grownR head t=head then some (head,w) else vrun B mt f (.lop i v) (grownR head t) w
   |none=>none
def failR (x:Ins) (s:List Rng) (arena:Int):Bool:=
  if x.code=2 then !decide ((sumR x s).within machR)
  else if x.code=5 then (fitsR x.prim (pickedR x s)).isNone
  else if x.code=6 then !decide ((gR s x.b).within ⟨0,arena - 1⟩)
  else if x.code=7 then !decide ((gR s x.a).within ⟨0,arena - 1⟩)|| !decide ((gR s x.b).within intsR)
  else false
def InP (s:List Rng) (l:List Int):Prop:=l.length=s.length∧∀ i,i<s.length→(s.getD i nilR).has (l.getD i 0)
theorem inR_iff {l:List Int} {s:List Rng}:inR l s=true ↔ InP s l:=by
  unfold inR InP
  rw [Bool.and_eq_true,decide_eq_true_eq]
  refine and_congr_right fun hl=>?_
  rw [List.all_eq_true]
  constructor
  ·intro h i hi
   have:=h (l.getD i 0,s.getD i nilR) (by
     rw [List.mem_iff_getElem?]
     exact ⟨i,by simp [List.getElem?_zip_eq_some,List.getD,hi,show i<l.length by omega]⟩)
   simpa [Rng.has] using this
  ·intro h p hp
   obtain ⟨i,hi⟩:=List.mem_iff_getElem?.1 hp
   rw [List.getElem?_zip_eq_some] at hi
   have hs:i<s.length:=(List.getElem?_eq_some_iff.1 hi.2).1
   have:=h i hs
   simp only [List.getD,hi.1,hi.2,Option.getD_some] at this
   simpa [Rng.has] using this
theorem InP.at {s:List Rng} {l:List Int} (h:InP s l) {i:Int} (h0:0≤i) (h1:i<s.length):(gR s i).has (gt l i):=h.2 i.toNat (by omega)
theorem InP.set {s:List Rng} {l:List Int} (h:InP s l) {i:Int} {x:Rng} {n:Int} (hx:x.has n):InP (withR s i x) (l.set i.toNat n):=by
  refine ⟨by simp [withR,h.1],fun j hj=>?_⟩
  have hj':j<s.length:=by simpa [withR] using hj
  by_cases e:i.toNat=j
  ·subst e
   simpa [withR,List.getD,List.getElem?_set_self hj',List.getElem?_set_self (show i.toNat<l.length by rw [h.1];exact hj')] using hx
  ·have:=h.2 j hj'
   simpa [withR,List.getD,List.getElem?_set_ne e] using this
theorem InP.mono {s t:List Rng} {l:List Int} (h:InP s l) (hl:t.length=s.length) (ht:∀ i,i<s.length→(s.getD i nilR).within (t.getD i nilR)):InP t l:=
  ⟨h.1.trans hl.symm,fun i hi=>⟨Int.le_trans (ht i (by omega)).1 (h.2 i (by omega)).1,Int.le_trans (h.2 i (by omega)).2 (ht i (by omega)).2⟩⟩
theorem hull_l (a b:Rng):a.within (hullR a b):=⟨(minI_le _ _).1,(maxI_ge _ _).1⟩
theorem hull_r (a b:Rng):b.within (hullR a b):=⟨(minI_le _ _).2.1,(maxI_ge _ _).2.1⟩
theorem widen_w {a:Rng} (h:a.within machR):a.within (widenR a):=by
  unfold widenR
  split
  ·assumption
  ·split
   ·assumption
   ·split
    ·assumption
    ·exact h
theorem Rng.within_trans {a b c:Rng} (h:a.within b) (k:b.within c):a.within c:=⟨Int.le_trans k.1 h.1,Int.le_trans h.2 k.2⟩
theorem hull_mach {a b:Rng} (h:a.within machR) (k:b.within machR):(hullR a b).within machR:=by
  have m1:=minI_le a.lo b.lo
  have m2:=maxI_ge a.hi b.hi
  obtain ⟨h1,h2⟩:=h
  obtain ⟨k1,k2⟩:=k
  refine ⟨?_,?_⟩<;>simp only [hullR]<;>omega
theorem grow_l {a b:Rng} (h:a.within machR) (k:b.within machR):a.within (growR a b):=by
  unfold growR
  split
  ·exact Rng.within_refl _
  ·exact Rng.within_trans (hull_l a b) (widen_w (hull_mach h k))
theorem grow_r {a b:Rng} (h:a.within machR) (k:b.within machR):b.within (growR a b):=by
  unfold growR
  split
  ·rename_i e;have:=hull_r a b;rw [e] at this;exact this
  ·exact Rng.within_trans (hull_r a b) (widen_w (hull_mach h k))
def OkR (r:Rng):Prop:=r.lo≤r.hi∧r.within machR
def OkS (n:Nat) (s:List Rng):Prop:=s.length=n∧∀ i,i<n→OkR (s.getD i nilR)
theorem okR_bool:OkR boolR:=⟨by decide,by decide,by decide⟩
theorem okR_ints:OkR intsR:=⟨by decide,by decide,by decide⟩
theorem okR_mach:OkR machR:=⟨by decide,by decide,by decide⟩
theorem okR_nil:OkR nilR:=⟨by decide,by decide,by decide⟩
theorem okR_widen (r:Rng):OkR (widenR r):=by
  unfold widenR
  split
  ·exact okR_bool
  ·split
   ·exact ⟨by decide,by decide,by decide⟩
   ·split
    ·exact okR_ints
    ·exact okR_mach
theorem okR_hull {a b:Rng} (h:OkR a) (k:OkR b):OkR (hullR a b):=by
  refine ⟨?_,hull_mach h.2 k.2⟩
  have:=h.1
  have m1:=minI_le a.lo b.lo
  have m2:=maxI_ge a.hi b.hi
  simp only [hullR];omega
theorem okR_grow {a b:Rng} (h:OkR a):OkR (growR a b):=by
  unfold growR
  split
  ·exact h
  ·exact okR_widen _
theorem okR_held {a b:Rng} (h:a.lo≤a.hi) (hb:OkR b):OkR (heldR a b):=by
  unfold heldR
  split
  ·rename_i k;exact ⟨h,Rng.within_trans k hb.2⟩
  ·exact hb
theorem getD_zip {f:Rng→Rng→Rng}:∀ {s t:List Rng} {i:Nat},i<s.length→i<t.length→(List.zipWith f s t).getD i nilR=f (s.getD i nilR) (t.getD i nilR)
  |[],_,_,h,_=>by simp at h
  |_::_,[],_,_,h=>by simp at h
  |a::s,b::t,0,_,_=>by simp
  |a::s,b::t,i+1,h,k=>by simpa using getD_zip (f:=f) (s:=s) (t:=t) (i:=i) (by simpa using h) (by simpa using k)
theorem OkS.at {n:Nat} {s:List Rng} (h:OkS n s) (i:Int):OkR (gR s i):=by
  by_cases hi:i.toNat<n
  ·exact h.2 _ hi
  ·have:gR s i=nilR:=by simp [gR,List.getD,show s.length≤i.toNat by have:=h.1;omega]
   rw [this];exact okR_nil
theorem OkS.with {n:Nat} {s:List Rng} (h:OkS n s) {i:Int} {x:Rng} (hx:OkR x):OkS n (withR s i x):=by
  refine ⟨by simp [withR,h.1],fun j hj=>?_⟩
  by_cases e:i.toNat=j
  ·subst e;simpa [withR,List.getD,List.getElem?_set_self (show i.toNat<s.length by rw [h.1];exact hj)] using hx
  ·simpa [withR,List.getD,List.getElem?_set_ne e] using h.2 j hj
theorem OkS.hulls {n:Nat} {s t:List Rng} (h:OkS n s) (k:OkS n t):OkS n (List.zipWith hullR s t):=by
  refine ⟨by simp [h.1,k.1],fun j hj=>?_⟩
  rw [getD_zip (by rw [h.1];exact hj) (by rw [k.1];exact hj)]
  exact okR_hull (h.2 j hj) (k.2 j hj)
theorem OkS.grown {n:Nat} {s t:List Rng} (h:OkS n s) (k:OkS n t):OkS n (grownR s t):=by
  refine ⟨by simp [grownR,h.1,k.1],fun j hj=>?_⟩
  unfold grownR
  rw [getD_zip (by rw [h.1];exact hj) (by rw [k.1];exact hj)]
  exact okR_grow (h.2 j hj)
theorem ok_held {a:Rng} (h:a.lo≤a.hi):(heldR a intsR).lo≤(heldR a intsR).hi∧(heldR a intsR).within intsR:=by
  unfold heldR
  split
  ·rename_i k;exact ⟨h,k⟩
  ·exact ⟨by decide,by decide,by decide⟩
theorem rng_ints {i:Nat} (hlt:i<22) {l:List Rng} (h2:l.length=(El.psN i).length) (h3:fitA (El.psN i) l=true):(rngV i l).lo≤(rngV i l).hi∧(rngV i l).within intsR:=by
  have two:∀ j,(El.psN j).length=2→j=i→∃ a b,l=[a,b]:=fun j hj e=>by subst e;exact len2L (h2.trans hj)
  have fw:∀ p,(fitR p).within intsR:=fun p=>by unfold fitR;split;exact ⟨by decide,by decide⟩;exact Rng.within_refl _
  have wi:∀ {p:ByteArray} {a:Rng} {ps:List ByteArray} {l:List Rng},fitA (p::ps) (a::l)=true→(a.lo≤a.hi∧a.within intsR)∧fitA ps l=true:=fun {p a ps l} h=>by
    simp only [fitA,List.zip_cons_cons,List.all_cons,Bool.and_eq_true,decide_eq_true_eq] at h
    exact ⟨⟨h.1.1,Rng.within_trans h.1.2 (fw _)⟩,by simpa [fitA] using h.2⟩
  have ki:intsR.lo≤intsR.hi∧intsR.within intsR:=⟨by decide,by decide,by decide⟩
  have kb:boolR.lo≤boolR.hi∧boolR.within intsR:=⟨by decide,by decide,by decide⟩
  have ks:(⟨-1,1⟩:Rng).lo≤(⟨-1,1⟩:Rng).hi∧(⟨-1,1⟩:Rng).within intsR:=⟨by decide,by decide,by decide⟩
  rcases rng_ix hlt with rfl|rfl|rfl|rfl|rfl|rfl|rfl|rfl|rfl|rfl|rfl|rfl|rfl|rfl|rfl|rfl|rfl|rfl|rfl|rfl|rfl|rfl
  ·obtain ⟨a,b,rfl⟩:=two 0 rfl rfl
   exact ok_held (Int.add_le_add (wi h3).1.1 (wi (wi h3).2).1.1)
  ·obtain ⟨a,b,rfl⟩:=two 1 rfl rfl
   exact ok_held (Int.sub_le_sub (wi h3).1.1 (wi (wi h3).2).1.1)
  ·obtain ⟨a,b,rfl⟩:=two 2 rfl rfl
   have:=prod_lo (a:=a) (b:=b) (x:=a.lo) (y:=b.lo) ⟨Int.le_refl _,(wi h3).1.1⟩ ⟨Int.le_refl _,(wi (wi h3).2).1.1⟩
   exact ok_held (Int.le_trans this.1 this.2)
  ·exact ki
  ·obtain ⟨a,b,rfl⟩:=two 4 rfl rfl
   have k:=(wi (wi h3).2).1
   show (if b.lo≥1 then (⟨0,b.hi - 1⟩:Rng) else intsR).lo≤(if b.lo≥1 then (⟨0,b.hi - 1⟩:Rng) else intsR).hi∧(if b.lo≥1 then (⟨0,b.hi - 1⟩:Rng) else intsR).within intsR
   simp only [Rng.within,intsR] at k
   split
   ·exact ⟨by simp only;omega,by simp only [intsR];omega,by simp only [intsR];omega⟩
   ·exact ki
  ·obtain ⟨a,b,rfl⟩:=two 5 rfl rfl
   have k1:=(wi h3).1
   have k2:=(wi (wi h3).2).1
   have m1:=minI_le a.lo b.lo
   have m2:=minI_le a.hi b.hi
   simp only [Rng.within,intsR] at k1 k2
   refine ⟨?_,?_,?_⟩<;>simp only [rngV,intsR]<;>omega
  ·obtain ⟨a,b,rfl⟩:=two 6 rfl rfl
   have k1:=(wi h3).1
   have k2:=(wi (wi h3).2).1
   have m1:=maxI_ge a.lo b.lo
   have m2:=maxI_ge a.hi b.hi
   simp only [Rng.within,intsR] at k1 k2
   refine ⟨?_,?_,?_⟩<;>simp only [rngV,intsR]<;>omega
  ·exact ki
  ·exact ki
  ·exact ks
  ·exact kb
  ·exact kb
  ·exact kb
  ·exact kb
  ·exact kb
  ·exact kb
  ·exact kb
  ·exact kb
  ·exact kb
  ·exact kb
  ·obtain ⟨a,b,c,rfl⟩:=len3L (l:=l) (h2.trans rfl)
   have k2:=(wi (wi h3).2).1
   have k3:=(wi (wi (wi h3).2).2).1
   have m1:=minI_le b.lo c.lo
   have m2:=maxI_ge b.hi c.hi
   simp only [Rng.within,intsR] at k2 k3
   refine ⟨?_,?_,?_⟩<;>simp only [rngV,hullR,intsR]<;>omega
  ·exact kb
theorem okR_prim {op:ByteArray} {l:List Rng} {r:Rng} (h:primR op l=some r):OkR r:=by
  unfold primR at h
  simp only [Option.map_eq_some_iff] at h
  obtain ⟨i,hi,rfl⟩:=h
  obtain ⟨h1,h2,h3⟩:=fits_inv hi
  obtain ⟨k1,k2⟩:=rng_ints (row_lt h1) h2 h3
  exact ⟨k1,Rng.within_trans k2 ⟨by decide,by decide⟩⟩
end Go.Proofs.YtnlimcijgpaegaaGreat.Bm
