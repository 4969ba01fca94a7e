import Derived.Test.YtohiagaclfaolaaGreatDoorFwB
import Derived.Test.YtohiagaclfaolaaGreatDoorProg
import Derived.Lib.LaidTab
import Derived.Lib.ItoaNum
import Derived.Test.YtohiagaclfaolaaGreatDoorRows

set_option linter.all false

namespace Go.Fw
open Go
theorem var_up {P:Program} {w w':World} (hb:∀ k,k<w.heap.size→w'.heap[k]? =w.heap[k]?) {n:String} {cs:Array Value} (h:w.var? P n=some cs):w'.var? P n=some cs:=by
  unfold World.var? at h ⊢
  cases hg:P.globalNamed n with
  |none=>rw [hg] at h;cases h
  |some g=>
   rw [hg] at h
   simp only [Option.bind_some] at h ⊢
   have hlt:g<w.heap.size:=by
     rcases Nat.lt_or_ge g w.heap.size with h1|h1
     ·exact h1
     ·rw [Array.getElem?_eq_none h1] at h;cases h
   rw [hb g hlt];exact h
structure Tabs (w:World):Prop where
  pow:Lib.TabIs Go.Proofs.Tryz.prog w "internal/strconv.uint64pow10" .u64 Lib.pow10Tab
  syn:∃ t p,w.var? Go.Proofs.Tryz.prog "strconv.ErrSyntax"=some #[.iface t p]
  rng:∃ t p,w.var? Go.Proofs.Tryz.prog "strconv.ErrRange"=some #[.iface t p]
instance:TB:=⟨Tabs,fun _ _ hb h=>⟨var_up hb h.pow,h.syn.elim fun t ⟨p,hp⟩=>⟨t,p,var_up hb hp⟩,h.rng.elim fun t ⟨p,hp⟩=>⟨t,p,var_up hb hp⟩⟩⟩
end Go.Fw

namespace Go.Proofs.YtohiagaclfaolaaGreatDoor
open Go Go.Fw
theorem u2:Tryz.prog.underlying 2=some (.int .i64):=by kernel_rfl
theorem sz2:szT Tryz.prog 2=1:=by kernel_rfl
theorem by2:byT Tryz.prog 2=8:=by kernel_rfl
theorem ag2:aggT Tryz.prog 2=some false:=by kernel_rfl
theorem so2:structOk Tryz.prog 2=false:=by kernel_rfl
theorem iz2:(zeroT Tryz.prog 2).isSome=true:=by kernel_rfl
theorem zk2:zOk Tryz.prog 2=true:=by kernel_rfl
theorem iu2:(Tryz.prog.underlying 2).isSome=true:=by kernel_rfl
theorem u3:Tryz.prog.underlying 3=some (.int .i64):=by kernel_rfl
theorem sz3:szT Tryz.prog 3=1:=by kernel_rfl
theorem by3:byT Tryz.prog 3=8:=by kernel_rfl
theorem ag3:aggT Tryz.prog 3=some false:=by kernel_rfl
theorem so3:structOk Tryz.prog 3=false:=by kernel_rfl
theorem iz3:(zeroT Tryz.prog 3).isSome=true:=by kernel_rfl
theorem zk3:zOk Tryz.prog 3=true:=by kernel_rfl
theorem iu3:(Tryz.prog.underlying 3).isSome=true:=by kernel_rfl
theorem u4:Tryz.prog.underlying 4=some .bool:=by kernel_rfl
theorem sz4:szT Tryz.prog 4=1:=by kernel_rfl
theorem by4:byT Tryz.prog 4=1:=by kernel_rfl
theorem ag4:aggT Tryz.prog 4=some false:=by kernel_rfl
theorem so4:structOk Tryz.prog 4=false:=by kernel_rfl
theorem iz4:(zeroT Tryz.prog 4).isSome=true:=by kernel_rfl
theorem zk4:zOk Tryz.prog 4=true:=by kernel_rfl
theorem iu4:(Tryz.prog.underlying 4).isSome=true:=by kernel_rfl
theorem u5:Tryz.prog.underlying 5=some (.int .u8):=by kernel_rfl
theorem sz5:szT Tryz.prog 5=1:=by kernel_rfl
theorem by5:byT Tryz.prog 5=1:=by kernel_rfl
theorem ag5:aggT Tryz.prog 5=some false:=by kernel_rfl
theorem so5:structOk Tryz.prog 5=false:=by kernel_rfl
theorem iz5:(zeroT Tryz.prog 5).isSome=true:=by kernel_rfl
theorem zk5:zOk Tryz.prog 5=true:=by kernel_rfl
theorem iu5:(Tryz.prog.underlying 5).isSome=true:=by kernel_rfl
theorem u6:Tryz.prog.underlying 6=some (.int .u8):=by kernel_rfl
theorem sz6:szT Tryz.prog 6=1:=by kernel_rfl
theorem by6:byT Tryz.prog 6=1:=by kernel_rfl
theorem ag6:aggT Tryz.prog 6=some false:=by kernel_rfl
theorem so6:structOk Tryz.prog 6=false:=by kernel_rfl
theorem iz6:(zeroT Tryz.prog 6).isSome=true:=by kernel_rfl
theorem zk6:zOk Tryz.prog 6=true:=by kernel_rfl
theorem iu6:(Tryz.prog.underlying 6).isSome=true:=by kernel_rfl
theorem sz7:szT Tryz.prog 7=4:=by kernel_rfl
theorem by7:byT Tryz.prog 7=24:=by kernel_rfl
theorem ag7:aggT Tryz.prog 7=some true:=by kernel_rfl
theorem so7:structOk Tryz.prog 7=true:=by kernel_rfl
theorem fl7_0:fieldT Tryz.prog 7 0=some (2,0):=by kernel_rfl
theorem fl7_1:fieldT Tryz.prog 7 1=some (3,1):=by kernel_rfl
theorem fl7_2:fieldT Tryz.prog 7 2=some (4,2):=by kernel_rfl
theorem fl7_3:fieldT Tryz.prog 7 3=some (6,3):=by kernel_rfl
theorem se7:seqK Tryz.prog 7=some [0,0,2,0]:=by kernel_rfl
theorem iz7:(zeroT Tryz.prog 7).isSome=true:=by kernel_rfl
theorem zk7:zOk Tryz.prog 7=true:=by kernel_rfl
theorem iu7:(Tryz.prog.underlying 7).isSome=true:=by kernel_rfl
theorem sz8:szT Tryz.prog 8=4:=by kernel_rfl
theorem by8:byT Tryz.prog 8=24:=by kernel_rfl
theorem ag8:aggT Tryz.prog 8=some true:=by kernel_rfl
theorem so8:structOk Tryz.prog 8=true:=by kernel_rfl
theorem fl8_0:fieldT Tryz.prog 8 0=some (2,0):=by kernel_rfl
theorem fl8_1:fieldT Tryz.prog 8 1=some (3,1):=by kernel_rfl
theorem fl8_2:fieldT Tryz.prog 8 2=some (4,2):=by kernel_rfl
theorem fl8_3:fieldT Tryz.prog 8 3=some (6,3):=by kernel_rfl
theorem se8:seqK Tryz.prog 8=some [0,0,2,0]:=by kernel_rfl
theorem iz8:(zeroT Tryz.prog 8).isSome=true:=by kernel_rfl
theorem zk8:zOk Tryz.prog 8=true:=by kernel_rfl
theorem iu8:(Tryz.prog.underlying 8).isSome=true:=by kernel_rfl
theorem u9:Tryz.prog.underlying 9=some .string:=by kernel_rfl
theorem sz9:szT Tryz.prog 9=1:=by kernel_rfl
theorem by9:byT Tryz.prog 9=16:=by kernel_rfl
theorem ag9:aggT Tryz.prog 9=some false:=by kernel_rfl
theorem so9:structOk Tryz.prog 9=false:=by kernel_rfl
theorem iz9:(zeroT Tryz.prog 9).isSome=true:=by kernel_rfl
theorem zk9:zOk Tryz.prog 9=true:=by kernel_rfl
theorem iu9:(Tryz.prog.underlying 9).isSome=true:=by kernel_rfl
theorem u10:Tryz.prog.underlying 10=some .string:=by kernel_rfl
theorem sz10:szT Tryz.prog 10=1:=by kernel_rfl
theorem by10:byT Tryz.prog 10=16:=by kernel_rfl
theorem ag10:aggT Tryz.prog 10=some false:=by kernel_rfl
theorem so10:structOk Tryz.prog 10=false:=by kernel_rfl
theorem iz10:(zeroT Tryz.prog 10).isSome=true:=by kernel_rfl
theorem zk10:zOk Tryz.prog 10=true:=by kernel_rfl
theorem iu10:(Tryz.prog.underlying 10).isSome=true:=by kernel_rfl
theorem u11:Tryz.prog.underlying 11=some .string:=by kernel_rfl
theorem sz11:szT Tryz.prog 11=1:=by kernel_rfl
theorem by11:byT Tryz.prog 11=16:=by kernel_rfl
theorem ag11:aggT Tryz.prog 11=some false:=by kernel_rfl
theorem so11:structOk Tryz.prog 11=false:=by kernel_rfl
theorem iz11:(zeroT Tryz.prog 11).isSome=true:=by kernel_rfl
theorem zk11:zOk Tryz.prog 11=true:=by kernel_rfl
theorem iu11:(Tryz.prog.underlying 11).isSome=true:=by kernel_rfl
theorem u12:Tryz.prog.underlying 12=some (.int .u64):=by kernel_rfl
theorem sz12:szT Tryz.prog 12=1:=by kernel_rfl
theorem by12:byT Tryz.prog 12=8:=by kernel_rfl
theorem ag12:aggT Tryz.prog 12=some false:=by kernel_rfl
theorem so12:structOk Tryz.prog 12=false:=by kernel_rfl
theorem iz12:(zeroT Tryz.prog 12).isSome=true:=by kernel_rfl
theorem zk12:zOk Tryz.prog 12=true:=by kernel_rfl
theorem iu12:(Tryz.prog.underlying 12).isSome=true:=by kernel_rfl
theorem sz13:szT Tryz.prog 13=2:=by kernel_rfl
theorem by13:byT Tryz.prog 13=24:=by kernel_rfl
theorem ag13:aggT Tryz.prog 13=some true:=by kernel_rfl
theorem so13:structOk Tryz.prog 13=true:=by kernel_rfl
theorem fl13_0:fieldT Tryz.prog 13 0=some (9,0):=by kernel_rfl
theorem fl13_1:fieldT Tryz.prog 13 1=some (12,1):=by kernel_rfl
theorem iz13:(zeroT Tryz.prog 13).isSome=true:=by kernel_rfl
theorem zk13:zOk Tryz.prog 13=true:=by kernel_rfl
theorem iu13:(Tryz.prog.underlying 13).isSome=true:=by kernel_rfl
theorem sz14:szT Tryz.prog 14=2:=by kernel_rfl
theorem by14:byT Tryz.prog 14=24:=by kernel_rfl
theorem ag14:aggT Tryz.prog 14=some true:=by kernel_rfl
theorem so14:structOk Tryz.prog 14=true:=by kernel_rfl
theorem fl14_0:fieldT Tryz.prog 14 0=some (9,0):=by kernel_rfl
theorem fl14_1:fieldT Tryz.prog 14 1=some (12,1):=by kernel_rfl
theorem iz14:(zeroT Tryz.prog 14).isSome=true:=by kernel_rfl
theorem zk14:zOk Tryz.prog 14=true:=by kernel_rfl
theorem iu14:(Tryz.prog.underlying 14).isSome=true:=by kernel_rfl
theorem u15:Tryz.prog.underlying 15=some (.pointer 203):=by kernel_rfl
theorem sz15:szT Tryz.prog 15=1:=by kernel_rfl
theorem by15:byT Tryz.prog 15=8:=by kernel_rfl
theorem ag15:aggT Tryz.prog 15=some false:=by kernel_rfl
theorem so15:structOk Tryz.prog 15=false:=by kernel_rfl
theorem iz15:(zeroT Tryz.prog 15).isSome=true:=by kernel_rfl
theorem zk15:zOk Tryz.prog 15=true:=by kernel_rfl
theorem iu15:(Tryz.prog.underlying 15).isSome=true:=by kernel_rfl
theorem u16:Tryz.prog.underlying 16=some (.pointer 206):=by kernel_rfl
theorem sz16:szT Tryz.prog 16=1:=by kernel_rfl
theorem by16:byT Tryz.prog 16=8:=by kernel_rfl
theorem ag16:aggT Tryz.prog 16=some false:=by kernel_rfl
theorem so16:structOk Tryz.prog 16=false:=by kernel_rfl
theorem iz16:(zeroT Tryz.prog 16).isSome=true:=by kernel_rfl
theorem zk16:zOk Tryz.prog 16=true:=by kernel_rfl
theorem iu16:(Tryz.prog.underlying 16).isSome=true:=by kernel_rfl
theorem u17:Tryz.prog.underlying 17=some (.pointer 213):=by kernel_rfl
theorem sz17:szT Tryz.prog 17=1:=by kernel_rfl
theorem by17:byT Tryz.prog 17=8:=by kernel_rfl
theorem ag17:aggT Tryz.prog 17=some false:=by kernel_rfl
theorem so17:structOk Tryz.prog 17=false:=by kernel_rfl
theorem iz17:(zeroT Tryz.prog 17).isSome=true:=by kernel_rfl
theorem zk17:zOk Tryz.prog 17=true:=by kernel_rfl
theorem iu17:(Tryz.prog.underlying 17).isSome=true:=by kernel_rfl
theorem sz18:szT Tryz.prog 18=1:=by kernel_rfl
theorem by18:byT Tryz.prog 18=8:=by kernel_rfl
theorem ag18:aggT Tryz.prog 18=some true:=by kernel_rfl
theorem so18:structOk Tryz.prog 18=true:=by kernel_rfl
theorem fl18_0:fieldT Tryz.prog 18 0=some (17,0):=by kernel_rfl
theorem iz18:(zeroT Tryz.prog 18).isSome=true:=by kernel_rfl
theorem zk18:zOk Tryz.prog 18=true:=by kernel_rfl
theorem iu18:(Tryz.prog.underlying 18).isSome=true:=by kernel_rfl
theorem sz19:szT Tryz.prog 19=1:=by kernel_rfl
theorem by19:byT Tryz.prog 19=8:=by kernel_rfl
theorem ag19:aggT Tryz.prog 19=some true:=by kernel_rfl
theorem so19:structOk Tryz.prog 19=true:=by kernel_rfl
theorem fl19_0:fieldT Tryz.prog 19 0=some (17,0):=by kernel_rfl
theorem iz19:(zeroT Tryz.prog 19).isSome=true:=by kernel_rfl
theorem zk19:zOk Tryz.prog 19=true:=by kernel_rfl
theorem iu19:(Tryz.prog.underlying 19).isSome=true:=by kernel_rfl
theorem u21:Tryz.prog.underlying 21=some (.int .i32):=by kernel_rfl
theorem sz21:szT Tryz.prog 21=1:=by kernel_rfl
theorem by21:byT Tryz.prog 21=4:=by kernel_rfl
theorem ag21:aggT Tryz.prog 21=some false:=by kernel_rfl
theorem so21:structOk Tryz.prog 21=false:=by kernel_rfl
theorem iz21:(zeroT Tryz.prog 21).isSome=true:=by kernel_rfl
theorem zk21:zOk Tryz.prog 21=true:=by kernel_rfl
theorem iu21:(Tryz.prog.underlying 21).isSome=true:=by kernel_rfl
theorem u22:Tryz.prog.underlying 22=some (.slice 50):=by kernel_rfl
theorem sz22:szT Tryz.prog 22=1:=by kernel_rfl
theorem by22:byT Tryz.prog 22=24:=by kernel_rfl
theorem ag22:aggT Tryz.prog 22=some false:=by kernel_rfl
theorem so22:structOk Tryz.prog 22=false:=by kernel_rfl
theorem iz22:(zeroT Tryz.prog 22).isSome=true:=by kernel_rfl
theorem zk22:zOk Tryz.prog 22=true:=by kernel_rfl
theorem iu22:(Tryz.prog.underlying 22).isSome=true:=by kernel_rfl
theorem ap22:appT Tryz.prog #[22,22]=some 50:=by kernel_rfl
theorem u23:Tryz.prog.underlying 23=some (.slice 58):=by kernel_rfl
theorem sz23:szT Tryz.prog 23=1:=by kernel_rfl
theorem by23:byT Tryz.prog 23=24:=by kernel_rfl
theorem ag23:aggT Tryz.prog 23=some false:=by kernel_rfl
theorem so23:structOk Tryz.prog 23=false:=by kernel_rfl
theorem iz23:(zeroT Tryz.prog 23).isSome=true:=by kernel_rfl
theorem zk23:zOk Tryz.prog 23=true:=by kernel_rfl
theorem iu23:(Tryz.prog.underlying 23).isSome=true:=by kernel_rfl
theorem ap23:appT Tryz.prog #[23,23]=some 58:=by kernel_rfl
theorem u24:Tryz.prog.underlying 24=some (.slice 53):=by kernel_rfl
theorem sz24:szT Tryz.prog 24=1:=by kernel_rfl
theorem by24:byT Tryz.prog 24=24:=by kernel_rfl
theorem ag24:aggT Tryz.prog 24=some false:=by kernel_rfl
theorem so24:structOk Tryz.prog 24=false:=by kernel_rfl
theorem iz24:(zeroT Tryz.prog 24).isSome=true:=by kernel_rfl
theorem zk24:zOk Tryz.prog 24=true:=by kernel_rfl
theorem iu24:(Tryz.prog.underlying 24).isSome=true:=by kernel_rfl
theorem ap24:appT Tryz.prog #[24,24]=some 53:=by kernel_rfl
theorem sz25:szT Tryz.prog 25=6:=by kernel_rfl
theorem by25:byT Tryz.prog 25=112:=by kernel_rfl
theorem ag25:aggT Tryz.prog 25=some true:=by kernel_rfl
theorem so25:structOk Tryz.prog 25=true:=by kernel_rfl
theorem fl25_0:fieldT Tryz.prog 25 0=some (3,0):=by kernel_rfl
theorem fl25_1:fieldT Tryz.prog 25 1=some (3,1):=by kernel_rfl
theorem fl25_2:fieldT Tryz.prog 25 2=some (22,2):=by kernel_rfl
theorem fl25_3:fieldT Tryz.prog 25 3=some (23,3):=by kernel_rfl
theorem fl25_4:fieldT Tryz.prog 25 4=some (23,4):=by kernel_rfl
theorem fl25_5:fieldT Tryz.prog 25 5=some (24,5):=by kernel_rfl
theorem iz25:(zeroT Tryz.prog 25).isSome=true:=by kernel_rfl
theorem zk25:zOk Tryz.prog 25=true:=by kernel_rfl
theorem iu25:(Tryz.prog.underlying 25).isSome=true:=by kernel_rfl
theorem sz26:szT Tryz.prog 26=6:=by kernel_rfl
theorem by26:byT Tryz.prog 26=112:=by kernel_rfl
theorem ag26:aggT Tryz.prog 26=some true:=by kernel_rfl
theorem so26:structOk Tryz.prog 26=true:=by kernel_rfl
theorem fl26_0:fieldT Tryz.prog 26 0=some (3,0):=by kernel_rfl
theorem fl26_1:fieldT Tryz.prog 26 1=some (3,1):=by kernel_rfl
theorem fl26_2:fieldT Tryz.prog 26 2=some (22,2):=by kernel_rfl
theorem fl26_3:fieldT Tryz.prog 26 3=some (23,3):=by kernel_rfl
theorem fl26_4:fieldT Tryz.prog 26 4=some (23,4):=by kernel_rfl
theorem fl26_5:fieldT Tryz.prog 26 5=some (24,5):=by kernel_rfl
theorem iz26:(zeroT Tryz.prog 26).isSome=true:=by kernel_rfl
theorem zk26:zOk Tryz.prog 26=true:=by kernel_rfl
theorem iu26:(Tryz.prog.underlying 26).isSome=true:=by kernel_rfl
theorem u27:Tryz.prog.underlying 27=some (.slice 5):=by kernel_rfl
theorem sz27:szT Tryz.prog 27=1:=by kernel_rfl
theorem by27:byT Tryz.prog 27=24:=by kernel_rfl
theorem ag27:aggT Tryz.prog 27=some false:=by kernel_rfl
theorem so27:structOk Tryz.prog 27=false:=by kernel_rfl
theorem iz27:(zeroT Tryz.prog 27).isSome=true:=by kernel_rfl
theorem zk27:zOk Tryz.prog 27=true:=by kernel_rfl
theorem iu27:(Tryz.prog.underlying 27).isSome=true:=by kernel_rfl
theorem ap27:appT Tryz.prog #[27,27]=some 5:=by kernel_rfl
theorem aps27:appT Tryz.prog #[27,9]=some 5:=by kernel_rfl
theorem u30:Tryz.prog.underlying 30=some (.int .i64):=by kernel_rfl
theorem sz30:szT Tryz.prog 30=1:=by kernel_rfl
theorem by30:byT Tryz.prog 30=8:=by kernel_rfl
theorem ag30:aggT Tryz.prog 30=some false:=by kernel_rfl
theorem so30:structOk Tryz.prog 30=false:=by kernel_rfl
theorem iz30:(zeroT Tryz.prog 30).isSome=true:=by kernel_rfl
theorem zk30:zOk Tryz.prog 30=true:=by kernel_rfl
theorem iu30:(Tryz.prog.underlying 30).isSome=true:=by kernel_rfl
theorem u46:Tryz.prog.underlying 46=some (.slice 3):=by kernel_rfl
theorem sz46:szT Tryz.prog 46=1:=by kernel_rfl
theorem by46:byT Tryz.prog 46=24:=by kernel_rfl
theorem ag46:aggT Tryz.prog 46=some false:=by kernel_rfl
theorem so46:structOk Tryz.prog 46=false:=by kernel_rfl
theorem iz46:(zeroT Tryz.prog 46).isSome=true:=by kernel_rfl
theorem zk46:zOk Tryz.prog 46=true:=by kernel_rfl
theorem iu46:(Tryz.prog.underlying 46).isSome=true:=by kernel_rfl
theorem ap46:appT Tryz.prog #[46,46]=some 3:=by kernel_rfl
theorem sz49:szT Tryz.prog 49=6:=by kernel_rfl
theorem by49:byT Tryz.prog 49=56:=by kernel_rfl
theorem ag49:aggT Tryz.prog 49=some true:=by kernel_rfl
theorem so49:structOk Tryz.prog 49=true:=by kernel_rfl
theorem fl49_0:fieldT Tryz.prog 49 0=some (3,0):=by kernel_rfl
theorem fl49_1:fieldT Tryz.prog 49 1=some (9,1):=by kernel_rfl
theorem fl49_2:fieldT Tryz.prog 49 2=some (3,2):=by kernel_rfl
theorem fl49_3:fieldT Tryz.prog 49 3=some (3,3):=by kernel_rfl
theorem fl49_4:fieldT Tryz.prog 49 4=some (3,4):=by kernel_rfl
theorem fl49_5:fieldT Tryz.prog 49 5=some (3,5):=by kernel_rfl
theorem se49:seqK Tryz.prog 49=some [0,1,0,0,0,0]:=by kernel_rfl
theorem iz49:(zeroT Tryz.prog 49).isSome=true:=by kernel_rfl
theorem zk49:zOk Tryz.prog 49=true:=by kernel_rfl
theorem iu49:(Tryz.prog.underlying 49).isSome=true:=by kernel_rfl
theorem sz50:szT Tryz.prog 50=6:=by kernel_rfl
theorem by50:byT Tryz.prog 50=56:=by kernel_rfl
theorem ag50:aggT Tryz.prog 50=some true:=by kernel_rfl
theorem so50:structOk Tryz.prog 50=true:=by kernel_rfl
theorem fl50_0:fieldT Tryz.prog 50 0=some (3,0):=by kernel_rfl
theorem fl50_1:fieldT Tryz.prog 50 1=some (9,1):=by kernel_rfl
theorem fl50_2:fieldT Tryz.prog 50 2=some (3,2):=by kernel_rfl
theorem fl50_3:fieldT Tryz.prog 50 3=some (3,3):=by kernel_rfl
theorem fl50_4:fieldT Tryz.prog 50 4=some (3,4):=by kernel_rfl
theorem fl50_5:fieldT Tryz.prog 50 5=some (3,5):=by kernel_rfl
theorem se50:seqK Tryz.prog 50=some [0,1,0,0,0,0]:=by kernel_rfl
theorem iz50:(zeroT Tryz.prog 50).isSome=true:=by kernel_rfl
theorem zk50:zOk Tryz.prog 50=true:=by kernel_rfl
theorem iu50:(Tryz.prog.underlying 50).isSome=true:=by kernel_rfl
theorem sz52:szT Tryz.prog 52=3:=by kernel_rfl
theorem by52:byT Tryz.prog 52=64:=by kernel_rfl
theorem ag52:aggT Tryz.prog 52=some true:=by kernel_rfl
theorem so52:structOk Tryz.prog 52=true:=by kernel_rfl
theorem fl52_0:fieldT Tryz.prog 52 0=some (9,0):=by kernel_rfl
theorem fl52_1:fieldT Tryz.prog 52 1=some (46,1):=by kernel_rfl
theorem fl52_2:fieldT Tryz.prog 52 2=some (46,2):=by kernel_rfl
theorem iz52:(zeroT Tryz.prog 52).isSome=true:=by kernel_rfl
theorem zk52:zOk Tryz.prog 52=true:=by kernel_rfl
theorem iu52:(Tryz.prog.underlying 52).isSome=true:=by kernel_rfl
theorem sz53:szT Tryz.prog 53=3:=by kernel_rfl
theorem by53:byT Tryz.prog 53=64:=by kernel_rfl
theorem ag53:aggT Tryz.prog 53=some true:=by kernel_rfl
theorem so53:structOk Tryz.prog 53=true:=by kernel_rfl
theorem fl53_0:fieldT Tryz.prog 53 0=some (9,0):=by kernel_rfl
theorem fl53_1:fieldT Tryz.prog 53 1=some (46,1):=by kernel_rfl
theorem fl53_2:fieldT Tryz.prog 53 2=some (46,2):=by kernel_rfl
theorem iz53:(zeroT Tryz.prog 53).isSome=true:=by kernel_rfl
theorem zk53:zOk Tryz.prog 53=true:=by kernel_rfl
theorem iu53:(Tryz.prog.underlying 53).isSome=true:=by kernel_rfl
theorem sz57:szT Tryz.prog 57=2:=by kernel_rfl
theorem by57:byT Tryz.prog 57=16:=by kernel_rfl
theorem ag57:aggT Tryz.prog 57=some true:=by kernel_rfl
theorem so57:structOk Tryz.prog 57=true:=by kernel_rfl
theorem fl57_0:fieldT Tryz.prog 57 0=some (3,0):=by kernel_rfl
theorem fl57_1:fieldT Tryz.prog 57 1=some (3,1):=by kernel_rfl
theorem se57:seqK Tryz.prog 57=some [0,0]:=by kernel_rfl
theorem iz57:(zeroT Tryz.prog 57).isSome=true:=by kernel_rfl
theorem zk57:zOk Tryz.prog 57=true:=by kernel_rfl
theorem iu57:(Tryz.prog.underlying 57).isSome=true:=by kernel_rfl
theorem sz58:szT Tryz.prog 58=2:=by kernel_rfl
theorem by58:byT Tryz.prog 58=16:=by kernel_rfl
theorem ag58:aggT Tryz.prog 58=some true:=by kernel_rfl
theorem so58:structOk Tryz.prog 58=true:=by kernel_rfl
theorem fl58_0:fieldT Tryz.prog 58 0=some (3,0):=by kernel_rfl
theorem fl58_1:fieldT Tryz.prog 58 1=some (3,1):=by kernel_rfl
theorem se58:seqK Tryz.prog 58=some [0,0]:=by kernel_rfl
theorem iz58:(zeroT Tryz.prog 58).isSome=true:=by kernel_rfl
theorem zk58:zOk Tryz.prog 58=true:=by kernel_rfl
theorem iu58:(Tryz.prog.underlying 58).isSome=true:=by kernel_rfl
theorem u61:Tryz.prog.underlying 61=some (.pointer 63):=by kernel_rfl
theorem sz61:szT Tryz.prog 61=1:=by kernel_rfl
theorem by61:byT Tryz.prog 61=8:=by kernel_rfl
theorem ag61:aggT Tryz.prog 61=some false:=by kernel_rfl
theorem so61:structOk Tryz.prog 61=false:=by kernel_rfl
theorem iz61:(zeroT Tryz.prog 61).isSome=true:=by kernel_rfl
theorem zk61:zOk Tryz.prog 61=true:=by kernel_rfl
theorem iu61:(Tryz.prog.underlying 61).isSome=true:=by kernel_rfl
theorem sz62:szT Tryz.prog 62=2:=by kernel_rfl
theorem by62:byT Tryz.prog 62=32:=by kernel_rfl
theorem ag62:aggT Tryz.prog 62=some true:=by kernel_rfl
theorem so62:structOk Tryz.prog 62=true:=by kernel_rfl
theorem fl62_0:fieldT Tryz.prog 62 0=some (27,0):=by kernel_rfl
theorem fl62_1:fieldT Tryz.prog 62 1=some (30,1):=by kernel_rfl
theorem iz62:(zeroT Tryz.prog 62).isSome=true:=by kernel_rfl
theorem zk62:zOk Tryz.prog 62=true:=by kernel_rfl
theorem iu62:(Tryz.prog.underlying 62).isSome=true:=by kernel_rfl
theorem sz63:szT Tryz.prog 63=2:=by kernel_rfl
theorem by63:byT Tryz.prog 63=32:=by kernel_rfl
theorem ag63:aggT Tryz.prog 63=some true:=by kernel_rfl
theorem so63:structOk Tryz.prog 63=true:=by kernel_rfl
theorem fl63_0:fieldT Tryz.prog 63 0=some (27,0):=by kernel_rfl
theorem fl63_1:fieldT Tryz.prog 63 1=some (30,1):=by kernel_rfl
theorem iz63:(zeroT Tryz.prog 63).isSome=true:=by kernel_rfl
theorem zk63:zOk Tryz.prog 63=true:=by kernel_rfl
theorem iu63:(Tryz.prog.underlying 63).isSome=true:=by kernel_rfl
theorem u71:Tryz.prog.underlying 71=some (.pointer 72):=by kernel_rfl
theorem sz71:szT Tryz.prog 71=1:=by kernel_rfl
theorem by71:byT Tryz.prog 71=8:=by kernel_rfl
theorem ag71:aggT Tryz.prog 71=some false:=by kernel_rfl
theorem so71:structOk Tryz.prog 71=false:=by kernel_rfl
theorem iz71:(zeroT Tryz.prog 71).isSome=true:=by kernel_rfl
theorem zk71:zOk Tryz.prog 71=true:=by kernel_rfl
theorem iu71:(Tryz.prog.underlying 71).isSome=true:=by kernel_rfl
theorem sz72:szT Tryz.prog 72=2:=by kernel_rfl
theorem by72:byT Tryz.prog 72=32:=by kernel_rfl
theorem ag72:aggT Tryz.prog 72=some true:=by kernel_rfl
theorem so72:structOk Tryz.prog 72=true:=by kernel_rfl
theorem fl72_0:fieldT Tryz.prog 72 0=some (27,0):=by kernel_rfl
theorem fl72_1:fieldT Tryz.prog 72 1=some (30,1):=by kernel_rfl
theorem iz72:(zeroT Tryz.prog 72).isSome=true:=by kernel_rfl
theorem zk72:zOk Tryz.prog 72=true:=by kernel_rfl
theorem iu72:(Tryz.prog.underlying 72).isSome=true:=by kernel_rfl
theorem u78:Tryz.prog.underlying 78=some (.pointer 80):=by kernel_rfl
theorem sz78:szT Tryz.prog 78=1:=by kernel_rfl
theorem by78:byT Tryz.prog 78=8:=by kernel_rfl
theorem ag78:aggT Tryz.prog 78=some false:=by kernel_rfl
theorem so78:structOk Tryz.prog 78=false:=by kernel_rfl
theorem iz78:(zeroT Tryz.prog 78).isSome=true:=by kernel_rfl
theorem zk78:zOk Tryz.prog 78=true:=by kernel_rfl
theorem iu78:(Tryz.prog.underlying 78).isSome=true:=by kernel_rfl
theorem sz79:szT Tryz.prog 79=2:=by kernel_rfl
theorem by79:byT Tryz.prog 79=32:=by kernel_rfl
theorem ag79:aggT Tryz.prog 79=some true:=by kernel_rfl
theorem so79:structOk Tryz.prog 79=true:=by kernel_rfl
theorem fl79_0:fieldT Tryz.prog 79 0=some (78,0):=by kernel_rfl
theorem fl79_1:fieldT Tryz.prog 79 1=some (27,1):=by kernel_rfl
theorem iz79:(zeroT Tryz.prog 79).isSome=true:=by kernel_rfl
theorem zk79:zOk Tryz.prog 79=true:=by kernel_rfl
theorem iu79:(Tryz.prog.underlying 79).isSome=true:=by kernel_rfl
theorem sz80:szT Tryz.prog 80=2:=by kernel_rfl
theorem by80:byT Tryz.prog 80=32:=by kernel_rfl
theorem ag80:aggT Tryz.prog 80=some true:=by kernel_rfl
theorem so80:structOk Tryz.prog 80=true:=by kernel_rfl
theorem fl80_0:fieldT Tryz.prog 80 0=some (78,0):=by kernel_rfl
theorem fl80_1:fieldT Tryz.prog 80 1=some (27,1):=by kernel_rfl
theorem iz80:(zeroT Tryz.prog 80).isSome=true:=by kernel_rfl
theorem zk80:zOk Tryz.prog 80=true:=by kernel_rfl
theorem iu80:(Tryz.prog.underlying 80).isSome=true:=by kernel_rfl
theorem u92:Tryz.prog.underlying 92=some (.slice 23):=by kernel_rfl
theorem sz92:szT Tryz.prog 92=1:=by kernel_rfl
theorem by92:byT Tryz.prog 92=24:=by kernel_rfl
theorem ag92:aggT Tryz.prog 92=some false:=by kernel_rfl
theorem so92:structOk Tryz.prog 92=false:=by kernel_rfl
theorem iz92:(zeroT Tryz.prog 92).isSome=true:=by kernel_rfl
theorem zk92:zOk Tryz.prog 92=true:=by kernel_rfl
theorem iu92:(Tryz.prog.underlying 92).isSome=true:=by kernel_rfl
theorem ap92:appT Tryz.prog #[92,92]=some 23:=by kernel_rfl
theorem u95:Tryz.prog.underlying 95=some (.int .u64):=by kernel_rfl
theorem sz95:szT Tryz.prog 95=1:=by kernel_rfl
theorem by95:byT Tryz.prog 95=8:=by kernel_rfl
theorem ag95:aggT Tryz.prog 95=some false:=by kernel_rfl
theorem so95:structOk Tryz.prog 95=false:=by kernel_rfl
theorem iz95:(zeroT Tryz.prog 95).isSome=true:=by kernel_rfl
theorem zk95:zOk Tryz.prog 95=true:=by kernel_rfl
theorem iu95:(Tryz.prog.underlying 95).isSome=true:=by kernel_rfl
theorem sz110:szT Tryz.prog 110=4:=by kernel_rfl
theorem by110:byT Tryz.prog 110=72:=by kernel_rfl
theorem ag110:aggT Tryz.prog 110=some true:=by kernel_rfl
theorem so110:structOk Tryz.prog 110=true:=by kernel_rfl
theorem fl110_0:fieldT Tryz.prog 110 0=some (9,0):=by kernel_rfl
theorem fl110_1:fieldT Tryz.prog 110 1=some (46,1):=by kernel_rfl
theorem fl110_2:fieldT Tryz.prog 110 2=some (4,2):=by kernel_rfl
theorem fl110_3:fieldT Tryz.prog 110 3=some (46,3):=by kernel_rfl
theorem iz110:(zeroT Tryz.prog 110).isSome=true:=by kernel_rfl
theorem zk110:zOk Tryz.prog 110=true:=by kernel_rfl
theorem iu110:(Tryz.prog.underlying 110).isSome=true:=by kernel_rfl
theorem sz111:szT Tryz.prog 111=4:=by kernel_rfl
theorem by111:byT Tryz.prog 111=72:=by kernel_rfl
theorem ag111:aggT Tryz.prog 111=some true:=by kernel_rfl
theorem so111:structOk Tryz.prog 111=true:=by kernel_rfl
theorem fl111_0:fieldT Tryz.prog 111 0=some (9,0):=by kernel_rfl
theorem fl111_1:fieldT Tryz.prog 111 1=some (46,1):=by kernel_rfl
theorem fl111_2:fieldT Tryz.prog 111 2=some (4,2):=by kernel_rfl
theorem fl111_3:fieldT Tryz.prog 111 3=some (46,3):=by kernel_rfl
theorem iz111:(zeroT Tryz.prog 111).isSome=true:=by kernel_rfl
theorem zk111:zOk Tryz.prog 111=true:=by kernel_rfl
theorem iu111:(Tryz.prog.underlying 111).isSome=true:=by kernel_rfl
theorem u114:Tryz.prog.underlying 114=some (.array 4 3):=by kernel_rfl
theorem sz114:szT Tryz.prog 114=4:=by kernel_rfl
theorem by114:byT Tryz.prog 114=32:=by kernel_rfl
theorem ag114:aggT Tryz.prog 114=some true:=by kernel_rfl
theorem so114:structOk Tryz.prog 114=false:=by kernel_rfl
theorem iz114:(zeroT Tryz.prog 114).isSome=true:=by kernel_rfl
theorem zk114:zOk Tryz.prog 114=true:=by kernel_rfl
theorem iu114:(Tryz.prog.underlying 114).isSome=true:=by kernel_rfl
theorem u117:Tryz.prog.underlying 117=some (.slice 9):=by kernel_rfl
theorem sz117:szT Tryz.prog 117=1:=by kernel_rfl
theorem by117:byT Tryz.prog 117=24:=by kernel_rfl
theorem ag117:aggT Tryz.prog 117=some false:=by kernel_rfl
theorem so117:structOk Tryz.prog 117=false:=by kernel_rfl
theorem iz117:(zeroT Tryz.prog 117).isSome=true:=by kernel_rfl
theorem zk117:zOk Tryz.prog 117=true:=by kernel_rfl
theorem iu117:(Tryz.prog.underlying 117).isSome=true:=by kernel_rfl
theorem ap117:appT Tryz.prog #[117,117]=some 9:=by kernel_rfl
theorem u119:Tryz.prog.underlying 119=some (.pointer 5):=by kernel_rfl
theorem sz119:szT Tryz.prog 119=1:=by kernel_rfl
theorem by119:byT Tryz.prog 119=8:=by kernel_rfl
theorem ag119:aggT Tryz.prog 119=some false:=by kernel_rfl
theorem so119:structOk Tryz.prog 119=false:=by kernel_rfl
theorem iz119:(zeroT Tryz.prog 119).isSome=true:=by kernel_rfl
theorem zk119:zOk Tryz.prog 119=true:=by kernel_rfl
theorem iu119:(Tryz.prog.underlying 119).isSome=true:=by kernel_rfl
theorem sz122:szT Tryz.prog 122=0:=by kernel_rfl
theorem by122:byT Tryz.prog 122=0:=by kernel_rfl
theorem ag122:aggT Tryz.prog 122=some true:=by kernel_rfl
theorem so122:structOk Tryz.prog 122=true:=by kernel_rfl
theorem iz122:(zeroT Tryz.prog 122).isSome=true:=by kernel_rfl
theorem zk122:zOk Tryz.prog 122=true:=by kernel_rfl
theorem iu122:(Tryz.prog.underlying 122).isSome=true:=by kernel_rfl
theorem sz123:szT Tryz.prog 123=0:=by kernel_rfl
theorem by123:byT Tryz.prog 123=0:=by kernel_rfl
theorem ag123:aggT Tryz.prog 123=some true:=by kernel_rfl
theorem so123:structOk Tryz.prog 123=true:=by kernel_rfl
theorem iz123:(zeroT Tryz.prog 123).isSome=true:=by kernel_rfl
theorem zk123:zOk Tryz.prog 123=true:=by kernel_rfl
theorem iu123:(Tryz.prog.underlying 123).isSome=true:=by kernel_rfl
theorem u131:Tryz.prog.underlying 131=some (.int .u64):=by kernel_rfl
theorem sz131:szT Tryz.prog 131=1:=by kernel_rfl
theorem by131:byT Tryz.prog 131=8:=by kernel_rfl
theorem ag131:aggT Tryz.prog 131=some false:=by kernel_rfl
theorem so131:structOk Tryz.prog 131=false:=by kernel_rfl
theorem iz131:(zeroT Tryz.prog 131).isSome=true:=by kernel_rfl
theorem zk131:zOk Tryz.prog 131=true:=by kernel_rfl
theorem iu131:(Tryz.prog.underlying 131).isSome=true:=by kernel_rfl
theorem u136:Tryz.prog.underlying 136=some (.array 16 111):=by kernel_rfl
theorem sz136:szT Tryz.prog 136=64:=by kernel_rfl
theorem by136:byT Tryz.prog 136=1152:=by kernel_rfl
theorem ag136:aggT Tryz.prog 136=some true:=by kernel_rfl
theorem so136:structOk Tryz.prog 136=false:=by kernel_rfl
theorem iz136:(zeroT Tryz.prog 136).isSome=true:=by kernel_rfl
theorem zk136:zOk Tryz.prog 136=true:=by kernel_rfl
theorem iu136:(Tryz.prog.underlying 136).isSome=true:=by kernel_rfl
theorem u146:Tryz.prog.underlying 146=some (.slice 111):=by kernel_rfl
theorem sz146:szT Tryz.prog 146=1:=by kernel_rfl
theorem by146:byT Tryz.prog 146=24:=by kernel_rfl
theorem ag146:aggT Tryz.prog 146=some false:=by kernel_rfl
theorem so146:structOk Tryz.prog 146=false:=by kernel_rfl
theorem iz146:(zeroT Tryz.prog 146).isSome=true:=by kernel_rfl
theorem zk146:zOk Tryz.prog 146=true:=by kernel_rfl
theorem iu146:(Tryz.prog.underlying 146).isSome=true:=by kernel_rfl
theorem ap146:appT Tryz.prog #[146,146]=some 111:=by kernel_rfl
theorem u148:Tryz.prog.underlying 148=some (.slice 149):=by kernel_rfl
theorem sz148:szT Tryz.prog 148=1:=by kernel_rfl
theorem by148:byT Tryz.prog 148=24:=by kernel_rfl
theorem ag148:aggT Tryz.prog 148=some false:=by kernel_rfl
theorem so148:structOk Tryz.prog 148=false:=by kernel_rfl
theorem iz148:(zeroT Tryz.prog 148).isSome=true:=by kernel_rfl
theorem zk148:zOk Tryz.prog 148=true:=by kernel_rfl
theorem iu148:(Tryz.prog.underlying 148).isSome=true:=by kernel_rfl
theorem ap148:appT Tryz.prog #[148,148]=some 149:=by kernel_rfl
theorem u149:Tryz.prog.underlying 149=some (.pointer 3):=by kernel_rfl
theorem sz149:szT Tryz.prog 149=1:=by kernel_rfl
theorem by149:byT Tryz.prog 149=8:=by kernel_rfl
theorem ag149:aggT Tryz.prog 149=some false:=by kernel_rfl
theorem so149:structOk Tryz.prog 149=false:=by kernel_rfl
theorem iz149:(zeroT Tryz.prog 149).isSome=true:=by kernel_rfl
theorem zk149:zOk Tryz.prog 149=true:=by kernel_rfl
theorem iu149:(Tryz.prog.underlying 149).isSome=true:=by kernel_rfl
theorem sz151:szT Tryz.prog 151=3:=by kernel_rfl
theorem by151:byT Tryz.prog 151=56:=by kernel_rfl
theorem ag151:aggT Tryz.prog 151=some true:=by kernel_rfl
theorem so151:structOk Tryz.prog 151=true:=by kernel_rfl
theorem fl151_0:fieldT Tryz.prog 151 0=some (9,0):=by kernel_rfl
theorem fl151_1:fieldT Tryz.prog 151 1=some (117,1):=by kernel_rfl
theorem fl151_2:fieldT Tryz.prog 151 2=some (9,2):=by kernel_rfl
theorem iz151:(zeroT Tryz.prog 151).isSome=true:=by kernel_rfl
theorem zk151:zOk Tryz.prog 151=true:=by kernel_rfl
theorem iu151:(Tryz.prog.underlying 151).isSome=true:=by kernel_rfl
theorem sz152:szT Tryz.prog 152=3:=by kernel_rfl
theorem by152:byT Tryz.prog 152=56:=by kernel_rfl
theorem ag152:aggT Tryz.prog 152=some true:=by kernel_rfl
theorem so152:structOk Tryz.prog 152=true:=by kernel_rfl
theorem fl152_0:fieldT Tryz.prog 152 0=some (9,0):=by kernel_rfl
theorem fl152_1:fieldT Tryz.prog 152 1=some (117,1):=by kernel_rfl
theorem fl152_2:fieldT Tryz.prog 152 2=some (9,2):=by kernel_rfl
theorem iz152:(zeroT Tryz.prog 152).isSome=true:=by kernel_rfl
theorem zk152:zOk Tryz.prog 152=true:=by kernel_rfl
theorem iu152:(Tryz.prog.underlying 152).isSome=true:=by kernel_rfl
theorem u153:Tryz.prog.underlying 153=some (.array 22 152):=by kernel_rfl
theorem sz153:szT Tryz.prog 153=66:=by kernel_rfl
theorem by153:byT Tryz.prog 153=1232:=by kernel_rfl
theorem ag153:aggT Tryz.prog 153=some true:=by kernel_rfl
theorem so153:structOk Tryz.prog 153=false:=by kernel_rfl
theorem iz153:(zeroT Tryz.prog 153).isSome=true:=by kernel_rfl
theorem zk153:zOk Tryz.prog 153=true:=by kernel_rfl
theorem iu153:(Tryz.prog.underlying 153).isSome=true:=by kernel_rfl
theorem u161:Tryz.prog.underlying 161=some (.array 24 5):=by kernel_rfl
theorem sz161:szT Tryz.prog 161=24:=by kernel_rfl
theorem by161:byT Tryz.prog 161=24:=by kernel_rfl
theorem ag161:aggT Tryz.prog 161=some true:=by kernel_rfl
theorem so161:structOk Tryz.prog 161=false:=by kernel_rfl
theorem iz161:(zeroT Tryz.prog 161).isSome=true:=by kernel_rfl
theorem zk161:zOk Tryz.prog 161=true:=by kernel_rfl
theorem iu161:(Tryz.prog.underlying 161).isSome=true:=by kernel_rfl
theorem u166:Tryz.prog.underlying 166=some (.int .u32):=by kernel_rfl
theorem sz166:szT Tryz.prog 166=1:=by kernel_rfl
theorem by166:byT Tryz.prog 166=4:=by kernel_rfl
theorem ag166:aggT Tryz.prog 166=some false:=by kernel_rfl
theorem so166:structOk Tryz.prog 166=false:=by kernel_rfl
theorem iz166:(zeroT Tryz.prog 166).isSome=true:=by kernel_rfl
theorem zk166:zOk Tryz.prog 166=true:=by kernel_rfl
theorem iu166:(Tryz.prog.underlying 166).isSome=true:=by kernel_rfl
theorem u172:Tryz.prog.underlying 172=some (.array 20 95):=by kernel_rfl
theorem sz172:szT Tryz.prog 172=20:=by kernel_rfl
theorem by172:byT Tryz.prog 172=160:=by kernel_rfl
theorem ag172:aggT Tryz.prog 172=some true:=by kernel_rfl
theorem so172:structOk Tryz.prog 172=false:=by kernel_rfl
theorem iz172:(zeroT Tryz.prog 172).isSome=true:=by kernel_rfl
theorem zk172:zOk Tryz.prog 172=true:=by kernel_rfl
theorem iu172:(Tryz.prog.underlying 172).isSome=true:=by kernel_rfl
theorem u173:Tryz.prog.underlying 173=some (.array 65 5):=by kernel_rfl
theorem sz173:szT Tryz.prog 173=65:=by kernel_rfl
theorem by173:byT Tryz.prog 173=65:=by kernel_rfl
theorem ag173:aggT Tryz.prog 173=some true:=by kernel_rfl
theorem so173:structOk Tryz.prog 173=false:=by kernel_rfl
theorem iz173:(zeroT Tryz.prog 173).isSome=true:=by kernel_rfl
theorem zk173:zOk Tryz.prog 173=true:=by kernel_rfl
theorem iu173:(Tryz.prog.underlying 173).isSome=true:=by kernel_rfl
theorem u178:Tryz.prog.underlying 178=some (.int .i64):=by kernel_rfl
theorem sz178:szT Tryz.prog 178=1:=by kernel_rfl
theorem by178:byT Tryz.prog 178=8:=by kernel_rfl
theorem ag178:aggT Tryz.prog 178=some false:=by kernel_rfl
theorem so178:structOk Tryz.prog 178=false:=by kernel_rfl
theorem iz178:(zeroT Tryz.prog 178).isSome=true:=by kernel_rfl
theorem zk178:zOk Tryz.prog 178=true:=by kernel_rfl
theorem iu178:(Tryz.prog.underlying 178).isSome=true:=by kernel_rfl
theorem u181:Tryz.prog.underlying 181=some (.pointer 190):=by kernel_rfl
theorem sz181:szT Tryz.prog 181=1:=by kernel_rfl
theorem by181:byT Tryz.prog 181=8:=by kernel_rfl
theorem ag181:aggT Tryz.prog 181=some false:=by kernel_rfl
theorem so181:structOk Tryz.prog 181=false:=by kernel_rfl
theorem iz181:(zeroT Tryz.prog 181).isSome=true:=by kernel_rfl
theorem zk181:zOk Tryz.prog 181=true:=by kernel_rfl
theorem iu181:(Tryz.prog.underlying 181).isSome=true:=by kernel_rfl
theorem sz189:szT Tryz.prog 189=3:=by kernel_rfl
theorem by189:byT Tryz.prog 189=48:=by kernel_rfl
theorem ag189:aggT Tryz.prog 189=some true:=by kernel_rfl
theorem so189:structOk Tryz.prog 189=true:=by kernel_rfl
theorem fl189_0:fieldT Tryz.prog 189 0=some (9,0):=by kernel_rfl
theorem fl189_1:fieldT Tryz.prog 189 1=some (9,1):=by kernel_rfl
theorem fl189_2:fieldT Tryz.prog 189 2=some (82,2):=by kernel_rfl
theorem iz189:(zeroT Tryz.prog 189).isSome=true:=by kernel_rfl
theorem zk189:zOk Tryz.prog 189=true:=by kernel_rfl
theorem iu189:(Tryz.prog.underlying 189).isSome=true:=by kernel_rfl
theorem sz190:szT Tryz.prog 190=3:=by kernel_rfl
theorem by190:byT Tryz.prog 190=48:=by kernel_rfl
theorem ag190:aggT Tryz.prog 190=some true:=by kernel_rfl
theorem so190:structOk Tryz.prog 190=true:=by kernel_rfl
theorem fl190_0:fieldT Tryz.prog 190 0=some (9,0):=by kernel_rfl
theorem fl190_1:fieldT Tryz.prog 190 1=some (9,1):=by kernel_rfl
theorem fl190_2:fieldT Tryz.prog 190 2=some (82,2):=by kernel_rfl
theorem iz190:(zeroT Tryz.prog 190).isSome=true:=by kernel_rfl
theorem zk190:zOk Tryz.prog 190=true:=by kernel_rfl
theorem iu190:(Tryz.prog.underlying 190).isSome=true:=by kernel_rfl
theorem u192:Tryz.prog.underlying 192=some (.array 32 5):=by kernel_rfl
theorem sz192:szT Tryz.prog 192=32:=by kernel_rfl
theorem by192:byT Tryz.prog 192=32:=by kernel_rfl
theorem ag192:aggT Tryz.prog 192=some true:=by kernel_rfl
theorem so192:structOk Tryz.prog 192=false:=by kernel_rfl
theorem iz192:(zeroT Tryz.prog 192).isSome=true:=by kernel_rfl
theorem zk192:zOk Tryz.prog 192=true:=by kernel_rfl
theorem iu192:(Tryz.prog.underlying 192).isSome=true:=by kernel_rfl
theorem u193:Tryz.prog.underlying 193=some (.array 64 5):=by kernel_rfl
theorem sz193:szT Tryz.prog 193=64:=by kernel_rfl
theorem by193:byT Tryz.prog 193=64:=by kernel_rfl
theorem ag193:aggT Tryz.prog 193=some true:=by kernel_rfl
theorem so193:structOk Tryz.prog 193=false:=by kernel_rfl
theorem iz193:(zeroT Tryz.prog 193).isSome=true:=by kernel_rfl
theorem zk193:zOk Tryz.prog 193=true:=by kernel_rfl
theorem iu193:(Tryz.prog.underlying 193).isSome=true:=by kernel_rfl
theorem sz195:szT Tryz.prog 195=2:=by kernel_rfl
theorem by195:byT Tryz.prog 195=2:=by kernel_rfl
theorem ag195:aggT Tryz.prog 195=some true:=by kernel_rfl
theorem so195:structOk Tryz.prog 195=true:=by kernel_rfl
theorem fl195_0:fieldT Tryz.prog 195 0=some (5,0):=by kernel_rfl
theorem fl195_1:fieldT Tryz.prog 195 1=some (5,1):=by kernel_rfl
theorem se195:seqK Tryz.prog 195=some [0,0]:=by kernel_rfl
theorem iz195:(zeroT Tryz.prog 195).isSome=true:=by kernel_rfl
theorem zk195:zOk Tryz.prog 195=true:=by kernel_rfl
theorem iu195:(Tryz.prog.underlying 195).isSome=true:=by kernel_rfl
theorem sz196:szT Tryz.prog 196=2:=by kernel_rfl
theorem by196:byT Tryz.prog 196=2:=by kernel_rfl
theorem ag196:aggT Tryz.prog 196=some true:=by kernel_rfl
theorem so196:structOk Tryz.prog 196=true:=by kernel_rfl
theorem fl196_0:fieldT Tryz.prog 196 0=some (5,0):=by kernel_rfl
theorem fl196_1:fieldT Tryz.prog 196 1=some (5,1):=by kernel_rfl
theorem se196:seqK Tryz.prog 196=some [0,0]:=by kernel_rfl
theorem iz196:(zeroT Tryz.prog 196).isSome=true:=by kernel_rfl
theorem zk196:zOk Tryz.prog 196=true:=by kernel_rfl
theorem iu196:(Tryz.prog.underlying 196).isSome=true:=by kernel_rfl
theorem u197:Tryz.prog.underlying 197=some (.array 16 196):=by kernel_rfl
theorem sz197:szT Tryz.prog 197=32:=by kernel_rfl
theorem by197:byT Tryz.prog 197=32:=by kernel_rfl
theorem ag197:aggT Tryz.prog 197=some true:=by kernel_rfl
theorem so197:structOk Tryz.prog 197=false:=by kernel_rfl
theorem iz197:(zeroT Tryz.prog 197).isSome=true:=by kernel_rfl
theorem zk197:zOk Tryz.prog 197=true:=by kernel_rfl
theorem iu197:(Tryz.prog.underlying 197).isSome=true:=by kernel_rfl
theorem u199:Tryz.prog.underlying 199=some (.pointer 201):=by kernel_rfl
theorem sz199:szT Tryz.prog 199=1:=by kernel_rfl
theorem by199:byT Tryz.prog 199=8:=by kernel_rfl
theorem ag199:aggT Tryz.prog 199=some false:=by kernel_rfl
theorem so199:structOk Tryz.prog 199=false:=by kernel_rfl
theorem iz199:(zeroT Tryz.prog 199).isSome=true:=by kernel_rfl
theorem zk199:zOk Tryz.prog 199=true:=by kernel_rfl
theorem iu199:(Tryz.prog.underlying 199).isSome=true:=by kernel_rfl
theorem sz200:szT Tryz.prog 200=1:=by kernel_rfl
theorem by200:byT Tryz.prog 200=16:=by kernel_rfl
theorem ag200:aggT Tryz.prog 200=some true:=by kernel_rfl
theorem so200:structOk Tryz.prog 200=true:=by kernel_rfl
theorem fl200_0:fieldT Tryz.prog 200 0=some (9,0):=by kernel_rfl
theorem se200:seqK Tryz.prog 200=some [1]:=by kernel_rfl
theorem iz200:(zeroT Tryz.prog 200).isSome=true:=by kernel_rfl
theorem zk200:zOk Tryz.prog 200=true:=by kernel_rfl
theorem iu200:(Tryz.prog.underlying 200).isSome=true:=by kernel_rfl
theorem sz201:szT Tryz.prog 201=1:=by kernel_rfl
theorem by201:byT Tryz.prog 201=16:=by kernel_rfl
theorem ag201:aggT Tryz.prog 201=some true:=by kernel_rfl
theorem so201:structOk Tryz.prog 201=true:=by kernel_rfl
theorem fl201_0:fieldT Tryz.prog 201 0=some (9,0):=by kernel_rfl
theorem se201:seqK Tryz.prog 201=some [1]:=by kernel_rfl
theorem iz201:(zeroT Tryz.prog 201).isSome=true:=by kernel_rfl
theorem zk201:zOk Tryz.prog 201=true:=by kernel_rfl
theorem iu201:(Tryz.prog.underlying 201).isSome=true:=by kernel_rfl
theorem sz202:szT Tryz.prog 202=4:=by kernel_rfl
theorem by202:byT Tryz.prog 202=40:=by kernel_rfl
theorem ag202:aggT Tryz.prog 202=some true:=by kernel_rfl
theorem so202:structOk Tryz.prog 202=true:=by kernel_rfl
theorem fl202_0:fieldT Tryz.prog 202 0=some (17,0):=by kernel_rfl
theorem fl202_1:fieldT Tryz.prog 202 1=some (17,1):=by kernel_rfl
theorem fl202_2:fieldT Tryz.prog 202 2=some (17,2):=by kernel_rfl
theorem fl202_3:fieldT Tryz.prog 202 3=some (9,3):=by kernel_rfl
theorem iz202:(zeroT Tryz.prog 202).isSome=true:=by kernel_rfl
theorem zk202:zOk Tryz.prog 202=true:=by kernel_rfl
theorem iu202:(Tryz.prog.underlying 202).isSome=true:=by kernel_rfl
theorem sz203:szT Tryz.prog 203=4:=by kernel_rfl
theorem by203:byT Tryz.prog 203=40:=by kernel_rfl
theorem ag203:aggT Tryz.prog 203=some true:=by kernel_rfl
theorem so203:structOk Tryz.prog 203=true:=by kernel_rfl
theorem fl203_0:fieldT Tryz.prog 203 0=some (17,0):=by kernel_rfl
theorem fl203_1:fieldT Tryz.prog 203 1=some (17,1):=by kernel_rfl
theorem fl203_2:fieldT Tryz.prog 203 2=some (17,2):=by kernel_rfl
theorem fl203_3:fieldT Tryz.prog 203 3=some (9,3):=by kernel_rfl
theorem iz203:(zeroT Tryz.prog 203).isSome=true:=by kernel_rfl
theorem zk203:zOk Tryz.prog 203=true:=by kernel_rfl
theorem iu203:(Tryz.prog.underlying 203).isSome=true:=by kernel_rfl
theorem u204:Tryz.prog.underlying 204=some (.array 0 16):=by kernel_rfl
theorem sz204:szT Tryz.prog 204=0:=by kernel_rfl
theorem by204:byT Tryz.prog 204=0:=by kernel_rfl
theorem ag204:aggT Tryz.prog 204=some true:=by kernel_rfl
theorem so204:structOk Tryz.prog 204=false:=by kernel_rfl
theorem iz204:(zeroT Tryz.prog 204).isSome=true:=by kernel_rfl
theorem zk204:zOk Tryz.prog 204=true:=by kernel_rfl
theorem iu204:(Tryz.prog.underlying 204).isSome=true:=by kernel_rfl
theorem sz205:szT Tryz.prog 205=0:=by kernel_rfl
theorem by205:byT Tryz.prog 205=0:=by kernel_rfl
theorem ag205:aggT Tryz.prog 205=some true:=by kernel_rfl
theorem so205:structOk Tryz.prog 205=true:=by kernel_rfl
theorem fl205_0:fieldT Tryz.prog 205 0=some (204,0):=by kernel_rfl
theorem iz205:(zeroT Tryz.prog 205).isSome=true:=by kernel_rfl
theorem zk205:zOk Tryz.prog 205=true:=by kernel_rfl
theorem iu205:(Tryz.prog.underlying 205).isSome=true:=by kernel_rfl
theorem sz206:szT Tryz.prog 206=0:=by kernel_rfl
theorem by206:byT Tryz.prog 206=0:=by kernel_rfl
theorem ag206:aggT Tryz.prog 206=some true:=by kernel_rfl
theorem so206:structOk Tryz.prog 206=true:=by kernel_rfl
theorem fl206_0:fieldT Tryz.prog 206 0=some (204,0):=by kernel_rfl
theorem iz206:(zeroT Tryz.prog 206).isSome=true:=by kernel_rfl
theorem zk206:zOk Tryz.prog 206=true:=by kernel_rfl
theorem iu206:(Tryz.prog.underlying 206).isSome=true:=by kernel_rfl
theorem u207:Tryz.prog.underlying 207=some (.int .u8):=by kernel_rfl
theorem sz207:szT Tryz.prog 207=1:=by kernel_rfl
theorem by207:byT Tryz.prog 207=1:=by kernel_rfl
theorem ag207:aggT Tryz.prog 207=some false:=by kernel_rfl
theorem so207:structOk Tryz.prog 207=false:=by kernel_rfl
theorem iz207:(zeroT Tryz.prog 207).isSome=true:=by kernel_rfl
theorem zk207:zOk Tryz.prog 207=true:=by kernel_rfl
theorem iu207:(Tryz.prog.underlying 207).isSome=true:=by kernel_rfl
theorem u208:Tryz.prog.underlying 208=some (.int .u8):=by kernel_rfl
theorem sz208:szT Tryz.prog 208=1:=by kernel_rfl
theorem by208:byT Tryz.prog 208=1:=by kernel_rfl
theorem ag208:aggT Tryz.prog 208=some false:=by kernel_rfl
theorem so208:structOk Tryz.prog 208=false:=by kernel_rfl
theorem iz208:(zeroT Tryz.prog 208).isSome=true:=by kernel_rfl
theorem zk208:zOk Tryz.prog 208=true:=by kernel_rfl
theorem iu208:(Tryz.prog.underlying 208).isSome=true:=by kernel_rfl
theorem u210:Tryz.prog.underlying 210=some (.int .i32):=by kernel_rfl
theorem sz210:szT Tryz.prog 210=1:=by kernel_rfl
theorem by210:byT Tryz.prog 210=4:=by kernel_rfl
theorem ag210:aggT Tryz.prog 210=some false:=by kernel_rfl
theorem so210:structOk Tryz.prog 210=false:=by kernel_rfl
theorem iz210:(zeroT Tryz.prog 210).isSome=true:=by kernel_rfl
theorem zk210:zOk Tryz.prog 210=true:=by kernel_rfl
theorem iu210:(Tryz.prog.underlying 210).isSome=true:=by kernel_rfl
theorem u211:Tryz.prog.underlying 211=some (.int .i32):=by kernel_rfl
theorem sz211:szT Tryz.prog 211=1:=by kernel_rfl
theorem by211:byT Tryz.prog 211=4:=by kernel_rfl
theorem ag211:aggT Tryz.prog 211=some false:=by kernel_rfl
theorem so211:structOk Tryz.prog 211=false:=by kernel_rfl
theorem iz211:(zeroT Tryz.prog 211).isSome=true:=by kernel_rfl
theorem zk211:zOk Tryz.prog 211=true:=by kernel_rfl
theorem iu211:(Tryz.prog.underlying 211).isSome=true:=by kernel_rfl
theorem sz212:szT Tryz.prog 212=11:=by kernel_rfl
theorem by212:byT Tryz.prog 212=48:=by kernel_rfl
theorem ag212:aggT Tryz.prog 212=some true:=by kernel_rfl
theorem so212:structOk Tryz.prog 212=true:=by kernel_rfl
theorem fl212_0:fieldT Tryz.prog 212 0=some (12,0):=by kernel_rfl
theorem fl212_1:fieldT Tryz.prog 212 1=some (12,1):=by kernel_rfl
theorem fl212_2:fieldT Tryz.prog 212 2=some (166,2):=by kernel_rfl
theorem fl212_3:fieldT Tryz.prog 212 3=some (207,3):=by kernel_rfl
theorem fl212_4:fieldT Tryz.prog 212 4=some (5,4):=by kernel_rfl
theorem fl212_5:fieldT Tryz.prog 212 5=some (5,5):=by kernel_rfl
theorem fl212_6:fieldT Tryz.prog 212 6=some (208,6):=by kernel_rfl
theorem fl212_7:fieldT Tryz.prog 212 7=some (209,7):=by kernel_rfl
theorem fl212_8:fieldT Tryz.prog 212 8=some (119,8):=by kernel_rfl
theorem fl212_9:fieldT Tryz.prog 212 9=some (210,9):=by kernel_rfl
theorem fl212_10:fieldT Tryz.prog 212 10=some (211,10):=by kernel_rfl
theorem iz212:(zeroT Tryz.prog 212).isSome=true:=by kernel_rfl
theorem zk212:zOk Tryz.prog 212=true:=by kernel_rfl
theorem iu212:(Tryz.prog.underlying 212).isSome=true:=by kernel_rfl
theorem sz213:szT Tryz.prog 213=11:=by kernel_rfl
theorem by213:byT Tryz.prog 213=48:=by kernel_rfl
theorem ag213:aggT Tryz.prog 213=some true:=by kernel_rfl
theorem so213:structOk Tryz.prog 213=true:=by kernel_rfl
theorem fl213_0:fieldT Tryz.prog 213 0=some (12,0):=by kernel_rfl
theorem fl213_1:fieldT Tryz.prog 213 1=some (12,1):=by kernel_rfl
theorem fl213_2:fieldT Tryz.prog 213 2=some (166,2):=by kernel_rfl
theorem fl213_3:fieldT Tryz.prog 213 3=some (207,3):=by kernel_rfl
theorem fl213_4:fieldT Tryz.prog 213 4=some (5,4):=by kernel_rfl
theorem fl213_5:fieldT Tryz.prog 213 5=some (5,5):=by kernel_rfl
theorem fl213_6:fieldT Tryz.prog 213 6=some (208,6):=by kernel_rfl
theorem fl213_7:fieldT Tryz.prog 213 7=some (209,7):=by kernel_rfl
theorem fl213_8:fieldT Tryz.prog 213 8=some (119,8):=by kernel_rfl
theorem fl213_9:fieldT Tryz.prog 213 9=some (210,9):=by kernel_rfl
theorem fl213_10:fieldT Tryz.prog 213 10=some (211,10):=by kernel_rfl
theorem iz213:(zeroT Tryz.prog 213).isSome=true:=by kernel_rfl
theorem zk213:zOk Tryz.prog 213=true:=by kernel_rfl
theorem iu213:(Tryz.prog.underlying 213).isSome=true:=by kernel_rfl
theorem if20:isIfT Tryz.prog 20=true:=by kernel_rfl
theorem if81:isIfT Tryz.prog 81=true:=by kernel_rfl
theorem if82:isIfT Tryz.prog 82=true:=by kernel_rfl
def zerL:List (Nat×AV):=[(2,.lit (.int .i64 0)),
  (3,.lit (.int .i64 0)),
  (4,.lit (.bool false)),
  (5,.lit (.int .u8 0)),
  (6,.lit (.int .u8 0)),
  (7,.agg [.lit (.int .i64 0),.lit (.int .i64 0),.lit (.bool false),.lit (.int .u8 0)]),
  (8,.agg [.lit (.int .i64 0),.lit (.int .i64 0),.lit (.bool false),.lit (.int .u8 0)]),
  (9,.lit (.string ByteArray.empty)),
  (10,.lit (.string ByteArray.empty)),
  (11,.lit (.string ByteArray.empty)),
  (12,.lit (.int .u64 0)),
  (13,.agg [.lit (.string ByteArray.empty),.lit (.int .u64 0)]),
  (14,.agg [.lit (.string ByteArray.empty),.lit (.int .u64 0)]),
  (15,.lit (.pointer none)),
  (16,.lit (.pointer none)),
  (17,.lit (.pointer none)),
  (18,.agg [.lit (.pointer none)]),
  (19,.agg [.lit (.pointer none)]),
  (21,.lit (.int .i32 0)),
  (22,.sl true 6 []),
  (23,.sl true 2 []),
  (24,.sl true 3 []),
  (25,.agg [.lit (.int .i64 0),.lit (.int .i64 0),.sl true 6 [],.sl true 2 [],.sl true 2 [],.sl true 3 []]),
  (26,.agg [.lit (.int .i64 0),.lit (.int .i64 0),.sl true 6 [],.sl true 2 [],.sl true 2 [],.sl true 3 []]),
  (27,.sl true 1 []),
  (30,.lit (.int .i64 0)),
  (46,.sl true 1 []),
  (49,.agg [.lit (.int .i64 0),.lit (.string ByteArray.empty),.lit (.int .i64 0),.lit (.int .i64 0),.lit (.int .i64 0),.lit (.int .i64 0)]),
  (50,.agg [.lit (.int .i64 0),.lit (.string ByteArray.empty),.lit (.int .i64 0),.lit (.int .i64 0),.lit (.int .i64 0),.lit (.int .i64 0)]),
  (52,.agg [.lit (.string ByteArray.empty),.sl true 1 [],.sl true 1 []]),
  (53,.agg [.lit (.string ByteArray.empty),.sl true 1 [],.sl true 1 []]),
  (57,.agg [.lit (.int .i64 0),.lit (.int .i64 0)]),
  (58,.agg [.lit (.int .i64 0),.lit (.int .i64 0)]),
  (61,.lit (.pointer none)),
  (62,.agg [.sl true 1 [],.lit (.int .i64 0)]),
  (63,.agg [.sl true 1 [],.lit (.int .i64 0)]),
  (71,.lit (.pointer none)),
  (72,.agg [.sl true 1 [],.lit (.int .i64 0)]),
  (78,.lit (.pointer none)),
  (79,.agg [.lit (.pointer none),.sl true 1 []]),
  (80,.agg [.lit (.pointer none),.sl true 1 []]),
  (92,.sl true 1 []),
  (95,.lit (.int .u64 0)),
  (110,.agg [.lit (.string ByteArray.empty),.sl true 1 [],.lit (.bool false),.sl true 1 []]),
  (111,.agg [.lit (.string ByteArray.empty),.sl true 1 [],.lit (.bool false),.sl true 1 []]),
  (114,.agg [.lit (.int .i64 0),.lit (.int .i64 0),.lit (.int .i64 0),.lit (.int .i64 0)]),
  (117,.sl true 1 []),
  (119,.lit (.pointer none)),
  (131,.lit (.int .u64 0)),
  (136,.agg [.lit (.string ByteArray.empty),.sl true 1 [],.lit (.bool false),.sl true 1 [],.lit (.string ByteArray.empty),.sl true 1 [],.lit (.bool false),.sl true 1 [],.lit (.string ByteArray.empty),.sl true 1 [],.lit (.bool false),.sl true 1 [],.lit (.string ByteArray.empty),.sl true 1 [],.lit (.bool false),.sl true 1 [],.lit (.string ByteArray.empty),.sl true 1 [],.lit (.bool false),.sl true 1 [],.lit (.string ByteArray.empty),.sl true 1 [],.lit (.bool false),.sl true 1 [],.lit (.string ByteArray.empty),.sl true 1 [],.lit (.bool false),.sl true 1 [],.lit (.string ByteArray.empty),.sl true 1 [],.lit (.bool false),.sl true 1 [],.lit (.string ByteArray.empty),.sl true 1 [],.lit (.bool false),.sl true 1 [],.lit (.string ByteArray.empty),.sl true 1 [],.lit (.bool false),.sl true 1 [],.lit (.string ByteArray.empty),.sl true 1 [],.lit (.bool false),.sl true 1 [],.lit (.string ByteArray.empty),.sl true 1 [],.lit (.bool false),.sl true 1 [],.lit (.string ByteArray.empty),.sl true 1 [],.lit (.bool false),.sl true 1 [],.lit (.string ByteArray.empty),.sl true 1 [],.lit (.bool false),.sl true 1 [],.lit (.string ByteArray.empty),.sl true 1 [],.lit (.bool false),.sl true 1 [],.lit (.string ByteArray.empty),.sl true 1 [],.lit (.bool false),.sl true 1 []]),
  (146,.sl true 4 []),
  (148,.sl true 1 []),
  (149,.lit (.pointer none)),
  (151,.agg [.lit (.string ByteArray.empty),.sl true 1 [],.lit (.string ByteArray.empty)]),
  (152,.agg [.lit (.string ByteArray.empty),.sl true 1 [],.lit (.string ByteArray.empty)]),
  (153,.agg [.lit (.string ByteArray.empty),.sl true 1 [],.lit (.string ByteArray.empty),.lit (.string ByteArray.empty),.sl true 1 [],.lit (.string ByteArray.empty),.lit (.string ByteArray.empty),.sl true 1 [],.lit (.string ByteArray.empty),.lit (.string ByteArray.empty),.sl true 1 [],.lit (.string ByteArray.empty),.lit (.string ByteArray.empty),.sl true 1 [],.lit (.string ByteArray.empty),.lit (.string ByteArray.empty),.sl true 1 [],.lit (.string ByteArray.empty),.lit (.string ByteArray.empty),.sl true 1 [],.lit (.string ByteArray.empty),.lit (.string ByteArray.empty),.sl true 1 [],.lit (.string ByteArray.empty),.lit (.string ByteArray.empty),.sl true 1 [],.lit (.string ByteArray.empty),.lit (.string ByteArray.empty),.sl true 1 [],.lit (.string ByteArray.empty),.lit (.string ByteArray.empty),.sl true 1 [],.lit (.string ByteArray.empty),.lit (.string ByteArray.empty),.sl true 1 [],.lit (.string ByteArray.empty),.lit (.string ByteArray.empty),.sl true 1 [],.lit (.string ByteArray.empty),.lit (.string ByteArray.empty),.sl true 1 [],.lit (.string ByteArray.empty),.lit (.string ByteArray.empty),.sl true 1 [],.lit (.string ByteArray.empty),.lit (.string ByteArray.empty),.sl true 1 [],.lit (.string ByteArray.empty),.lit (.string ByteArray.empty),.sl true 1 [],.lit (.string ByteArray.empty),.lit (.string ByteArray.empty),.sl true 1 [],.lit (.string ByteArray.empty),.lit (.string ByteArray.empty),.sl true 1 [],.lit (.string ByteArray.empty),.lit (.string ByteArray.empty),.sl true 1 [],.lit (.string ByteArray.empty),.lit (.string ByteArray.empty),.sl true 1 [],.lit (.string ByteArray.empty),.lit (.string ByteArray.empty),.sl true 1 [],.lit (.string ByteArray.empty)]),
  (161,.agg [.lit (.int .u8 0),.lit (.int .u8 0),.lit (.int .u8 0),.lit (.int .u8 0),.lit (.int .u8 0),.lit (.int .u8 0),.lit (.int .u8 0),.lit (.int .u8 0),.lit (.int .u8 0),.lit (.int .u8 0),.lit (.int .u8 0),.lit (.int .u8 0),.lit (.int .u8 0),.lit (.int .u8 0),.lit (.int .u8 0),.lit (.int .u8 0),.lit (.int .u8 0),.lit (.int .u8 0),.lit (.int .u8 0),.lit (.int .u8 0),.lit (.int .u8 0),.lit (.int .u8 0),.lit (.int .u8 0),.lit (.int .u8 0)]),
  (166,.lit (.int .u32 0)),
  (172,.agg [.lit (.int .u64 0),.lit (.int .u64 0),.lit (.int .u64 0),.lit (.int .u64 0),.lit (.int .u64 0),.lit (.int .u64 0),.lit (.int .u64 0),.lit (.int .u64 0),.lit (.int .u64 0),.lit (.int .u64 0),.lit (.int .u64 0),.lit (.int .u64 0),.lit (.int .u64 0),.lit (.int .u64 0),.lit (.int .u64 0),.lit (.int .u64 0),.lit (.int .u64 0),.lit (.int .u64 0),.lit (.int .u64 0),.lit (.int .u64 0)]),
  (173,.agg [.lit (.int .u8 0),.lit (.int .u8 0),.lit (.int .u8 0),.lit (.int .u8 0),.lit (.int .u8 0),.lit (.int .u8 0),.lit (.int .u8 0),.lit (.int .u8 0),.lit (.int .u8 0),.lit (.int .u8 0),.lit (.int .u8 0),.lit (.int .u8 0),.lit (.int .u8 0),.lit (.int .u8 0),.lit (.int .u8 0),.lit (.int .u8 0),.lit (.int .u8 0),.lit (.int .u8 0),.lit (.int .u8 0),.lit (.int .u8 0),.lit (.int .u8 0),.lit (.int .u8 0),.lit (.int .u8 0),.lit (.int .u8 0),.lit (.int .u8 0),.lit (.int .u8 0),.lit (.int .u8 0),.lit (.int .u8 0),.lit (.int .u8 0),.lit (.int .u8 0),.lit (.int .u8 0),.lit (.int .u8 0),.lit (.int .u8 0),.lit (.int .u8 0),.lit (.int .u8 0),.lit (.int .u8 0),.lit (.int .u8 0),.lit (.int .u8 0),.lit (.int .u8 0),.lit (.int .u8 0),.lit (.int .u8 0),.lit (.int .u8 0),.lit (.int .u8 0),.lit (.int .u8 0),.lit (.int .u8 0),.lit (.int .u8 0),.lit (.int .u8 0),.lit (.int .u8 0),.lit (.int .u8 0),.lit (.int .u8 0),.lit (.int .u8 0),.lit (.int .u8 0),.lit (.int .u8 0),.lit (.int .u8 0),.lit (.int .u8 0),.lit (.int .u8 0),.lit (.int .u8 0),.lit (.int .u8 0),.lit (.int .u8 0),.lit (.int .u8 0),.lit (.int .u8 0),.lit (.int .u8 0),.lit (.int .u8 0),.lit (.int .u8 0),.lit (.int .u8 0)]),
  (178,.lit (.int .i64 0)),
  (181,.lit (.pointer none)),
  (189,.agg [.lit (.string ByteArray.empty),.lit (.string ByteArray.empty),.lit .nilIface]),
  (190,.agg [.lit (.string ByteArray.empty),.lit (.string ByteArray.empty),.lit .nilIface]),
  (192,.agg [.lit (.int .u8 0),.lit (.int .u8 0),.lit (.int .u8 0),.lit (.int .u8 0),.lit (.int .u8 0),.lit (.int .u8 0),.lit (.int .u8 0),.lit (.int .u8 0),.lit (.int .u8 0),.lit (.int .u8 0),.lit (.int .u8 0),.lit (.int .u8 0),.lit (.int .u8 0),.lit (.int .u8 0),.lit (.int .u8 0),.lit (.int .u8 0),.lit (.int .u8 0),.lit (.int .u8 0),.lit (.int .u8 0),.lit (.int .u8 0),.lit (.int .u8 0),.lit (.int .u8 0),.lit (.int .u8 0),.lit (.int .u8 0),.lit (.int .u8 0),.lit (.int .u8 0),.lit (.int .u8 0),.lit (.int .u8 0),.lit (.int .u8 0),.lit (.int .u8 0),.lit (.int .u8 0),.lit (.int .u8 0)]),
  (193,.agg [.lit (.int .u8 0),.lit (.int .u8 0),.lit (.int .u8 0),.lit (.int .u8 0),.lit (.int .u8 0),.lit (.int .u8 0),.lit (.int .u8 0),.lit (.int .u8 0),.lit (.int .u8 0),.lit (.int .u8 0),.lit (.int .u8 0),.lit (.int .u8 0),.lit (.int .u8 0),.lit (.int .u8 0),.lit (.int .u8 0),.lit (.int .u8 0),.lit (.int .u8 0),.lit (.int .u8 0),.lit (.int .u8 0),.lit (.int .u8 0),.lit (.int .u8 0),.lit (.int .u8 0),.lit (.int .u8 0),.lit (.int .u8 0),.lit (.int .u8 0),.lit (.int .u8 0),.lit (.int .u8 0),.lit (.int .u8 0),.lit (.int .u8 0),.lit (.int .u8 0),.lit (.int .u8 0),.lit (.int .u8 0),.lit (.int .u8 0),.lit (.int .u8 0),.lit (.int .u8 0),.lit (.int .u8 0),.lit (.int .u8 0),.lit (.int .u8 0),.lit (.int .u8 0),.lit (.int .u8 0),.lit (.int .u8 0),.lit (.int .u8 0),.lit (.int .u8 0),.lit (.int .u8 0),.lit (.int .u8 0),.lit (.int .u8 0),.lit (.int .u8 0),.lit (.int .u8 0),.lit (.int .u8 0),.lit (.int .u8 0),.lit (.int .u8 0),.lit (.int .u8 0),.lit (.int .u8 0),.lit (.int .u8 0),.lit (.int .u8 0),.lit (.int .u8 0),.lit (.int .u8 0),.lit (.int .u8 0),.lit (.int .u8 0),.lit (.int .u8 0),.lit (.int .u8 0),.lit (.int .u8 0),.lit (.int .u8 0),.lit (.int .u8 0)]),
  (195,.agg [.lit (.int .u8 0),.lit (.int .u8 0)]),
  (196,.agg [.lit (.int .u8 0),.lit (.int .u8 0)]),
  (197,.agg [.lit (.int .u8 0),.lit (.int .u8 0),.lit (.int .u8 0),.lit (.int .u8 0),.lit (.int .u8 0),.lit (.int .u8 0),.lit (.int .u8 0),.lit (.int .u8 0),.lit (.int .u8 0),.lit (.int .u8 0),.lit (.int .u8 0),.lit (.int .u8 0),.lit (.int .u8 0),.lit (.int .u8 0),.lit (.int .u8 0),.lit (.int .u8 0),.lit (.int .u8 0),.lit (.int .u8 0),.lit (.int .u8 0),.lit (.int .u8 0),.lit (.int .u8 0),.lit (.int .u8 0),.lit (.int .u8 0),.lit (.int .u8 0),.lit (.int .u8 0),.lit (.int .u8 0),.lit (.int .u8 0),.lit (.int .u8 0),.lit (.int .u8 0),.lit (.int .u8 0),.lit (.int .u8 0),.lit (.int .u8 0)]),
  (199,.lit (.pointer none)),
  (200,.agg [.lit (.string ByteArray.empty)]),
  (201,.agg [.lit (.string ByteArray.empty)]),
  (202,.agg [.lit (.pointer none),.lit (.pointer none),.lit (.pointer none),.lit (.string ByteArray.empty)]),
  (203,.agg [.lit (.pointer none),.lit (.pointer none),.lit (.pointer none),.lit (.string ByteArray.empty)]),
  (207,.lit (.int .u8 0)),
  (208,.lit (.int .u8 0)),
  (210,.lit (.int .i32 0)),
  (211,.lit (.int .i32 0)),
  (212,.agg [.lit (.int .u64 0),.lit (.int .u64 0),.lit (.int .u32 0),.lit (.int .u8 0),.lit (.int .u8 0),.lit (.int .u8 0),.lit (.int .u8 0),.lit .nilFunc,.lit (.pointer none),.lit (.int .i32 0),.lit (.int .i32 0)]),
  (213,.agg [.lit (.int .u64 0),.lit (.int .u64 0),.lit (.int .u32 0),.lit (.int .u8 0),.lit (.int .u8 0),.lit (.int .u8 0),.lit (.int .u8 0),.lit .nilFunc,.lit (.pointer none),.lit (.int .i32 0),.lit (.int .i32 0)])]
def zer (t:TypeId):AV:=lookZ zerL t
theorem zr2:ZerOk Tryz.prog (2,.lit (.int .i64 0)):=fun v h=>by
  rw [show zeroT Tryz.prog 2=some (.int .i64 0) from by kernel_rfl] at h;cases h;exact .lit _
theorem zv2:zer 2= .lit (.int .i64 0):=rfl
theorem zr3:ZerOk Tryz.prog (3,.lit (.int .i64 0)):=fun v h=>by
  rw [show zeroT Tryz.prog 3=some (.int .i64 0) from by kernel_rfl] at h;cases h;exact .lit _
theorem zv3:zer 3= .lit (.int .i64 0):=rfl
theorem zr4:ZerOk Tryz.prog (4,.lit (.bool false)):=fun v h=>by
  rw [show zeroT Tryz.prog 4=some (.bool false) from by kernel_rfl] at h;cases h;exact .lit _
theorem zv4:zer 4= .lit (.bool false):=rfl
theorem zr5:ZerOk Tryz.prog (5,.lit (.int .u8 0)):=fun v h=>by
  rw [show zeroT Tryz.prog 5=some (.int .u8 0) from by kernel_rfl] at h;cases h;exact .lit _
theorem zv5:zer 5= .lit (.int .u8 0):=rfl
theorem zr6:ZerOk Tryz.prog (6,.lit (.int .u8 0)):=fun v h=>by
  rw [show zeroT Tryz.prog 6=some (.int .u8 0) from by kernel_rfl] at h;cases h;exact .lit _
theorem zv6:zer 6= .lit (.int .u8 0):=rfl
theorem zr7:ZerOk Tryz.prog (7,.agg [.lit (.int .i64 0),.lit (.int .i64 0),.lit (.bool false),.lit (.int .u8 0)]):=fun v h=>by
  rw [show zeroT Tryz.prog 7=some (.agg #[(.int .i64 0),(.int .i64 0),(.bool false),(.int .u8 0)]) from by kernel_rfl] at h;cases h
  exact zr_agg _ _ (zl_cons (.lit _) rfl (zl_cons (.lit _) rfl (zl_cons (.lit _) rfl (zl_cons (.lit _) rfl (zl_nil)))))
theorem zv7:zer 7= .agg [.lit (.int .i64 0),.lit (.int .i64 0),.lit (.bool false),.lit (.int .u8 0)]:=rfl
theorem zr8:ZerOk Tryz.prog (8,.agg [.lit (.int .i64 0),.lit (.int .i64 0),.lit (.bool false),.lit (.int .u8 0)]):=fun v h=>by
  rw [show zeroT Tryz.prog 8=some (.agg #[(.int .i64 0),(.int .i64 0),(.bool false),(.int .u8 0)]) from by kernel_rfl] at h;cases h
  exact zr_agg _ _ (zl_cons (.lit _) rfl (zl_cons (.lit _) rfl (zl_cons (.lit _) rfl (zl_cons (.lit _) rfl (zl_nil)))))
theorem zv8:zer 8= .agg [.lit (.int .i64 0),.lit (.int .i64 0),.lit (.bool false),.lit (.int .u8 0)]:=rfl
theorem zr9:ZerOk Tryz.prog (9,.lit (.string ByteArray.empty)):=fun v h=>by
  rw [show zeroT Tryz.prog 9=some (.string ByteArray.empty) from by kernel_rfl] at h;cases h;exact .lit _
theorem zv9:zer 9= .lit (.string ByteArray.empty):=rfl
theorem zr10:ZerOk Tryz.prog (10,.lit (.string ByteArray.empty)):=fun v h=>by
  rw [show zeroT Tryz.prog 10=some (.string ByteArray.empty) from by kernel_rfl] at h;cases h;exact .lit _
theorem zv10:zer 10= .lit (.string ByteArray.empty):=rfl
theorem zr11:ZerOk Tryz.prog (11,.lit (.string ByteArray.empty)):=fun v h=>by
  rw [show zeroT Tryz.prog 11=some (.string ByteArray.empty) from by kernel_rfl] at h;cases h;exact .lit _
theorem zv11:zer 11= .lit (.string ByteArray.empty):=rfl
theorem zr12:ZerOk Tryz.prog (12,.lit (.int .u64 0)):=fun v h=>by
  rw [show zeroT Tryz.prog 12=some (.int .u64 0) from by kernel_rfl] at h;cases h;exact .lit _
theorem zv12:zer 12= .lit (.int .u64 0):=rfl
theorem zr13:ZerOk Tryz.prog (13,.agg [.lit (.string ByteArray.empty),.lit (.int .u64 0)]):=fun v h=>by
  rw [show zeroT Tryz.prog 13=some (.agg #[(.string ByteArray.empty),(.int .u64 0)]) from by kernel_rfl] at h;cases h
  exact zr_agg _ _ (zl_cons (.lit _) rfl (zl_cons (.lit _) rfl (zl_nil)))
theorem zv13:zer 13= .agg [.lit (.string ByteArray.empty),.lit (.int .u64 0)]:=rfl
theorem zr14:ZerOk Tryz.prog (14,.agg [.lit (.string ByteArray.empty),.lit (.int .u64 0)]):=fun v h=>by
  rw [show zeroT Tryz.prog 14=some (.agg #[(.string ByteArray.empty),(.int .u64 0)]) from by kernel_rfl] at h;cases h
  exact zr_agg _ _ (zl_cons (.lit _) rfl (zl_cons (.lit _) rfl (zl_nil)))
theorem zv14:zer 14= .agg [.lit (.string ByteArray.empty),.lit (.int .u64 0)]:=rfl
theorem zr15:ZerOk Tryz.prog (15,.lit (.pointer none)):=fun v h=>by
  rw [show zeroT Tryz.prog 15=some (.pointer none) from by kernel_rfl] at h;cases h;exact .lit _
theorem zv15:zer 15= .lit (.pointer none):=rfl
theorem zr16:ZerOk Tryz.prog (16,.lit (.pointer none)):=fun v h=>by
  rw [show zeroT Tryz.prog 16=some (.pointer none) from by kernel_rfl] at h;cases h;exact .lit _
theorem zv16:zer 16= .lit (.pointer none):=rfl
theorem zr17:ZerOk Tryz.prog (17,.lit (.pointer none)):=fun v h=>by
  rw [show zeroT Tryz.prog 17=some (.pointer none) from by kernel_rfl] at h;cases h;exact .lit _
theorem zv17:zer 17= .lit (.pointer none):=rfl
theorem zr18:ZerOk Tryz.prog (18,.agg [.lit (.pointer none)]):=fun v h=>by
  rw [show zeroT Tryz.prog 18=some (.agg #[(.pointer none)]) from by kernel_rfl] at h;cases h
  exact zr_agg _ _ (zl_cons (.lit _) rfl (zl_nil))
theorem zv18:zer 18= .agg [.lit (.pointer none)]:=rfl
theorem zr19:ZerOk Tryz.prog (19,.agg [.lit (.pointer none)]):=fun v h=>by
  rw [show zeroT Tryz.prog 19=some (.agg #[(.pointer none)]) from by kernel_rfl] at h;cases h
  exact zr_agg _ _ (zl_cons (.lit _) rfl (zl_nil))
theorem zv19:zer 19= .agg [.lit (.pointer none)]:=rfl
theorem zr21:ZerOk Tryz.prog (21,.lit (.int .i32 0)):=fun v h=>by
  rw [show zeroT Tryz.prog 21=some (.int .i32 0) from by kernel_rfl] at h;cases h;exact .lit _
theorem zv21:zer 21= .lit (.int .i32 0):=rfl
theorem zr22:ZerOk Tryz.prog (22,.sl true 6 []):=fun v h=>by
  rw [show zeroT Tryz.prog 22=some (.slice none 0 0) from by kernel_rfl] at h;cases h;exact .nil _ _ _
theorem zv22:zer 22= .sl true 6 []:=rfl
theorem zr23:ZerOk Tryz.prog (23,.sl true 2 []):=fun v h=>by
  rw [show zeroT Tryz.prog 23=some (.slice none 0 0) from by kernel_rfl] at h;cases h;exact .nil _ _ _
theorem zv23:zer 23= .sl true 2 []:=rfl
theorem zr24:ZerOk Tryz.prog (24,.sl true 3 []):=fun v h=>by
  rw [show zeroT Tryz.prog 24=some (.slice none 0 0) from by kernel_rfl] at h;cases h;exact .nil _ _ _
theorem zv24:zer 24= .sl true 3 []:=rfl
theorem zr25:ZerOk Tryz.prog (25,.agg [.lit (.int .i64 0),.lit (.int .i64 0),.sl true 6 [],.sl true 2 [],.sl true 2 [],.sl true 3 []]):=fun v h=>by
  rw [show zeroT Tryz.prog 25=some (.agg #[(.int .i64 0),(.int .i64 0),(.slice none 0 0),(.slice none 0 0),(.slice none 0 0),(.slice none 0 0)]) from by kernel_rfl] at h;cases h
  exact zr_agg _ _ (zl_cons (.lit _) rfl (zl_cons (.lit _) rfl (zl_cons (.nil _ _ _) rfl (zl_cons (.nil _ _ _) rfl (zl_cons (.nil _ _ _) rfl (zl_cons (.nil _ _ _) rfl (zl_nil)))))))
theorem zv25:zer 25= .agg [.lit (.int .i64 0),.lit (.int .i64 0),.sl true 6 [],.sl true 2 [],.sl true 2 [],.sl true 3 []]:=rfl
theorem zr26:ZerOk Tryz.prog (26,.agg [.lit (.int .i64 0),.lit (.int .i64 0),.sl true 6 [],.sl true 2 [],.sl true 2 [],.sl true 3 []]):=fun v h=>by
  rw [show zeroT Tryz.prog 26=some (.agg #[(.int .i64 0),(.int .i64 0),(.slice none 0 0),(.slice none 0 0),(.slice none 0 0),(.slice none 0 0)]) from by kernel_rfl] at h;cases h
  exact zr_agg _ _ (zl_cons (.lit _) rfl (zl_cons (.lit _) rfl (zl_cons (.nil _ _ _) rfl (zl_cons (.nil _ _ _) rfl (zl_cons (.nil _ _ _) rfl (zl_cons (.nil _ _ _) rfl (zl_nil)))))))
theorem zv26:zer 26= .agg [.lit (.int .i64 0),.lit (.int .i64 0),.sl true 6 [],.sl true 2 [],.sl true 2 [],.sl true 3 []]:=rfl
theorem zr27:ZerOk Tryz.prog (27,.sl true 1 []):=fun v h=>by
  rw [show zeroT Tryz.prog 27=some (.slice none 0 0) from by kernel_rfl] at h;cases h;exact .nil _ _ _
theorem zv27:zer 27= .sl true 1 []:=rfl
theorem zr30:ZerOk Tryz.prog (30,.lit (.int .i64 0)):=fun v h=>by
  rw [show zeroT Tryz.prog 30=some (.int .i64 0) from by kernel_rfl] at h;cases h;exact .lit _
theorem zv30:zer 30= .lit (.int .i64 0):=rfl
theorem zr46:ZerOk Tryz.prog (46,.sl true 1 []):=fun v h=>by
  rw [show zeroT Tryz.prog 46=some (.slice none 0 0) from by kernel_rfl] at h;cases h;exact .nil _ _ _
theorem zv46:zer 46= .sl true 1 []:=rfl
theorem zr49:ZerOk Tryz.prog (49,.agg [.lit (.int .i64 0),.lit (.string ByteArray.empty),.lit (.int .i64 0),.lit (.int .i64 0),.lit (.int .i64 0),.lit (.int .i64 0)]):=fun v h=>by
  rw [show zeroT Tryz.prog 49=some (.agg #[(.int .i64 0),(.string ByteArray.empty),(.int .i64 0),(.int .i64 0),(.int .i64 0),(.int .i64 0)]) from by kernel_rfl] at h;cases h
  exact zr_agg _ _ (zl_cons (.lit _) rfl (zl_cons (.lit _) rfl (zl_cons (.lit _) rfl (zl_cons (.lit _) rfl (zl_cons (.lit _) rfl (zl_cons (.lit _) rfl (zl_nil)))))))
theorem zv49:zer 49= .agg [.lit (.int .i64 0),.lit (.string ByteArray.empty),.lit (.int .i64 0),.lit (.int .i64 0),.lit (.int .i64 0),.lit (.int .i64 0)]:=rfl
theorem zr50:ZerOk Tryz.prog (50,.agg [.lit (.int .i64 0),.lit (.string ByteArray.empty),.lit (.int .i64 0),.lit (.int .i64 0),.lit (.int .i64 0),.lit (.int .i64 0)]):=fun v h=>by
  rw [show zeroT Tryz.prog 50=some (.agg #[(.int .i64 0),(.string ByteArray.empty),(.int .i64 0),(.int .i64 0),(.int .i64 0),(.int .i64 0)]) from by kernel_rfl] at h;cases h
  exact zr_agg _ _ (zl_cons (.lit _) rfl (zl_cons (.lit _) rfl (zl_cons (.lit _) rfl (zl_cons (.lit _) rfl (zl_cons (.lit _) rfl (zl_cons (.lit _) rfl (zl_nil)))))))
theorem zv50:zer 50= .agg [.lit (.int .i64 0),.lit (.string ByteArray.empty),.lit (.int .i64 0),.lit (.int .i64 0),.lit (.int .i64 0),.lit (.int .i64 0)]:=rfl
theorem zr52:ZerOk Tryz.prog (52,.agg [.lit (.string ByteArray.empty),.sl true 1 [],.sl true 1 []]):=fun v h=>by
  rw [show zeroT Tryz.prog 52=some (.agg #[(.string ByteArray.empty),(.slice none 0 0),(.slice none 0 0)]) from by kernel_rfl] at h;cases h
  exact zr_agg _ _ (zl_cons (.lit _) rfl (zl_cons (.nil _ _ _) rfl (zl_cons (.nil _ _ _) rfl (zl_nil))))
theorem zv52:zer 52= .agg [.lit (.string ByteArray.empty),.sl true 1 [],.sl true 1 []]:=rfl
theorem zr53:ZerOk Tryz.prog (53,.agg [.lit (.string ByteArray.empty),.sl true 1 [],.sl true 1 []]):=fun v h=>by
  rw [show zeroT Tryz.prog 53=some (.agg #[(.string ByteArray.empty),(.slice none 0 0),(.slice none 0 0)]) from by kernel_rfl] at h;cases h
  exact zr_agg _ _ (zl_cons (.lit _) rfl (zl_cons (.nil _ _ _) rfl (zl_cons (.nil _ _ _) rfl (zl_nil))))
theorem zv53:zer 53= .agg [.lit (.string ByteArray.empty),.sl true 1 [],.sl true 1 []]:=rfl
theorem zr57:ZerOk Tryz.prog (57,.agg [.lit (.int .i64 0),.lit (.int .i64 0)]):=fun v h=>by
  rw [show zeroT Tryz.prog 57=some (.agg #[(.int .i64 0),(.int .i64 0)]) from by kernel_rfl] at h;cases h
  exact zr_agg _ _ (zl_cons (.lit _) rfl (zl_cons (.lit _) rfl (zl_nil)))
theorem zv57:zer 57= .agg [.lit (.int .i64 0),.lit (.int .i64 0)]:=rfl
theorem zr58:ZerOk Tryz.prog (58,.agg [.lit (.int .i64 0),.lit (.int .i64 0)]):=fun v h=>by
  rw [show zeroT Tryz.prog 58=some (.agg #[(.int .i64 0),(.int .i64 0)]) from by kernel_rfl] at h;cases h
  exact zr_agg _ _ (zl_cons (.lit _) rfl (zl_cons (.lit _) rfl (zl_nil)))
theorem zv58:zer 58= .agg [.lit (.int .i64 0),.lit (.int .i64 0)]:=rfl
theorem zr61:ZerOk Tryz.prog (61,.lit (.pointer none)):=fun v h=>by
  rw [show zeroT Tryz.prog 61=some (.pointer none) from by kernel_rfl] at h;cases h;exact .lit _
theorem zv61:zer 61= .lit (.pointer none):=rfl
theorem zr62:ZerOk Tryz.prog (62,.agg [.sl true 1 [],.lit (.int .i64 0)]):=fun v h=>by
  rw [show zeroT Tryz.prog 62=some (.agg #[(.slice none 0 0),(.int .i64 0)]) from by kernel_rfl] at h;cases h
  exact zr_agg _ _ (zl_cons (.nil _ _ _) rfl (zl_cons (.lit _) rfl (zl_nil)))
theorem zv62:zer 62= .agg [.sl true 1 [],.lit (.int .i64 0)]:=rfl
theorem zr63:ZerOk Tryz.prog (63,.agg [.sl true 1 [],.lit (.int .i64 0)]):=fun v h=>by
  rw [show zeroT Tryz.prog 63=some (.agg #[(.slice none 0 0),(.int .i64 0)]) from by kernel_rfl] at h;cases h
  exact zr_agg _ _ (zl_cons (.nil _ _ _) rfl (zl_cons (.lit _) rfl (zl_nil)))
theorem zv63:zer 63= .agg [.sl true 1 [],.lit (.int .i64 0)]:=rfl
theorem zr71:ZerOk Tryz.prog (71,.lit (.pointer none)):=fun v h=>by
  rw [show zeroT Tryz.prog 71=some (.pointer none) from by kernel_rfl] at h;cases h;exact .lit _
theorem zv71:zer 71= .lit (.pointer none):=rfl
theorem zr72:ZerOk Tryz.prog (72,.agg [.sl true 1 [],.lit (.int .i64 0)]):=fun v h=>by
  rw [show zeroT Tryz.prog 72=some (.agg #[(.slice none 0 0),(.int .i64 0)]) from by kernel_rfl] at h;cases h
  exact zr_agg _ _ (zl_cons (.nil _ _ _) rfl (zl_cons (.lit _) rfl (zl_nil)))
theorem zv72:zer 72= .agg [.sl true 1 [],.lit (.int .i64 0)]:=rfl
theorem zr78:ZerOk Tryz.prog (78,.lit (.pointer none)):=fun v h=>by
  rw [show zeroT Tryz.prog 78=some (.pointer none) from by kernel_rfl] at h;cases h;exact .lit _
theorem zv78:zer 78= .lit (.pointer none):=rfl
theorem zr79:ZerOk Tryz.prog (79,.agg [.lit (.pointer none),.sl true 1 []]):=fun v h=>by
  rw [show zeroT Tryz.prog 79=some (.agg #[(.pointer none),(.slice none 0 0)]) from by kernel_rfl] at h;cases h
  exact zr_agg _ _ (zl_cons (.lit _) rfl (zl_cons (.nil _ _ _) rfl (zl_nil)))
theorem zv79:zer 79= .agg [.lit (.pointer none),.sl true 1 []]:=rfl
theorem zr80:ZerOk Tryz.prog (80,.agg [.lit (.pointer none),.sl true 1 []]):=fun v h=>by
  rw [show zeroT Tryz.prog 80=some (.agg #[(.pointer none),(.slice none 0 0)]) from by kernel_rfl] at h;cases h
  exact zr_agg _ _ (zl_cons (.lit _) rfl (zl_cons (.nil _ _ _) rfl (zl_nil)))
theorem zv80:zer 80= .agg [.lit (.pointer none),.sl true 1 []]:=rfl
theorem zr92:ZerOk Tryz.prog (92,.sl true 1 []):=fun v h=>by
  rw [show zeroT Tryz.prog 92=some (.slice none 0 0) from by kernel_rfl] at h;cases h;exact .nil _ _ _
theorem zv92:zer 92= .sl true 1 []:=rfl
theorem zr95:ZerOk Tryz.prog (95,.lit (.int .u64 0)):=fun v h=>by
  rw [show zeroT Tryz.prog 95=some (.int .u64 0) from by kernel_rfl] at h;cases h;exact .lit _
theorem zv95:zer 95= .lit (.int .u64 0):=rfl
theorem zr110:ZerOk Tryz.prog (110,.agg [.lit (.string ByteArray.empty),.sl true 1 [],.lit (.bool false),.sl true 1 []]):=fun v h=>by
  rw [show zeroT Tryz.prog 110=some (.agg #[(.string ByteArray.empty),(.slice none 0 0),(.bool false),(.slice none 0 0)]) from by kernel_rfl] at h;cases h
  exact zr_agg _ _ (zl_cons (.lit _) rfl (zl_cons (.nil _ _ _) rfl (zl_cons (.lit _) rfl (zl_cons (.nil _ _ _) rfl (zl_nil)))))
theorem zv110:zer 110= .agg [.lit (.string ByteArray.empty),.sl true 1 [],.lit (.bool false),.sl true 1 []]:=rfl
theorem zr111:ZerOk Tryz.prog (111,.agg [.lit (.string ByteArray.empty),.sl true 1 [],.lit (.bool false),.sl true 1 []]):=fun v h=>by
  rw [show zeroT Tryz.prog 111=some (.agg #[(.string ByteArray.empty),(.slice none 0 0),(.bool false),(.slice none 0 0)]) from by kernel_rfl] at h;cases h
  exact zr_agg _ _ (zl_cons (.lit _) rfl (zl_cons (.nil _ _ _) rfl (zl_cons (.lit _) rfl (zl_cons (.nil _ _ _) rfl (zl_nil)))))
theorem zv111:zer 111= .agg [.lit (.string ByteArray.empty),.sl true 1 [],.lit (.bool false),.sl true 1 []]:=rfl
theorem zr114:ZerOk Tryz.prog (114,.agg [.lit (.int .i64 0),.lit (.int .i64 0),.lit (.int .i64 0),.lit (.int .i64 0)]):=fun v h=>by
  rw [show zeroT Tryz.prog 114=some (.agg #[(.int .i64 0),(.int .i64 0),(.int .i64 0),(.int .i64 0)]) from by kernel_rfl] at h;cases h
  exact zr_agg _ _ (zl_cons (.lit _) rfl (zl_cons (.lit _) rfl (zl_cons (.lit _) rfl (zl_cons (.lit _) rfl (zl_nil)))))
theorem zv114:zer 114= .agg [.lit (.int .i64 0),.lit (.int .i64 0),.lit (.int .i64 0),.lit (.int .i64 0)]:=rfl
theorem zr117:ZerOk Tryz.prog (117,.sl true 1 []):=fun v h=>by
  rw [show zeroT Tryz.prog 117=some (.slice none 0 0) from by kernel_rfl] at h;cases h;exact .nil _ _ _
theorem zv117:zer 117= .sl true 1 []:=rfl
theorem zr119:ZerOk Tryz.prog (119,.lit (.pointer none)):=fun v h=>by
  rw [show zeroT Tryz.prog 119=some (.pointer none) from by kernel_rfl] at h;cases h;exact .lit _
theorem zv119:zer 119= .lit (.pointer none):=rfl
theorem zr131:ZerOk Tryz.prog (131,.lit (.int .u64 0)):=fun v h=>by
  rw [show zeroT Tryz.prog 131=some (.int .u64 0) from by kernel_rfl] at h;cases h;exact .lit _
theorem zv131:zer 131= .lit (.int .u64 0):=rfl
theorem zr136:ZerOk Tryz.prog (136,.agg [.lit (.string ByteArray.empty),.sl true 1 [],.lit (.bool false),.sl true 1 [],.lit (.string ByteArray.empty),.sl true 1 [],.lit (.bool false),.sl true 1 [],.lit (.string ByteArray.empty),.sl true 1 [],.lit (.bool false),.sl true 1 [],.lit (.string ByteArray.empty),.sl true 1 [],.lit (.bool false),.sl true 1 [],.lit (.string ByteArray.empty),.sl true 1 [],.lit (.bool false),.sl true 1 [],.lit (.string ByteArray.empty),.sl true 1 [],.lit (.bool false),.sl true 1 [],.lit (.string ByteArray.empty),.sl true 1 [],.lit (.bool false),.sl true 1 [],.lit (.string ByteArray.empty),.sl true 1 [],.lit (.bool false),.sl true 1 [],.lit (.string ByteArray.empty),.sl true 1 [],.lit (.bool false),.sl true 1 [],.lit (.string ByteArray.empty),.sl true 1 [],.lit (.bool false),.sl true 1 [],.lit (.string ByteArray.empty),.sl true 1 [],.lit (.bool false),.sl true 1 [],.lit (.string ByteArray.empty),.sl true 1 [],.lit (.bool false),.sl true 1 [],.lit (.string ByteArray.empty),.sl true 1 [],.lit (.bool false),.sl true 1 [],.lit (.string ByteArray.empty),.sl true 1 [],.lit (.bool false),.sl true 1 [],.lit (.string ByteArray.empty),.sl true 1 [],.lit (.bool false),.sl true 1 [],.lit (.string ByteArray.empty),.sl true 1 [],.lit (.bool false),.sl true 1 []]):=fun v h=>by
  rw [show zeroT Tryz.prog 136=some (.agg #[(.string ByteArray.empty),(.slice none 0 0),(.bool false),(.slice none 0 0),(.string ByteArray.empty),(.slice none 0 0),(.bool false),(.slice none 0 0),(.string ByteArray.empty),(.slice none 0 0),(.bool false),(.slice none 0 0),(.string ByteArray.empty),(.slice none 0 0),(.bool false),(.slice none 0 0),(.string ByteArray.empty),(.slice none 0 0),(.bool false),(.slice none 0 0),(.string ByteArray.empty),(.slice none 0 0),(.bool false),(.slice none 0 0),(.string ByteArray.empty),(.slice none 0 0),(.bool false),(.slice none 0 0),(.string ByteArray.empty),(.slice none 0 0),(.bool false),(.slice none 0 0),(.string ByteArray.empty),(.slice none 0 0),(.bool false),(.slice none 0 0),(.string ByteArray.empty),(.slice none 0 0),(.bool false),(.slice none 0 0),(.string ByteArray.empty),(.slice none 0 0),(.bool false),(.slice none 0 0),(.string ByteArray.empty),(.slice none 0 0),(.bool false),(.slice none 0 0),(.string ByteArray.empty),(.slice none 0 0),(.bool false),(.slice none 0 0),(.string ByteArray.empty),(.slice none 0 0),(.bool false),(.slice none 0 0),(.string ByteArray.empty),(.slice none 0 0),(.bool false),(.slice none 0 0),(.string ByteArray.empty),(.slice none 0 0),(.bool false),(.slice none 0 0)]) from by kernel_rfl] at h;cases h
  exact zr_agg _ _ (zl_cons (.lit _) rfl (zl_cons (.nil _ _ _) rfl (zl_cons (.lit _) rfl (zl_cons (.nil _ _ _) rfl (zl_cons (.lit _) rfl (zl_cons (.nil _ _ _) rfl (zl_cons (.lit _) rfl (zl_cons (.nil _ _ _) rfl (zl_cons (.lit _) rfl (zl_cons (.nil _ _ _) rfl (zl_cons (.lit _) rfl (zl_cons (.nil _ _ _) rfl (zl_cons (.lit _) rfl (zl_cons (.nil _ _ _) rfl (zl_cons (.lit _) rfl (zl_cons (.nil _ _ _) rfl (zl_cons (.lit _) rfl (zl_cons (.nil _ _ _) rfl (zl_cons (.lit _) rfl (zl_cons (.nil _ _ _) rfl (zl_cons (.lit _) rfl (zl_cons (.nil _ _ _) rfl (zl_cons (.lit _) rfl (zl_cons (.nil _ _ _) rfl (zl_cons (.lit _) rfl (zl_cons (.nil _ _ _) rfl (zl_cons (.lit _) rfl (zl_cons (.nil _ _ _) rfl (zl_cons (.lit _) rfl (zl_cons (.nil _ _ _) rfl (zl_cons (.lit _) rfl (zl_cons (.nil _ _ _) rfl (zl_cons (.lit _) rfl (zl_cons (.nil _ _ _) rfl (zl_cons (.lit _) rfl (zl_cons (.nil _ _ _) rfl (zl_cons (.lit _) rfl (zl_cons (.nil _ _ _) rfl (zl_cons (.lit _) rfl (zl_cons (.nil _ _ _) rfl (zl_cons (.lit _) rfl (zl_cons (.nil _ _ _) rfl (zl_cons (.lit _) rfl (zl_cons (.nil _ _ _) rfl (zl_cons (.lit _) rfl (zl_cons (.nil _ _ _) rfl (zl_cons (.lit _) rfl (zl_cons (.nil _ _ _) rfl (zl_cons (.lit _) rfl (zl_cons (.nil _ _ _) rfl (zl_cons (.lit _) rfl (zl_cons (.nil _ _ _) rfl (zl_cons (.lit _) rfl (zl_cons (.nil _ _ _) rfl (zl_cons (.lit _) rfl (zl_cons (.nil _ _ _) rfl (zl_cons (.lit _) rfl (zl_cons (.nil _ _ _) rfl (zl_cons (.lit _) rfl (zl_cons (.nil _ _ _) rfl (zl_cons (.lit _) rfl (zl_cons (.nil _ _ _) rfl (zl_cons (.lit _) rfl (zl_cons (.nil _ _ _) rfl (zl_nil)))))))))))))))))))))))))))))))))))))))))))))))))))))))))))))))))
theorem zv136:zer 136= .agg [.lit (.string ByteArray.empty),.sl true 1 [],.lit (.bool false),.sl true 1 [],.lit (.string ByteArray.empty),.sl true 1 [],.lit (.bool false),.sl true 1 [],.lit (.string ByteArray.empty),.sl true 1 [],.lit (.bool false),.sl true 1 [],.lit (.string ByteArray.empty),.sl true 1 [],.lit (.bool false),.sl true 1 [],.lit (.string ByteArray.empty),.sl true 1 [],.lit (.bool false),.sl true 1 [],.lit (.string ByteArray.empty),.sl true 1 [],.lit (.bool false),.sl true 1 [],.lit (.string ByteArray.empty),.sl true 1 [],.lit (.bool false),.sl true 1 [],.lit (.string ByteArray.empty),.sl true 1 [],.lit (.bool false),.sl true 1 [],.lit (.string ByteArray.empty),.sl true 1 [],.lit (.bool false),.sl true 1 [],.lit (.string ByteArray.empty),.sl true 1 [],.lit (.bool false),.sl true 1 [],.lit (.string ByteArray.empty),.sl true 1 [],.lit (.bool false),.sl true 1 [],.lit (.string ByteArray.empty),.sl true 1 [],.lit (.bool false),.sl true 1 [],.lit (.string ByteArray.empty),.sl true 1 [],.lit (.bool false),.sl true 1 [],.lit (.string ByteArray.empty),.sl true 1 [],.lit (.bool false),.sl true 1 [],.lit (.string ByteArray.empty),.sl true 1 [],.lit (.bool false),.sl true 1 [],.lit (.string ByteArray.empty),.sl true 1 [],.lit (.bool false),.sl true 1 []]:=rfl
theorem zr146:ZerOk Tryz.prog (146,.sl true 4 []):=fun v h=>by
  rw [show zeroT Tryz.prog 146=some (.slice none 0 0) from by kernel_rfl] at h;cases h;exact .nil _ _ _
theorem zv146:zer 146= .sl true 4 []:=rfl
theorem zr148:ZerOk Tryz.prog (148,.sl true 1 []):=fun v h=>by
  rw [show zeroT Tryz.prog 148=some (.slice none 0 0) from by kernel_rfl] at h;cases h;exact .nil _ _ _
theorem zv148:zer 148= .sl true 1 []:=rfl
theorem zr149:ZerOk Tryz.prog (149,.lit (.pointer none)):=fun v h=>by
  rw [show zeroT Tryz.prog 149=some (.pointer none) from by kernel_rfl] at h;cases h;exact .lit _
theorem zv149:zer 149= .lit (.pointer none):=rfl
theorem zr151:ZerOk Tryz.prog (151,.agg [.lit (.string ByteArray.empty),.sl true 1 [],.lit (.string ByteArray.empty)]):=fun v h=>by
  rw [show zeroT Tryz.prog 151=some (.agg #[(.string ByteArray.empty),(.slice none 0 0),(.string ByteArray.empty)]) from by kernel_rfl] at h;cases h
  exact zr_agg _ _ (zl_cons (.lit _) rfl (zl_cons (.nil _ _ _) rfl (zl_cons (.lit _) rfl (zl_nil))))
theorem zv151:zer 151= .agg [.lit (.string ByteArray.empty),.sl true 1 [],.lit (.string ByteArray.empty)]:=rfl
theorem zr152:ZerOk Tryz.prog (152,.agg [.lit (.string ByteArray.empty),.sl true 1 [],.lit (.string ByteArray.empty)]):=fun v h=>by
  rw [show zeroT Tryz.prog 152=some (.agg #[(.string ByteArray.empty),(.slice none 0 0),(.string ByteArray.empty)]) from by kernel_rfl] at h;cases h
  exact zr_agg _ _ (zl_cons (.lit _) rfl (zl_cons (.nil _ _ _) rfl (zl_cons (.lit _) rfl (zl_nil))))
theorem zv152:zer 152= .agg [.lit (.string ByteArray.empty),.sl true 1 [],.lit (.string ByteArray.empty)]:=rfl
theorem zr153:ZerOk Tryz.prog (153,.agg [.lit (.string ByteArray.empty),.sl true 1 [],.lit (.string ByteArray.empty),.lit (.string ByteArray.empty),.sl true 1 [],.lit (.string ByteArray.empty),.lit (.string ByteArray.empty),.sl true 1 [],.lit (.string ByteArray.empty),.lit (.string ByteArray.empty),.sl true 1 [],.lit (.string ByteArray.empty),.lit (.string ByteArray.empty),.sl true 1 [],.lit (.string ByteArray.empty),.lit (.string ByteArray.empty),.sl true 1 [],.lit (.string ByteArray.empty),.lit (.string ByteArray.empty),.sl true 1 [],.lit (.string ByteArray.empty),.lit (.string ByteArray.empty),.sl true 1 [],.lit (.string ByteArray.empty),.lit (.string ByteArray.empty),.sl true 1 [],.lit (.string ByteArray.empty),.lit (.string ByteArray.empty),.sl true 1 [],.lit (.string ByteArray.empty),.lit (.string ByteArray.empty),.sl true 1 [],.lit (.string ByteArray.empty),.lit (.string ByteArray.empty),.sl true 1 [],.lit (.string ByteArray.empty),.lit (.string ByteArray.empty),.sl true 1 [],.lit (.string ByteArray.empty),.lit (.string ByteArray.empty),.sl true 1 [],.lit (.string ByteArray.empty),.lit (.string ByteArray.empty),.sl true 1 [],.lit (.string ByteArray.empty),.lit (.string ByteArray.empty),.sl true 1 [],.lit (.string ByteArray.empty),.lit (.string ByteArray.empty),.sl true 1 [],.lit (.string ByteArray.empty),.lit (.string ByteArray.empty),.sl true 1 [],.lit (.string ByteArray.empty),.lit (.string ByteArray.empty),.sl true 1 [],.lit (.string ByteArray.empty),.lit (.string ByteArray.empty),.sl true 1 [],.lit (.string ByteArray.empty),.lit (.string ByteArray.empty),.sl true 1 [],.lit (.string ByteArray.empty),.lit (.string ByteArray.empty),.sl true 1 [],.lit (.string ByteArray.empty)]):=fun v h=>by
  rw [show zeroT Tryz.prog 153=some (.agg #[(.string ByteArray.empty),(.slice none 0 0),(.string ByteArray.empty),(.string ByteArray.empty),(.slice none 0 0),(.string ByteArray.empty),(.string ByteArray.empty),(.slice none 0 0),(.string ByteArray.empty),(.string ByteArray.empty),(.slice none 0 0),(.string ByteArray.empty),(.string ByteArray.empty),(.slice none 0 0),(.string ByteArray.empty),(.string ByteArray.empty),(.slice none 0 0),(.string ByteArray.empty),(.string ByteArray.empty),(.slice none 0 0),(.string ByteArray.empty),(.string ByteArray.empty),(.slice none 0 0),(.string ByteArray.empty),(.string ByteArray.empty),(.slice none 0 0),(.string ByteArray.empty),(.string ByteArray.empty),(.slice none 0 0),(.string ByteArray.empty),(.string ByteArray.empty),(.slice none 0 0),(.string ByteArray.empty),(.string ByteArray.empty),(.slice none 0 0),(.string ByteArray.empty),(.string ByteArray.empty),(.slice none 0 0),(.string ByteArray.empty),(.string ByteArray.empty),(.slice none 0 0),(.string ByteArray.empty),(.string ByteArray.empty),(.slice none 0 0),(.string ByteArray.empty),(.string ByteArray.empty),(.slice none 0 0),(.string ByteArray.empty),(.string ByteArray.empty),(.slice none 0 0),(.string ByteArray.empty),(.string ByteArray.empty),(.slice none 0 0),(.string ByteArray.empty),(.string ByteArray.empty),(.slice none 0 0),(.string ByteArray.empty),(.string ByteArray.empty),(.slice none 0 0),(.string ByteArray.empty),(.string ByteArray.empty),(.slice none 0 0),(.string ByteArray.empty),(.string ByteArray.empty),(.slice none 0 0),(.string ByteArray.empty)]) from by kernel_rfl] at h;cases h
  exact zr_agg _ _ (zl_cons (.lit _) rfl (zl_cons (.nil _ _ _) rfl (zl_cons (.lit _) rfl (zl_cons (.lit _) rfl (zl_cons (.nil _ _ _) rfl (zl_cons (.lit _) rfl (zl_cons (.lit _) rfl (zl_cons (.nil _ _ _) rfl (zl_cons (.lit _) rfl (zl_cons (.lit _) rfl (zl_cons (.nil _ _ _) rfl (zl_cons (.lit _) rfl (zl_cons (.lit _) rfl (zl_cons (.nil _ _ _) rfl (zl_cons (.lit _) rfl (zl_cons (.lit _) rfl (zl_cons (.nil _ _ _) rfl (zl_cons (.lit _) rfl (zl_cons (.lit _) rfl (zl_cons (.nil _ _ _) rfl (zl_cons (.lit _) rfl (zl_cons (.lit _) rfl (zl_cons (.nil _ _ _) rfl (zl_cons (.lit _) rfl (zl_cons (.lit _) rfl (zl_cons (.nil _ _ _) rfl (zl_cons (.lit _) rfl (zl_cons (.lit _) rfl (zl_cons (.nil _ _ _) rfl (zl_cons (.lit _) rfl (zl_cons (.lit _) rfl (zl_cons (.nil _ _ _) rfl (zl_cons (.lit _) rfl (zl_cons (.lit _) rfl (zl_cons (.nil _ _ _) rfl (zl_cons (.lit _) rfl (zl_cons (.lit _) rfl (zl_cons (.nil _ _ _) rfl (zl_cons (.lit _) rfl (zl_cons (.lit _) rfl (zl_cons (.nil _ _ _) rfl (zl_cons (.lit _) rfl (zl_cons (.lit _) rfl (zl_cons (.nil _ _ _) rfl (zl_cons (.lit _) rfl (zl_cons (.lit _) rfl (zl_cons (.nil _ _ _) rfl (zl_cons (.lit _) rfl (zl_cons (.lit _) rfl (zl_cons (.nil _ _ _) rfl (zl_cons (.lit _) rfl (zl_cons (.lit _) rfl (zl_cons (.nil _ _ _) rfl (zl_cons (.lit _) rfl (zl_cons (.lit _) rfl (zl_cons (.nil _ _ _) rfl (zl_cons (.lit _) rfl (zl_cons (.lit _) rfl (zl_cons (.nil _ _ _) rfl (zl_cons (.lit _) rfl (zl_cons (.lit _) rfl (zl_cons (.nil _ _ _) rfl (zl_cons (.lit _) rfl (zl_cons (.lit _) rfl (zl_cons (.nil _ _ _) rfl (zl_cons (.lit _) rfl (zl_nil)))))))))))))))))))))))))))))))))))))))))))))))))))))))))))))))))))
theorem zv153:zer 153= .agg [.lit (.string ByteArray.empty),.sl true 1 [],.lit (.string ByteArray.empty),.lit (.string ByteArray.empty),.sl true 1 [],.lit (.string ByteArray.empty),.lit (.string ByteArray.empty),.sl true 1 [],.lit (.string ByteArray.empty),.lit (.string ByteArray.empty),.sl true 1 [],.lit (.string ByteArray.empty),.lit (.string ByteArray.empty),.sl true 1 [],.lit (.string ByteArray.empty),.lit (.string ByteArray.empty),.sl true 1 [],.lit (.string ByteArray.empty),.lit (.string ByteArray.empty),.sl true 1 [],.lit (.string ByteArray.empty),.lit (.string ByteArray.empty),.sl true 1 [],.lit (.string ByteArray.empty),.lit (.string ByteArray.empty),.sl true 1 [],.lit (.string ByteArray.empty),.lit (.string ByteArray.empty),.sl true 1 [],.lit (.string ByteArray.empty),.lit (.string ByteArray.empty),.sl true 1 [],.lit (.string ByteArray.empty),.lit (.string ByteArray.empty),.sl true 1 [],.lit (.string ByteArray.empty),.lit (.string ByteArray.empty),.sl true 1 [],.lit (.string ByteArray.empty),.lit (.string ByteArray.empty),.sl true 1 [],.lit (.string ByteArray.empty),.lit (.string ByteArray.empty),.sl true 1 [],.lit (.string ByteArray.empty),.lit (.string ByteArray.empty),.sl true 1 [],.lit (.string ByteArray.empty),.lit (.string ByteArray.empty),.sl true 1 [],.lit (.string ByteArray.empty),.lit (.string ByteArray.empty),.sl true 1 [],.lit (.string ByteArray.empty),.lit (.string ByteArray.empty),.sl true 1 [],.lit (.string ByteArray.empty),.lit (.string ByteArray.empty),.sl true 1 [],.lit (.string ByteArray.empty),.lit (.string ByteArray.empty),.sl true 1 [],.lit (.string ByteArray.empty),.lit (.string ByteArray.empty),.sl true 1 [],.lit (.string ByteArray.empty)]:=rfl
theorem zr161:ZerOk Tryz.prog (161,.agg [.lit (.int .u8 0),.lit (.int .u8 0),.lit (.int .u8 0),.lit (.int .u8 0),.lit (.int .u8 0),.lit (.int .u8 0),.lit (.int .u8 0),.lit (.int .u8 0),.lit (.int .u8 0),.lit (.int .u8 0),.lit (.int .u8 0),.lit (.int .u8 0),.lit (.int .u8 0),.lit (.int .u8 0),.lit (.int .u8 0),.lit (.int .u8 0),.lit (.int .u8 0),.lit (.int .u8 0),.lit (.int .u8 0),.lit (.int .u8 0),.lit (.int .u8 0),.lit (.int .u8 0),.lit (.int .u8 0),.lit (.int .u8 0)]):=fun v h=>by
  rw [show zeroT Tryz.prog 161=some (.agg #[(.int .u8 0),(.int .u8 0),(.int .u8 0),(.int .u8 0),(.int .u8 0),(.int .u8 0),(.int .u8 0),(.int .u8 0),(.int .u8 0),(.int .u8 0),(.int .u8 0),(.int .u8 0),(.int .u8 0),(.int .u8 0),(.int .u8 0),(.int .u8 0),(.int .u8 0),(.int .u8 0),(.int .u8 0),(.int .u8 0),(.int .u8 0),(.int .u8 0),(.int .u8 0),(.int .u8 0)]) from by kernel_rfl] at h;cases h
  exact zr_agg _ _ (zl_cons (.lit _) rfl (zl_cons (.lit _) rfl (zl_cons (.lit _) rfl (zl_cons (.lit _) rfl (zl_cons (.lit _) rfl (zl_cons (.lit _) rfl (zl_cons (.lit _) rfl (zl_cons (.lit _) rfl (zl_cons (.lit _) rfl (zl_cons (.lit _) rfl (zl_cons (.lit _) rfl (zl_cons (.lit _) rfl (zl_cons (.lit _) rfl (zl_cons (.lit _) rfl (zl_cons (.lit _) rfl (zl_cons (.lit _) rfl (zl_cons (.lit _) rfl (zl_cons (.lit _) rfl (zl_cons (.lit _) rfl (zl_cons (.lit _) rfl (zl_cons (.lit _) rfl (zl_cons (.lit _) rfl (zl_cons (.lit _) rfl (zl_cons (.lit _) rfl (zl_nil)))))))))))))))))))))))))
theorem zv161:zer 161= .agg [.lit (.int .u8 0),.lit (.int .u8 0),.lit (.int .u8 0),.lit (.int .u8 0),.lit (.int .u8 0),.lit (.int .u8 0),.lit (.int .u8 0),.lit (.int .u8 0),.lit (.int .u8 0),.lit (.int .u8 0),.lit (.int .u8 0),.lit (.int .u8 0),.lit (.int .u8 0),.lit (.int .u8 0),.lit (.int .u8 0),.lit (.int .u8 0),.lit (.int .u8 0),.lit (.int .u8 0),.lit (.int .u8 0),.lit (.int .u8 0),.lit (.int .u8 0),.lit (.int .u8 0),.lit (.int .u8 0),.lit (.int .u8 0)]:=rfl
theorem zr166:ZerOk Tryz.prog (166,.lit (.int .u32 0)):=fun v h=>by
  rw [show zeroT Tryz.prog 166=some (.int .u32 0) from by kernel_rfl] at h;cases h;exact .lit _
theorem zv166:zer 166= .lit (.int .u32 0):=rfl
theorem zr172:ZerOk Tryz.prog (172,.agg [.lit (.int .u64 0),.lit (.int .u64 0),.lit (.int .u64 0),.lit (.int .u64 0),.lit (.int .u64 0),.lit (.int .u64 0),.lit (.int .u64 0),.lit (.int .u64 0),.lit (.int .u64 0),.lit (.int .u64 0),.lit (.int .u64 0),.lit (.int .u64 0),.lit (.int .u64 0),.lit (.int .u64 0),.lit (.int .u64 0),.lit (.int .u64 0),.lit (.int .u64 0),.lit (.int .u64 0),.lit (.int .u64 0),.lit (.int .u64 0)]):=fun v h=>by
  rw [show zeroT Tryz.prog 172=some (.agg #[(.int .u64 0),(.int .u64 0),(.int .u64 0),(.int .u64 0),(.int .u64 0),(.int .u64 0),(.int .u64 0),(.int .u64 0),(.int .u64 0),(.int .u64 0),(.int .u64 0),(.int .u64 0),(.int .u64 0),(.int .u64 0),(.int .u64 0),(.int .u64 0),(.int .u64 0),(.int .u64 0),(.int .u64 0),(.int .u64 0)]) from by kernel_rfl] at h;cases h
  exact zr_agg _ _ (zl_cons (.lit _) rfl (zl_cons (.lit _) rfl (zl_cons (.lit _) rfl (zl_cons (.lit _) rfl (zl_cons (.lit _) rfl (zl_cons (.lit _) rfl (zl_cons (.lit _) rfl (zl_cons (.lit _) rfl (zl_cons (.lit _) rfl (zl_cons (.lit _) rfl (zl_cons (.lit _) rfl (zl_cons (.lit _) rfl (zl_cons (.lit _) rfl (zl_cons (.lit _) rfl (zl_cons (.lit _) rfl (zl_cons (.lit _) rfl (zl_cons (.lit _) rfl (zl_cons (.lit _) rfl (zl_cons (.lit _) rfl (zl_cons (.lit _) rfl (zl_nil)))))))))))))))))))))
theorem zv172:zer 172= .agg [.lit (.int .u64 0),.lit (.int .u64 0),.lit (.int .u64 0),.lit (.int .u64 0),.lit (.int .u64 0),.lit (.int .u64 0),.lit (.int .u64 0),.lit (.int .u64 0),.lit (.int .u64 0),.lit (.int .u64 0),.lit (.int .u64 0),.lit (.int .u64 0),.lit (.int .u64 0),.lit (.int .u64 0),.lit (.int .u64 0),.lit (.int .u64 0),.lit (.int .u64 0),.lit (.int .u64 0),.lit (.int .u64 0),.lit (.int .u64 0)]:=rfl
theorem zr173:ZerOk Tryz.prog (173,.agg [.lit (.int .u8 0),.lit (.int .u8 0),.lit (.int .u8 0),.lit (.int .u8 0),.lit (.int .u8 0),.lit (.int .u8 0),.lit (.int .u8 0),.lit (.int .u8 0),.lit (.int .u8 0),.lit (.int .u8 0),.lit (.int .u8 0),.lit (.int .u8 0),.lit (.int .u8 0),.lit (.int .u8 0),.lit (.int .u8 0),.lit (.int .u8 0),.lit (.int .u8 0),.lit (.int .u8 0),.lit (.int .u8 0),.lit (.int .u8 0),.lit (.int .u8 0),.lit (.int .u8 0),.lit (.int .u8 0),.lit (.int .u8 0),.lit (.int .u8 0),.lit (.int .u8 0),.lit (.int .u8 0),.lit (.int .u8 0),.lit (.int .u8 0),.lit (.int .u8 0),.lit (.int .u8 0),.lit (.int .u8 0),.lit (.int .u8 0),.lit (.int .u8 0),.lit (.int .u8 0),.lit (.int .u8 0),.lit (.int .u8 0),.lit (.int .u8 0),.lit (.int .u8 0),.lit (.int .u8 0),.lit (.int .u8 0),.lit (.int .u8 0),.lit (.int .u8 0),.lit (.int .u8 0),.lit (.int .u8 0),.lit (.int .u8 0),.lit (.int .u8 0),.lit (.int .u8 0),.lit (.int .u8 0),.lit (.int .u8 0),.lit (.int .u8 0),.lit (.int .u8 0),.lit (.int .u8 0),.lit (.int .u8 0),.lit (.int .u8 0),.lit (.int .u8 0),.lit (.int .u8 0),.lit (.int .u8 0),.lit (.int .u8 0),.lit (.int .u8 0),.lit (.int .u8 0),.lit (.int .u8 0),.lit (.int .u8 0),.lit (.int .u8 0),.lit (.int .u8 0)]):=fun v h=>by
  rw [show zeroT Tryz.prog 173=some (.agg #[(.int .u8 0),(.int .u8 0),(.int .u8 0),(.int .u8 0),(.int .u8 0),(.int .u8 0),(.int .u8 0),(.int .u8 0),(.int .u8 0),(.int .u8 0),(.int .u8 0),(.int .u8 0),(.int .u8 0),(.int .u8 0),(.int .u8 0),(.int .u8 0),(.int .u8 0),(.int .u8 0),(.int .u8 0),(.int .u8 0),(.int .u8 0),(.int .u8 0),(.int .u8 0),(.int .u8 0),(.int .u8 0),(.int .u8 0),(.int .u8 0),(.int .u8 0),(.int .u8 0),(.int .u8 0),(.int .u8 0),(.int .u8 0),(.int .u8 0),(.int .u8 0),(.int .u8 0),(.int .u8 0),(.int .u8 0),(.int .u8 0),(.int .u8 0),(.int .u8 0),(.int .u8 0),(.int .u8 0),(.int .u8 0),(.int .u8 0),(.int .u8 0),(.int .u8 0),(.int .u8 0),(.int .u8 0),(.int .u8 0),(.int .u8 0),(.int .u8 0),(.int .u8 0),(.int .u8 0),(.int .u8 0),(.int .u8 0),(.int .u8 0),(.int .u8 0),(.int .u8 0),(.int .u8 0),(.int .u8 0),(.int .u8 0),(.int .u8 0),(.int .u8 0),(.int .u8 0),(.int .u8 0)]) from by kernel_rfl] at h;cases h
  exact zr_agg _ _ (zl_cons (.lit _) rfl (zl_cons (.lit _) rfl (zl_cons (.lit _) rfl (zl_cons (.lit _) rfl (zl_cons (.lit _) rfl (zl_cons (.lit _) rfl (zl_cons (.lit _) rfl (zl_cons (.lit _) rfl (zl_cons (.lit _) rfl (zl_cons (.lit _) rfl (zl_cons (.lit _) rfl (zl_cons (.lit _) rfl (zl_cons (.lit _) rfl (zl_cons (.lit _) rfl (zl_cons (.lit _) rfl (zl_cons (.lit _) rfl (zl_cons (.lit _) rfl (zl_cons (.lit _) rfl (zl_cons (.lit _) rfl (zl_cons (.lit _) rfl (zl_cons (.lit _) rfl (zl_cons (.lit _) rfl (zl_cons (.lit _) rfl (zl_cons (.lit _) rfl (zl_cons (.lit _) rfl (zl_cons (.lit _) rfl (zl_cons (.lit _) rfl (zl_cons (.lit _) rfl (zl_cons (.lit _) rfl (zl_cons (.lit _) rfl (zl_cons (.lit _) rfl (zl_cons (.lit _) rfl (zl_cons (.lit _) rfl (zl_cons (.lit _) rfl (zl_cons (.lit _) rfl (zl_cons (.lit _) rfl (zl_cons (.lit _) rfl (zl_cons (.lit _) rfl (zl_cons (.lit _) rfl (zl_cons (.lit _) rfl (zl_cons (.lit _) rfl (zl_cons (.lit _) rfl (zl_cons (.lit _) rfl (zl_cons (.lit _) rfl (zl_cons (.lit _) rfl (zl_cons (.lit _) rfl (zl_cons (.lit _) rfl (zl_cons (.lit _) rfl (zl_cons (.lit _) rfl (zl_cons (.lit _) rfl (zl_cons (.lit _) rfl (zl_cons (.lit _) rfl (zl_cons (.lit _) rfl (zl_cons (.lit _) rfl (zl_cons (.lit _) rfl (zl_cons (.lit _) rfl (zl_cons (.lit _) rfl (zl_cons (.lit _) rfl (zl_cons (.lit _) rfl (zl_cons (.lit _) rfl (zl_cons (.lit _) rfl (zl_cons (.lit _) rfl (zl_cons (.lit _) rfl (zl_cons (.lit _) rfl (zl_cons (.lit _) rfl (zl_nil))))))))))))))))))))))))))))))))))))))))))))))))))))))))))))))))))
theorem zv173:zer 173= .agg [.lit (.int .u8 0),.lit (.int .u8 0),.lit (.int .u8 0),.lit (.int .u8 0),.lit (.int .u8 0),.lit (.int .u8 0),.lit (.int .u8 0),.lit (.int .u8 0),.lit (.int .u8 0),.lit (.int .u8 0),.lit (.int .u8 0),.lit (.int .u8 0),.lit (.int .u8 0),.lit (.int .u8 0),.lit (.int .u8 0),.lit (.int .u8 0),.lit (.int .u8 0),.lit (.int .u8 0),.lit (.int .u8 0),.lit (.int .u8 0),.lit (.int .u8 0),.lit (.int .u8 0),.lit (.int .u8 0),.lit (.int .u8 0),.lit (.int .u8 0),.lit (.int .u8 0),.lit (.int .u8 0),.lit (.int .u8 0),.lit (.int .u8 0),.lit (.int .u8 0),.lit (.int .u8 0),.lit (.int .u8 0),.lit (.int .u8 0),.lit (.int .u8 0),.lit (.int .u8 0),.lit (.int .u8 0),.lit (.int .u8 0),.lit (.int .u8 0),.lit (.int .u8 0),.lit (.int .u8 0),.lit (.int .u8 0),.lit (.int .u8 0),.lit (.int .u8 0),.lit (.int .u8 0),.lit (.int .u8 0),.lit (.int .u8 0),.lit (.int .u8 0),.lit (.int .u8 0),.lit (.int .u8 0),.lit (.int .u8 0),.lit (.int .u8 0),.lit (.int .u8 0),.lit (.int .u8 0),.lit (.int .u8 0),.lit (.int .u8 0),.lit (.int .u8 0),.lit (.int .u8 0),.lit (.int .u8 0),.lit (.int .u8 0),.lit (.int .u8 0),.lit (.int .u8 0),.lit (.int .u8 0),.lit (.int .u8 0),.lit (.int .u8 0),.lit (.int .u8 0)]:=rfl
theorem zr178:ZerOk Tryz.prog (178,.lit (.int .i64 0)):=fun v h=>by
  rw [show zeroT Tryz.prog 178=some (.int .i64 0) from by kernel_rfl] at h;cases h;exact .lit _
theorem zv178:zer 178= .lit (.int .i64 0):=rfl
theorem zr181:ZerOk Tryz.prog (181,.lit (.pointer none)):=fun v h=>by
  rw [show zeroT Tryz.prog 181=some (.pointer none) from by kernel_rfl] at h;cases h;exact .lit _
theorem zv181:zer 181= .lit (.pointer none):=rfl
theorem zr189:ZerOk Tryz.prog (189,.agg [.lit (.string ByteArray.empty),.lit (.string ByteArray.empty),.lit .nilIface]):=fun v h=>by
  rw [show zeroT Tryz.prog 189=some (.agg #[(.string ByteArray.empty),(.string ByteArray.empty),.nilIface]) from by kernel_rfl] at h;cases h
  exact zr_agg _ _ (zl_cons (.lit _) rfl (zl_cons (.lit _) rfl (zl_cons (.lit _) rfl (zl_nil))))
theorem zv189:zer 189= .agg [.lit (.string ByteArray.empty),.lit (.string ByteArray.empty),.lit .nilIface]:=rfl
theorem zr190:ZerOk Tryz.prog (190,.agg [.lit (.string ByteArray.empty),.lit (.string ByteArray.empty),.lit .nilIface]):=fun v h=>by
  rw [show zeroT Tryz.prog 190=some (.agg #[(.string ByteArray.empty),(.string ByteArray.empty),.nilIface]) from by kernel_rfl] at h;cases h
  exact zr_agg _ _ (zl_cons (.lit _) rfl (zl_cons (.lit _) rfl (zl_cons (.lit _) rfl (zl_nil))))
theorem zv190:zer 190= .agg [.lit (.string ByteArray.empty),.lit (.string ByteArray.empty),.lit .nilIface]:=rfl
theorem zr192:ZerOk Tryz.prog (192,.agg [.lit (.int .u8 0),.lit (.int .u8 0),.lit (.int .u8 0),.lit (.int .u8 0),.lit (.int .u8 0),.lit (.int .u8 0),.lit (.int .u8 0),.lit (.int .u8 0),.lit (.int .u8 0),.lit (.int .u8 0),.lit (.int .u8 0),.lit (.int .u8 0),.lit (.int .u8 0),.lit (.int .u8 0),.lit (.int .u8 0),.lit (.int .u8 0),.lit (.int .u8 0),.lit (.int .u8 0),.lit (.int .u8 0),.lit (.int .u8 0),.lit (.int .u8 0),.lit (.int .u8 0),.lit (.int .u8 0),.lit (.int .u8 0),.lit (.int .u8 0),.lit (.int .u8 0),.lit (.int .u8 0),.lit (.int .u8 0),.lit (.int .u8 0),.lit (.int .u8 0),.lit (.int .u8 0),.lit (.int .u8 0)]):=fun v h=>by
  rw [show zeroT Tryz.prog 192=some (.agg #[(.int .u8 0),(.int .u8 0),(.int .u8 0),(.int .u8 0),(.int .u8 0),(.int .u8 0),(.int .u8 0),(.int .u8 0),(.int .u8 0),(.int .u8 0),(.int .u8 0),(.int .u8 0),(.int .u8 0),(.int .u8 0),(.int .u8 0),(.int .u8 0),(.int .u8 0),(.int .u8 0),(.int .u8 0),(.int .u8 0),(.int .u8 0),(.int .u8 0),(.int .u8 0),(.int .u8 0),(.int .u8 0),(.int .u8 0),(.int .u8 0),(.int .u8 0),(.int .u8 0),(.int .u8 0),(.int .u8 0),(.int .u8 0)]) from by kernel_rfl] at h;cases h
  exact zr_agg _ _ (zl_cons (.lit _) rfl (zl_cons (.lit _) rfl (zl_cons (.lit _) rfl (zl_cons (.lit _) rfl (zl_cons (.lit _) rfl (zl_cons (.lit _) rfl (zl_cons (.lit _) rfl (zl_cons (.lit _) rfl (zl_cons (.lit _) rfl (zl_cons (.lit _) rfl (zl_cons (.lit _) rfl (zl_cons (.lit _) rfl (zl_cons (.lit _) rfl (zl_cons (.lit _) rfl (zl_cons (.lit _) rfl (zl_cons (.lit _) rfl (zl_cons (.lit _) rfl (zl_cons (.lit _) rfl (zl_cons (.lit _) rfl (zl_cons (.lit _) rfl (zl_cons (.lit _) rfl (zl_cons (.lit _) rfl (zl_cons (.lit _) rfl (zl_cons (.lit _) rfl (zl_cons (.lit _) rfl (zl_cons (.lit _) rfl (zl_cons (.lit _) rfl (zl_cons (.lit _) rfl (zl_cons (.lit _) rfl (zl_cons (.lit _) rfl (zl_cons (.lit _) rfl (zl_cons (.lit _) rfl (zl_nil)))))))))))))))))))))))))))))))))
theorem zv192:zer 192= .agg [.lit (.int .u8 0),.lit (.int .u8 0),.lit (.int .u8 0),.lit (.int .u8 0),.lit (.int .u8 0),.lit (.int .u8 0),.lit (.int .u8 0),.lit (.int .u8 0),.lit (.int .u8 0),.lit (.int .u8 0),.lit (.int .u8 0),.lit (.int .u8 0),.lit (.int .u8 0),.lit (.int .u8 0),.lit (.int .u8 0),.lit (.int .u8 0),.lit (.int .u8 0),.lit (.int .u8 0),.lit (.int .u8 0),.lit (.int .u8 0),.lit (.int .u8 0),.lit (.int .u8 0),.lit (.int .u8 0),.lit (.int .u8 0),.lit (.int .u8 0),.lit (.int .u8 0),.lit (.int .u8 0),.lit (.int .u8 0),.lit (.int .u8 0),.lit (.int .u8 0),.lit (.int .u8 0),.lit (.int .u8 0)]:=rfl
theorem zr193:ZerOk Tryz.prog (193,.agg [.lit (.int .u8 0),.lit (.int .u8 0),.lit (.int .u8 0),.lit (.int .u8 0),.lit (.int .u8 0),.lit (.int .u8 0),.lit (.int .u8 0),.lit (.int .u8 0),.lit (.int .u8 0),.lit (.int .u8 0),.lit (.int .u8 0),.lit (.int .u8 0),.lit (.int .u8 0),.lit (.int .u8 0),.lit (.int .u8 0),.lit (.int .u8 0),.lit (.int .u8 0),.lit (.int .u8 0),.lit (.int .u8 0),.lit (.int .u8 0),.lit (.int .u8 0),.lit (.int .u8 0),.lit (.int .u8 0),.lit (.int .u8 0),.lit (.int .u8 0),.lit (.int .u8 0),.lit (.int .u8 0),.lit (.int .u8 0),.lit (.int .u8 0),.lit (.int .u8 0),.lit (.int .u8 0),.lit (.int .u8 0),.lit (.int .u8 0),.lit (.int .u8 0),.lit (.int .u8 0),.lit (.int .u8 0),.lit (.int .u8 0),.lit (.int .u8 0),.lit (.int .u8 0),.lit (.int .u8 0),.lit (.int .u8 0),.lit (.int .u8 0),.lit (.int .u8 0),.lit (.int .u8 0),.lit (.int .u8 0),.lit (.int .u8 0),.lit (.int .u8 0),.lit (.int .u8 0),.lit (.int .u8 0),.lit (.int .u8 0),.lit (.int .u8 0),.lit (.int .u8 0),.lit (.int .u8 0),.lit (.int .u8 0),.lit (.int .u8 0),.lit (.int .u8 0),.lit (.int .u8 0),.lit (.int .u8 0),.lit (.int .u8 0),.lit (.int .u8 0),.lit (.int .u8 0),.lit (.int .u8 0),.lit (.int .u8 0),.lit (.int .u8 0)]):=fun v h=>by
  rw [show zeroT Tryz.prog 193=some (.agg #[(.int .u8 0),(.int .u8 0),(.int .u8 0),(.int .u8 0),(.int .u8 0),(.int .u8 0),(.int .u8 0),(.int .u8 0),(.int .u8 0),(.int .u8 0),(.int .u8 0),(.int .u8 0),(.int .u8 0),(.int .u8 0),(.int .u8 0),(.int .u8 0),(.int .u8 0),(.int .u8 0),(.int .u8 0),(.int .u8 0),(.int .u8 0),(.int .u8 0),(.int .u8 0),(.int .u8 0),(.int .u8 0),(.int .u8 0),(.int .u8 0),(.int .u8 0),(.int .u8 0),(.int .u8 0),(.int .u8 0),(.int .u8 0),(.int .u8 0),(.int .u8 0),(.int .u8 0),(.int .u8 0),(.int .u8 0),(.int .u8 0),(.int .u8 0),(.int .u8 0),(.int .u8 0),(.int .u8 0),(.int .u8 0),(.int .u8 0),(.int .u8 0),(.int .u8 0),(.int .u8 0),(.int .u8 0),(.int .u8 0),(.int .u8 0),(.int .u8 0),(.int .u8 0),(.int .u8 0),(.int .u8 0),(.int .u8 0),(.int .u8 0),(.int .u8 0),(.int .u8 0),(.int .u8 0),(.int .u8 0),(.int .u8 0),(.int .u8 0),(.int .u8 0),(.int .u8 0)]) from by kernel_rfl] at h;cases h
  exact zr_agg _ _ (zl_cons (.lit _) rfl (zl_cons (.lit _) rfl (zl_cons (.lit _) rfl (zl_cons (.lit _) rfl (zl_cons (.lit _) rfl (zl_cons (.lit _) rfl (zl_cons (.lit _) rfl (zl_cons (.lit _) rfl (zl_cons (.lit _) rfl (zl_cons (.lit _) rfl (zl_cons (.lit _) rfl (zl_cons (.lit _) rfl (zl_cons (.lit _) rfl (zl_cons (.lit _) rfl (zl_cons (.lit _) rfl (zl_cons (.lit _) rfl (zl_cons (.lit _) rfl (zl_cons (.lit _) rfl (zl_cons (.lit _) rfl (zl_cons (.lit _) rfl (zl_cons (.lit _) rfl (zl_cons (.lit _) rfl (zl_cons (.lit _) rfl (zl_cons (.lit _) rfl (zl_cons (.lit _) rfl (zl_cons (.lit _) rfl (zl_cons (.lit _) rfl (zl_cons (.lit _) rfl (zl_cons (.lit _) rfl (zl_cons (.lit _) rfl (zl_cons (.lit _) rfl (zl_cons (.lit _) rfl (zl_cons (.lit _) rfl (zl_cons (.lit _) rfl (zl_cons (.lit _) rfl (zl_cons (.lit _) rfl (zl_cons (.lit _) rfl (zl_cons (.lit _) rfl (zl_cons (.lit _) rfl (zl_cons (.lit _) rfl (zl_cons (.lit _) rfl (zl_cons (.lit _) rfl (zl_cons (.lit _) rfl (zl_cons (.lit _) rfl (zl_cons (.lit _) rfl (zl_cons (.lit _) rfl (zl_cons (.lit _) rfl (zl_cons (.lit _) rfl (zl_cons (.lit _) rfl (zl_cons (.lit _) rfl (zl_cons (.lit _) rfl (zl_cons (.lit _) rfl (zl_cons (.lit _) rfl (zl_cons (.lit _) rfl (zl_cons (.lit _) rfl (zl_cons (.lit _) rfl (zl_cons (.lit _) rfl (zl_cons (.lit _) rfl (zl_cons (.lit _) rfl (zl_cons (.lit _) rfl (zl_cons (.lit _) rfl (zl_cons (.lit _) rfl (zl_cons (.lit _) rfl (zl_cons (.lit _) rfl (zl_nil)))))))))))))))))))))))))))))))))))))))))))))))))))))))))))))))))
theorem zv193:zer 193= .agg [.lit (.int .u8 0),.lit (.int .u8 0),.lit (.int .u8 0),.lit (.int .u8 0),.lit (.int .u8 0),.lit (.int .u8 0),.lit (.int .u8 0),.lit (.int .u8 0),.lit (.int .u8 0),.lit (.int .u8 0),.lit (.int .u8 0),.lit (.int .u8 0),.lit (.int .u8 0),.lit (.int .u8 0),.lit (.int .u8 0),.lit (.int .u8 0),.lit (.int .u8 0),.lit (.int .u8 0),.lit (.int .u8 0),.lit (.int .u8 0),.lit (.int .u8 0),.lit (.int .u8 0),.lit (.int .u8 0),.lit (.int .u8 0),.lit (.int .u8 0),.lit (.int .u8 0),.lit (.int .u8 0),.lit (.int .u8 0),.lit (.int .u8 0),.lit (.int .u8 0),.lit (.int .u8 0),.lit (.int .u8 0),.lit (.int .u8 0),.lit (.int .u8 0),.lit (.int .u8 0),.lit (.int .u8 0),.lit (.int .u8 0),.lit (.int .u8 0),.lit (.int .u8 0),.lit (.int .u8 0),.lit (.int .u8 0),.lit (.int .u8 0),.lit (.int .u8 0),.lit (.int .u8 0),.lit (.int .u8 0),.lit (.int .u8 0),.lit (.int .u8 0),.lit (.int .u8 0),.lit (.int .u8 0),.lit (.int .u8 0),.lit (.int .u8 0),.lit (.int .u8 0),.lit (.int .u8 0),.lit (.int .u8 0),.lit (.int .u8 0),.lit (.int .u8 0),.lit (.int .u8 0),.lit (.int .u8 0),.lit (.int .u8 0),.lit (.int .u8 0),.lit (.int .u8 0),.lit (.int .u8 0),.lit (.int .u8 0),.lit (.int .u8 0)]:=rfl
theorem zr195:ZerOk Tryz.prog (195,.agg [.lit (.int .u8 0),.lit (.int .u8 0)]):=fun v h=>by
  rw [show zeroT Tryz.prog 195=some (.agg #[(.int .u8 0),(.int .u8 0)]) from by kernel_rfl] at h;cases h
  exact zr_agg _ _ (zl_cons (.lit _) rfl (zl_cons (.lit _) rfl (zl_nil)))
theorem zv195:zer 195= .agg [.lit (.int .u8 0),.lit (.int .u8 0)]:=rfl
theorem zr196:ZerOk Tryz.prog (196,.agg [.lit (.int .u8 0),.lit (.int .u8 0)]):=fun v h=>by
  rw [show zeroT Tryz.prog 196=some (.agg #[(.int .u8 0),(.int .u8 0)]) from by kernel_rfl] at h;cases h
  exact zr_agg _ _ (zl_cons (.lit _) rfl (zl_cons (.lit _) rfl (zl_nil)))
theorem zv196:zer 196= .agg [.lit (.int .u8 0),.lit (.int .u8 0)]:=rfl
theorem zr197:ZerOk Tryz.prog (197,.agg [.lit (.int .u8 0),.lit (.int .u8 0),.lit (.int .u8 0),.lit (.int .u8 0),.lit (.int .u8 0),.lit (.int .u8 0),.lit (.int .u8 0),.lit (.int .u8 0),.lit (.int .u8 0),.lit (.int .u8 0),.lit (.int .u8 0),.lit (.int .u8 0),.lit (.int .u8 0),.lit (.int .u8 0),.lit (.int .u8 0),.lit (.int .u8 0),.lit (.int .u8 0),.lit (.int .u8 0),.lit (.int .u8 0),.lit (.int .u8 0),.lit (.int .u8 0),.lit (.int .u8 0),.lit (.int .u8 0),.lit (.int .u8 0),.lit (.int .u8 0),.lit (.int .u8 0),.lit (.int .u8 0),.lit (.int .u8 0),.lit (.int .u8 0),.lit (.int .u8 0),.lit (.int .u8 0),.lit (.int .u8 0)]):=fun v h=>by
  rw [show zeroT Tryz.prog 197=some (.agg #[(.int .u8 0),(.int .u8 0),(.int .u8 0),(.int .u8 0),(.int .u8 0),(.int .u8 0),(.int .u8 0),(.int .u8 0),(.int .u8 0),(.int .u8 0),(.int .u8 0),(.int .u8 0),(.int .u8 0),(.int .u8 0),(.int .u8 0),(.int .u8 0),(.int .u8 0),(.int .u8 0),(.int .u8 0),(.int .u8 0),(.int .u8 0),(.int .u8 0),(.int .u8 0),(.int .u8 0),(.int .u8 0),(.int .u8 0),(.int .u8 0),(.int .u8 0),(.int .u8 0),(.int .u8 0),(.int .u8 0),(.int .u8 0)]) from by kernel_rfl] at h;cases h
  exact zr_agg _ _ (zl_cons (.lit _) rfl (zl_cons (.lit _) rfl (zl_cons (.lit _) rfl (zl_cons (.lit _) rfl (zl_cons (.lit _) rfl (zl_cons (.lit _) rfl (zl_cons (.lit _) rfl (zl_cons (.lit _) rfl (zl_cons (.lit _) rfl (zl_cons (.lit _) rfl (zl_cons (.lit _) rfl (zl_cons (.lit _) rfl (zl_cons (.lit _) rfl (zl_cons (.lit _) rfl (zl_cons (.lit _) rfl (zl_cons (.lit _) rfl (zl_cons (.lit _) rfl (zl_cons (.lit _) rfl (zl_cons (.lit _) rfl (zl_cons (.lit _) rfl (zl_cons (.lit _) rfl (zl_cons (.lit _) rfl (zl_cons (.lit _) rfl (zl_cons (.lit _) rfl (zl_cons (.lit _) rfl (zl_cons (.lit _) rfl (zl_cons (.lit _) rfl (zl_cons (.lit _) rfl (zl_cons (.lit _) rfl (zl_cons (.lit _) rfl (zl_cons (.lit _) rfl (zl_cons (.lit _) rfl (zl_nil)))))))))))))))))))))))))))))))))
theorem zv197:zer 197= .agg [.lit (.int .u8 0),.lit (.int .u8 0),.lit (.int .u8 0),.lit (.int .u8 0),.lit (.int .u8 0),.lit (.int .u8 0),.lit (.int .u8 0),.lit (.int .u8 0),.lit (.int .u8 0),.lit (.int .u8 0),.lit (.int .u8 0),.lit (.int .u8 0),.lit (.int .u8 0),.lit (.int .u8 0),.lit (.int .u8 0),.lit (.int .u8 0),.lit (.int .u8 0),.lit (.int .u8 0),.lit (.int .u8 0),.lit (.int .u8 0),.lit (.int .u8 0),.lit (.int .u8 0),.lit (.int .u8 0),.lit (.int .u8 0),.lit (.int .u8 0),.lit (.int .u8 0),.lit (.int .u8 0),.lit (.int .u8 0),.lit (.int .u8 0),.lit (.int .u8 0),.lit (.int .u8 0),.lit (.int .u8 0)]:=rfl
theorem zr199:ZerOk Tryz.prog (199,.lit (.pointer none)):=fun v h=>by
  rw [show zeroT Tryz.prog 199=some (.pointer none) from by kernel_rfl] at h;cases h;exact .lit _
theorem zv199:zer 199= .lit (.pointer none):=rfl
theorem zr200:ZerOk Tryz.prog (200,.agg [.lit (.string ByteArray.empty)]):=fun v h=>by
  rw [show zeroT Tryz.prog 200=some (.agg #[(.string ByteArray.empty)]) from by kernel_rfl] at h;cases h
  exact zr_agg _ _ (zl_cons (.lit _) rfl (zl_nil))
theorem zv200:zer 200= .agg [.lit (.string ByteArray.empty)]:=rfl
theorem zr201:ZerOk Tryz.prog (201,.agg [.lit (.string ByteArray.empty)]):=fun v h=>by
  rw [show zeroT Tryz.prog 201=some (.agg #[(.string ByteArray.empty)]) from by kernel_rfl] at h;cases h
  exact zr_agg _ _ (zl_cons (.lit _) rfl (zl_nil))
theorem zv201:zer 201= .agg [.lit (.string ByteArray.empty)]:=rfl
theorem zr202:ZerOk Tryz.prog (202,.agg [.lit (.pointer none),.lit (.pointer none),.lit (.pointer none),.lit (.string ByteArray.empty)]):=fun v h=>by
  rw [show zeroT Tryz.prog 202=some (.agg #[(.pointer none),(.pointer none),(.pointer none),(.string ByteArray.empty)]) from by kernel_rfl] at h;cases h
  exact zr_agg _ _ (zl_cons (.lit _) rfl (zl_cons (.lit _) rfl (zl_cons (.lit _) rfl (zl_cons (.lit _) rfl (zl_nil)))))
theorem zv202:zer 202= .agg [.lit (.pointer none),.lit (.pointer none),.lit (.pointer none),.lit (.string ByteArray.empty)]:=rfl
theorem zr203:ZerOk Tryz.prog (203,.agg [.lit (.pointer none),.lit (.pointer none),.lit (.pointer none),.lit (.string ByteArray.empty)]):=fun v h=>by
  rw [show zeroT Tryz.prog 203=some (.agg #[(.pointer none),(.pointer none),(.pointer none),(.string ByteArray.empty)]) from by kernel_rfl] at h;cases h
  exact zr_agg _ _ (zl_cons (.lit _) rfl (zl_cons (.lit _) rfl (zl_cons (.lit _) rfl (zl_cons (.lit _) rfl (zl_nil)))))
theorem zv203:zer 203= .agg [.lit (.pointer none),.lit (.pointer none),.lit (.pointer none),.lit (.string ByteArray.empty)]:=rfl
theorem zr207:ZerOk Tryz.prog (207,.lit (.int .u8 0)):=fun v h=>by
  rw [show zeroT Tryz.prog 207=some (.int .u8 0) from by kernel_rfl] at h;cases h;exact .lit _
theorem zv207:zer 207= .lit (.int .u8 0):=rfl
theorem zr208:ZerOk Tryz.prog (208,.lit (.int .u8 0)):=fun v h=>by
  rw [show zeroT Tryz.prog 208=some (.int .u8 0) from by kernel_rfl] at h;cases h;exact .lit _
theorem zv208:zer 208= .lit (.int .u8 0):=rfl
theorem zr210:ZerOk Tryz.prog (210,.lit (.int .i32 0)):=fun v h=>by
  rw [show zeroT Tryz.prog 210=some (.int .i32 0) from by kernel_rfl] at h;cases h;exact .lit _
theorem zv210:zer 210= .lit (.int .i32 0):=rfl
theorem zr211:ZerOk Tryz.prog (211,.lit (.int .i32 0)):=fun v h=>by
  rw [show zeroT Tryz.prog 211=some (.int .i32 0) from by kernel_rfl] at h;cases h;exact .lit _
theorem zv211:zer 211= .lit (.int .i32 0):=rfl
theorem zr212:ZerOk Tryz.prog (212,.agg [.lit (.int .u64 0),.lit (.int .u64 0),.lit (.int .u32 0),.lit (.int .u8 0),.lit (.int .u8 0),.lit (.int .u8 0),.lit (.int .u8 0),.lit .nilFunc,.lit (.pointer none),.lit (.int .i32 0),.lit (.int .i32 0)]):=fun v h=>by
  rw [show zeroT Tryz.prog 212=some (.agg #[(.int .u64 0),(.int .u64 0),(.int .u32 0),(.int .u8 0),(.int .u8 0),(.int .u8 0),(.int .u8 0),.nilFunc,(.pointer none),(.int .i32 0),(.int .i32 0)]) from by kernel_rfl] at h;cases h
  exact zr_agg _ _ (zl_cons (.lit _) rfl (zl_cons (.lit _) rfl (zl_cons (.lit _) rfl (zl_cons (.lit _) rfl (zl_cons (.lit _) rfl (zl_cons (.lit _) rfl (zl_cons (.lit _) rfl (zl_cons (.lit _) rfl (zl_cons (.lit _) rfl (zl_cons (.lit _) rfl (zl_cons (.lit _) rfl (zl_nil))))))))))))
theorem zv212:zer 212= .agg [.lit (.int .u64 0),.lit (.int .u64 0),.lit (.int .u32 0),.lit (.int .u8 0),.lit (.int .u8 0),.lit (.int .u8 0),.lit (.int .u8 0),.lit .nilFunc,.lit (.pointer none),.lit (.int .i32 0),.lit (.int .i32 0)]:=rfl
theorem zr213:ZerOk Tryz.prog (213,.agg [.lit (.int .u64 0),.lit (.int .u64 0),.lit (.int .u32 0),.lit (.int .u8 0),.lit (.int .u8 0),.lit (.int .u8 0),.lit (.int .u8 0),.lit .nilFunc,.lit (.pointer none),.lit (.int .i32 0),.lit (.int .i32 0)]):=fun v h=>by
  rw [show zeroT Tryz.prog 213=some (.agg #[(.int .u64 0),(.int .u64 0),(.int .u32 0),(.int .u8 0),(.int .u8 0),(.int .u8 0),(.int .u8 0),.nilFunc,(.pointer none),(.int .i32 0),(.int .i32 0)]) from by kernel_rfl] at h;cases h
  exact zr_agg _ _ (zl_cons (.lit _) rfl (zl_cons (.lit _) rfl (zl_cons (.lit _) rfl (zl_cons (.lit _) rfl (zl_cons (.lit _) rfl (zl_cons (.lit _) rfl (zl_cons (.lit _) rfl (zl_cons (.lit _) rfl (zl_cons (.lit _) rfl (zl_cons (.lit _) rfl (zl_cons (.lit _) rfl (zl_nil))))))))))))
theorem zv213:zer 213= .agg [.lit (.int .u64 0),.lit (.int .u64 0),.lit (.int .u32 0),.lit (.int .u8 0),.lit (.int .u8 0),.lit (.int .u8 0),.lit (.int .u8 0),.lit .nilFunc,.lit (.pointer none),.lit (.int .i32 0),.lit (.int .i32 0)]:=rfl
theorem zer_ok:∀ t v,zeroT Tryz.prog t=some v→RC (fun _ _=>none) (zer t) v:=zer_sound zerL (zs_cons zr2 (zs_cons zr3 (zs_cons zr4 (zs_cons zr5 (zs_cons zr6 (zs_cons zr7 (zs_cons zr8 (zs_cons zr9 (zs_cons zr10 (zs_cons zr11 (zs_cons zr12 (zs_cons zr13 (zs_cons zr14 (zs_cons zr15 (zs_cons zr16 (zs_cons zr17 (zs_cons zr18 (zs_cons zr19 (zs_cons zr21 (zs_cons zr22 (zs_cons zr23 (zs_cons zr24 (zs_cons zr25 (zs_cons zr26 (zs_cons zr27 (zs_cons zr30 (zs_cons zr46 (zs_cons zr49 (zs_cons zr50 (zs_cons zr52 (zs_cons zr53 (zs_cons zr57 (zs_cons zr58 (zs_cons zr61 (zs_cons zr62 (zs_cons zr63 (zs_cons zr71 (zs_cons zr72 (zs_cons zr78 (zs_cons zr79 (zs_cons zr80 (zs_cons zr92 (zs_cons zr95 (zs_cons zr110 (zs_cons zr111 (zs_cons zr114 (zs_cons zr117 (zs_cons zr119 (zs_cons zr131 (zs_cons zr136 (zs_cons zr146 (zs_cons zr148 (zs_cons zr149 (zs_cons zr151 (zs_cons zr152 (zs_cons zr153 (zs_cons zr161 (zs_cons zr166 (zs_cons zr172 (zs_cons zr173 (zs_cons zr178 (zs_cons zr181 (zs_cons zr189 (zs_cons zr190 (zs_cons zr192 (zs_cons zr193 (zs_cons zr195 (zs_cons zr196 (zs_cons zr197 (zs_cons zr199 (zs_cons zr200 (zs_cons zr201 (zs_cons zr202 (zs_cons zr203 (zs_cons zr207 (zs_cons zr208 (zs_cons zr210 (zs_cons zr211 (zs_cons zr212 (zs_cons zr213 (zs_nil)))))))))))))))))))))))))))))))))))))))))))))))))))))))))))))))))))))))))))))))))
theorem mixed:Tryz.prog.follows .mixedOrders=true:=by kernel_rfl
theorem fk6:fok Tryz.prog 6=true:=by kernel_rfl
theorem fk14:fok Tryz.prog 14=true:=by kernel_rfl
theorem fk16:fok Tryz.prog 16=true:=by kernel_rfl
theorem fk17:fok Tryz.prog 17=true:=by kernel_rfl
theorem fk18:fok Tryz.prog 18=true:=by kernel_rfl
theorem fk19:fok Tryz.prog 19=true:=by kernel_rfl
theorem fk20:fok Tryz.prog 20=true:=by kernel_rfl
theorem fk21:fok Tryz.prog 21=true:=by kernel_rfl
theorem fk22:fok Tryz.prog 22=true:=by kernel_rfl
theorem fk23:fok Tryz.prog 23=true:=by kernel_rfl
theorem fk26:fok Tryz.prog 26=true:=by kernel_rfl
theorem fk35:fok Tryz.prog 35=true:=by kernel_rfl
theorem fk41:fok Tryz.prog 41=true:=by kernel_rfl
theorem fk43:fok Tryz.prog 43=true:=by kernel_rfl
theorem fk44:fok Tryz.prog 44=true:=by kernel_rfl
theorem fk45:fok Tryz.prog 45=true:=by kernel_rfl
theorem fk48:fok Tryz.prog 48=true:=by kernel_rfl
theorem fk50:fok Tryz.prog 50=true:=by kernel_rfl
theorem fk51:fok Tryz.prog 51=true:=by kernel_rfl
theorem fk52:fok Tryz.prog 52=true:=by kernel_rfl
theorem fk53:fok Tryz.prog 53=true:=by kernel_rfl
theorem fk54:fok Tryz.prog 54=true:=by kernel_rfl
theorem fk58:fok Tryz.prog 58=true:=by kernel_rfl
theorem fk71:fok Tryz.prog 71=true:=by kernel_rfl
theorem fk75:fok Tryz.prog 75=true:=by kernel_rfl
theorem fk76:fok Tryz.prog 76=true:=by kernel_rfl
theorem fk77:fok Tryz.prog 77=true:=by kernel_rfl
theorem fk78:fok Tryz.prog 78=true:=by kernel_rfl
theorem fk79:fok Tryz.prog 79=true:=by kernel_rfl
theorem fk81:fok Tryz.prog 81=true:=by kernel_rfl
theorem fk82:fok Tryz.prog 82=true:=by kernel_rfl
theorem fk83:fok Tryz.prog 83=true:=by kernel_rfl
theorem fk84:fok Tryz.prog 84=true:=by kernel_rfl
theorem fk85:fok Tryz.prog 85=true:=by kernel_rfl
theorem fk86:fok Tryz.prog 86=true:=by kernel_rfl
theorem fk87:fok Tryz.prog 87=true:=by kernel_rfl
theorem fk90:fok Tryz.prog 90=true:=by kernel_rfl
theorem fk91:fok Tryz.prog 91=true:=by kernel_rfl
theorem fk98:fok Tryz.prog 98=true:=by kernel_rfl
theorem fk100:fok Tryz.prog 100=true:=by kernel_rfl
theorem fk101:fok Tryz.prog 101=true:=by kernel_rfl
theorem fk105:fok Tryz.prog 105=true:=by kernel_rfl
theorem fk106:fok Tryz.prog 106=true:=by kernel_rfl
theorem fk107:fok Tryz.prog 107=true:=by kernel_rfl
theorem fk108:fok Tryz.prog 108=true:=by kernel_rfl
theorem fk109:fok Tryz.prog 109=true:=by kernel_rfl
theorem fk110:fok Tryz.prog 110=true:=by kernel_rfl
theorem fk111:fok Tryz.prog 111=true:=by kernel_rfl
theorem fk112:fok Tryz.prog 112=true:=by kernel_rfl
theorem fk113:fok Tryz.prog 113=true:=by kernel_rfl
theorem fk116:fok Tryz.prog 116=true:=by kernel_rfl
theorem fk120:fok Tryz.prog 120=true:=by kernel_rfl
theorem fk131:fok Tryz.prog 131=true:=by kernel_rfl
theorem fk132:fok Tryz.prog 132=true:=by kernel_rfl
theorem fk135:fok Tryz.prog 135=true:=by kernel_rfl
theorem fk149:fok Tryz.prog 149=true:=by kernel_rfl
attribute [go_sem] u2 sz2 by2 ag2 so2 iz2 zk2 iu2 u3 sz3 by3 ag3 so3 iz3 zk3 iu3 u4 sz4 by4 ag4 so4 iz4 zk4 iu4 u5 sz5 by5 ag5 so5 iz5 zk5 iu5 u6 sz6 by6 ag6 so6 iz6 zk6 iu6 sz7 by7 ag7 so7 fl7_0 fl7_1 fl7_2 fl7_3 se7 iz7 zk7 iu7 sz8 by8 ag8 so8 fl8_0 fl8_1 fl8_2 fl8_3 se8 iz8 zk8 iu8 u9 sz9 by9 ag9 so9 iz9 zk9 iu9 u10 sz10 by10 ag10 so10 iz10 zk10 iu10 u11 sz11 by11 ag11 so11 iz11 zk11 iu11 u12 sz12 by12 ag12 so12 iz12 zk12 iu12 sz13 by13 ag13 so13 fl13_0 fl13_1 iz13 zk13 iu13 sz14 by14 ag14 so14 fl14_0 fl14_1 iz14 zk14 iu14 u15 sz15 by15 ag15 so15 iz15 zk15 iu15 u16 sz16 by16 ag16 so16 iz16 zk16 iu16 u17 sz17 by17 ag17 so17 iz17 zk17 iu17 sz18 by18 ag18 so18 fl18_0 iz18 zk18 iu18 sz19 by19 ag19 so19 fl19_0 iz19 zk19 iu19 u21 sz21 by21 ag21 so21 iz21 zk21 iu21 u22 sz22 by22 ag22 so22 iz22 zk22 iu22 ap22 u23 sz23 by23 ag23 so23 iz23 zk23 iu23 ap23 u24 sz24 by24 ag24 so24 iz24 zk24 iu24 ap24 sz25 by25 ag25 so25 fl25_0 fl25_1 fl25_2 fl25_3 fl25_4 fl25_5 iz25 zk25 iu25 sz26 by26 ag26 so26 fl26_0 fl26_1 fl26_2 fl26_3 fl26_4 fl26_5 iz26 zk26 iu26 u27 sz27 by27 ag27 so27 iz27 zk27 iu27 ap27 aps27 u30 sz30 by30 ag30 so30 iz30 zk30 iu30 u46 sz46 by46 ag46 so46 iz46 zk46 iu46 ap46 sz49 by49 ag49 so49 fl49_0 fl49_1 fl49_2 fl49_3 fl49_4 fl49_5 se49 iz49 zk49 iu49 sz50 by50 ag50 so50 fl50_0 fl50_1 fl50_2 fl50_3 fl50_4 fl50_5 se50 iz50 zk50 iu50 sz52 by52 ag52 so52 fl52_0 fl52_1 fl52_2 iz52 zk52 iu52 sz53 by53 ag53 so53 fl53_0 fl53_1 fl53_2 iz53 zk53 iu53 sz57 by57 ag57 so57 fl57_0 fl57_1 se57 iz57 zk57 iu57 sz58 by58 ag58 so58 fl58_0 fl58_1 se58 iz58 zk58 iu58 u61 sz61 by61 ag61 so61 iz61 zk61 iu61 sz62 by62 ag62 so62 fl62_0 fl62_1 iz62 zk62 iu62 sz63 by63 ag63 so63 fl63_0 fl63_1 iz63 zk63 iu63 u71 sz71 by71 ag71 so71 iz71 zk71 iu71 sz72 by72 ag72 so72 fl72_0 fl72_1 iz72 zk72 iu72 u78 sz78 by78 ag78 so78 iz78 zk78 iu78 sz79 by79 ag79 so79 fl79_0 fl79_1 iz79 zk79 iu79 sz80 by80 ag80 so80 fl80_0 fl80_1 iz80 zk80 iu80 u92 sz92 by92 ag92 so92 iz92 zk92 iu92 ap92 u95 sz95 by95 ag95 so95 iz95 zk95 iu95 sz110 by110 ag110 so110 fl110_0 fl110_1 fl110_2 fl110_3 iz110 zk110 iu110 sz111 by111 ag111 so111 fl111_0 fl111_1 fl111_2 fl111_3 iz111 zk111 iu111 u114 sz114 by114 ag114 so114 iz114 zk114 iu114 u117 sz117 by117 ag117 so117 iz117 zk117 iu117 ap117 u119 sz119 by119 ag119 so119 iz119 zk119 iu119 sz122 by122 ag122 so122 iz122 zk122 iu122 sz123 by123 ag123 so123 iz123 zk123 iu123 u131 sz131 by131 ag131 so131 iz131 zk131 iu131 u136 sz136 by136 ag136 so136 iz136 zk136 iu136 u146 sz146 by146 ag146 so146 iz146 zk146 iu146 ap146 u148 sz148 by148 ag148 so148 iz148 zk148 iu148 ap148 u149 sz149 by149 ag149 so149 iz149 zk149 iu149 sz151 by151 ag151 so151 fl151_0 fl151_1 fl151_2 iz151 zk151 iu151 sz152 by152 ag152 so152 fl152_0 fl152_1 fl152_2 iz152 zk152 iu152 u153 sz153 by153 ag153 so153 iz153 zk153 iu153 u161 sz161 by161 ag161 so161 iz161 zk161 iu161 u166 sz166 by166 ag166 so166 iz166 zk166 iu166 u172 sz172 by172 ag172 so172 iz172 zk172 iu172 u173 sz173 by173 ag173 so173 iz173 zk173 iu173 u178 sz178 by178 ag178 so178 iz178 zk178 iu178 u181 sz181 by181 ag181 so181 iz181 zk181 iu181 sz189 by189 ag189 so189 fl189_0 fl189_1 fl189_2 iz189 zk189 iu189 sz190 by190 ag190 so190 fl190_0 fl190_1 fl190_2 iz190 zk190 iu190 u192 sz192 by192 ag192 so192 iz192 zk192 iu192 u193 sz193 by193 ag193 so193 iz193 zk193 iu193 sz195 by195 ag195 so195 fl195_0 fl195_1 se195 iz195 zk195 iu195 sz196 by196 ag196 so196 fl196_0 fl196_1 se196 iz196 zk196 iu196 u197 sz197 by197 ag197 so197 iz197 zk197 iu197 u199 sz199 by199 ag199 so199 iz199 zk199 iu199 sz200 by200 ag200 so200 fl200_0 se200 iz200 zk200 iu200 sz201 by201 ag201 so201 fl201_0 se201 iz201 zk201 iu201 sz202 by202 ag202 so202 fl202_0 fl202_1 fl202_2 fl202_3 iz202 zk202 iu202 sz203 by203 ag203 so203 fl203_0 fl203_1 fl203_2 fl203_3 iz203 zk203 iu203 u204 sz204 by204 ag204 so204 iz204 zk204 iu204 sz205 by205 ag205 so205 fl205_0 iz205 zk205 iu205 sz206 by206 ag206 so206 fl206_0 iz206 zk206 iu206 u207 sz207 by207 ag207 so207 iz207 zk207 iu207 u208 sz208 by208 ag208 so208 iz208 zk208 iu208 u210 sz210 by210 ag210 so210 iz210 zk210 iu210 u211 sz211 by211 ag211 so211 iz211 zk211 iu211 sz212 by212 ag212 so212 fl212_0 fl212_1 fl212_2 fl212_3 fl212_4 fl212_5 fl212_6 fl212_7 fl212_8 fl212_9 fl212_10 iz212 zk212 iu212 sz213 by213 ag213 so213 fl213_0 fl213_1 fl213_2 fl213_3 fl213_4 fl213_5 fl213_6 fl213_7 fl213_8 fl213_9 fl213_10 iz213 zk213 iu213 if20 if81 if82 zv2 zv3 zv4 zv5 zv6 zv7 zv8 zv9 zv10 zv11 zv12 zv13 zv14 zv15 zv16 zv17 zv18 zv19 zv21 zv22 zv23 zv24 zv25 zv26 zv27 zv30 zv46 zv49 zv50 zv52 zv53 zv57 zv58 zv61 zv62 zv63 zv71 zv72 zv78 zv79 zv80 zv92 zv95 zv110 zv111 zv114 zv117 zv119 zv131 zv136 zv146 zv148 zv149 zv151 zv152 zv153 zv161 zv166 zv172 zv173 zv178 zv181 zv189 zv190 zv192 zv193 zv195 zv196 zv197 zv199 zv200 zv201 zv202 zv203 zv207 zv208 zv210 zv211 zv212 zv213
end Go.Proofs.YtohiagaclfaolaaGreatDoor

namespace Go.Proofs.YtohiagaclfaolaaGreatDoor
def kp5 (i:Nat):List Nat:=if i<8 then if i<4 then if i<2 then if i<1 then [0,1] else [0,1,21] else if i<3 then [4] else [0,1,29] else if i<6 then if i<5 then [4] else [0,1,5,6] else if i<7 then [0,1,5,6,7,8] else [0,1,5,6,47] else if i<12 then if i<10 then if i<9 then [4] else [0,1,6,9,11] else if i<11 then [1,65] else [4] else if i<14 then if i<13 then [1,12,13,14] else [1,12,13,14,15,16,17] else if i<15 then [1,12,13,14,15,16,17,18,19] else [4]
def kp6 (i:Nat):List Nat:=if i<2 then if i<1 then [] else [1,2,3] else if i<3 then [1,2,3,4,5] else if i<4 then [1,2,3,4,5,7] else [0]
def kp14 (i:Nat):List Nat:=if i<7 then if i<3 then if i<1 then [1] else if i<2 then [1,39] else [2] else if i<5 then if i<4 then [1,4] else [1,53] else if i<6 then [2] else [1,59,60,61] else if i<10 then if i<8 then [1,59,60,61,62] else if i<9 then [1,5,6,59,60,61] else [1,6,7,8,59,60,61] else if i<12 then if i<11 then [1,59,60,61,96] else [2] else if i<13 then [1,59,60,61] else [2]
def kp16 (i:Nat):List Nat:=if i<3 then if i<1 then [0,1] else if i<2 then [0,1,5] else [0,1,5,9] else if i<5 then if i<4 then [0,1,5] else [0,1,5,18] else if i<6 then [4] else [4]
def kp18 (i:Nat):List Nat:=if i<7 then if i<3 then if i<1 then [0] else if i<2 then [0,4] else [0,4,10] else if i<5 then if i<4 then [0,4] else [0,4,18] else if i<6 then [2,3] else [0,21] else if i<10 then if i<8 then [2,3] else if i<9 then [0,5] else [0,5,6] else if i<12 then if i<11 then [0,5,6,25] else [0,5,6] else if i<13 then [0,5,6] else [2,3]
def kp19 (i:Nat):List Nat:=if i<5 then if i<2 then if i<1 then [0,2] else [0,2,11] else if i<3 then [0,2,14] else if i<4 then [2,3,4] else [2,5,6,7] else if i<7 then if i<6 then [2,6,7,8,9] else [2,6,8,31] else if i<8 then [2,3,4] else if i<9 then [0,2] else [2,3,4]
def kp20 (i:Nat):List Nat:=if i<4 then if i<2 then if i<1 then [0,1] else [0,1,10] else if i<3 then [4] else [0,1,5] else if i<6 then if i<5 then [0,1,5,14] else [0,1,5] else if i<7 then [0,1,5,25] else if i<8 then [4] else [4]
def kp21 (i:Nat):List Nat:=if i<6 then if i<3 then if i<1 then [0,2] else if i<2 then [0,2,9] else [0,2,5] else if i<4 then [0,2,5,19] else if i<5 then [0,2,5] else [0,2,5,6,7] else if i<9 then if i<7 then [0,2,5,6,36] else if i<8 then [2,3,4] else [0,2,5,6,41] else if i<11 then if i<10 then [2,3,4] else [0,2,5] else if i<12 then [0,2] else [2,3,4]
def kp22 (i:Nat):List Nat:=if i<13 then if i<6 then if i<3 then if i<1 then [0] else if i<2 then [0,11] else [2,3] else if i<4 then [0,4,5] else if i<5 then [0,4,5,12,13,14] else [0,4,5,12,13,14,15] else if i<9 then if i<7 then [0,4,5,6,7,12,13,14] else if i<8 then [0,4,5,6,7,12,13,14] else [0,4,5,6,7,8,12,13,14] else if i<11 then if i<10 then [0,4,5,6,7,8,12,13,14,27] else [0,4,5,6,7,8,12,13,14,27,28] else if i<12 then [0,4,5,6,7,8,12,13,14,27,28] else [0,4,5,12,13,14] else if i<20 then if i<16 then if i<14 then [0,4,5,12,13,14,37] else if i<15 then [2,3] else [0,4,5,6,7,8,12,13,14,27,38] else if i<18 then if i<17 then [0,4,5,6,7,8,12,13,14,38] else [0,4,5,6,7,8,12,13,14,58] else if i<19 then [2,3] else [0,4,5,6,7,8,12,13,14] else if i<23 then if i<21 then [0,4,5,6,7,12,13,14] else if i<22 then [0,4,5,6,12,13,14,71] else [0,4,5,12,13,14] else if i<25 then if i<24 then [0,4,5,12,13,14] else [4,79] else if i<26 then [2,3] else [2,3]
def kp26 (i:Nat):List Nat:=if i<8 then if i<4 then if i<2 then if i<1 then [0] else [0,3] else if i<3 then [0,3,9,10,11] else [0,3,9,10,11,12] else if i<6 then if i<5 then [0,3,5,9,10,11] else [0,3,9,10,11] else if i<7 then [0,3,9,10,11,20] else [0,3,9,10,11] else if i<12 then if i<10 then if i<9 then [0,3,9,10,11] else [0,6] else if i<11 then [6,25,26,27] else [6,25,26,27,28] else if i<14 then if i<13 then [6,8,25,26,27] else [6,25,26,27] else if i<15 then [6,25,26,27] else [2]
def kp35 (i:Nat):List Nat:=if i<1 then [1] else if i<2 then [1,4,5] else [2,3]
def kp43 (i:Nat):List Nat:=if i<1 then [0,1] else [4]
def kp44 (i:Nat):List Nat:=if i<1 then [1,2] else [3]
def kp45 (i:Nat):List Nat:=if i<5 then if i<2 then if i<1 then [1,2] else [1,2,5,6] else if i<3 then [1,2,5,25] else if i<4 then [4] else [1,5,27,28] else if i<8 then if i<6 then [1,5,27,28,29] else if i<7 then [1,5,7,8,27,28] else [1,5,27,28,58] else if i<9 then [4] else if i<10 then [1,5,27,28] else [4]
def kp48 (i:Nat):List Nat:=if i<7 then if i<3 then if i<1 then [1] else if i<2 then [1,3] else [1,3,5] else if i<5 then if i<4 then [1,3,5,19] else [1,3,5] else if i<6 then [1,5,26,27,28] else [1,5,26,27,28,29] else if i<10 then if i<8 then [1,5,6,7,26,27,28] else if i<9 then [1,5,7,8,26,27,28] else [1,5,8,26,27,28,39] else if i<12 then if i<11 then [1,5,8,26,27,28] else [1,5,26,27,28] else if i<13 then [1,5,26,27,28] else [2]
def kp50 (i:Nat):List Nat:=if i<12 then if i<6 then if i<3 then if i<1 then [1,2] else if i<2 then [1,2,5,6] else [1,2,5,25] else if i<4 then [4] else if i<5 then [1,2,5,7] else [1,2,5,7,8] else if i<9 then if i<7 then [1,2,5,7,8,29] else if i<8 then [1,2,5,7,8] else [1,2,5,7,8,32] else if i<10 then [1,2,5,7,8,40] else if i<11 then [4] else [1,2,5,7,8,41] else if i<18 then if i<15 then if i<13 then [1,2,5,7,8,56] else if i<14 then [4] else [2,58] else if i<16 then [2,58,59] else if i<17 then [4] else [2,58,69] else if i<21 then if i<19 then [4] else if i<20 then [2,58,79] else [4] else if i<22 then [2,89] else if i<23 then [4] else [4]
def kp51 (i:Nat):List Nat:=if i<7 then if i<3 then if i<1 then [1] else if i<2 then [1,3] else [1,3,13] else if i<5 then if i<4 then [1,3] else [1,3,4] else if i<6 then [3,4,6] else [3,4,6,7] else if i<10 then if i<8 then [3,4,6,7,29] else if i<9 then [3,4,6,7] else [3,4,6,7] else if i<12 then if i<11 then [3,4,6,7,37] else [3,4,6,7] else if i<13 then [3,4,6,7] else [2]
def kp52 (i:Nat):List Nat:=if i<1 then [0,1] else [4,5,6]
def kp54 (i:Nat):List Nat:=if i<12 then if i<6 then if i<3 then if i<1 then [0,2] else if i<2 then [0,2,4] else [0,2,4,5] else if i<4 then [0,2,4,5,6] else if i<5 then [0,2,4,5,6,15] else [0,2,4,5,6] else if i<9 then if i<7 then [0,2,4,5,6,23] else if i<8 then [0,2,4,5,6] else [0,2,4,5] else if i<10 then [0,2,4,5,35] else if i<11 then [0,2,4,5] else [0,2,4,5,7,8] else if i<18 then if i<15 then if i<13 then [0,2,4,5,7,55] else if i<14 then [2,3] else [0,2,4,5,7,9] else if i<16 then [0,2,4,5,7,9,10] else if i<17 then [0,2,4,5,7,9,10,60] else [0,2,4,5,7,9,10] else if i<21 then if i<19 then [0,2,4,5,7,9,10,11] else if i<20 then [0,2,4,5,7,9,10,11,75] else [0,2,4,5,7,9,10,11] else if i<22 then [0,2,4,5,7,9,10] else if i<23 then [0,2,5] else [2,3]
def kp75 (i:Nat):List Nat:=if i<4 then if i<2 then if i<1 then [0,1] else [0,1,7,8] else if i<3 then [0,1,7,8,9] else [0,1,5,7,8] else if i<6 then if i<5 then [0,1,5,7,8,16] else [4] else if i<7 then [0,1,7,8] else [4]
def kp76 (i:Nat):List Nat:=if i<6 then if i<3 then if i<1 then [1,2] else if i<2 then [1,2,16] else [2,3] else if i<4 then [1,2,4] else if i<5 then [1,2,4,24] else [2,3] else if i<9 then if i<7 then [2,4,5,7] else if i<8 then [2,4,7,34,35] else [2,4,7,34,35,36] else if i<11 then if i<10 then [2,4,7,8,34,35] else [2,4,7,34,35] else if i<12 then [2,4,7,34,35] else [2,3]
def kp77 (i:Nat):List Nat:=if i<1 then [1,2] else [2]
def kp78 (i:Nat):List Nat:=if i<5 then if i<2 then if i<1 then [0,1,2] else [1,2,7] else if i<3 then [1,2,7,8] else if i<4 then [6] else [1,7,17] else if i<8 then if i<6 then [6] else if i<7 then [1,7,25] else [6] else if i<9 then [1,33] else if i<10 then [6] else [6]
def kp79 (i:Nat):List Nat:=if i<14 then if i<7 then if i<3 then if i<1 then [0] else if i<2 then [0,9] else [2,3] else if i<5 then if i<4 then [0,4] else [0,4,5] else if i<6 then [0,4,5,6] else [0,4,5,6,16] else if i<10 then if i<8 then [0,4,5,6] else if i<9 then [0,4,5,6] else [0,4,5,6,27] else if i<12 then if i<11 then [0,4,5,6,27,28] else [0,4,5,6,27,28] else if i<13 then [0,4,5,6,33] else [2,3] else if i<21 then if i<17 then if i<15 then [0,4,5,6] else if i<16 then [0,4,5,6,27,38] else [0,4,5,6,55] else if i<19 then if i<18 then [2,3] else [0,4,5,6] else if i<20 then [0,4,5,6] else [0,4,5,6,71] else if i<24 then if i<22 then [0,4,5,6,75] else if i<23 then [2,3] else [0,4,5,6] else if i<26 then if i<25 then [0,4,5,6] else [4,92] else if i<27 then [2,3] else [2,3]
def kp83 (i:Nat):List Nat:=if i<14 then if i<7 then if i<3 then if i<1 then [1] else if i<2 then [1,8] else [1,8,9] else if i<5 then if i<4 then [2,3] else [1,8,11] else if i<6 then [2,3] else [1,8,13] else if i<10 then if i<8 then [1,8,13] else if i<9 then [2,3] else [1,8,16] else if i<12 then if i<11 then [4,6] else [2,3] else if i<13 then [8,31] else [8,31] else if i<21 then if i<17 then if i<15 then [8,31] else if i<16 then [2,3] else [8,35] else if i<19 then if i<18 then [8,35] else [2,3] else if i<20 then [8,38] else [2,3] else if i<24 then if i<22 then [8,40] else if i<23 then [2,3] else [8,42] else if i<26 then if i<25 then [8,42] else [42] else if i<27 then [2,3] else [2,3]
def kp84 (i:Nat):List Nat:=if i<1 then [1,2] else [2]
def kp85 (i:Nat):List Nat:=if i<1 then [0] else [2]
def kp86 (i:Nat):List Nat:=if i<3 then if i<1 then [0] else if i<2 then [0,5] else [2] else if i<5 then if i<4 then [0,3] else [0,3,17] else if i<6 then [2] else [2]
def kp87 (i:Nat):List Nat:=if i<2 then if i<1 then [0,1] else [0,1,7] else if i<3 then [0,1,7,12] else if i<4 then [4,5,6] else [4,5,6]
def kp89 (i:Nat):List Nat:=if i<10 then if i<5 then if i<2 then if i<1 then [0,2] else [0,2,3] else if i<3 then [0,2,3,4] else if i<4 then [0,2,3,5] else [0,2,3,5,17] else if i<7 then if i<6 then [0,2,3,5] else [0,2,3,5,6] else if i<8 then [0,2,5,6,7] else if i<9 then [0,2,6,7,30] else [0,2,6,7] else if i<15 then if i<12 then if i<11 then [0,2,6,7,39] else [0,2,6,7] else if i<13 then [0,2,6,7,49,50,51] else if i<14 then [0,2,6,7,49,50,51,52] else [0,2,6,7,8,9,49,50,51] else if i<17 then if i<16 then [0,2,6,7,49,50,51] else [0,2,6,7,49,50,51] else if i<18 then [2,6,72] else if i<19 then [2,6] else [2]
def kp90 (i:Nat):List Nat:=if i<5 then if i<2 then if i<1 then [0] else [0,3] else if i<3 then [0,3,4] else if i<4 then [0,3,4,5] else [0,3,4,5,9] else if i<7 then if i<6 then [0,3,4,5] else [0,3,4,5,21] else if i<8 then [0,3,5] else if i<9 then [0,3,4,5] else [2]
def kp91 (i:Nat):List Nat:=if i<6 then if i<3 then if i<1 then [0] else if i<2 then [0,3,4] else [0,3,4,13] else if i<4 then [0,3,4] else if i<5 then [0,3,4,18] else [2] else if i<9 then if i<7 then [0,3,4,5] else if i<8 then [0,3,4,5,22] else [0,3,4,5] else if i<11 then if i<10 then [0,3,4,5,34] else [2] else if i<12 then [0,3,4,5] else [2]
def kp100 (i:Nat):List Nat:=if i<1 then [0] else [0]
def kp106 (i:Nat):List Nat:=if i<18 then if i<9 then if i<4 then if i<2 then if i<1 then [0,1] else [0,1,5] else if i<3 then [0,1,5,16] else [4] else if i<6 then if i<5 then [0,1,5,24] else [4] else if i<7 then [0,1,5,31] else if i<8 then [4] else [0,1,5,36] else if i<13 then if i<11 then if i<10 then [4] else [0,1,5,6] else if i<12 then [0,1,5,6,7] else [0,1,5,6,7,8] else if i<15 then if i<14 then [0,1,5,6,7,8,9] else [0,1,5,6,7,8,9,10] else if i<16 then [0,1,5,6,7,8,9,10,59] else if i<17 then [0,1,5,6,7,8,9,10,64] else [0,1,5,6,7,8,9,10,11] else if i<27 then if i<22 then if i<20 then if i<19 then [0,1,5,6,7,8,9,10,11,73] else [4] else if i<21 then [0,1,5,6,7,8,9,10] else [0,1,5,6,7,8,9,10,93] else if i<24 then if i<23 then [4] else [0,1,5,6,7,8,9,10] else if i<25 then [0,1,5,6,7,8,9,10] else if i<26 then [0,1,5,6,7,8,9,10,107] else [8,12] else if i<31 then if i<29 then if i<28 then [8,12,114] else [4] else if i<30 then [4] else [0,1,5,6,7,8,9,10,132] else if i<33 then if i<32 then [8,13] else [8,13,139] else if i<34 then [4] else if i<35 then [4] else [4]
def kp107 (i:Nat):List Nat:=if i<1 then [0,1] else [4]
def kp108 (i:Nat):List Nat:=if i<4 then if i<2 then if i<1 then [0,1] else [0,1,7,8] else if i<3 then [0,1,7,8,9] else [0,1,5,7,8] else if i<6 then if i<5 then [0,1,5,7,8,16] else [4] else if i<7 then [0,1,7,8] else [4]
def kp109 (i:Nat):List Nat:=if i<1 then [1,2] else [3]
def kp116 (i:Nat):List Nat:=if i<1 then [0,1] else [4]
def kp120 (i:Nat):List Nat:=if i<9 then if i<4 then if i<2 then if i<1 then [0,1,2,3] else [0,1,2,3,13] else if i<3 then [8] else [0,1,2,3,15] else if i<6 then if i<5 then [8] else [0,1,2,3,20] else if i<7 then [0,1,2,3] else if i<8 then [0,1,2,3] else [0,1,2,3,9] else if i<14 then if i<11 then if i<10 then [0,1,2,3,9] else [0,1,2,3,9,10] else if i<12 then [0,1,2,3,9,10,36] else if i<13 then [0,1,2,3,9,10,11] else [0,1,2,3,9,10,11,41] else if i<16 then if i<15 then [0,1,2,3,9,10,11] else [0,1,2,3,9,10] else if i<17 then [0,1,2,3,9,10] else if i<18 then [9,10] else [8]
def kp122 (i:Nat):List Nat:=if i<1 then [0,1] else [4]
def kp131 (i:Nat):List Nat:=if i<5 then if i<2 then if i<1 then [0,1] else [0,1,9] else if i<3 then [4] else if i<4 then [0,1,15] else [4] else if i<8 then if i<6 then [0,1,5] else if i<7 then [0,1,5,6] else [0,1,5,6,24] else if i<9 then [4] else if i<10 then [0,1,5,6] else [0,1,5]
def kp132 (i:Nat):List Nat:=if i<1 then [0,1] else [4]
def kp135 (i:Nat):List Nat:=if i<2 then if i<1 then [0,1] else [0,1,7] else if i<3 then [4] else [4]
def kp149 (i:Nat):List Nat:=if i<1 then [0,1] else [4]
end Go.Proofs.YtohiagaclfaolaaGreatDoor

namespace Go.Proofs.YtohiagaclfaolaaGreatDoor
open Go Go.Fw
set_option maxRecDepth 20000
def sInt:ByteArray:=⟨#[105,110,116]⟩
def sBool:ByteArray:=⟨#[98,111,111,108]⟩
def badD (d:Int):Bool:=decide (d<0)||decide (d>4096)
def prodS:List Int→Int→Int×Int
  |[],n=>(n,0)
  |d::t,n=>if n*d>4096 then (0,3) else prodS t (n*d)
def sizeS (l:List Int):Int×Int:=if l.length>6 then (0,13) else if l.any badD=true then (0,2) else if l.any (fun d=>0==d)=true then (0,0) else prodS l 1
structure Arr where
  e:ByteArray
  d:List Int
  x:List Int
def arrV (a:Arr):AV:= .agg [.lit (.string a.e),.sl false 1 (ints .i64 a.d),.sl false 1 (ints .i64 a.x)]
def nilA:Arr:=⟨⟨#[]⟩,[],[]⟩
instance:Inhabited Arr:=⟨nilA⟩
def arrs (l:List Arr):List AV:=l.map arrV
theorem prodS_bd {l:List Int} {n:Int} (hl:∀ d∈l,0≤d∧d≤4096) (hn:0≤n∧n≤4096):0≤(prodS l n).1∧(prodS l n).1≤4096:=by
  induction l generalizing n with
  |nil=>exact hn
  |cons d t ih=>
   unfold prodS
   split
   ·exact ⟨by decide,by decide⟩
   ·rename_i h
    have h1:=hl d (by simp)
    exact ih (fun x hx=>hl x (by simp [hx])) ⟨Int.mul_nonneg hn.1 h1.1,by omega⟩
theorem bad_no {l:List Int} (h: ¬ l.any badD=true):∀ d∈l,0≤d∧d≤4096:=by
  intro d hd
  have: ¬ badD d=true:=fun hb=>h (List.any_eq_true.2 ⟨d,hd,hb⟩)
  unfold badD at this
  simp only [Bool.or_eq_true,decide_eq_true_eq,not_or] at this
  omega
theorem sizeS_bd (l:List Int):0≤(sizeS l).1∧(sizeS l).1≤4096:=by
  unfold sizeS
  split
  ·exact ⟨by decide,by decide⟩
  split
  ·exact ⟨by decide,by decide⟩
  split
  ·exact ⟨by decide,by decide⟩
  rename_i h _
  exact prodS_bd (bad_no h) ⟨by decide,by decide⟩
theorem arrs_length (l:List Arr):(arrs l).length=l.length:=by simp [arrs]
theorem drop_getD {α:Type} {l:List α} {i:Nat} (z:α) (h:i<l.length):l.drop i=l.getD i z::l.drop (i+1):=by
  rw [List.drop_eq_getElem_cons h];simp [List.getD,h]
end Go.Proofs.YtohiagaclfaolaaGreatDoor

namespace Go.Proofs.YtohiagaclfaolaaGreatDoor
open Go Go.Fw
set_option maxRecDepth 20000
noncomputable def E0:Env:=envOf (P:=Tryz.prog) zer (fun _=>false) (fun _=>false) [] []
theorem E0_ok:EnvOk Tryz.prog E0:=envOk zer_ok
def idxG (p:Int→Bool):List Int→Int→Int
  |[],_=> -1
  |d::t,i=>if p d=true then i else idxG p t (i+1)
theorem idxG_any (p:Int→Bool):∀ (l:List Int) (i:Int),0≤i→decide (idxG p l i≥0)=l.any p
  |[],_,_=>rfl
  |d::t,i,hi=>by
   unfold idxG
   by_cases h:p d=true
   ·rw [if_pos h,List.any_cons,h,decide_eq_true hi];rfl
   ·rw [if_neg h,idxG_any p t (i+1) (by omega),List.any_cons]
    simp only [Bool.not_eq_true] at h
    rw [h];rfl
theorem index_pc {l:List Int} {v:Int} (hl:l.length≤1000000):PC Tryz.prog 111 [.sl false 1 (ints .i64 l),.lit (.int .i64 v)] (.lit (.int .i64 (idxG (fun d=>v==d) l 0))):=by
  generalize hR:idxG (fun d=>v==d) l 0=R
  refine pcO E0_ok (fun _=>[0,1,4,5,7,8,9,16]) Tryz.func111 (h:=fun KF=>?_)
  unfold E0
  repeat' (first
   |(with_reducible first|refine nx ?_|refine t_seq fun K=>?_|refine t_br (fun hc=>?_) fun hc=>?_|refine t_bx ?_|apply And.intro|intro vr)
   |((with_reducible first|refine ny ?_|refine t_dwh (h:=fun K KL=>?_));intros;simp only [go_sem,geff]))
  refine t_loop (ι:={i:Nat // i≤l.length∧idxG (fun d=>v==d) (l.drop i) i=R}) (fun i=>⟨upd (upd (upd (upd topF 8 (.lit (.int .i64 i.1))) 7 (.lit (.int .i64 l.length))) 1 (.lit (.int .i64 v))) 0 (.sl false 1 (ints .i64 l)),[]⟩) (fun i=>l.length - i.1) ⟨0,by omega,hR⟩ ?_ ?_
  ·skip
   (refine Le.frame ?_;repeat' (first|exact leF_top _|(with_reducible refine leF_sl ?_ ?_)|(refine leF_upd (LeR.of_eq ?_) ?_)))<;>(try (simp only [go_sem];try rfl))
  ·rintro ⟨i,hi,hF⟩ K0
   rcases Nat.lt_or_ge i l.length with hc|hc
   ·have g1:decide ((i:Int)<(l.length:Int))=true:=decide_eq_true (by omega)
    have g2:=ints_getD .i64 l i hc
    rw [drop_getD 0 hc,idxG] at hF
    generalize l.getD i 0=d at g2 hF
    by_cases he:(v==d)=true
    ·rw [if_pos he] at hF
     subst hF
     repeat' (first
      |(with_reducible first|refine nx ?_|refine t_seq fun K=>?_|refine t_br (fun hc=>?_) fun hc=>?_|refine t_bx ?_|apply And.intro|intro vr)
      |((with_reducible first|refine ny ?_|refine t_dwh (h:=fun K KL=>?_));intros;simp only [go_sem,geff,g1,g2,he,Int.toNat_natCast]))
     all_goals try exact om
     refine end_ret rfl ?_
     simp only [fin,go_sem]
     exact LeA.refl _
    ·rw [if_neg he] at hF
     have he':(v==d)=false:=by simpa using he
     repeat' (first
      |(with_reducible first|refine nx ?_|refine t_seq fun K=>?_|refine t_br (fun hc=>?_) fun hc=>?_|refine t_bx ?_|apply And.intro|intro vr)
      |((with_reducible first|refine ny ?_|refine t_dwh (h:=fun K KL=>?_));intros;simp only [go_sem,geff,g1,g2,he',Int.toNat_natCast]))
     all_goals try exact om
     refine ⟨⟨i+1,by omega,by rw [←hF];congr 1⟩,by simp only;omega,?_⟩
     (refine Le.frame ?_;repeat' (first|exact leF_top _|(with_reducible refine leF_sl ?_ ?_)|(refine leF_upd (LeR.of_eq ?_) ?_)))<;>(try (simp only [go_sem];try rfl))
   ·have g1:decide ((i:Int)<(l.length:Int))=false:=decide_eq_false (by omega)
    rw [List.drop_eq_nil_of_le hc,idxG] at hF
    subst hF
    repeat' (first
     |(with_reducible first|refine nx ?_|refine t_seq fun K=>?_|refine t_br (fun hc=>?_) fun hc=>?_|refine t_bx ?_|apply And.intro|intro vr)
     |((with_reducible first|refine ny ?_|refine t_dwh (h:=fun K KL=>?_));intros;simp only [go_sem,geff,g1]))
    refine end_ret rfl ?_
    simp only [fin,go_sem]
    exact LeA.refl _
noncomputable def con111:PCon Tryz.prog where
  f:=111
  c:=fun
   |[xl,.lit (.int .i64 v)]=>match slK .i64 xl with|some l=>some (l.length≤1000000,.lit (.int .i64 (idxG (fun d=>v==d) l 0)))|_=>none
   |_=>none
  ok:=by
   intro args p r hc hp
   split at hc
   ·split at hc
    ·rename_i hl
     cases hc
     exact PC.weak (index_pc hp) ⟨slK_le hl,LeA.refl _,trivial⟩
    ·cases hc
   ·cases hc
  fk:=fk111
theorem con111_f:con111.f=111:=rfl
theorem con111_c {xl:AV} {v:Int}:con111.c [xl,.lit (.int .i64 v)]=match slK .i64 xl with|some l=>some (l.length≤1000000,.lit (.int .i64 (idxG (fun d=>v==d) l 0)))|_=>none:=rfl
noncomputable def E1:Env:=envOf (P:=Tryz.prog) zer (fun _=>false) (fun _=>false) [con111] []
theorem E1_ok:EnvOk Tryz.prog E1:=envOk zer_ok
theorem contains_pc {l:List Int} {v:Int} (hl:l.length≤1000000):PC Tryz.prog 98 [.sl false 1 (ints .i64 l),.lit (.int .i64 v)] (.lit (.bool (l.any fun d=>v==d))):=by
  have h:=idxG_any (fun d=>v==d) l 0 (by omega)
  refine pcO E1_ok (fun _=>[0,1,4]) Tryz.func98 (h:=fun KF=>?_)
  unfold E1
  repeat' (first
   |(with_reducible first|refine nx ?_|refine t_seq fun K=>?_|refine t_br (fun hc=>?_) fun hc=>?_|refine t_bx ?_|apply And.intro|intro vr)
   |((with_reducible first|refine ny ?_|refine t_dwh (h:=fun K KL=>?_));intros;simp only [go_sem,geff,con111_f,con111_c,slK_sl,h]))
  all_goals try exact om
  refine end_ret rfl ?_
  simp only [fin,go_sem]
  exact LeA.refl _
noncomputable def con98:PCon Tryz.prog where
  f:=98
  c:=fun
   |[xl,.lit (.int .i64 v)]=>match slK .i64 xl with|some l=>some (l.length≤1000000,.lit (.bool (l.any fun d=>v==d)))|_=>none
   |_=>none
  ok:=by
   intro args p r hc hp
   split at hc
   ·split at hc
    ·rename_i hl
     cases hc
     exact PC.weak (contains_pc hp) ⟨slK_le hl,LeA.refl _,trivial⟩
    ·cases hc
   ·cases hc
  fk:=fk98
theorem con98_f:con98.f=98:=rfl
theorem con98_c {xl:AV} {v:Int}:con98.c [xl,.lit (.int .i64 v)]=match slK .i64 xl with|some l=>some (l.length≤1000000,.lit (.bool (l.any fun d=>v==d)))|_=>none:=rfl
theorem drop_ne {l m:List Int} {i:Nat} (hl:i<l.length) (hm:i<m.length) (h:(l.getD i 0 !=m.getD i 0)=true):decide (l.drop i=m.drop i)=false:=by
  rw [drop_getD 0 hl,drop_getD 0 hm]
  rw [bne_iff_ne] at h
  exact decide_eq_false fun e=>h (List.cons.inj e).1
theorem drop_eq {l m:List Int} {i:Nat} (hl:i<l.length) (hm:i<m.length) (h:(l.getD i 0 !=m.getD i 0)=false):decide (l.drop i=m.drop i)=decide (l.drop (i+1)=m.drop (i+1)):=by
  rw [drop_getD 0 hl,drop_getD 0 hm]
  rw [bne_eq_false_iff_eq] at h
  rw [h]
  simp
theorem same_pc {l m:List Int} (hl:l.length≤1000000):PC Tryz.prog 23 [.sl false 1 (ints .i64 l),.sl false 1 (ints .i64 m)] (.lit (.bool (decide (l=m)))):=by
  by_cases hn:l.length=m.length
  ·have g0:((l.length:Int) !=(m.length:Int))=false:=by rw [bne_eq_false_iff_eq];omega
   generalize hR:decide (l=m)=R
   refine pcO E0_ok (fun _=>[0,1,4,5,10,14,25]) Tryz.func23 (h:=fun KF=>?_)
   unfold E0
   repeat' (first
    |(with_reducible first|refine nx ?_|refine t_seq fun K=>?_|refine t_br (fun hc=>?_) fun hc=>?_|refine t_bx ?_|apply And.intro|intro vr)
    |((with_reducible first|refine ny ?_|refine t_dwh (h:=fun K KL=>?_));intros;simp only [go_sem,geff,g0]))
   refine t_loop (ι:={i:Nat // i≤l.length∧decide (l.drop i=m.drop i)=R}) (fun i=>⟨upd (upd (upd topF 1 (.sl false 1 (ints .i64 m))) 0 (.sl false 1 (ints .i64 l))) 5 (.lit (.int .i64 i.1)),[]⟩) (fun i=>l.length - i.1) ⟨0,by omega,hR⟩ ?_ ?_
   ·skip
    (refine Le.frame ?_;repeat' (first|exact leF_top _|(with_reducible refine leF_sl ?_ ?_)|(refine leF_upd (LeR.of_eq ?_) ?_)))<;>(try (simp only [go_sem];try rfl))
   ·rintro ⟨i,hi,hF⟩ K0
    rcases Nat.lt_or_ge i l.length with hc|hc
    ·have g1:decide ((i:Int)<(l.length:Int))=true:=decide_eq_true (by omega)
     have g2:=ints_getD .i64 l i hc
     have g3:=ints_getD .i64 m i (by omega)
     by_cases he:(l.getD i 0 !=m.getD i 0)=true
     ·rw [drop_ne hc (by omega) he] at hF
      subst hF
      repeat' (first
       |(with_reducible first|refine nx ?_|refine t_seq fun K=>?_|refine t_br (fun hc=>?_) fun hc=>?_|refine t_bx ?_|apply And.intro|intro vr)
       |((with_reducible first|refine ny ?_|refine t_dwh (h:=fun K KL=>?_));intros;simp only [go_sem,geff,g1,g2,g3,he,Int.toNat_natCast]))
      all_goals try exact om
      refine end_ret rfl ?_
      simp only [fin,go_sem]
      exact LeA.refl _
     ·have he':(l.getD i 0 !=m.getD i 0)=false:=by simpa using he
      rw [drop_eq hc (by omega) he'] at hF
      repeat' (first
       |(with_reducible first|refine nx ?_|refine t_seq fun K=>?_|refine t_br (fun hc=>?_) fun hc=>?_|refine t_bx ?_|apply And.intro|intro vr)
       |((with_reducible first|refine ny ?_|refine t_dwh (h:=fun K KL=>?_));intros;simp only [go_sem,geff,g1,g2,g3,he',Int.toNat_natCast]))
      all_goals try exact om
      refine ⟨⟨i+1,by omega,hF⟩,by simp only;omega,?_⟩
      (refine Le.frame ?_;repeat' (first|exact leF_top _|(with_reducible refine leF_sl ?_ ?_)|(refine leF_upd (LeR.of_eq ?_) ?_)))<;>(try (simp only [go_sem];try rfl))
    ·have g1:decide ((i:Int)<(l.length:Int))=false:=decide_eq_false (by omega)
     rw [List.drop_eq_nil_of_le hc,List.drop_eq_nil_of_le (by omega)] at hF
     subst hF
     repeat' (first
      |(with_reducible first|refine nx ?_|refine t_seq fun K=>?_|refine t_br (fun hc=>?_) fun hc=>?_|refine t_bx ?_|apply And.intro|intro vr)
      |((with_reducible first|refine ny ?_|refine t_dwh (h:=fun K KL=>?_));intros;simp only [go_sem,geff,g1]))
     refine end_ret rfl ?_
     simp only [fin,go_sem]
     exact LeA.refl _
  ·have g0:((l.length:Int) !=(m.length:Int))=true:=by rw [bne_iff_ne];omega
   have:decide (l=m)=false:=decide_eq_false fun e=>hn (by rw [e])
   rw [this]
   refine pcO E0_ok (fun _=>[0,1,4,5,10,14,25]) Tryz.func23 (h:=fun KF=>?_)
   unfold E0
   repeat' (first
    |(with_reducible first|refine nx ?_|refine t_seq fun K=>?_|refine t_br (fun hc=>?_) fun hc=>?_|refine t_bx ?_|apply And.intro|intro vr)
    |((with_reducible first|refine ny ?_|refine t_dwh (h:=fun K KL=>?_));intros;simp only [go_sem,geff,g0]))
   refine end_ret rfl ?_
   simp only [fin,go_sem]
   exact LeA.refl _
noncomputable def con23:PCon Tryz.prog where
  f:=23
  c:=fun
   |[xl,xm]=>match slK .i64 xl,slK .i64 xm with|some l,some m=>some (l.length≤1000000,.lit (.bool (decide (l=m))))|_,_=>none
   |_=>none
  ok:=by
   intro args p r hc hp
   split at hc
   ·split at hc
    ·rename_i hl hm
     cases hc
     exact PC.weak (same_pc hp) ⟨slK_le hl,slK_le hm,trivial⟩
    ·cases hc
   ·cases hc
  fk:=fk23
theorem con23_f:con23.f=23:=rfl
theorem con23_c {xl:AV} {xm:AV}:con23.c [xl,xm]=match slK .i64 xl,slK .i64 xm with|some l,some m=>some (l.length≤1000000,.lit (.bool (decide (l=m))))|_,_=>none:=rfl
end Go.Proofs.YtohiagaclfaolaaGreatDoor

namespace Go.Proofs.YtohiagaclfaolaaGreatDoor
open Go Go.Fw
set_option maxRecDepth 20000
def szV (p:Int×Int):AV:= .tup [.lit (.int .i64 p.1),.lit (.int .i64 p.2)]
theorem mul_bd {n d:Int} (hn:0≤n∧n≤4096) (hd:0≤d∧d≤4096):0≤n*d∧n*d≤16777216:=by
  constructor
  ·exact Int.mul_nonneg hn.1 hd.1
  ·have:=Int.mul_le_mul hn.2 hd.2 hd.1 (by omega)
   omega
structure Ls (l:List Int) (G:Int×Int) where
  i:Nat
  n:Int
  hi:i≤l.length
  hn:0≤n∧n≤4096
  hF:prodS (l.drop i) n=G
noncomputable def E2:Env:=envOf (P:=Tryz.prog) zer (fun _=>false) (fun _=>false) [con98] []
theorem E2_ok:EnvOk Tryz.prog E2:=envOk zer_ok
set_option maxHeartbeats 1000000 in
theorem size_pc {l:List Int} (hl:l.length≤1000000):PC Tryz.prog 71 [.sl false 1 (ints .i64 l)] (szV (sizeS l)):=by
  unfold sizeS
  by_cases h6:l.length>6
  ·have g0:decide ((l.length:Int)>6)=true:=decide_eq_true (by omega)
   rw [if_pos h6]
   refine pcO E2_ok (fun _=>[0,2,3,5,6,8,11,12,13,14,15,23,26,27,28,29,30,37]) Tryz.func71 (h:=fun KF=>?_)
   unfold E2
   repeat' (first
    |(with_reducible first|refine nx ?_|refine t_seq fun K=>?_|refine t_br (fun hc=>?_) fun hc=>?_|refine t_bx ?_|apply And.intro|intro vr)
    |((with_reducible first|refine ny ?_|refine t_dwh (h:=fun K KL=>?_));intros;simp only [go_sem,geff,con98_f,g0]))
   refine end_ret rfl ?_
   simp only [fin,go_sem,szV]
   exact LeA.refl _
  ·have g0:decide ((l.length:Int)>6)=false:=decide_eq_false (by omega)
   rw [if_neg h6]
   generalize hB:l.any badD=Bb
   generalize hG:prodS l 1=G
   refine pcO E2_ok (fun _=>[0,2,3,5,6,8,11,12,13,14,15,23,26,27,28,29,30,37]) Tryz.func71 (h:=fun KF=>?_)
   unfold E2
   repeat' (first
    |(with_reducible first|refine nx ?_|refine t_seq fun K=>?_|refine t_br (fun hc=>?_) fun hc=>?_|refine t_bx ?_|apply And.intro|intro vr)
    |((with_reducible first|refine ny ?_|refine t_dwh (h:=fun K KL=>?_));intros;simp only [go_sem,geff,con98_f,g0]))
   refine t_loop (ι:={i:Nat // i≤l.length∧(l.drop i).any badD=Bb}) (fun i=>⟨upd (upd (upd (upd topF 14 (.lit (.int .i64 i.1))) 13 (.lit (.int .i64 l.length))) 12 (.sl false 1 (ints .i64 l))) 0 (.sl false 1 (ints .i64 l)),[]⟩) (fun i=>l.length - i.1) ⟨0,by omega,hB⟩ ?_ ?_
   ·skip
    (refine Le.frame ?_;repeat' (first|exact leF_top _|(with_reducible refine leF_sl ?_ ?_)|(refine leF_upd (LeR.of_eq ?_) ?_)))<;>(try (simp only [go_sem];try rfl))
   ·rintro ⟨i,hi,hF⟩ K0
    rcases Nat.lt_or_ge i l.length with hc|hc
    ·have g1:decide ((i:Int)<(l.length:Int))=true:=decide_eq_true (by omega)
     have g2:=ints_getD .i64 l i hc
     rw [drop_getD 0 hc,List.any_cons] at hF
     generalize l.getD i 0=d at g2 hF
     rw [show badD d=(decide (d<0)||decide (d>4096)) from rfl] at hF
     by_cases d1:d<0
     ·have d1':decide (d<0)=true:=decide_eq_true d1
      have:Bb=true:=by rw [←hF,d1'];rfl
      subst this
      repeat' (first
       |(with_reducible first|refine nx ?_|refine t_seq fun K=>?_|refine t_br (fun hc=>?_) fun hc=>?_|refine t_bx ?_|apply And.intro|intro vr)
       |((with_reducible first|refine ny ?_|refine t_dwh (h:=fun K KL=>?_));intros;simp only [go_sem,geff,con98_f,g1,g2,d1',Int.toNat_natCast]))
      all_goals try exact om
      refine end_ret rfl ?_
      simp only [fin,go_sem,szV]
      exact LeA.refl _
     ·have d1':decide (d<0)=false:=decide_eq_false d1
      by_cases d2:d>4096
      ·have d2':decide (d>4096)=true:=decide_eq_true d2
       have:Bb=true:=by rw [←hF,d1',d2'];rfl
       subst this
       repeat' (first
        |(with_reducible first|refine nx ?_|refine t_seq fun K=>?_|refine t_br (fun hc=>?_) fun hc=>?_|refine t_bx ?_|apply And.intro|intro vr)
        |((with_reducible first|refine ny ?_|refine t_dwh (h:=fun K KL=>?_));intros;simp only [go_sem,geff,con98_f,g1,g2,d1',d2',Int.toNat_natCast]))
       all_goals try exact om
       refine end_ret rfl ?_
       simp only [fin,go_sem,szV]
       exact LeA.refl _
      ·have d2':decide (d>4096)=false:=decide_eq_false d2
       rw [d1',d2',Bool.false_or,Bool.false_or] at hF
       repeat' (first
        |(with_reducible first|refine nx ?_|refine t_seq fun K=>?_|refine t_br (fun hc=>?_) fun hc=>?_|refine t_bx ?_|apply And.intro|intro vr)
        |((with_reducible first|refine ny ?_|refine t_dwh (h:=fun K KL=>?_));intros;simp only [go_sem,geff,con98_f,g1,g2,d1',d2',Int.toNat_natCast]))
       all_goals try exact om
       refine ⟨⟨i+1,by omega,hF⟩,by simp only;omega,?_⟩
       (refine Le.frame ?_;repeat' (first|exact leF_top _|(with_reducible refine leF_sl ?_ ?_)|(refine leF_upd (LeR.of_eq ?_) ?_)))<;>(try (simp only [go_sem];try rfl))
    ·have g1:decide ((i:Int)<(l.length:Int))=false:=decide_eq_false (by omega)
     rw [List.drop_eq_nil_of_le hc,List.any_nil] at hF
     subst hF
     have hd:=bad_no (by rw [hB];simp)
     by_cases h0:(l.any fun d=>0==d)=true
     ·skip
      repeat' (first
       |(with_reducible first|refine nx ?_|refine t_seq fun K=>?_|refine t_br (fun hc=>?_) fun hc=>?_|refine t_bx ?_|apply And.intro|intro vr)
       |((with_reducible first|refine ny ?_|refine t_dwh (h:=fun K KL=>?_));intros;simp only [go_sem,geff,con98_f,con98_c,slK_sl,g1,h0]))
      all_goals try exact om
      refine end_ret rfl ?_
      simp only [fin,go_sem,szV,h0,Bool.false_eq_true]
      exact LeA.refl _
     ·have h0':(l.any fun d=>0==d)=false:=Bool.eq_false_iff.2 h0
      repeat' (first
       |(with_reducible first|refine nx ?_|refine t_seq fun K=>?_|refine t_br (fun hc=>?_) fun hc=>?_|refine t_bx ?_|apply And.intro|intro vr)
       |((with_reducible first|refine ny ?_|refine t_dwh (h:=fun K KL=>?_));intros;simp only [go_sem,geff,con98_f,con98_c,slK_sl,g1,h0']))
      all_goals try exact om
      refine t_loop (ι:=Ls l G) (fun i=>⟨upd (upd (upd (upd topF 29 (.lit (.int .i64 i.i))) 28 (.lit (.int .i64 l.length))) 27 (.sl false 1 (ints .i64 l))) 6 (.lit (.int .i64 i.n)),[]⟩) (fun i=>l.length - i.i) ⟨0,1,by omega,by omega,hG⟩ ?_ ?_
      ·skip
       (refine Le.frame ?_;repeat' (first|exact leF_top _|(with_reducible refine leF_sl ?_ ?_)|(refine leF_upd (LeR.of_eq ?_) ?_)))<;>(try (simp only [go_sem];try rfl))
      ·rintro ⟨i,n,hi,hn,hF⟩ K1
       rcases Nat.lt_or_ge i l.length with hc|hc
       ·have g1:decide ((i:Int)<(l.length:Int))=true:=decide_eq_true (by omega)
        have g2:=ints_getD .i64 l i hc
        have hd':=hd (l.getD i 0) (by rw [List.getD_eq_getElem?_getD,List.getElem?_eq_getElem hc];exact List.getElem_mem _)
        rw [drop_getD 0 hc,prodS] at hF
        generalize l.getD i 0=d at g2 hF hd'
        have hb:=mul_bd hn hd'
        by_cases hp:n*d>4096
        ·have hp':decide (n*d>4096)=true:=decide_eq_true hp
         rw [if_pos hp] at hF
         subst hF
         repeat' (first
          |(with_reducible first|refine nx ?_|refine t_seq fun K=>?_|refine t_br (fun hc=>?_) fun hc=>?_|refine t_bx ?_|apply And.intro|intro vr)
          |((with_reducible first|refine ny ?_|refine t_dwh (h:=fun K KL=>?_));intros;simp only [go_sem,geff,con98_f,g1,g2,hp',Int.toNat_natCast]))
         all_goals try exact om
         refine end_ret rfl ?_
         simp only [fin,go_sem,szV,h0',Bool.false_eq_true]
         exact LeA.refl _
        ·have hp':decide (n*d>4096)=false:=decide_eq_false hp
         rw [if_neg hp] at hF
         repeat' (first
          |(with_reducible first|refine nx ?_|refine t_seq fun K=>?_|refine t_br (fun hc=>?_) fun hc=>?_|refine t_bx ?_|apply And.intro|intro vr)
          |((with_reducible first|refine ny ?_|refine t_dwh (h:=fun K KL=>?_));intros;simp only [go_sem,geff,con98_f,g1,g2,hp',Int.toNat_natCast]))
         all_goals try exact om
         refine ⟨⟨i+1,n*d,by omega,by omega,hF⟩,by simp only;omega,?_⟩
         (refine Le.frame ?_;repeat' (first|exact leF_top _|(with_reducible refine leF_sl ?_ ?_)|(refine leF_upd (LeR.of_eq ?_) ?_)))<;>(try (simp only [go_sem];try rfl))
       ·have g1:decide ((i:Int)<(l.length:Int))=false:=decide_eq_false (by omega)
        rw [List.drop_eq_nil_of_le hc,prodS] at hF
        subst hF
        repeat' (first
         |(with_reducible first|refine nx ?_|refine t_seq fun K=>?_|refine t_br (fun hc=>?_) fun hc=>?_|refine t_bx ?_|apply And.intro|intro vr)
         |((with_reducible first|refine ny ?_|refine t_dwh (h:=fun K KL=>?_));intros;simp only [go_sem,geff,con98_f,g1]))
        refine end_ret rfl ?_
        simp only [fin,go_sem,szV,h0',Bool.false_eq_true]
        exact LeA.refl _
noncomputable def con71:PCon Tryz.prog where
  f:=71
  c:=fun
   |[xl]=>match slK .i64 xl with|some l=>some (l.length≤1000000,szV (sizeS l))|_=>none
   |_=>none
  ok:=by
   intro args p r hc hp
   split at hc
   ·split at hc
    ·rename_i hl
     cases hc
     exact PC.weak (size_pc hp) ⟨slK_le hl,trivial⟩
    ·cases hc
   ·cases hc
  fk:=fk71
theorem con71_f:con71.f=71:=rfl
theorem con71_c {xl:AV}:con71.c [xl]=match slK .i64 xl with|some l=>some (l.length≤1000000,szV (sizeS l))|_=>none:=rfl
set_option maxHeartbeats 1000000 in
theorem rsize_pc {l:List Int} (hl:l.length≤1000000):PC Tryz.prog 41 [.sl false 1 (ints .i64 l)] (szV (sizeS l)):=by
  unfold sizeS
  by_cases h6:l.length>6
  ·have g0:decide ((l.length:Int)>6)=true:=decide_eq_true (by omega)
   rw [if_pos h6]
   refine pcO E0_ok (fun _=>[0,2,3,4,5,6,7,10,14,28,37,41,51]) Tryz.func41 (h:=fun KF=>?_)
   unfold E0
   repeat' (first
    |(with_reducible first|refine nx ?_|refine t_seq fun K=>?_|refine t_br (fun hc=>?_) fun hc=>?_|refine t_bx ?_|apply And.intro|intro vr)
    |((with_reducible first|refine ny ?_|refine t_dwh (h:=fun K KL=>?_));intros;simp only [go_sem,geff,g0]))
   refine end_ret rfl ?_
   simp only [fin,go_sem,szV]
   exact LeA.refl _
  ·have g0:decide ((l.length:Int)>6)=false:=decide_eq_false (by omega)
   rw [if_neg h6]
   generalize hB:l.any badD=Bb
   generalize hG:prodS l 1=G
   generalize hZ:(l.any fun d=>0==d)=Z
   refine pcO E0_ok (fun _=>[0,2,3,4,5,6,7,10,14,28,37,41,51]) Tryz.func41 (h:=fun KF=>?_)
   unfold E0
   repeat' (first
    |(with_reducible first|refine nx ?_|refine t_seq fun K=>?_|refine t_br (fun hc=>?_) fun hc=>?_|refine t_bx ?_|apply And.intro|intro vr)
    |((with_reducible first|refine ny ?_|refine t_dwh (h:=fun K KL=>?_));intros;simp only [go_sem,geff,g0]))
   refine t_loop (ι:={i:Nat×Bool // i.1≤l.length∧(l.drop i.1).any badD=Bb∧(i.2||(l.drop i.1).any fun d=>0==d)=Z}) (fun i=>⟨upd (upd (upd topF 5 (.lit (.int .i64 i.1.1))) 4 (.lit (.bool i.1.2))) 0 (.sl false 1 (ints .i64 l)),[]⟩) (fun i=>l.length - i.1.1) ⟨(0,false),by simp,hB,by simpa using hZ⟩ ?_ ?_
   ·skip
    (refine Le.frame ?_;repeat' (first|exact leF_top _|(with_reducible refine leF_sl ?_ ?_)|(refine leF_upd (LeR.of_eq ?_) ?_)))<;>(try (simp only [go_sem];try rfl))
   ·rintro ⟨⟨i,z⟩,hi,hF,hY⟩ K0
    simp only at hi hF hY
    rcases Nat.lt_or_ge i l.length with hc|hc
    ·have g1:decide ((i:Int)<(l.length:Int))=true:=decide_eq_true (by omega)
     have g2:=ints_getD .i64 l i hc
     rw [drop_getD 0 hc,List.any_cons] at hF
     rw [drop_getD 0 hc,List.any_cons,←Bool.or_assoc] at hY
     generalize l.getD i 0=d at g2 hF hY
     rw [show badD d=(decide (d<0)||decide (d>4096)) from rfl] at hF
     by_cases d1:d<0
     ·have d1':decide (d<0)=true:=decide_eq_true d1
      have:Bb=true:=by rw [←hF,d1'];rfl
      subst this
      repeat' (first
       |(with_reducible first|refine nx ?_|refine t_seq fun K=>?_|refine t_br (fun hc=>?_) fun hc=>?_|refine t_bx ?_|apply And.intro|intro vr)
       |((with_reducible first|refine ny ?_|refine t_dwh (h:=fun K KL=>?_));intros;simp only [go_sem,geff,g1,g2,d1',Int.toNat_natCast]))
      all_goals try exact om
      refine end_ret rfl ?_
      simp only [fin,go_sem,szV]
      exact LeA.refl _
     ·have d1':decide (d<0)=false:=decide_eq_false d1
      by_cases d2:d>4096
      ·have d2':decide (d>4096)=true:=decide_eq_true d2
       have:Bb=true:=by rw [←hF,d1',d2'];rfl
       subst this
       repeat' (first
        |(with_reducible first|refine nx ?_|refine t_seq fun K=>?_|refine t_br (fun hc=>?_) fun hc=>?_|refine t_bx ?_|apply And.intro|intro vr)
        |((with_reducible first|refine ny ?_|refine t_dwh (h:=fun K KL=>?_));intros;simp only [go_sem,geff,g1,g2,d1',d2',Int.toNat_natCast]))
       all_goals try exact om
       refine end_ret rfl ?_
       simp only [fin,go_sem,szV]
       exact LeA.refl _
      ·have d2':decide (d>4096)=false:=decide_eq_false d2
       rw [d1',d2',Bool.false_or,Bool.false_or] at hF
       cases z
       ·by_cases e0:(d==0)=true
        ·have e1:(0==d)=true:=by rw [beq_iff_eq] at e0 ⊢;exact e0.symm
         rw [e1] at hY
         repeat' (first
          |(with_reducible first|refine nx ?_|refine t_seq fun K=>?_|refine t_br (fun hc=>?_) fun hc=>?_|refine t_bx ?_|apply And.intro|intro vr)
          |((with_reducible first|refine ny ?_|refine t_dwh (h:=fun K KL=>?_));intros;simp only [go_sem,geff,g1,g2,d1',d2',e0,Int.toNat_natCast]))
         all_goals try exact om
         refine ⟨⟨(i+1,true),by simp only;omega,hF,hY⟩,by simp only;omega,?_⟩
         (refine Le.frame ?_;repeat' (first|exact leF_top _|(with_reducible refine leF_sl ?_ ?_)|(refine leF_upd (LeR.of_eq ?_) ?_)))<;>(try (simp only [go_sem];try rfl))
        ·have e0':(d==0)=false:=by simpa using e0
         have e1:(0==d)=false:=by rw [beq_eq_false_iff_ne] at e0' ⊢;exact fun h=>e0' h.symm
         rw [e1] at hY
         repeat' (first
          |(with_reducible first|refine nx ?_|refine t_seq fun K=>?_|refine t_br (fun hc=>?_) fun hc=>?_|refine t_bx ?_|apply And.intro|intro vr)
          |((with_reducible first|refine ny ?_|refine t_dwh (h:=fun K KL=>?_));intros;simp only [go_sem,geff,g1,g2,d1',d2',e0',Int.toNat_natCast]))
         all_goals try exact om
         refine ⟨⟨(i+1,false),by simp only;omega,hF,hY⟩,by simp only;omega,?_⟩
         (refine Le.frame ?_;repeat' (first|exact leF_top _|(with_reducible refine leF_sl ?_ ?_)|(refine leF_upd (LeR.of_eq ?_) ?_)))<;>(try (simp only [go_sem];try rfl))
       ·skip
        repeat' (first
         |(with_reducible first|refine nx ?_|refine t_seq fun K=>?_|refine t_br (fun hc=>?_) fun hc=>?_|refine t_bx ?_|apply And.intro|intro vr)
         |((with_reducible first|refine ny ?_|refine t_dwh (h:=fun K KL=>?_));intros;simp only [go_sem,geff,g1,g2,d1',d2',Int.toNat_natCast]))
        all_goals try exact om
        refine ⟨⟨(i+1,true),by simp only;omega,hF,by rw [←hY];simp⟩,by simp only;omega,?_⟩
        (refine Le.frame ?_;repeat' (first|exact leF_top _|(with_reducible refine leF_sl ?_ ?_)|(refine leF_upd (LeR.of_eq ?_) ?_)))<;>(try (simp only [go_sem];try rfl))
    ·have g1:decide ((i:Int)<(l.length:Int))=false:=decide_eq_false (by omega)
     rw [List.drop_eq_nil_of_le hc,List.any_nil] at hF
     rw [List.drop_eq_nil_of_le hc,List.any_nil,Bool.or_false] at hY
     subst hF
     have hd:=bad_no (by rw [hB];simp)
     cases z
     ·subst hY
      repeat' (first
       |(with_reducible first|refine nx ?_|refine t_seq fun K=>?_|refine t_br (fun hc=>?_) fun hc=>?_|refine t_bx ?_|apply And.intro|intro vr)
       |((with_reducible first|refine ny ?_|refine t_dwh (h:=fun K KL=>?_));intros;simp only [go_sem,geff,g1]))
      refine t_loop (ι:=Ls l G) (fun i=>⟨upd (upd (upd topF 7 (.lit (.int .i64 i.i))) 6 (.lit (.int .i64 i.n))) 0 (.sl false 1 (ints .i64 l)),[]⟩) (fun i=>l.length - i.i) ⟨0,1,by omega,by omega,hG⟩ ?_ ?_
      ·skip
       (refine Le.frame ?_;repeat' (first|exact leF_top _|(with_reducible refine leF_sl ?_ ?_)|(refine leF_upd (LeR.of_eq ?_) ?_)))<;>(try (simp only [go_sem];try rfl))
      ·rintro ⟨i,n,hi,hn,hF⟩ K1
       rcases Nat.lt_or_ge i l.length with hc|hc
       ·have g1:decide ((i:Int)<(l.length:Int))=true:=decide_eq_true (by omega)
        have g2:=ints_getD .i64 l i hc
        have hd':=hd (l.getD i 0) (by rw [List.getD_eq_getElem?_getD,List.getElem?_eq_getElem hc];exact List.getElem_mem _)
        rw [drop_getD 0 hc,prodS] at hF
        generalize l.getD i 0=d at g2 hF hd'
        have hb:=mul_bd hn hd'
        by_cases hp:n*d>4096
        ·have hp':decide (n*d>4096)=true:=decide_eq_true hp
         rw [if_pos hp] at hF
         subst hF
         repeat' (first
          |(with_reducible first|refine nx ?_|refine t_seq fun K=>?_|refine t_br (fun hc=>?_) fun hc=>?_|refine t_bx ?_|apply And.intro|intro vr)
          |((with_reducible first|refine ny ?_|refine t_dwh (h:=fun K KL=>?_));intros;simp only [go_sem,geff,g1,g2,hp',Int.toNat_natCast]))
         all_goals try exact om
         refine end_ret rfl ?_
         simp only [fin,go_sem,szV,Bool.false_eq_true]
         exact LeA.refl _
        ·have hp':decide (n*d>4096)=false:=decide_eq_false hp
         rw [if_neg hp] at hF
         repeat' (first
          |(with_reducible first|refine nx ?_|refine t_seq fun K=>?_|refine t_br (fun hc=>?_) fun hc=>?_|refine t_bx ?_|apply And.intro|intro vr)
          |((with_reducible first|refine ny ?_|refine t_dwh (h:=fun K KL=>?_));intros;simp only [go_sem,geff,g1,g2,hp',Int.toNat_natCast]))
         all_goals try exact om
         refine ⟨⟨i+1,n*d,by omega,by omega,hF⟩,by simp only;omega,?_⟩
         (refine Le.frame ?_;repeat' (first|exact leF_top _|(with_reducible refine leF_sl ?_ ?_)|(refine leF_upd (LeR.of_eq ?_) ?_)))<;>(try (simp only [go_sem];try rfl))
       ·have g1:decide ((i:Int)<(l.length:Int))=false:=decide_eq_false (by omega)
        rw [List.drop_eq_nil_of_le hc,prodS] at hF
        subst hF
        repeat' (first
         |(with_reducible first|refine nx ?_|refine t_seq fun K=>?_|refine t_br (fun hc=>?_) fun hc=>?_|refine t_bx ?_|apply And.intro|intro vr)
         |((with_reducible first|refine ny ?_|refine t_dwh (h:=fun K KL=>?_));intros;simp only [go_sem,geff,g1]))
        refine end_ret rfl ?_
        simp only [fin,go_sem,szV,Bool.false_eq_true]
        exact LeA.refl _
     ·subst hY
      repeat' (first
       |(with_reducible first|refine nx ?_|refine t_seq fun K=>?_|refine t_br (fun hc=>?_) fun hc=>?_|refine t_bx ?_|apply And.intro|intro vr)
       |((with_reducible first|refine ny ?_|refine t_dwh (h:=fun K KL=>?_));intros;simp only [go_sem,geff,g1]))
      refine end_ret rfl ?_
      simp only [fin,go_sem,szV,Bool.false_eq_true]
      exact LeA.refl _
noncomputable def con41:PCon Tryz.prog where
  f:=41
  c:=fun
   |[xl]=>match slK .i64 xl with|some l=>some (l.length≤1000000,szV (sizeS l))|_=>none
   |_=>none
  ok:=by
   intro args p r hc hp
   split at hc
   ·split at hc
    ·rename_i hl
     cases hc
     exact PC.weak (rsize_pc hp) ⟨slK_le hl,trivial⟩
    ·cases hc
   ·cases hc
  fk:=fk41
theorem con41_f:con41.f=41:=rfl
theorem con41_c {xl:AV}:con41.c [xl]=match slK .i64 xl with|some l=>some (l.length≤1000000,szV (sizeS l))|_=>none:=rfl
end Go.Proofs.YtohiagaclfaolaaGreatDoor

namespace Go.Proofs.YtohiagaclfaolaaGreatDoor
open Go Go.Fw
set_option maxRecDepth 20000
theorem LeL.len:∀ {xs ys:List AV},LeL xs ys→xs.length=ys.length
  |[],[],_=>rfl
  |_::_,_::_,h=>by simp [LeL.len h.2]
  |[],_::_,h=>h.elim
  |_::_,[],h=>h.elim
theorem LeA.agg {xs ys:List AV} (h:LeL xs ys):LeA (.agg xs) (.agg ys):=fun C v hv=>by
  cases hv with
  |agg _ vs hl h1 hh=>exact .agg ys vs (h.rl ⟨hl,hh⟩).1 (fun i hi=>h1 i (by rw [LeL.len h];exact hi)) (h.rl ⟨hl,hh⟩).2
theorem LeL.get:∀ {xs ys:List AV},LeL xs ys→∀ i,LeA (xs.getD i .top) (ys.getD i .top)
  |[],[],_,_=>LeA.refl _
  |x::xs,y::ys,h,0=>by simpa using h.1
  |x::xs,y::ys,h,i+1=>by simpa using LeL.get h.2 i
  |[],_::_,h,_=>h.elim
  |_::_,[],h,_=>h.elim
theorem LeA.sl {b:Bool} {sz:Nat} {xs ys:List AV} (hl:xs.length=ys.length) (hw:∀ y∈ys,y.cells.length=sz) (h:LeL (flat xs) (flat ys)):LeA (.sl b sz xs) (.sl false sz ys):=fun C v hv=>by
  cases hv with
  |nil full sz a=>
   have:ys=[]:=List.eq_nil_of_length_eq_zero (by simpa using hl.symm)
   subst this
   exact .nil false sz a
  |sl full sz xs bb off cap f hc hm hf hw' hC h1 hR=>
   rw [hl]
   exact .sl false sz ys bb off cap f (by rw [←hl];exact hc) hm (by simp) hw (fun j hj=>hC j (by rw [LeL.len h];exact hj)) (fun j hj=>h1 j (by rw [LeL.len h];exact hj))
     (fun j hj=>LeL.get h j _ _ (hR j (by rw [LeL.len h];exact hj)))
def arrOf:AV→Option Arr
  |.agg [.lit (.string e),x,y]=>match slK .i64 x,slK .i64 y with
   |some d,some w=>some ⟨e,d,w⟩
   |_,_=>none
  |_=>none
theorem arrOf_agg {e:ByteArray} {x y:AV}:arrOf (.agg [.lit (.string e),x,y])=match slK .i64 x,slK .i64 y with
    |some d,some w=>some ⟨e,d,w⟩
    |_,_=>none:=rfl
theorem arrOf_V (a:Arr):arrOf (arrV a)=some a:=by simp [arrV,arrOf,slK_sl]
theorem arrOf_inv {x:AV} {a:Arr} (h:arrOf x=some a):∃ p q,x= .agg [.lit (.string a.e),p,q]∧LeA p (.sl false 1 (ints .i64 a.d))∧LeA q (.sl false 1 (ints .i64 a.x)):=by
  unfold arrOf at h
  split at h
  ·split at h
   ·rename_i h1 h2
    cases h
    exact ⟨_,_,rfl,slK_le h1,slK_le h2⟩
   ·cases h
  ·cases h
theorem arrOf_le {x:AV} {a:Arr} (h:arrOf x=some a):LeA x (arrV a):=by
  obtain ⟨p,q,rfl,h1,h2⟩:=arrOf_inv h
  exact LeA.agg ⟨LeA.refl _,h1,h2,trivial⟩
def arrL:List AV→Option (List Arr)
  |[]=>some []
  |x::xs=>match arrOf x,arrL xs with
   |some a,some l=>some (a::l)
   |_,_=>none
theorem arrL_cons {x:AV} {xs:List AV}:arrL (x::xs)=match arrOf x,arrL xs with
    |some a,some l=>some (a::l)
    |_,_=>none:=rfl
theorem arrL_arrs:∀ l:List Arr,arrL (arrs l)=some l
  |[]=>rfl
  |a::l=>by
   have:=arrL_arrs l
   unfold arrs at this ⊢
   rw [List.map_cons,arrL_cons,arrOf_V,this]
def arrsOf (x:AV):Option (List Arr):=(slA 3 x).bind arrL
theorem arrsOf_sl {b:Bool} {l:List Arr}:arrsOf (.sl b 3 (arrs l))=some l:=by simp [arrsOf,slA,arrL_arrs]
end Go.Proofs.YtohiagaclfaolaaGreatDoor

namespace Go.Proofs.YtohiagaclfaolaaGreatDoor
open Go Go.Fw
set_option maxRecDepth 20000
theorem szV_def {p:Int×Int}:szV p= .tup [.lit (.int .i64 p.1),.lit (.int .i64 p.2)]:=rfl
end Go.Proofs.YtohiagaclfaolaaGreatDoor

namespace Go.Proofs.YtohiagaclfaolaaGreatDoor
open Go Go.Fw
set_option maxRecDepth 20000
def okA (a:Arr):Prop:=a.d.length≤1000000∧a.x.length≤1000000
end Go.Proofs.YtohiagaclfaolaaGreatDoor

namespace Go.Proofs.YtohiagaclfaolaaGreatDoor
open Go Go.Fw
set_option maxRecDepth 20000
def fieldTs (P:Program) (t:TypeId):List TypeId:=match P.underlying t with
  |some (.struct fs)=>fs.toList.map (·.type)
  |_=>[]
theorem struct_of {P:Program} {t:TypeId} {ts:List TypeId} (hne:ts≠[]) (h:fieldTs P t=ts):∃ fs:Array Field,P.underlying t=some (.struct fs)∧fs.toList.map (·.type)=ts:=by
  unfold fieldTs at h
  split at h
  ·rename_i e;exact ⟨_,e,h⟩
  ·exact absurd h.symm hne
theorem sh_fields {P:Program} {t:TypeId} {ts:List TypeId} {xs:List AV} (hne:ts≠[]) (ht:fieldTs P t=ts) (h:Sh P t xs):
    ∃ xss:List (List AV),xs=xss.flatten∧xss.length=ts.length∧∀ (i:Nat) (u:TypeId) (ys:List AV),ts[i]? =some u→xss[i]? =some ys→Sh P u ys:=by
  obtain ⟨fs,hf,hm⟩:=struct_of hne ht
  obtain ⟨xss,h1,h2,h3⟩:=sh_struct hf h
  refine ⟨xss,h1,by rw [h2,←hm];simp,fun i u ys hu hy=>?_⟩
  rw [←hm,List.getElem?_map] at hu
  cases hi:fs.toList[i]? with
  |none=>rw [hi] at hu;cases hu
  |some f=>rw [hi] at hu;cases hu;exact h3 i f ys hi hy
end Go.Proofs.YtohiagaclfaolaaGreatDoor

namespace Go.Fw
end Go.Fw
namespace Go.Proofs.YtohiagaclfaolaaGreatDoor
open Go Go.Fw
set_option maxRecDepth 20000
end Go.Proofs.YtohiagaclfaolaaGreatDoor

namespace Go.Proofs.YtohiagaclfaolaaGreatDoor
open Go Go.Fw
set_option maxRecDepth 20000
def ilA (l:List Int):AV:= .sl false 1 (ints .i64 l)
def ils (L:List (List Int)):List AV:=L.map ilA
def axOk (n:Int) (axes:List Int) (i:Nat):Bool:= !decide (axes.getD i 0<0)&&(!decide (axes.getD i 0≥n)&& !(decide ((i:Int)>0)&&decide (axes.getD (i - 1) 0≥axes.getD i 0)))
def axP (n:Int) (axes:List Int):Prop:=∀ i,i<axes.length→axOk n axes i=true
instance (n:Int) (axes:List Int):Decidable (axP n axes):=inferInstanceAs (Decidable (∀ i,i<axes.length→axOk n axes i=true))
end Go.Proofs.YtohiagaclfaolaaGreatDoor

namespace Go.Proofs.YtohiagaclfaolaaGreatDoor
open Go Go.Fw
set_option maxRecDepth 20000
def jA:AV:=arrV nilA
def jI:AV:= .sl false 1 []
def jk:TypeId→AV:=lookZ [(3,.lit (.int .i64 0)),(9,.lit (.string ByteArray.empty)),(46,jI),(53,jA)]
theorem jk3:jk 3= .lit (.int .i64 0):=rfl
theorem jk9:jk 9= .lit (.string ByteArray.empty):=rfl
theorem jk46:jk 46=jI:=rfl
theorem jk53:jk 53=jA:=rfl
theorem arrs_getJ (l:List Arr) (i:Nat):(arrs l).getD i jA=arrV (l.getD i nilA):=by
  simp only [arrs,jA,List.getD_eq_getElem?_getD,List.getElem?_map];cases l[i]? <;>rfl
theorem ils_getJ (l:List (List Int)) (i:Nat):(ils l).getD i jI= .sl false 1 (ints .i64 (l.getD i [])):=by
  simp only [ils,jI,List.getD_eq_getElem?_getD,List.getElem?_map];cases l[i]? <;>rfl
attribute [go_sem] jk3 jk9 jk46 jk53 arrs_getJ ils_getJ
end Go.Proofs.YtohiagaclfaolaaGreatDoor

namespace Go.Proofs.YtohiagaclfaolaaGreatDoor.El
open Go.Proofs.YtohiagaclfaolaaGreatDoor
open Go Go.Fw
set_option maxRecDepth 20000
noncomputable def E0:Env:=envOf (P:=Tryz.prog) zer (fun _=>false) (fun _=>false) [] []
theorem E0_ok:EnvOk Tryz.prog E0:=envOk zer_ok
theorem eqS_iff {a b:ByteArray}:eqS a b=true ↔ a=b:=by
  unfold eqS
  rw [beq_iff_eq]
  constructor
  ·intro h
   apply ByteArray.ext
   apply Array.ext'
   simpa using h
  ·intro h;rw [h]
theorem eqS_refl (b:ByteArray):eqS b b=true:=eqS_iff.2 rfl
end Go.Proofs.YtohiagaclfaolaaGreatDoor.El

namespace Go.Proofs.YtohiagaclfaolaaGreatDoor.El
open Go.Proofs.YtohiagaclfaolaaGreatDoor
open Go Go.Fw
set_option maxRecDepth 20000
theorem q_0_0:eqS (⟨#[97,100,100]⟩:ByteArray) (⟨#[97,100,100]⟩:ByteArray)=true:=rfl
theorem q_0_1:eqS (⟨#[97,100,100]⟩:ByteArray) (⟨#[115,117,98]⟩:ByteArray)=false:=rfl
theorem q_0_2:eqS (⟨#[97,100,100]⟩:ByteArray) (⟨#[109,117,108]⟩:ByteArray)=false:=rfl
theorem q_0_3:eqS (⟨#[97,100,100]⟩:ByteArray) (⟨#[100,105,118]⟩:ByteArray)=false:=rfl
theorem q_0_4:eqS (⟨#[97,100,100]⟩:ByteArray) (⟨#[109,111,100]⟩:ByteArray)=false:=rfl
theorem q_0_5:eqS (⟨#[97,100,100]⟩:ByteArray) (⟨#[109,105,110]⟩:ByteArray)=false:=rfl
theorem q_0_6:eqS (⟨#[97,100,100]⟩:ByteArray) (⟨#[109,97,120]⟩:ByteArray)=false:=rfl
theorem q_0_7:eqS (⟨#[97,100,100]⟩:ByteArray) (⟨#[110,101,103]⟩:ByteArray)=false:=rfl
theorem q_0_8:eqS (⟨#[97,100,100]⟩:ByteArray) (⟨#[97,98,115]⟩:ByteArray)=false:=rfl
theorem q_0_9:eqS (⟨#[97,100,100]⟩:ByteArray) (⟨#[115,105,103,110]⟩:ByteArray)=false:=rfl
theorem q_0_10:eqS (⟨#[97,100,100]⟩:ByteArray) (⟨#[108,116]⟩:ByteArray)=false:=rfl
theorem q_0_11:eqS (⟨#[97,100,100]⟩:ByteArray) (⟨#[108,101]⟩:ByteArray)=false:=rfl
theorem q_0_12:eqS (⟨#[97,100,100]⟩:ByteArray) (⟨#[103,116]⟩:ByteArray)=false:=rfl
theorem q_0_13:eqS (⟨#[97,100,100]⟩:ByteArray) (⟨#[103,101]⟩:ByteArray)=false:=rfl
theorem q_0_14:eqS (⟨#[97,100,100]⟩:ByteArray) (⟨#[101,113]⟩:ByteArray)=false:=rfl
theorem q_0_15:eqS (⟨#[97,100,100]⟩:ByteArray) (⟨#[110,101]⟩:ByteArray)=false:=rfl
theorem q_0_16:eqS (⟨#[97,100,100]⟩:ByteArray) (⟨#[97,110,100]⟩:ByteArray)=false:=rfl
theorem q_0_17:eqS (⟨#[97,100,100]⟩:ByteArray) (⟨#[111,114]⟩:ByteArray)=false:=rfl
theorem q_0_18:eqS (⟨#[97,100,100]⟩:ByteArray) (⟨#[120,111,114]⟩:ByteArray)=false:=rfl
theorem q_0_19:eqS (⟨#[97,100,100]⟩:ByteArray) (⟨#[110,111,116]⟩:ByteArray)=false:=rfl
theorem q_0_20:eqS (⟨#[97,100,100]⟩:ByteArray) (⟨#[115,101,108,101,99,116]⟩:ByteArray)=false:=rfl
theorem q_0_21:eqS (⟨#[97,100,100]⟩:ByteArray) (⟨#[116,111,105,110,116]⟩:ByteArray)=false:=rfl
theorem q_0_22:eqS (⟨#[97,100,100]⟩:ByteArray) (⟨#[105,110,116]⟩:ByteArray)=false:=rfl
theorem q_0_23:eqS (⟨#[97,100,100]⟩:ByteArray) (⟨#[98,111,111,108]⟩:ByteArray)=false:=rfl
theorem q_0_24:eqS (⟨#[97,100,100]⟩:ByteArray) (⟨#[65]⟩:ByteArray)=false:=rfl
theorem q_0_25:eqS (⟨#[97,100,100]⟩:ByteArray) (⟨#[]⟩:ByteArray)=false:=rfl
theorem q_1_0:eqS (⟨#[115,117,98]⟩:ByteArray) (⟨#[97,100,100]⟩:ByteArray)=false:=rfl
theorem q_1_1:eqS (⟨#[115,117,98]⟩:ByteArray) (⟨#[115,117,98]⟩:ByteArray)=true:=rfl
theorem q_1_2:eqS (⟨#[115,117,98]⟩:ByteArray) (⟨#[109,117,108]⟩:ByteArray)=false:=rfl
theorem q_1_3:eqS (⟨#[115,117,98]⟩:ByteArray) (⟨#[100,105,118]⟩:ByteArray)=false:=rfl
theorem q_1_4:eqS (⟨#[115,117,98]⟩:ByteArray) (⟨#[109,111,100]⟩:ByteArray)=false:=rfl
theorem q_1_5:eqS (⟨#[115,117,98]⟩:ByteArray) (⟨#[109,105,110]⟩:ByteArray)=false:=rfl
theorem q_1_6:eqS (⟨#[115,117,98]⟩:ByteArray) (⟨#[109,97,120]⟩:ByteArray)=false:=rfl
theorem q_1_7:eqS (⟨#[115,117,98]⟩:ByteArray) (⟨#[110,101,103]⟩:ByteArray)=false:=rfl
theorem q_1_8:eqS (⟨#[115,117,98]⟩:ByteArray) (⟨#[97,98,115]⟩:ByteArray)=false:=rfl
theorem q_1_9:eqS (⟨#[115,117,98]⟩:ByteArray) (⟨#[115,105,103,110]⟩:ByteArray)=false:=rfl
theorem q_1_10:eqS (⟨#[115,117,98]⟩:ByteArray) (⟨#[108,116]⟩:ByteArray)=false:=rfl
theorem q_1_11:eqS (⟨#[115,117,98]⟩:ByteArray) (⟨#[108,101]⟩:ByteArray)=false:=rfl
theorem q_1_12:eqS (⟨#[115,117,98]⟩:ByteArray) (⟨#[103,116]⟩:ByteArray)=false:=rfl
theorem q_1_13:eqS (⟨#[115,117,98]⟩:ByteArray) (⟨#[103,101]⟩:ByteArray)=false:=rfl
theorem q_1_14:eqS (⟨#[115,117,98]⟩:ByteArray) (⟨#[101,113]⟩:ByteArray)=false:=rfl
theorem q_1_15:eqS (⟨#[115,117,98]⟩:ByteArray) (⟨#[110,101]⟩:ByteArray)=false:=rfl
theorem q_1_16:eqS (⟨#[115,117,98]⟩:ByteArray) (⟨#[97,110,100]⟩:ByteArray)=false:=rfl
theorem q_1_17:eqS (⟨#[115,117,98]⟩:ByteArray) (⟨#[111,114]⟩:ByteArray)=false:=rfl
theorem q_1_18:eqS (⟨#[115,117,98]⟩:ByteArray) (⟨#[120,111,114]⟩:ByteArray)=false:=rfl
theorem q_1_19:eqS (⟨#[115,117,98]⟩:ByteArray) (⟨#[110,111,116]⟩:ByteArray)=false:=rfl
theorem q_1_20:eqS (⟨#[115,117,98]⟩:ByteArray) (⟨#[115,101,108,101,99,116]⟩:ByteArray)=false:=rfl
theorem q_1_21:eqS (⟨#[115,117,98]⟩:ByteArray) (⟨#[116,111,105,110,116]⟩:ByteArray)=false:=rfl
theorem q_1_22:eqS (⟨#[115,117,98]⟩:ByteArray) (⟨#[105,110,116]⟩:ByteArray)=false:=rfl
theorem q_1_23:eqS (⟨#[115,117,98]⟩:ByteArray) (⟨#[98,111,111,108]⟩:ByteArray)=false:=rfl
theorem q_1_24:eqS (⟨#[115,117,98]⟩:ByteArray) (⟨#[65]⟩:ByteArray)=false:=rfl
theorem q_1_25:eqS (⟨#[115,117,98]⟩:ByteArray) (⟨#[]⟩:ByteArray)=false:=rfl
theorem q_2_0:eqS (⟨#[109,117,108]⟩:ByteArray) (⟨#[97,100,100]⟩:ByteArray)=false:=rfl
theorem q_2_1:eqS (⟨#[109,117,108]⟩:ByteArray) (⟨#[115,117,98]⟩:ByteArray)=false:=rfl
theorem q_2_2:eqS (⟨#[109,117,108]⟩:ByteArray) (⟨#[109,117,108]⟩:ByteArray)=true:=rfl
theorem q_2_3:eqS (⟨#[109,117,108]⟩:ByteArray) (⟨#[100,105,118]⟩:ByteArray)=false:=rfl
theorem q_2_4:eqS (⟨#[109,117,108]⟩:ByteArray) (⟨#[109,111,100]⟩:ByteArray)=false:=rfl
theorem q_2_5:eqS (⟨#[109,117,108]⟩:ByteArray) (⟨#[109,105,110]⟩:ByteArray)=false:=rfl
theorem q_2_6:eqS (⟨#[109,117,108]⟩:ByteArray) (⟨#[109,97,120]⟩:ByteArray)=false:=rfl
theorem q_2_7:eqS (⟨#[109,117,108]⟩:ByteArray) (⟨#[110,101,103]⟩:ByteArray)=false:=rfl
theorem q_2_8:eqS (⟨#[109,117,108]⟩:ByteArray) (⟨#[97,98,115]⟩:ByteArray)=false:=rfl
theorem q_2_9:eqS (⟨#[109,117,108]⟩:ByteArray) (⟨#[115,105,103,110]⟩:ByteArray)=false:=rfl
theorem q_2_10:eqS (⟨#[109,117,108]⟩:ByteArray) (⟨#[108,116]⟩:ByteArray)=false:=rfl
theorem q_2_11:eqS (⟨#[109,117,108]⟩:ByteArray) (⟨#[108,101]⟩:ByteArray)=false:=rfl
theorem q_2_12:eqS (⟨#[109,117,108]⟩:ByteArray) (⟨#[103,116]⟩:ByteArray)=false:=rfl
theorem q_2_13:eqS (⟨#[109,117,108]⟩:ByteArray) (⟨#[103,101]⟩:ByteArray)=false:=rfl
theorem q_2_14:eqS (⟨#[109,117,108]⟩:ByteArray) (⟨#[101,113]⟩:ByteArray)=false:=rfl
theorem q_2_15:eqS (⟨#[109,117,108]⟩:ByteArray) (⟨#[110,101]⟩:ByteArray)=false:=rfl
theorem q_2_16:eqS (⟨#[109,117,108]⟩:ByteArray) (⟨#[97,110,100]⟩:ByteArray)=false:=rfl
theorem q_2_17:eqS (⟨#[109,117,108]⟩:ByteArray) (⟨#[111,114]⟩:ByteArray)=false:=rfl
theorem q_2_18:eqS (⟨#[109,117,108]⟩:ByteArray) (⟨#[120,111,114]⟩:ByteArray)=false:=rfl
theorem q_2_19:eqS (⟨#[109,117,108]⟩:ByteArray) (⟨#[110,111,116]⟩:ByteArray)=false:=rfl
theorem q_2_20:eqS (⟨#[109,117,108]⟩:ByteArray) (⟨#[115,101,108,101,99,116]⟩:ByteArray)=false:=rfl
theorem q_2_21:eqS (⟨#[109,117,108]⟩:ByteArray) (⟨#[116,111,105,110,116]⟩:ByteArray)=false:=rfl
theorem q_2_22:eqS (⟨#[109,117,108]⟩:ByteArray) (⟨#[105,110,116]⟩:ByteArray)=false:=rfl
theorem q_2_23:eqS (⟨#[109,117,108]⟩:ByteArray) (⟨#[98,111,111,108]⟩:ByteArray)=false:=rfl
theorem q_2_24:eqS (⟨#[109,117,108]⟩:ByteArray) (⟨#[65]⟩:ByteArray)=false:=rfl
theorem q_2_25:eqS (⟨#[109,117,108]⟩:ByteArray) (⟨#[]⟩:ByteArray)=false:=rfl
theorem q_3_0:eqS (⟨#[100,105,118]⟩:ByteArray) (⟨#[97,100,100]⟩:ByteArray)=false:=rfl
theorem q_3_1:eqS (⟨#[100,105,118]⟩:ByteArray) (⟨#[115,117,98]⟩:ByteArray)=false:=rfl
theorem q_3_2:eqS (⟨#[100,105,118]⟩:ByteArray) (⟨#[109,117,108]⟩:ByteArray)=false:=rfl
theorem q_3_3:eqS (⟨#[100,105,118]⟩:ByteArray) (⟨#[100,105,118]⟩:ByteArray)=true:=rfl
theorem q_3_4:eqS (⟨#[100,105,118]⟩:ByteArray) (⟨#[109,111,100]⟩:ByteArray)=false:=rfl
theorem q_3_5:eqS (⟨#[100,105,118]⟩:ByteArray) (⟨#[109,105,110]⟩:ByteArray)=false:=rfl
theorem q_3_6:eqS (⟨#[100,105,118]⟩:ByteArray) (⟨#[109,97,120]⟩:ByteArray)=false:=rfl
theorem q_3_7:eqS (⟨#[100,105,118]⟩:ByteArray) (⟨#[110,101,103]⟩:ByteArray)=false:=rfl
theorem q_3_8:eqS (⟨#[100,105,118]⟩:ByteArray) (⟨#[97,98,115]⟩:ByteArray)=false:=rfl
theorem q_3_9:eqS (⟨#[100,105,118]⟩:ByteArray) (⟨#[115,105,103,110]⟩:ByteArray)=false:=rfl
theorem q_3_10:eqS (⟨#[100,105,118]⟩:ByteArray) (⟨#[108,116]⟩:ByteArray)=false:=rfl
theorem q_3_11:eqS (⟨#[100,105,118]⟩:ByteArray) (⟨#[108,101]⟩:ByteArray)=false:=rfl
theorem q_3_12:eqS (⟨#[100,105,118]⟩:ByteArray) (⟨#[103,116]⟩:ByteArray)=false:=rfl
theorem q_3_13:eqS (⟨#[100,105,118]⟩:ByteArray) (⟨#[103,101]⟩:ByteArray)=false:=rfl
theorem q_3_14:eqS (⟨#[100,105,118]⟩:ByteArray) (⟨#[101,113]⟩:ByteArray)=false:=rfl
theorem q_3_15:eqS (⟨#[100,105,118]⟩:ByteArray) (⟨#[110,101]⟩:ByteArray)=false:=rfl
theorem q_3_16:eqS (⟨#[100,105,118]⟩:ByteArray) (⟨#[97,110,100]⟩:ByteArray)=false:=rfl
theorem q_3_17:eqS (⟨#[100,105,118]⟩:ByteArray) (⟨#[111,114]⟩:ByteArray)=false:=rfl
theorem q_3_18:eqS (⟨#[100,105,118]⟩:ByteArray) (⟨#[120,111,114]⟩:ByteArray)=false:=rfl
theorem q_3_19:eqS (⟨#[100,105,118]⟩:ByteArray) (⟨#[110,111,116]⟩:ByteArray)=false:=rfl
theorem q_3_20:eqS (⟨#[100,105,118]⟩:ByteArray) (⟨#[115,101,108,101,99,116]⟩:ByteArray)=false:=rfl
theorem q_3_21:eqS (⟨#[100,105,118]⟩:ByteArray) (⟨#[116,111,105,110,116]⟩:ByteArray)=false:=rfl
theorem q_3_22:eqS (⟨#[100,105,118]⟩:ByteArray) (⟨#[105,110,116]⟩:ByteArray)=false:=rfl
theorem q_3_23:eqS (⟨#[100,105,118]⟩:ByteArray) (⟨#[98,111,111,108]⟩:ByteArray)=false:=rfl
theorem q_3_24:eqS (⟨#[100,105,118]⟩:ByteArray) (⟨#[65]⟩:ByteArray)=false:=rfl
theorem q_3_25:eqS (⟨#[100,105,118]⟩:ByteArray) (⟨#[]⟩:ByteArray)=false:=rfl
theorem q_4_0:eqS (⟨#[109,111,100]⟩:ByteArray) (⟨#[97,100,100]⟩:ByteArray)=false:=rfl
theorem q_4_1:eqS (⟨#[109,111,100]⟩:ByteArray) (⟨#[115,117,98]⟩:ByteArray)=false:=rfl
theorem q_4_2:eqS (⟨#[109,111,100]⟩:ByteArray) (⟨#[109,117,108]⟩:ByteArray)=false:=rfl
theorem q_4_3:eqS (⟨#[109,111,100]⟩:ByteArray) (⟨#[100,105,118]⟩:ByteArray)=false:=rfl
theorem q_4_4:eqS (⟨#[109,111,100]⟩:ByteArray) (⟨#[109,111,100]⟩:ByteArray)=true:=rfl
theorem q_4_5:eqS (⟨#[109,111,100]⟩:ByteArray) (⟨#[109,105,110]⟩:ByteArray)=false:=rfl
theorem q_4_6:eqS (⟨#[109,111,100]⟩:ByteArray) (⟨#[109,97,120]⟩:ByteArray)=false:=rfl
theorem q_4_7:eqS (⟨#[109,111,100]⟩:ByteArray) (⟨#[110,101,103]⟩:ByteArray)=false:=rfl
theorem q_4_8:eqS (⟨#[109,111,100]⟩:ByteArray) (⟨#[97,98,115]⟩:ByteArray)=false:=rfl
theorem q_4_9:eqS (⟨#[109,111,100]⟩:ByteArray) (⟨#[115,105,103,110]⟩:ByteArray)=false:=rfl
theorem q_4_10:eqS (⟨#[109,111,100]⟩:ByteArray) (⟨#[108,116]⟩:ByteArray)=false:=rfl
theorem q_4_11:eqS (⟨#[109,111,100]⟩:ByteArray) (⟨#[108,101]⟩:ByteArray)=false:=rfl
theorem q_4_12:eqS (⟨#[109,111,100]⟩:ByteArray) (⟨#[103,116]⟩:ByteArray)=false:=rfl
theorem q_4_13:eqS (⟨#[109,111,100]⟩:ByteArray) (⟨#[103,101]⟩:ByteArray)=false:=rfl
theorem q_4_14:eqS (⟨#[109,111,100]⟩:ByteArray) (⟨#[101,113]⟩:ByteArray)=false:=rfl
theorem q_4_15:eqS (⟨#[109,111,100]⟩:ByteArray) (⟨#[110,101]⟩:ByteArray)=false:=rfl
theorem q_4_16:eqS (⟨#[109,111,100]⟩:ByteArray) (⟨#[97,110,100]⟩:ByteArray)=false:=rfl
theorem q_4_17:eqS (⟨#[109,111,100]⟩:ByteArray) (⟨#[111,114]⟩:ByteArray)=false:=rfl
theorem q_4_18:eqS (⟨#[109,111,100]⟩:ByteArray) (⟨#[120,111,114]⟩:ByteArray)=false:=rfl
theorem q_4_19:eqS (⟨#[109,111,100]⟩:ByteArray) (⟨#[110,111,116]⟩:ByteArray)=false:=rfl
theorem q_4_20:eqS (⟨#[109,111,100]⟩:ByteArray) (⟨#[115,101,108,101,99,116]⟩:ByteArray)=false:=rfl
theorem q_4_21:eqS (⟨#[109,111,100]⟩:ByteArray) (⟨#[116,111,105,110,116]⟩:ByteArray)=false:=rfl
theorem q_4_22:eqS (⟨#[109,111,100]⟩:ByteArray) (⟨#[105,110,116]⟩:ByteArray)=false:=rfl
theorem q_4_23:eqS (⟨#[109,111,100]⟩:ByteArray) (⟨#[98,111,111,108]⟩:ByteArray)=false:=rfl
theorem q_4_24:eqS (⟨#[109,111,100]⟩:ByteArray) (⟨#[65]⟩:ByteArray)=false:=rfl
theorem q_4_25:eqS (⟨#[109,111,100]⟩:ByteArray) (⟨#[]⟩:ByteArray)=false:=rfl
theorem q_5_0:eqS (⟨#[109,105,110]⟩:ByteArray) (⟨#[97,100,100]⟩:ByteArray)=false:=rfl
theorem q_5_1:eqS (⟨#[109,105,110]⟩:ByteArray) (⟨#[115,117,98]⟩:ByteArray)=false:=rfl
theorem q_5_2:eqS (⟨#[109,105,110]⟩:ByteArray) (⟨#[109,117,108]⟩:ByteArray)=false:=rfl
theorem q_5_3:eqS (⟨#[109,105,110]⟩:ByteArray) (⟨#[100,105,118]⟩:ByteArray)=false:=rfl
theorem q_5_4:eqS (⟨#[109,105,110]⟩:ByteArray) (⟨#[109,111,100]⟩:ByteArray)=false:=rfl
theorem q_5_5:eqS (⟨#[109,105,110]⟩:ByteArray) (⟨#[109,105,110]⟩:ByteArray)=true:=rfl
theorem q_5_6:eqS (⟨#[109,105,110]⟩:ByteArray) (⟨#[109,97,120]⟩:ByteArray)=false:=rfl
theorem q_5_7:eqS (⟨#[109,105,110]⟩:ByteArray) (⟨#[110,101,103]⟩:ByteArray)=false:=rfl
theorem q_5_8:eqS (⟨#[109,105,110]⟩:ByteArray) (⟨#[97,98,115]⟩:ByteArray)=false:=rfl
theorem q_5_9:eqS (⟨#[109,105,110]⟩:ByteArray) (⟨#[115,105,103,110]⟩:ByteArray)=false:=rfl
theorem q_5_10:eqS (⟨#[109,105,110]⟩:ByteArray) (⟨#[108,116]⟩:ByteArray)=false:=rfl
theorem q_5_11:eqS (⟨#[109,105,110]⟩:ByteArray) (⟨#[108,101]⟩:ByteArray)=false:=rfl
theorem q_5_12:eqS (⟨#[109,105,110]⟩:ByteArray) (⟨#[103,116]⟩:ByteArray)=false:=rfl
theorem q_5_13:eqS (⟨#[109,105,110]⟩:ByteArray) (⟨#[103,101]⟩:ByteArray)=false:=rfl
theorem q_5_14:eqS (⟨#[109,105,110]⟩:ByteArray) (⟨#[101,113]⟩:ByteArray)=false:=rfl
theorem q_5_15:eqS (⟨#[109,105,110]⟩:ByteArray) (⟨#[110,101]⟩:ByteArray)=false:=rfl
theorem q_5_16:eqS (⟨#[109,105,110]⟩:ByteArray) (⟨#[97,110,100]⟩:ByteArray)=false:=rfl
theorem q_5_17:eqS (⟨#[109,105,110]⟩:ByteArray) (⟨#[111,114]⟩:ByteArray)=false:=rfl
theorem q_5_18:eqS (⟨#[109,105,110]⟩:ByteArray) (⟨#[120,111,114]⟩:ByteArray)=false:=rfl
theorem q_5_19:eqS (⟨#[109,105,110]⟩:ByteArray) (⟨#[110,111,116]⟩:ByteArray)=false:=rfl
theorem q_5_20:eqS (⟨#[109,105,110]⟩:ByteArray) (⟨#[115,101,108,101,99,116]⟩:ByteArray)=false:=rfl
theorem q_5_21:eqS (⟨#[109,105,110]⟩:ByteArray) (⟨#[116,111,105,110,116]⟩:ByteArray)=false:=rfl
theorem q_5_22:eqS (⟨#[109,105,110]⟩:ByteArray) (⟨#[105,110,116]⟩:ByteArray)=false:=rfl
theorem q_5_23:eqS (⟨#[109,105,110]⟩:ByteArray) (⟨#[98,111,111,108]⟩:ByteArray)=false:=rfl
theorem q_5_24:eqS (⟨#[109,105,110]⟩:ByteArray) (⟨#[65]⟩:ByteArray)=false:=rfl
theorem q_5_25:eqS (⟨#[109,105,110]⟩:ByteArray) (⟨#[]⟩:ByteArray)=false:=rfl
theorem q_6_0:eqS (⟨#[109,97,120]⟩:ByteArray) (⟨#[97,100,100]⟩:ByteArray)=false:=rfl
theorem q_6_1:eqS (⟨#[109,97,120]⟩:ByteArray) (⟨#[115,117,98]⟩:ByteArray)=false:=rfl
theorem q_6_2:eqS (⟨#[109,97,120]⟩:ByteArray) (⟨#[109,117,108]⟩:ByteArray)=false:=rfl
theorem q_6_3:eqS (⟨#[109,97,120]⟩:ByteArray) (⟨#[100,105,118]⟩:ByteArray)=false:=rfl
theorem q_6_4:eqS (⟨#[109,97,120]⟩:ByteArray) (⟨#[109,111,100]⟩:ByteArray)=false:=rfl
theorem q_6_5:eqS (⟨#[109,97,120]⟩:ByteArray) (⟨#[109,105,110]⟩:ByteArray)=false:=rfl
theorem q_6_6:eqS (⟨#[109,97,120]⟩:ByteArray) (⟨#[109,97,120]⟩:ByteArray)=true:=rfl
theorem q_6_7:eqS (⟨#[109,97,120]⟩:ByteArray) (⟨#[110,101,103]⟩:ByteArray)=false:=rfl
theorem q_6_8:eqS (⟨#[109,97,120]⟩:ByteArray) (⟨#[97,98,115]⟩:ByteArray)=false:=rfl
theorem q_6_9:eqS (⟨#[109,97,120]⟩:ByteArray) (⟨#[115,105,103,110]⟩:ByteArray)=false:=rfl
theorem q_6_10:eqS (⟨#[109,97,120]⟩:ByteArray) (⟨#[108,116]⟩:ByteArray)=false:=rfl
theorem q_6_11:eqS (⟨#[109,97,120]⟩:ByteArray) (⟨#[108,101]⟩:ByteArray)=false:=rfl
theorem q_6_12:eqS (⟨#[109,97,120]⟩:ByteArray) (⟨#[103,116]⟩:ByteArray)=false:=rfl
theorem q_6_13:eqS (⟨#[109,97,120]⟩:ByteArray) (⟨#[103,101]⟩:ByteArray)=false:=rfl
theorem q_6_14:eqS (⟨#[109,97,120]⟩:ByteArray) (⟨#[101,113]⟩:ByteArray)=false:=rfl
theorem q_6_15:eqS (⟨#[109,97,120]⟩:ByteArray) (⟨#[110,101]⟩:ByteArray)=false:=rfl
theorem q_6_16:eqS (⟨#[109,97,120]⟩:ByteArray) (⟨#[97,110,100]⟩:ByteArray)=false:=rfl
theorem q_6_17:eqS (⟨#[109,97,120]⟩:ByteArray) (⟨#[111,114]⟩:ByteArray)=false:=rfl
theorem q_6_18:eqS (⟨#[109,97,120]⟩:ByteArray) (⟨#[120,111,114]⟩:ByteArray)=false:=rfl
theorem q_6_19:eqS (⟨#[109,97,120]⟩:ByteArray) (⟨#[110,111,116]⟩:ByteArray)=false:=rfl
theorem q_6_20:eqS (⟨#[109,97,120]⟩:ByteArray) (⟨#[115,101,108,101,99,116]⟩:ByteArray)=false:=rfl
theorem q_6_21:eqS (⟨#[109,97,120]⟩:ByteArray) (⟨#[116,111,105,110,116]⟩:ByteArray)=false:=rfl
theorem q_6_22:eqS (⟨#[109,97,120]⟩:ByteArray) (⟨#[105,110,116]⟩:ByteArray)=false:=rfl
theorem q_6_23:eqS (⟨#[109,97,120]⟩:ByteArray) (⟨#[98,111,111,108]⟩:ByteArray)=false:=rfl
theorem q_6_24:eqS (⟨#[109,97,120]⟩:ByteArray) (⟨#[65]⟩:ByteArray)=false:=rfl
theorem q_6_25:eqS (⟨#[109,97,120]⟩:ByteArray) (⟨#[]⟩:ByteArray)=false:=rfl
theorem q_7_0:eqS (⟨#[110,101,103]⟩:ByteArray) (⟨#[97,100,100]⟩:ByteArray)=false:=rfl
theorem q_7_1:eqS (⟨#[110,101,103]⟩:ByteArray) (⟨#[115,117,98]⟩:ByteArray)=false:=rfl
theorem q_7_2:eqS (⟨#[110,101,103]⟩:ByteArray) (⟨#[109,117,108]⟩:ByteArray)=false:=rfl
theorem q_7_3:eqS (⟨#[110,101,103]⟩:ByteArray) (⟨#[100,105,118]⟩:ByteArray)=false:=rfl
theorem q_7_4:eqS (⟨#[110,101,103]⟩:ByteArray) (⟨#[109,111,100]⟩:ByteArray)=false:=rfl
theorem q_7_5:eqS (⟨#[110,101,103]⟩:ByteArray) (⟨#[109,105,110]⟩:ByteArray)=false:=rfl
theorem q_7_6:eqS (⟨#[110,101,103]⟩:ByteArray) (⟨#[109,97,120]⟩:ByteArray)=false:=rfl
theorem q_7_7:eqS (⟨#[110,101,103]⟩:ByteArray) (⟨#[110,101,103]⟩:ByteArray)=true:=rfl
theorem q_7_8:eqS (⟨#[110,101,103]⟩:ByteArray) (⟨#[97,98,115]⟩:ByteArray)=false:=rfl
theorem q_7_9:eqS (⟨#[110,101,103]⟩:ByteArray) (⟨#[115,105,103,110]⟩:ByteArray)=false:=rfl
theorem q_7_10:eqS (⟨#[110,101,103]⟩:ByteArray) (⟨#[108,116]⟩:ByteArray)=false:=rfl
theorem q_7_11:eqS (⟨#[110,101,103]⟩:ByteArray) (⟨#[108,101]⟩:ByteArray)=false:=rfl
theorem q_7_12:eqS (⟨#[110,101,103]⟩:ByteArray) (⟨#[103,116]⟩:ByteArray)=false:=rfl
theorem q_7_13:eqS (⟨#[110,101,103]⟩:ByteArray) (⟨#[103,101]⟩:ByteArray)=false:=rfl
theorem q_7_14:eqS (⟨#[110,101,103]⟩:ByteArray) (⟨#[101,113]⟩:ByteArray)=false:=rfl
theorem q_7_15:eqS (⟨#[110,101,103]⟩:ByteArray) (⟨#[110,101]⟩:ByteArray)=false:=rfl
theorem q_7_16:eqS (⟨#[110,101,103]⟩:ByteArray) (⟨#[97,110,100]⟩:ByteArray)=false:=rfl
theorem q_7_17:eqS (⟨#[110,101,103]⟩:ByteArray) (⟨#[111,114]⟩:ByteArray)=false:=rfl
theorem q_7_18:eqS (⟨#[110,101,103]⟩:ByteArray) (⟨#[120,111,114]⟩:ByteArray)=false:=rfl
theorem q_7_19:eqS (⟨#[110,101,103]⟩:ByteArray) (⟨#[110,111,116]⟩:ByteArray)=false:=rfl
theorem q_7_20:eqS (⟨#[110,101,103]⟩:ByteArray) (⟨#[115,101,108,101,99,116]⟩:ByteArray)=false:=rfl
theorem q_7_21:eqS (⟨#[110,101,103]⟩:ByteArray) (⟨#[116,111,105,110,116]⟩:ByteArray)=false:=rfl
theorem q_7_22:eqS (⟨#[110,101,103]⟩:ByteArray) (⟨#[105,110,116]⟩:ByteArray)=false:=rfl
theorem q_7_23:eqS (⟨#[110,101,103]⟩:ByteArray) (⟨#[98,111,111,108]⟩:ByteArray)=false:=rfl
theorem q_7_24:eqS (⟨#[110,101,103]⟩:ByteArray) (⟨#[65]⟩:ByteArray)=false:=rfl
theorem q_7_25:eqS (⟨#[110,101,103]⟩:ByteArray) (⟨#[]⟩:ByteArray)=false:=rfl
theorem q_8_0:eqS (⟨#[97,98,115]⟩:ByteArray) (⟨#[97,100,100]⟩:ByteArray)=false:=rfl
theorem q_8_1:eqS (⟨#[97,98,115]⟩:ByteArray) (⟨#[115,117,98]⟩:ByteArray)=false:=rfl
theorem q_8_2:eqS (⟨#[97,98,115]⟩:ByteArray) (⟨#[109,117,108]⟩:ByteArray)=false:=rfl
theorem q_8_3:eqS (⟨#[97,98,115]⟩:ByteArray) (⟨#[100,105,118]⟩:ByteArray)=false:=rfl
theorem q_8_4:eqS (⟨#[97,98,115]⟩:ByteArray) (⟨#[109,111,100]⟩:ByteArray)=false:=rfl
theorem q_8_5:eqS (⟨#[97,98,115]⟩:ByteArray) (⟨#[109,105,110]⟩:ByteArray)=false:=rfl
theorem q_8_6:eqS (⟨#[97,98,115]⟩:ByteArray) (⟨#[109,97,120]⟩:ByteArray)=false:=rfl
theorem q_8_7:eqS (⟨#[97,98,115]⟩:ByteArray) (⟨#[110,101,103]⟩:ByteArray)=false:=rfl
theorem q_8_8:eqS (⟨#[97,98,115]⟩:ByteArray) (⟨#[97,98,115]⟩:ByteArray)=true:=rfl
theorem q_8_9:eqS (⟨#[97,98,115]⟩:ByteArray) (⟨#[115,105,103,110]⟩:ByteArray)=false:=rfl
theorem q_8_10:eqS (⟨#[97,98,115]⟩:ByteArray) (⟨#[108,116]⟩:ByteArray)=false:=rfl
theorem q_8_11:eqS (⟨#[97,98,115]⟩:ByteArray) (⟨#[108,101]⟩:ByteArray)=false:=rfl
theorem q_8_12:eqS (⟨#[97,98,115]⟩:ByteArray) (⟨#[103,116]⟩:ByteArray)=false:=rfl
theorem q_8_13:eqS (⟨#[97,98,115]⟩:ByteArray) (⟨#[103,101]⟩:ByteArray)=false:=rfl
theorem q_8_14:eqS (⟨#[97,98,115]⟩:ByteArray) (⟨#[101,113]⟩:ByteArray)=false:=rfl
theorem q_8_15:eqS (⟨#[97,98,115]⟩:ByteArray) (⟨#[110,101]⟩:ByteArray)=false:=rfl
theorem q_8_16:eqS (⟨#[97,98,115]⟩:ByteArray) (⟨#[97,110,100]⟩:ByteArray)=false:=rfl
theorem q_8_17:eqS (⟨#[97,98,115]⟩:ByteArray) (⟨#[111,114]⟩:ByteArray)=false:=rfl
theorem q_8_18:eqS (⟨#[97,98,115]⟩:ByteArray) (⟨#[120,111,114]⟩:ByteArray)=false:=rfl
theorem q_8_19:eqS (⟨#[97,98,115]⟩:ByteArray) (⟨#[110,111,116]⟩:ByteArray)=false:=rfl
theorem q_8_20:eqS (⟨#[97,98,115]⟩:ByteArray) (⟨#[115,101,108,101,99,116]⟩:ByteArray)=false:=rfl
theorem q_8_21:eqS (⟨#[97,98,115]⟩:ByteArray) (⟨#[116,111,105,110,116]⟩:ByteArray)=false:=rfl
theorem q_8_22:eqS (⟨#[97,98,115]⟩:ByteArray) (⟨#[105,110,116]⟩:ByteArray)=false:=rfl
theorem q_8_23:eqS (⟨#[97,98,115]⟩:ByteArray) (⟨#[98,111,111,108]⟩:ByteArray)=false:=rfl
theorem q_8_24:eqS (⟨#[97,98,115]⟩:ByteArray) (⟨#[65]⟩:ByteArray)=false:=rfl
theorem q_8_25:eqS (⟨#[97,98,115]⟩:ByteArray) (⟨#[]⟩:ByteArray)=false:=rfl
theorem q_9_0:eqS (⟨#[115,105,103,110]⟩:ByteArray) (⟨#[97,100,100]⟩:ByteArray)=false:=rfl
theorem q_9_1:eqS (⟨#[115,105,103,110]⟩:ByteArray) (⟨#[115,117,98]⟩:ByteArray)=false:=rfl
theorem q_9_2:eqS (⟨#[115,105,103,110]⟩:ByteArray) (⟨#[109,117,108]⟩:ByteArray)=false:=rfl
theorem q_9_3:eqS (⟨#[115,105,103,110]⟩:ByteArray) (⟨#[100,105,118]⟩:ByteArray)=false:=rfl
theorem q_9_4:eqS (⟨#[115,105,103,110]⟩:ByteArray) (⟨#[109,111,100]⟩:ByteArray)=false:=rfl
theorem q_9_5:eqS (⟨#[115,105,103,110]⟩:ByteArray) (⟨#[109,105,110]⟩:ByteArray)=false:=rfl
theorem q_9_6:eqS (⟨#[115,105,103,110]⟩:ByteArray) (⟨#[109,97,120]⟩:ByteArray)=false:=rfl
theorem q_9_7:eqS (⟨#[115,105,103,110]⟩:ByteArray) (⟨#[110,101,103]⟩:ByteArray)=false:=rfl
theorem q_9_8:eqS (⟨#[115,105,103,110]⟩:ByteArray) (⟨#[97,98,115]⟩:ByteArray)=false:=rfl
theorem q_9_9:eqS (⟨#[115,105,103,110]⟩:ByteArray) (⟨#[115,105,103,110]⟩:ByteArray)=true:=rfl
theorem q_9_10:eqS (⟨#[115,105,103,110]⟩:ByteArray) (⟨#[108,116]⟩:ByteArray)=false:=rfl
theorem q_9_11:eqS (⟨#[115,105,103,110]⟩:ByteArray) (⟨#[108,101]⟩:ByteArray)=false:=rfl
theorem q_9_12:eqS (⟨#[115,105,103,110]⟩:ByteArray) (⟨#[103,116]⟩:ByteArray)=false:=rfl
theorem q_9_13:eqS (⟨#[115,105,103,110]⟩:ByteArray) (⟨#[103,101]⟩:ByteArray)=false:=rfl
theorem q_9_14:eqS (⟨#[115,105,103,110]⟩:ByteArray) (⟨#[101,113]⟩:ByteArray)=false:=rfl
theorem q_9_15:eqS (⟨#[115,105,103,110]⟩:ByteArray) (⟨#[110,101]⟩:ByteArray)=false:=rfl
theorem q_9_16:eqS (⟨#[115,105,103,110]⟩:ByteArray) (⟨#[97,110,100]⟩:ByteArray)=false:=rfl
theorem q_9_17:eqS (⟨#[115,105,103,110]⟩:ByteArray) (⟨#[111,114]⟩:ByteArray)=false:=rfl
theorem q_9_18:eqS (⟨#[115,105,103,110]⟩:ByteArray) (⟨#[120,111,114]⟩:ByteArray)=false:=rfl
theorem q_9_19:eqS (⟨#[115,105,103,110]⟩:ByteArray) (⟨#[110,111,116]⟩:ByteArray)=false:=rfl
theorem q_9_20:eqS (⟨#[115,105,103,110]⟩:ByteArray) (⟨#[115,101,108,101,99,116]⟩:ByteArray)=false:=rfl
theorem q_9_21:eqS (⟨#[115,105,103,110]⟩:ByteArray) (⟨#[116,111,105,110,116]⟩:ByteArray)=false:=rfl
theorem q_9_22:eqS (⟨#[115,105,103,110]⟩:ByteArray) (⟨#[105,110,116]⟩:ByteArray)=false:=rfl
theorem q_9_23:eqS (⟨#[115,105,103,110]⟩:ByteArray) (⟨#[98,111,111,108]⟩:ByteArray)=false:=rfl
theorem q_9_24:eqS (⟨#[115,105,103,110]⟩:ByteArray) (⟨#[65]⟩:ByteArray)=false:=rfl
theorem q_9_25:eqS (⟨#[115,105,103,110]⟩:ByteArray) (⟨#[]⟩:ByteArray)=false:=rfl
theorem q_10_0:eqS (⟨#[108,116]⟩:ByteArray) (⟨#[97,100,100]⟩:ByteArray)=false:=rfl
theorem q_10_1:eqS (⟨#[108,116]⟩:ByteArray) (⟨#[115,117,98]⟩:ByteArray)=false:=rfl
theorem q_10_2:eqS (⟨#[108,116]⟩:ByteArray) (⟨#[109,117,108]⟩:ByteArray)=false:=rfl
theorem q_10_3:eqS (⟨#[108,116]⟩:ByteArray) (⟨#[100,105,118]⟩:ByteArray)=false:=rfl
theorem q_10_4:eqS (⟨#[108,116]⟩:ByteArray) (⟨#[109,111,100]⟩:ByteArray)=false:=rfl
theorem q_10_5:eqS (⟨#[108,116]⟩:ByteArray) (⟨#[109,105,110]⟩:ByteArray)=false:=rfl
theorem q_10_6:eqS (⟨#[108,116]⟩:ByteArray) (⟨#[109,97,120]⟩:ByteArray)=false:=rfl
theorem q_10_7:eqS (⟨#[108,116]⟩:ByteArray) (⟨#[110,101,103]⟩:ByteArray)=false:=rfl
theorem q_10_8:eqS (⟨#[108,116]⟩:ByteArray) (⟨#[97,98,115]⟩:ByteArray)=false:=rfl
theorem q_10_9:eqS (⟨#[108,116]⟩:ByteArray) (⟨#[115,105,103,110]⟩:ByteArray)=false:=rfl
theorem q_10_10:eqS (⟨#[108,116]⟩:ByteArray) (⟨#[108,116]⟩:ByteArray)=true:=rfl
theorem q_10_11:eqS (⟨#[108,116]⟩:ByteArray) (⟨#[108,101]⟩:ByteArray)=false:=rfl
theorem q_10_12:eqS (⟨#[108,116]⟩:ByteArray) (⟨#[103,116]⟩:ByteArray)=false:=rfl
theorem q_10_13:eqS (⟨#[108,116]⟩:ByteArray) (⟨#[103,101]⟩:ByteArray)=false:=rfl
theorem q_10_14:eqS (⟨#[108,116]⟩:ByteArray) (⟨#[101,113]⟩:ByteArray)=false:=rfl
theorem q_10_15:eqS (⟨#[108,116]⟩:ByteArray) (⟨#[110,101]⟩:ByteArray)=false:=rfl
theorem q_10_16:eqS (⟨#[108,116]⟩:ByteArray) (⟨#[97,110,100]⟩:ByteArray)=false:=rfl
theorem q_10_17:eqS (⟨#[108,116]⟩:ByteArray) (⟨#[111,114]⟩:ByteArray)=false:=rfl
theorem q_10_18:eqS (⟨#[108,116]⟩:ByteArray) (⟨#[120,111,114]⟩:ByteArray)=false:=rfl
theorem q_10_19:eqS (⟨#[108,116]⟩:ByteArray) (⟨#[110,111,116]⟩:ByteArray)=false:=rfl
theorem q_10_20:eqS (⟨#[108,116]⟩:ByteArray) (⟨#[115,101,108,101,99,116]⟩:ByteArray)=false:=rfl
theorem q_10_21:eqS (⟨#[108,116]⟩:ByteArray) (⟨#[116,111,105,110,116]⟩:ByteArray)=false:=rfl
theorem q_10_22:eqS (⟨#[108,116]⟩:ByteArray) (⟨#[105,110,116]⟩:ByteArray)=false:=rfl
theorem q_10_23:eqS (⟨#[108,116]⟩:ByteArray) (⟨#[98,111,111,108]⟩:ByteArray)=false:=rfl
theorem q_10_24:eqS (⟨#[108,116]⟩:ByteArray) (⟨#[65]⟩:ByteArray)=false:=rfl
theorem q_10_25:eqS (⟨#[108,116]⟩:ByteArray) (⟨#[]⟩:ByteArray)=false:=rfl
theorem q_11_0:eqS (⟨#[108,101]⟩:ByteArray) (⟨#[97,100,100]⟩:ByteArray)=false:=rfl
theorem q_11_1:eqS (⟨#[108,101]⟩:ByteArray) (⟨#[115,117,98]⟩:ByteArray)=false:=rfl
theorem q_11_2:eqS (⟨#[108,101]⟩:ByteArray) (⟨#[109,117,108]⟩:ByteArray)=false:=rfl
theorem q_11_3:eqS (⟨#[108,101]⟩:ByteArray) (⟨#[100,105,118]⟩:ByteArray)=false:=rfl
theorem q_11_4:eqS (⟨#[108,101]⟩:ByteArray) (⟨#[109,111,100]⟩:ByteArray)=false:=rfl
theorem q_11_5:eqS (⟨#[108,101]⟩:ByteArray) (⟨#[109,105,110]⟩:ByteArray)=false:=rfl
theorem q_11_6:eqS (⟨#[108,101]⟩:ByteArray) (⟨#[109,97,120]⟩:ByteArray)=false:=rfl
theorem q_11_7:eqS (⟨#[108,101]⟩:ByteArray) (⟨#[110,101,103]⟩:ByteArray)=false:=rfl
theorem q_11_8:eqS (⟨#[108,101]⟩:ByteArray) (⟨#[97,98,115]⟩:ByteArray)=false:=rfl
theorem q_11_9:eqS (⟨#[108,101]⟩:ByteArray) (⟨#[115,105,103,110]⟩:ByteArray)=false:=rfl
theorem q_11_10:eqS (⟨#[108,101]⟩:ByteArray) (⟨#[108,116]⟩:ByteArray)=false:=rfl
theorem q_11_11:eqS (⟨#[108,101]⟩:ByteArray) (⟨#[108,101]⟩:ByteArray)=true:=rfl
theorem q_11_12:eqS (⟨#[108,101]⟩:ByteArray) (⟨#[103,116]⟩:ByteArray)=false:=rfl
theorem q_11_13:eqS (⟨#[108,101]⟩:ByteArray) (⟨#[103,101]⟩:ByteArray)=false:=rfl
theorem q_11_14:eqS (⟨#[108,101]⟩:ByteArray) (⟨#[101,113]⟩:ByteArray)=false:=rfl
theorem q_11_15:eqS (⟨#[108,101]⟩:ByteArray) (⟨#[110,101]⟩:ByteArray)=false:=rfl
theorem q_11_16:eqS (⟨#[108,101]⟩:ByteArray) (⟨#[97,110,100]⟩:ByteArray)=false:=rfl
theorem q_11_17:eqS (⟨#[108,101]⟩:ByteArray) (⟨#[111,114]⟩:ByteArray)=false:=rfl
theorem q_11_18:eqS (⟨#[108,101]⟩:ByteArray) (⟨#[120,111,114]⟩:ByteArray)=false:=rfl
theorem q_11_19:eqS (⟨#[108,101]⟩:ByteArray) (⟨#[110,111,116]⟩:ByteArray)=false:=rfl
theorem q_11_20:eqS (⟨#[108,101]⟩:ByteArray) (⟨#[115,101,108,101,99,116]⟩:ByteArray)=false:=rfl
theorem q_11_21:eqS (⟨#[108,101]⟩:ByteArray) (⟨#[116,111,105,110,116]⟩:ByteArray)=false:=rfl
theorem q_11_22:eqS (⟨#[108,101]⟩:ByteArray) (⟨#[105,110,116]⟩:ByteArray)=false:=rfl
theorem q_11_23:eqS (⟨#[108,101]⟩:ByteArray) (⟨#[98,111,111,108]⟩:ByteArray)=false:=rfl
theorem q_11_24:eqS (⟨#[108,101]⟩:ByteArray) (⟨#[65]⟩:ByteArray)=false:=rfl
theorem q_11_25:eqS (⟨#[108,101]⟩:ByteArray) (⟨#[]⟩:ByteArray)=false:=rfl
theorem q_12_0:eqS (⟨#[103,116]⟩:ByteArray) (⟨#[97,100,100]⟩:ByteArray)=false:=rfl
theorem q_12_1:eqS (⟨#[103,116]⟩:ByteArray) (⟨#[115,117,98]⟩:ByteArray)=false:=rfl
theorem q_12_2:eqS (⟨#[103,116]⟩:ByteArray) (⟨#[109,117,108]⟩:ByteArray)=false:=rfl
theorem q_12_3:eqS (⟨#[103,116]⟩:ByteArray) (⟨#[100,105,118]⟩:ByteArray)=false:=rfl
theorem q_12_4:eqS (⟨#[103,116]⟩:ByteArray) (⟨#[109,111,100]⟩:ByteArray)=false:=rfl
theorem q_12_5:eqS (⟨#[103,116]⟩:ByteArray) (⟨#[109,105,110]⟩:ByteArray)=false:=rfl
theorem q_12_6:eqS (⟨#[103,116]⟩:ByteArray) (⟨#[109,97,120]⟩:ByteArray)=false:=rfl
theorem q_12_7:eqS (⟨#[103,116]⟩:ByteArray) (⟨#[110,101,103]⟩:ByteArray)=false:=rfl
theorem q_12_8:eqS (⟨#[103,116]⟩:ByteArray) (⟨#[97,98,115]⟩:ByteArray)=false:=rfl
theorem q_12_9:eqS (⟨#[103,116]⟩:ByteArray) (⟨#[115,105,103,110]⟩:ByteArray)=false:=rfl
theorem q_12_10:eqS (⟨#[103,116]⟩:ByteArray) (⟨#[108,116]⟩:ByteArray)=false:=rfl
theorem q_12_11:eqS (⟨#[103,116]⟩:ByteArray) (⟨#[108,101]⟩:ByteArray)=false:=rfl
theorem q_12_12:eqS (⟨#[103,116]⟩:ByteArray) (⟨#[103,116]⟩:ByteArray)=true:=rfl
theorem q_12_13:eqS (⟨#[103,116]⟩:ByteArray) (⟨#[103,101]⟩:ByteArray)=false:=rfl
theorem q_12_14:eqS (⟨#[103,116]⟩:ByteArray) (⟨#[101,113]⟩:ByteArray)=false:=rfl
theorem q_12_15:eqS (⟨#[103,116]⟩:ByteArray) (⟨#[110,101]⟩:ByteArray)=false:=rfl
theorem q_12_16:eqS (⟨#[103,116]⟩:ByteArray) (⟨#[97,110,100]⟩:ByteArray)=false:=rfl
theorem q_12_17:eqS (⟨#[103,116]⟩:ByteArray) (⟨#[111,114]⟩:ByteArray)=false:=rfl
theorem q_12_18:eqS (⟨#[103,116]⟩:ByteArray) (⟨#[120,111,114]⟩:ByteArray)=false:=rfl
theorem q_12_19:eqS (⟨#[103,116]⟩:ByteArray) (⟨#[110,111,116]⟩:ByteArray)=false:=rfl
theorem q_12_20:eqS (⟨#[103,116]⟩:ByteArray) (⟨#[115,101,108,101,99,116]⟩:ByteArray)=false:=rfl
theorem q_12_21:eqS (⟨#[103,116]⟩:ByteArray) (⟨#[116,111,105,110,116]⟩:ByteArray)=false:=rfl
theorem q_12_22:eqS (⟨#[103,116]⟩:ByteArray) (⟨#[105,110,116]⟩:ByteArray)=false:=rfl
theorem q_12_23:eqS (⟨#[103,116]⟩:ByteArray) (⟨#[98,111,111,108]⟩:ByteArray)=false:=rfl
theorem q_12_24:eqS (⟨#[103,116]⟩:ByteArray) (⟨#[65]⟩:ByteArray)=false:=rfl
theorem q_12_25:eqS (⟨#[103,116]⟩:ByteArray) (⟨#[]⟩:ByteArray)=false:=rfl
theorem q_13_0:eqS (⟨#[103,101]⟩:ByteArray) (⟨#[97,100,100]⟩:ByteArray)=false:=rfl
theorem q_13_1:eqS (⟨#[103,101]⟩:ByteArray) (⟨#[115,117,98]⟩:ByteArray)=false:=rfl
theorem q_13_2:eqS (⟨#[103,101]⟩:ByteArray) (⟨#[109,117,108]⟩:ByteArray)=false:=rfl
theorem q_13_3:eqS (⟨#[103,101]⟩:ByteArray) (⟨#[100,105,118]⟩:ByteArray)=false:=rfl
theorem q_13_4:eqS (⟨#[103,101]⟩:ByteArray) (⟨#[109,111,100]⟩:ByteArray)=false:=rfl
theorem q_13_5:eqS (⟨#[103,101]⟩:ByteArray) (⟨#[109,105,110]⟩:ByteArray)=false:=rfl
theorem q_13_6:eqS (⟨#[103,101]⟩:ByteArray) (⟨#[109,97,120]⟩:ByteArray)=false:=rfl
theorem q_13_7:eqS (⟨#[103,101]⟩:ByteArray) (⟨#[110,101,103]⟩:ByteArray)=false:=rfl
theorem q_13_8:eqS (⟨#[103,101]⟩:ByteArray) (⟨#[97,98,115]⟩:ByteArray)=false:=rfl
theorem q_13_9:eqS (⟨#[103,101]⟩:ByteArray) (⟨#[115,105,103,110]⟩:ByteArray)=false:=rfl
theorem q_13_10:eqS (⟨#[103,101]⟩:ByteArray) (⟨#[108,116]⟩:ByteArray)=false:=rfl
theorem q_13_11:eqS (⟨#[103,101]⟩:ByteArray) (⟨#[108,101]⟩:ByteArray)=false:=rfl
theorem q_13_12:eqS (⟨#[103,101]⟩:ByteArray) (⟨#[103,116]⟩:ByteArray)=false:=rfl
theorem q_13_13:eqS (⟨#[103,101]⟩:ByteArray) (⟨#[103,101]⟩:ByteArray)=true:=rfl
theorem q_13_14:eqS (⟨#[103,101]⟩:ByteArray) (⟨#[101,113]⟩:ByteArray)=false:=rfl
theorem q_13_15:eqS (⟨#[103,101]⟩:ByteArray) (⟨#[110,101]⟩:ByteArray)=false:=rfl
theorem q_13_16:eqS (⟨#[103,101]⟩:ByteArray) (⟨#[97,110,100]⟩:ByteArray)=false:=rfl
theorem q_13_17:eqS (⟨#[103,101]⟩:ByteArray) (⟨#[111,114]⟩:ByteArray)=false:=rfl
theorem q_13_18:eqS (⟨#[103,101]⟩:ByteArray) (⟨#[120,111,114]⟩:ByteArray)=false:=rfl
theorem q_13_19:eqS (⟨#[103,101]⟩:ByteArray) (⟨#[110,111,116]⟩:ByteArray)=false:=rfl
theorem q_13_20:eqS (⟨#[103,101]⟩:ByteArray) (⟨#[115,101,108,101,99,116]⟩:ByteArray)=false:=rfl
theorem q_13_21:eqS (⟨#[103,101]⟩:ByteArray) (⟨#[116,111,105,110,116]⟩:ByteArray)=false:=rfl
theorem q_13_22:eqS (⟨#[103,101]⟩:ByteArray) (⟨#[105,110,116]⟩:ByteArray)=false:=rfl
theorem q_13_23:eqS (⟨#[103,101]⟩:ByteArray) (⟨#[98,111,111,108]⟩:ByteArray)=false:=rfl
theorem q_13_24:eqS (⟨#[103,101]⟩:ByteArray) (⟨#[65]⟩:ByteArray)=false:=rfl
theorem q_13_25:eqS (⟨#[103,101]⟩:ByteArray) (⟨#[]⟩:ByteArray)=false:=rfl
theorem q_14_0:eqS (⟨#[101,113]⟩:ByteArray) (⟨#[97,100,100]⟩:ByteArray)=false:=rfl
theorem q_14_1:eqS (⟨#[101,113]⟩:ByteArray) (⟨#[115,117,98]⟩:ByteArray)=false:=rfl
theorem q_14_2:eqS (⟨#[101,113]⟩:ByteArray) (⟨#[109,117,108]⟩:ByteArray)=false:=rfl
theorem q_14_3:eqS (⟨#[101,113]⟩:ByteArray) (⟨#[100,105,118]⟩:ByteArray)=false:=rfl
theorem q_14_4:eqS (⟨#[101,113]⟩:ByteArray) (⟨#[109,111,100]⟩:ByteArray)=false:=rfl
theorem q_14_5:eqS (⟨#[101,113]⟩:ByteArray) (⟨#[109,105,110]⟩:ByteArray)=false:=rfl
theorem q_14_6:eqS (⟨#[101,113]⟩:ByteArray) (⟨#[109,97,120]⟩:ByteArray)=false:=rfl
theorem q_14_7:eqS (⟨#[101,113]⟩:ByteArray) (⟨#[110,101,103]⟩:ByteArray)=false:=rfl
theorem q_14_8:eqS (⟨#[101,113]⟩:ByteArray) (⟨#[97,98,115]⟩:ByteArray)=false:=rfl
theorem q_14_9:eqS (⟨#[101,113]⟩:ByteArray) (⟨#[115,105,103,110]⟩:ByteArray)=false:=rfl
theorem q_14_10:eqS (⟨#[101,113]⟩:ByteArray) (⟨#[108,116]⟩:ByteArray)=false:=rfl
theorem q_14_11:eqS (⟨#[101,113]⟩:ByteArray) (⟨#[108,101]⟩:ByteArray)=false:=rfl
theorem q_14_12:eqS (⟨#[101,113]⟩:ByteArray) (⟨#[103,116]⟩:ByteArray)=false:=rfl
theorem q_14_13:eqS (⟨#[101,113]⟩:ByteArray) (⟨#[103,101]⟩:ByteArray)=false:=rfl
theorem q_14_14:eqS (⟨#[101,113]⟩:ByteArray) (⟨#[101,113]⟩:ByteArray)=true:=rfl
theorem q_14_15:eqS (⟨#[101,113]⟩:ByteArray) (⟨#[110,101]⟩:ByteArray)=false:=rfl
theorem q_14_16:eqS (⟨#[101,113]⟩:ByteArray) (⟨#[97,110,100]⟩:ByteArray)=false:=rfl
theorem q_14_17:eqS (⟨#[101,113]⟩:ByteArray) (⟨#[111,114]⟩:ByteArray)=false:=rfl
theorem q_14_18:eqS (⟨#[101,113]⟩:ByteArray) (⟨#[120,111,114]⟩:ByteArray)=false:=rfl
theorem q_14_19:eqS (⟨#[101,113]⟩:ByteArray) (⟨#[110,111,116]⟩:ByteArray)=false:=rfl
theorem q_14_20:eqS (⟨#[101,113]⟩:ByteArray) (⟨#[115,101,108,101,99,116]⟩:ByteArray)=false:=rfl
theorem q_14_21:eqS (⟨#[101,113]⟩:ByteArray) (⟨#[116,111,105,110,116]⟩:ByteArray)=false:=rfl
theorem q_14_22:eqS (⟨#[101,113]⟩:ByteArray) (⟨#[105,110,116]⟩:ByteArray)=false:=rfl
theorem q_14_23:eqS (⟨#[101,113]⟩:ByteArray) (⟨#[98,111,111,108]⟩:ByteArray)=false:=rfl
theorem q_14_24:eqS (⟨#[101,113]⟩:ByteArray) (⟨#[65]⟩:ByteArray)=false:=rfl
theorem q_14_25:eqS (⟨#[101,113]⟩:ByteArray) (⟨#[]⟩:ByteArray)=false:=rfl
theorem q_15_0:eqS (⟨#[110,101]⟩:ByteArray) (⟨#[97,100,100]⟩:ByteArray)=false:=rfl
theorem q_15_1:eqS (⟨#[110,101]⟩:ByteArray) (⟨#[115,117,98]⟩:ByteArray)=false:=rfl
theorem q_15_2:eqS (⟨#[110,101]⟩:ByteArray) (⟨#[109,117,108]⟩:ByteArray)=false:=rfl
theorem q_15_3:eqS (⟨#[110,101]⟩:ByteArray) (⟨#[100,105,118]⟩:ByteArray)=false:=rfl
theorem q_15_4:eqS (⟨#[110,101]⟩:ByteArray) (⟨#[109,111,100]⟩:ByteArray)=false:=rfl
theorem q_15_5:eqS (⟨#[110,101]⟩:ByteArray) (⟨#[109,105,110]⟩:ByteArray)=false:=rfl
theorem q_15_6:eqS (⟨#[110,101]⟩:ByteArray) (⟨#[109,97,120]⟩:ByteArray)=false:=rfl
theorem q_15_7:eqS (⟨#[110,101]⟩:ByteArray) (⟨#[110,101,103]⟩:ByteArray)=false:=rfl
theorem q_15_8:eqS (⟨#[110,101]⟩:ByteArray) (⟨#[97,98,115]⟩:ByteArray)=false:=rfl
theorem q_15_9:eqS (⟨#[110,101]⟩:ByteArray) (⟨#[115,105,103,110]⟩:ByteArray)=false:=rfl
theorem q_15_10:eqS (⟨#[110,101]⟩:ByteArray) (⟨#[108,116]⟩:ByteArray)=false:=rfl
theorem q_15_11:eqS (⟨#[110,101]⟩:ByteArray) (⟨#[108,101]⟩:ByteArray)=false:=rfl
theorem q_15_12:eqS (⟨#[110,101]⟩:ByteArray) (⟨#[103,116]⟩:ByteArray)=false:=rfl
theorem q_15_13:eqS (⟨#[110,101]⟩:ByteArray) (⟨#[103,101]⟩:ByteArray)=false:=rfl
theorem q_15_14:eqS (⟨#[110,101]⟩:ByteArray) (⟨#[101,113]⟩:ByteArray)=false:=rfl
theorem q_15_15:eqS (⟨#[110,101]⟩:ByteArray) (⟨#[110,101]⟩:ByteArray)=true:=rfl
theorem q_15_16:eqS (⟨#[110,101]⟩:ByteArray) (⟨#[97,110,100]⟩:ByteArray)=false:=rfl
theorem q_15_17:eqS (⟨#[110,101]⟩:ByteArray) (⟨#[111,114]⟩:ByteArray)=false:=rfl
theorem q_15_18:eqS (⟨#[110,101]⟩:ByteArray) (⟨#[120,111,114]⟩:ByteArray)=false:=rfl
theorem q_15_19:eqS (⟨#[110,101]⟩:ByteArray) (⟨#[110,111,116]⟩:ByteArray)=false:=rfl
theorem q_15_20:eqS (⟨#[110,101]⟩:ByteArray) (⟨#[115,101,108,101,99,116]⟩:ByteArray)=false:=rfl
theorem q_15_21:eqS (⟨#[110,101]⟩:ByteArray) (⟨#[116,111,105,110,116]⟩:ByteArray)=false:=rfl
theorem q_15_22:eqS (⟨#[110,101]⟩:ByteArray) (⟨#[105,110,116]⟩:ByteArray)=false:=rfl
theorem q_15_23:eqS (⟨#[110,101]⟩:ByteArray) (⟨#[98,111,111,108]⟩:ByteArray)=false:=rfl
theorem q_15_24:eqS (⟨#[110,101]⟩:ByteArray) (⟨#[65]⟩:ByteArray)=false:=rfl
theorem q_15_25:eqS (⟨#[110,101]⟩:ByteArray) (⟨#[]⟩:ByteArray)=false:=rfl
theorem q_16_0:eqS (⟨#[97,110,100]⟩:ByteArray) (⟨#[97,100,100]⟩:ByteArray)=false:=rfl
theorem q_16_1:eqS (⟨#[97,110,100]⟩:ByteArray) (⟨#[115,117,98]⟩:ByteArray)=false:=rfl
theorem q_16_2:eqS (⟨#[97,110,100]⟩:ByteArray) (⟨#[109,117,108]⟩:ByteArray)=false:=rfl
theorem q_16_3:eqS (⟨#[97,110,100]⟩:ByteArray) (⟨#[100,105,118]⟩:ByteArray)=false:=rfl
theorem q_16_4:eqS (⟨#[97,110,100]⟩:ByteArray) (⟨#[109,111,100]⟩:ByteArray)=false:=rfl
theorem q_16_5:eqS (⟨#[97,110,100]⟩:ByteArray) (⟨#[109,105,110]⟩:ByteArray)=false:=rfl
theorem q_16_6:eqS (⟨#[97,110,100]⟩:ByteArray) (⟨#[109,97,120]⟩:ByteArray)=false:=rfl
theorem q_16_7:eqS (⟨#[97,110,100]⟩:ByteArray) (⟨#[110,101,103]⟩:ByteArray)=false:=rfl
theorem q_16_8:eqS (⟨#[97,110,100]⟩:ByteArray) (⟨#[97,98,115]⟩:ByteArray)=false:=rfl
theorem q_16_9:eqS (⟨#[97,110,100]⟩:ByteArray) (⟨#[115,105,103,110]⟩:ByteArray)=false:=rfl
theorem q_16_10:eqS (⟨#[97,110,100]⟩:ByteArray) (⟨#[108,116]⟩:ByteArray)=false:=rfl
theorem q_16_11:eqS (⟨#[97,110,100]⟩:ByteArray) (⟨#[108,101]⟩:ByteArray)=false:=rfl
theorem q_16_12:eqS (⟨#[97,110,100]⟩:ByteArray) (⟨#[103,116]⟩:ByteArray)=false:=rfl
theorem q_16_13:eqS (⟨#[97,110,100]⟩:ByteArray) (⟨#[103,101]⟩:ByteArray)=false:=rfl
theorem q_16_14:eqS (⟨#[97,110,100]⟩:ByteArray) (⟨#[101,113]⟩:ByteArray)=false:=rfl
theorem q_16_15:eqS (⟨#[97,110,100]⟩:ByteArray) (⟨#[110,101]⟩:ByteArray)=false:=rfl
theorem q_16_16:eqS (⟨#[97,110,100]⟩:ByteArray) (⟨#[97,110,100]⟩:ByteArray)=true:=rfl
theorem q_16_17:eqS (⟨#[97,110,100]⟩:ByteArray) (⟨#[111,114]⟩:ByteArray)=false:=rfl
theorem q_16_18:eqS (⟨#[97,110,100]⟩:ByteArray) (⟨#[120,111,114]⟩:ByteArray)=false:=rfl
theorem q_16_19:eqS (⟨#[97,110,100]⟩:ByteArray) (⟨#[110,111,116]⟩:ByteArray)=false:=rfl
theorem q_16_20:eqS (⟨#[97,110,100]⟩:ByteArray) (⟨#[115,101,108,101,99,116]⟩:ByteArray)=false:=rfl
theorem q_16_21:eqS (⟨#[97,110,100]⟩:ByteArray) (⟨#[116,111,105,110,116]⟩:ByteArray)=false:=rfl
theorem q_16_22:eqS (⟨#[97,110,100]⟩:ByteArray) (⟨#[105,110,116]⟩:ByteArray)=false:=rfl
theorem q_16_23:eqS (⟨#[97,110,100]⟩:ByteArray) (⟨#[98,111,111,108]⟩:ByteArray)=false:=rfl
theorem q_16_24:eqS (⟨#[97,110,100]⟩:ByteArray) (⟨#[65]⟩:ByteArray)=false:=rfl
theorem q_16_25:eqS (⟨#[97,110,100]⟩:ByteArray) (⟨#[]⟩:ByteArray)=false:=rfl
theorem q_17_0:eqS (⟨#[111,114]⟩:ByteArray) (⟨#[97,100,100]⟩:ByteArray)=false:=rfl
theorem q_17_1:eqS (⟨#[111,114]⟩:ByteArray) (⟨#[115,117,98]⟩:ByteArray)=false:=rfl
theorem q_17_2:eqS (⟨#[111,114]⟩:ByteArray) (⟨#[109,117,108]⟩:ByteArray)=false:=rfl
theorem q_17_3:eqS (⟨#[111,114]⟩:ByteArray) (⟨#[100,105,118]⟩:ByteArray)=false:=rfl
theorem q_17_4:eqS (⟨#[111,114]⟩:ByteArray) (⟨#[109,111,100]⟩:ByteArray)=false:=rfl
theorem q_17_5:eqS (⟨#[111,114]⟩:ByteArray) (⟨#[109,105,110]⟩:ByteArray)=false:=rfl
theorem q_17_6:eqS (⟨#[111,114]⟩:ByteArray) (⟨#[109,97,120]⟩:ByteArray)=false:=rfl
theorem q_17_7:eqS (⟨#[111,114]⟩:ByteArray) (⟨#[110,101,103]⟩:ByteArray)=false:=rfl
theorem q_17_8:eqS (⟨#[111,114]⟩:ByteArray) (⟨#[97,98,115]⟩:ByteArray)=false:=rfl
theorem q_17_9:eqS (⟨#[111,114]⟩:ByteArray) (⟨#[115,105,103,110]⟩:ByteArray)=false:=rfl
theorem q_17_10:eqS (⟨#[111,114]⟩:ByteArray) (⟨#[108,116]⟩:ByteArray)=false:=rfl
theorem q_17_11:eqS (⟨#[111,114]⟩:ByteArray) (⟨#[108,101]⟩:ByteArray)=false:=rfl
theorem q_17_12:eqS (⟨#[111,114]⟩:ByteArray) (⟨#[103,116]⟩:ByteArray)=false:=rfl
theorem q_17_13:eqS (⟨#[111,114]⟩:ByteArray) (⟨#[103,101]⟩:ByteArray)=false:=rfl
theorem q_17_14:eqS (⟨#[111,114]⟩:ByteArray) (⟨#[101,113]⟩:ByteArray)=false:=rfl
theorem q_17_15:eqS (⟨#[111,114]⟩:ByteArray) (⟨#[110,101]⟩:ByteArray)=false:=rfl
theorem q_17_16:eqS (⟨#[111,114]⟩:ByteArray) (⟨#[97,110,100]⟩:ByteArray)=false:=rfl
theorem q_17_17:eqS (⟨#[111,114]⟩:ByteArray) (⟨#[111,114]⟩:ByteArray)=true:=rfl
theorem q_17_18:eqS (⟨#[111,114]⟩:ByteArray) (⟨#[120,111,114]⟩:ByteArray)=false:=rfl
theorem q_17_19:eqS (⟨#[111,114]⟩:ByteArray) (⟨#[110,111,116]⟩:ByteArray)=false:=rfl
theorem q_17_20:eqS (⟨#[111,114]⟩:ByteArray) (⟨#[115,101,108,101,99,116]⟩:ByteArray)=false:=rfl
theorem q_17_21:eqS (⟨#[111,114]⟩:ByteArray) (⟨#[116,111,105,110,116]⟩:ByteArray)=false:=rfl
theorem q_17_22:eqS (⟨#[111,114]⟩:ByteArray) (⟨#[105,110,116]⟩:ByteArray)=false:=rfl
theorem q_17_23:eqS (⟨#[111,114]⟩:ByteArray) (⟨#[98,111,111,108]⟩:ByteArray)=false:=rfl
theorem q_17_24:eqS (⟨#[111,114]⟩:ByteArray) (⟨#[65]⟩:ByteArray)=false:=rfl
theorem q_17_25:eqS (⟨#[111,114]⟩:ByteArray) (⟨#[]⟩:ByteArray)=false:=rfl
theorem q_18_0:eqS (⟨#[120,111,114]⟩:ByteArray) (⟨#[97,100,100]⟩:ByteArray)=false:=rfl
theorem q_18_1:eqS (⟨#[120,111,114]⟩:ByteArray) (⟨#[115,117,98]⟩:ByteArray)=false:=rfl
theorem q_18_2:eqS (⟨#[120,111,114]⟩:ByteArray) (⟨#[109,117,108]⟩:ByteArray)=false:=rfl
theorem q_18_3:eqS (⟨#[120,111,114]⟩:ByteArray) (⟨#[100,105,118]⟩:ByteArray)=false:=rfl
theorem q_18_4:eqS (⟨#[120,111,114]⟩:ByteArray) (⟨#[109,111,100]⟩:ByteArray)=false:=rfl
theorem q_18_5:eqS (⟨#[120,111,114]⟩:ByteArray) (⟨#[109,105,110]⟩:ByteArray)=false:=rfl
theorem q_18_6:eqS (⟨#[120,111,114]⟩:ByteArray) (⟨#[109,97,120]⟩:ByteArray)=false:=rfl
theorem q_18_7:eqS (⟨#[120,111,114]⟩:ByteArray) (⟨#[110,101,103]⟩:ByteArray)=false:=rfl
theorem q_18_8:eqS (⟨#[120,111,114]⟩:ByteArray) (⟨#[97,98,115]⟩:ByteArray)=false:=rfl
theorem q_18_9:eqS (⟨#[120,111,114]⟩:ByteArray) (⟨#[115,105,103,110]⟩:ByteArray)=false:=rfl
theorem q_18_10:eqS (⟨#[120,111,114]⟩:ByteArray) (⟨#[108,116]⟩:ByteArray)=false:=rfl
theorem q_18_11:eqS (⟨#[120,111,114]⟩:ByteArray) (⟨#[108,101]⟩:ByteArray)=false:=rfl
theorem q_18_12:eqS (⟨#[120,111,114]⟩:ByteArray) (⟨#[103,116]⟩:ByteArray)=false:=rfl
theorem q_18_13:eqS (⟨#[120,111,114]⟩:ByteArray) (⟨#[103,101]⟩:ByteArray)=false:=rfl
theorem q_18_14:eqS (⟨#[120,111,114]⟩:ByteArray) (⟨#[101,113]⟩:ByteArray)=false:=rfl
theorem q_18_15:eqS (⟨#[120,111,114]⟩:ByteArray) (⟨#[110,101]⟩:ByteArray)=false:=rfl
theorem q_18_16:eqS (⟨#[120,111,114]⟩:ByteArray) (⟨#[97,110,100]⟩:ByteArray)=false:=rfl
theorem q_18_17:eqS (⟨#[120,111,114]⟩:ByteArray) (⟨#[111,114]⟩:ByteArray)=false:=rfl
theorem q_18_18:eqS (⟨#[120,111,114]⟩:ByteArray) (⟨#[120,111,114]⟩:ByteArray)=true:=rfl
theorem q_18_19:eqS (⟨#[120,111,114]⟩:ByteArray) (⟨#[110,111,116]⟩:ByteArray)=false:=rfl
theorem q_18_20:eqS (⟨#[120,111,114]⟩:ByteArray) (⟨#[115,101,108,101,99,116]⟩:ByteArray)=false:=rfl
theorem q_18_21:eqS (⟨#[120,111,114]⟩:ByteArray) (⟨#[116,111,105,110,116]⟩:ByteArray)=false:=rfl
theorem q_18_22:eqS (⟨#[120,111,114]⟩:ByteArray) (⟨#[105,110,116]⟩:ByteArray)=false:=rfl
theorem q_18_23:eqS (⟨#[120,111,114]⟩:ByteArray) (⟨#[98,111,111,108]⟩:ByteArray)=false:=rfl
theorem q_18_24:eqS (⟨#[120,111,114]⟩:ByteArray) (⟨#[65]⟩:ByteArray)=false:=rfl
theorem q_18_25:eqS (⟨#[120,111,114]⟩:ByteArray) (⟨#[]⟩:ByteArray)=false:=rfl
theorem q_19_0:eqS (⟨#[110,111,116]⟩:ByteArray) (⟨#[97,100,100]⟩:ByteArray)=false:=rfl
theorem q_19_1:eqS (⟨#[110,111,116]⟩:ByteArray) (⟨#[115,117,98]⟩:ByteArray)=false:=rfl
theorem q_19_2:eqS (⟨#[110,111,116]⟩:ByteArray) (⟨#[109,117,108]⟩:ByteArray)=false:=rfl
theorem q_19_3:eqS (⟨#[110,111,116]⟩:ByteArray) (⟨#[100,105,118]⟩:ByteArray)=false:=rfl
theorem q_19_4:eqS (⟨#[110,111,116]⟩:ByteArray) (⟨#[109,111,100]⟩:ByteArray)=false:=rfl
theorem q_19_5:eqS (⟨#[110,111,116]⟩:ByteArray) (⟨#[109,105,110]⟩:ByteArray)=false:=rfl
theorem q_19_6:eqS (⟨#[110,111,116]⟩:ByteArray) (⟨#[109,97,120]⟩:ByteArray)=false:=rfl
theorem q_19_7:eqS (⟨#[110,111,116]⟩:ByteArray) (⟨#[110,101,103]⟩:ByteArray)=false:=rfl
theorem q_19_8:eqS (⟨#[110,111,116]⟩:ByteArray) (⟨#[97,98,115]⟩:ByteArray)=false:=rfl
theorem q_19_9:eqS (⟨#[110,111,116]⟩:ByteArray) (⟨#[115,105,103,110]⟩:ByteArray)=false:=rfl
theorem q_19_10:eqS (⟨#[110,111,116]⟩:ByteArray) (⟨#[108,116]⟩:ByteArray)=false:=rfl
theorem q_19_11:eqS (⟨#[110,111,116]⟩:ByteArray) (⟨#[108,101]⟩:ByteArray)=false:=rfl
theorem q_19_12:eqS (⟨#[110,111,116]⟩:ByteArray) (⟨#[103,116]⟩:ByteArray)=false:=rfl
theorem q_19_13:eqS (⟨#[110,111,116]⟩:ByteArray) (⟨#[103,101]⟩:ByteArray)=false:=rfl
theorem q_19_14:eqS (⟨#[110,111,116]⟩:ByteArray) (⟨#[101,113]⟩:ByteArray)=false:=rfl
theorem q_19_15:eqS (⟨#[110,111,116]⟩:ByteArray) (⟨#[110,101]⟩:ByteArray)=false:=rfl
theorem q_19_16:eqS (⟨#[110,111,116]⟩:ByteArray) (⟨#[97,110,100]⟩:ByteArray)=false:=rfl
theorem q_19_17:eqS (⟨#[110,111,116]⟩:ByteArray) (⟨#[111,114]⟩:ByteArray)=false:=rfl
theorem q_19_18:eqS (⟨#[110,111,116]⟩:ByteArray) (⟨#[120,111,114]⟩:ByteArray)=false:=rfl
theorem q_19_19:eqS (⟨#[110,111,116]⟩:ByteArray) (⟨#[110,111,116]⟩:ByteArray)=true:=rfl
theorem q_19_20:eqS (⟨#[110,111,116]⟩:ByteArray) (⟨#[115,101,108,101,99,116]⟩:ByteArray)=false:=rfl
theorem q_19_21:eqS (⟨#[110,111,116]⟩:ByteArray) (⟨#[116,111,105,110,116]⟩:ByteArray)=false:=rfl
theorem q_19_22:eqS (⟨#[110,111,116]⟩:ByteArray) (⟨#[105,110,116]⟩:ByteArray)=false:=rfl
theorem q_19_23:eqS (⟨#[110,111,116]⟩:ByteArray) (⟨#[98,111,111,108]⟩:ByteArray)=false:=rfl
theorem q_19_24:eqS (⟨#[110,111,116]⟩:ByteArray) (⟨#[65]⟩:ByteArray)=false:=rfl
theorem q_19_25:eqS (⟨#[110,111,116]⟩:ByteArray) (⟨#[]⟩:ByteArray)=false:=rfl
theorem q_20_0:eqS (⟨#[115,101,108,101,99,116]⟩:ByteArray) (⟨#[97,100,100]⟩:ByteArray)=false:=rfl
theorem q_20_1:eqS (⟨#[115,101,108,101,99,116]⟩:ByteArray) (⟨#[115,117,98]⟩:ByteArray)=false:=rfl
theorem q_20_2:eqS (⟨#[115,101,108,101,99,116]⟩:ByteArray) (⟨#[109,117,108]⟩:ByteArray)=false:=rfl
theorem q_20_3:eqS (⟨#[115,101,108,101,99,116]⟩:ByteArray) (⟨#[100,105,118]⟩:ByteArray)=false:=rfl
theorem q_20_4:eqS (⟨#[115,101,108,101,99,116]⟩:ByteArray) (⟨#[109,111,100]⟩:ByteArray)=false:=rfl
theorem q_20_5:eqS (⟨#[115,101,108,101,99,116]⟩:ByteArray) (⟨#[109,105,110]⟩:ByteArray)=false:=rfl
theorem q_20_6:eqS (⟨#[115,101,108,101,99,116]⟩:ByteArray) (⟨#[109,97,120]⟩:ByteArray)=false:=rfl
theorem q_20_7:eqS (⟨#[115,101,108,101,99,116]⟩:ByteArray) (⟨#[110,101,103]⟩:ByteArray)=false:=rfl
theorem q_20_8:eqS (⟨#[115,101,108,101,99,116]⟩:ByteArray) (⟨#[97,98,115]⟩:ByteArray)=false:=rfl
theorem q_20_9:eqS (⟨#[115,101,108,101,99,116]⟩:ByteArray) (⟨#[115,105,103,110]⟩:ByteArray)=false:=rfl
theorem q_20_10:eqS (⟨#[115,101,108,101,99,116]⟩:ByteArray) (⟨#[108,116]⟩:ByteArray)=false:=rfl
theorem q_20_11:eqS (⟨#[115,101,108,101,99,116]⟩:ByteArray) (⟨#[108,101]⟩:ByteArray)=false:=rfl
theorem q_20_12:eqS (⟨#[115,101,108,101,99,116]⟩:ByteArray) (⟨#[103,116]⟩:ByteArray)=false:=rfl
theorem q_20_13:eqS (⟨#[115,101,108,101,99,116]⟩:ByteArray) (⟨#[103,101]⟩:ByteArray)=false:=rfl
theorem q_20_14:eqS (⟨#[115,101,108,101,99,116]⟩:ByteArray) (⟨#[101,113]⟩:ByteArray)=false:=rfl
theorem q_20_15:eqS (⟨#[115,101,108,101,99,116]⟩:ByteArray) (⟨#[110,101]⟩:ByteArray)=false:=rfl
theorem q_20_16:eqS (⟨#[115,101,108,101,99,116]⟩:ByteArray) (⟨#[97,110,100]⟩:ByteArray)=false:=rfl
theorem q_20_17:eqS (⟨#[115,101,108,101,99,116]⟩:ByteArray) (⟨#[111,114]⟩:ByteArray)=false:=rfl
theorem q_20_18:eqS (⟨#[115,101,108,101,99,116]⟩:ByteArray) (⟨#[120,111,114]⟩:ByteArray)=false:=rfl
theorem q_20_19:eqS (⟨#[115,101,108,101,99,116]⟩:ByteArray) (⟨#[110,111,116]⟩:ByteArray)=false:=rfl
theorem q_20_20:eqS (⟨#[115,101,108,101,99,116]⟩:ByteArray) (⟨#[115,101,108,101,99,116]⟩:ByteArray)=true:=rfl
theorem q_20_21:eqS (⟨#[115,101,108,101,99,116]⟩:ByteArray) (⟨#[116,111,105,110,116]⟩:ByteArray)=false:=rfl
theorem q_20_22:eqS (⟨#[115,101,108,101,99,116]⟩:ByteArray) (⟨#[105,110,116]⟩:ByteArray)=false:=rfl
theorem q_20_23:eqS (⟨#[115,101,108,101,99,116]⟩:ByteArray) (⟨#[98,111,111,108]⟩:ByteArray)=false:=rfl
theorem q_20_24:eqS (⟨#[115,101,108,101,99,116]⟩:ByteArray) (⟨#[65]⟩:ByteArray)=false:=rfl
theorem q_20_25:eqS (⟨#[115,101,108,101,99,116]⟩:ByteArray) (⟨#[]⟩:ByteArray)=false:=rfl
theorem q_21_0:eqS (⟨#[116,111,105,110,116]⟩:ByteArray) (⟨#[97,100,100]⟩:ByteArray)=false:=rfl
theorem q_21_1:eqS (⟨#[116,111,105,110,116]⟩:ByteArray) (⟨#[115,117,98]⟩:ByteArray)=false:=rfl
theorem q_21_2:eqS (⟨#[116,111,105,110,116]⟩:ByteArray) (⟨#[109,117,108]⟩:ByteArray)=false:=rfl
theorem q_21_3:eqS (⟨#[116,111,105,110,116]⟩:ByteArray) (⟨#[100,105,118]⟩:ByteArray)=false:=rfl
theorem q_21_4:eqS (⟨#[116,111,105,110,116]⟩:ByteArray) (⟨#[109,111,100]⟩:ByteArray)=false:=rfl
theorem q_21_5:eqS (⟨#[116,111,105,110,116]⟩:ByteArray) (⟨#[109,105,110]⟩:ByteArray)=false:=rfl
theorem q_21_6:eqS (⟨#[116,111,105,110,116]⟩:ByteArray) (⟨#[109,97,120]⟩:ByteArray)=false:=rfl
theorem q_21_7:eqS (⟨#[116,111,105,110,116]⟩:ByteArray) (⟨#[110,101,103]⟩:ByteArray)=false:=rfl
theorem q_21_8:eqS (⟨#[116,111,105,110,116]⟩:ByteArray) (⟨#[97,98,115]⟩:ByteArray)=false:=rfl
theorem q_21_9:eqS (⟨#[116,111,105,110,116]⟩:ByteArray) (⟨#[115,105,103,110]⟩:ByteArray)=false:=rfl
theorem q_21_10:eqS (⟨#[116,111,105,110,116]⟩:ByteArray) (⟨#[108,116]⟩:ByteArray)=false:=rfl
theorem q_21_11:eqS (⟨#[116,111,105,110,116]⟩:ByteArray) (⟨#[108,101]⟩:ByteArray)=false:=rfl
theorem q_21_12:eqS (⟨#[116,111,105,110,116]⟩:ByteArray) (⟨#[103,116]⟩:ByteArray)=false:=rfl
theorem q_21_13:eqS (⟨#[116,111,105,110,116]⟩:ByteArray) (⟨#[103,101]⟩:ByteArray)=false:=rfl
theorem q_21_14:eqS (⟨#[116,111,105,110,116]⟩:ByteArray) (⟨#[101,113]⟩:ByteArray)=false:=rfl
theorem q_21_15:eqS (⟨#[116,111,105,110,116]⟩:ByteArray) (⟨#[110,101]⟩:ByteArray)=false:=rfl
theorem q_21_16:eqS (⟨#[116,111,105,110,116]⟩:ByteArray) (⟨#[97,110,100]⟩:ByteArray)=false:=rfl
theorem q_21_17:eqS (⟨#[116,111,105,110,116]⟩:ByteArray) (⟨#[111,114]⟩:ByteArray)=false:=rfl
theorem q_21_18:eqS (⟨#[116,111,105,110,116]⟩:ByteArray) (⟨#[120,111,114]⟩:ByteArray)=false:=rfl
theorem q_21_19:eqS (⟨#[116,111,105,110,116]⟩:ByteArray) (⟨#[110,111,116]⟩:ByteArray)=false:=rfl
theorem q_21_20:eqS (⟨#[116,111,105,110,116]⟩:ByteArray) (⟨#[115,101,108,101,99,116]⟩:ByteArray)=false:=rfl
theorem q_21_21:eqS (⟨#[116,111,105,110,116]⟩:ByteArray) (⟨#[116,111,105,110,116]⟩:ByteArray)=true:=rfl
theorem q_21_22:eqS (⟨#[116,111,105,110,116]⟩:ByteArray) (⟨#[105,110,116]⟩:ByteArray)=false:=rfl
theorem q_21_23:eqS (⟨#[116,111,105,110,116]⟩:ByteArray) (⟨#[98,111,111,108]⟩:ByteArray)=false:=rfl
theorem q_21_24:eqS (⟨#[116,111,105,110,116]⟩:ByteArray) (⟨#[65]⟩:ByteArray)=false:=rfl
theorem q_21_25:eqS (⟨#[116,111,105,110,116]⟩:ByteArray) (⟨#[]⟩:ByteArray)=false:=rfl
theorem q_22_0:eqS (⟨#[105,110,116]⟩:ByteArray) (⟨#[97,100,100]⟩:ByteArray)=false:=rfl
theorem q_22_1:eqS (⟨#[105,110,116]⟩:ByteArray) (⟨#[115,117,98]⟩:ByteArray)=false:=rfl
theorem q_22_2:eqS (⟨#[105,110,116]⟩:ByteArray) (⟨#[109,117,108]⟩:ByteArray)=false:=rfl
theorem q_22_3:eqS (⟨#[105,110,116]⟩:ByteArray) (⟨#[100,105,118]⟩:ByteArray)=false:=rfl
theorem q_22_4:eqS (⟨#[105,110,116]⟩:ByteArray) (⟨#[109,111,100]⟩:ByteArray)=false:=rfl
theorem q_22_5:eqS (⟨#[105,110,116]⟩:ByteArray) (⟨#[109,105,110]⟩:ByteArray)=false:=rfl
theorem q_22_6:eqS (⟨#[105,110,116]⟩:ByteArray) (⟨#[109,97,120]⟩:ByteArray)=false:=rfl
theorem q_22_7:eqS (⟨#[105,110,116]⟩:ByteArray) (⟨#[110,101,103]⟩:ByteArray)=false:=rfl
theorem q_22_8:eqS (⟨#[105,110,116]⟩:ByteArray) (⟨#[97,98,115]⟩:ByteArray)=false:=rfl
theorem q_22_9:eqS (⟨#[105,110,116]⟩:ByteArray) (⟨#[115,105,103,110]⟩:ByteArray)=false:=rfl
theorem q_22_10:eqS (⟨#[105,110,116]⟩:ByteArray) (⟨#[108,116]⟩:ByteArray)=false:=rfl
theorem q_22_11:eqS (⟨#[105,110,116]⟩:ByteArray) (⟨#[108,101]⟩:ByteArray)=false:=rfl
theorem q_22_12:eqS (⟨#[105,110,116]⟩:ByteArray) (⟨#[103,116]⟩:ByteArray)=false:=rfl
theorem q_22_13:eqS (⟨#[105,110,116]⟩:ByteArray) (⟨#[103,101]⟩:ByteArray)=false:=rfl
theorem q_22_14:eqS (⟨#[105,110,116]⟩:ByteArray) (⟨#[101,113]⟩:ByteArray)=false:=rfl
theorem q_22_15:eqS (⟨#[105,110,116]⟩:ByteArray) (⟨#[110,101]⟩:ByteArray)=false:=rfl
theorem q_22_16:eqS (⟨#[105,110,116]⟩:ByteArray) (⟨#[97,110,100]⟩:ByteArray)=false:=rfl
theorem q_22_17:eqS (⟨#[105,110,116]⟩:ByteArray) (⟨#[111,114]⟩:ByteArray)=false:=rfl
theorem q_22_18:eqS (⟨#[105,110,116]⟩:ByteArray) (⟨#[120,111,114]⟩:ByteArray)=false:=rfl
theorem q_22_19:eqS (⟨#[105,110,116]⟩:ByteArray) (⟨#[110,111,116]⟩:ByteArray)=false:=rfl
theorem q_22_20:eqS (⟨#[105,110,116]⟩:ByteArray) (⟨#[115,101,108,101,99,116]⟩:ByteArray)=false:=rfl
theorem q_22_21:eqS (⟨#[105,110,116]⟩:ByteArray) (⟨#[116,111,105,110,116]⟩:ByteArray)=false:=rfl
theorem q_22_22:eqS (⟨#[105,110,116]⟩:ByteArray) (⟨#[105,110,116]⟩:ByteArray)=true:=rfl
theorem q_22_23:eqS (⟨#[105,110,116]⟩:ByteArray) (⟨#[98,111,111,108]⟩:ByteArray)=false:=rfl
theorem q_22_24:eqS (⟨#[105,110,116]⟩:ByteArray) (⟨#[65]⟩:ByteArray)=false:=rfl
theorem q_22_25:eqS (⟨#[105,110,116]⟩:ByteArray) (⟨#[]⟩:ByteArray)=false:=rfl
theorem q_23_0:eqS (⟨#[98,111,111,108]⟩:ByteArray) (⟨#[97,100,100]⟩:ByteArray)=false:=rfl
theorem q_23_1:eqS (⟨#[98,111,111,108]⟩:ByteArray) (⟨#[115,117,98]⟩:ByteArray)=false:=rfl
theorem q_23_2:eqS (⟨#[98,111,111,108]⟩:ByteArray) (⟨#[109,117,108]⟩:ByteArray)=false:=rfl
theorem q_23_3:eqS (⟨#[98,111,111,108]⟩:ByteArray) (⟨#[100,105,118]⟩:ByteArray)=false:=rfl
theorem q_23_4:eqS (⟨#[98,111,111,108]⟩:ByteArray) (⟨#[109,111,100]⟩:ByteArray)=false:=rfl
theorem q_23_5:eqS (⟨#[98,111,111,108]⟩:ByteArray) (⟨#[109,105,110]⟩:ByteArray)=false:=rfl
theorem q_23_6:eqS (⟨#[98,111,111,108]⟩:ByteArray) (⟨#[109,97,120]⟩:ByteArray)=false:=rfl
theorem q_23_7:eqS (⟨#[98,111,111,108]⟩:ByteArray) (⟨#[110,101,103]⟩:ByteArray)=false:=rfl
theorem q_23_8:eqS (⟨#[98,111,111,108]⟩:ByteArray) (⟨#[97,98,115]⟩:ByteArray)=false:=rfl
theorem q_23_9:eqS (⟨#[98,111,111,108]⟩:ByteArray) (⟨#[115,105,103,110]⟩:ByteArray)=false:=rfl
theorem q_23_10:eqS (⟨#[98,111,111,108]⟩:ByteArray) (⟨#[108,116]⟩:ByteArray)=false:=rfl
theorem q_23_11:eqS (⟨#[98,111,111,108]⟩:ByteArray) (⟨#[108,101]⟩:ByteArray)=false:=rfl
theorem q_23_12:eqS (⟨#[98,111,111,108]⟩:ByteArray) (⟨#[103,116]⟩:ByteArray)=false:=rfl
theorem q_23_13:eqS (⟨#[98,111,111,108]⟩:ByteArray) (⟨#[103,101]⟩:ByteArray)=false:=rfl
theorem q_23_14:eqS (⟨#[98,111,111,108]⟩:ByteArray) (⟨#[101,113]⟩:ByteArray)=false:=rfl
theorem q_23_15:eqS (⟨#[98,111,111,108]⟩:ByteArray) (⟨#[110,101]⟩:ByteArray)=false:=rfl
theorem q_23_16:eqS (⟨#[98,111,111,108]⟩:ByteArray) (⟨#[97,110,100]⟩:ByteArray)=false:=rfl
theorem q_23_17:eqS (⟨#[98,111,111,108]⟩:ByteArray) (⟨#[111,114]⟩:ByteArray)=false:=rfl
theorem q_23_18:eqS (⟨#[98,111,111,108]⟩:ByteArray) (⟨#[120,111,114]⟩:ByteArray)=false:=rfl
theorem q_23_19:eqS (⟨#[98,111,111,108]⟩:ByteArray) (⟨#[110,111,116]⟩:ByteArray)=false:=rfl
theorem q_23_20:eqS (⟨#[98,111,111,108]⟩:ByteArray) (⟨#[115,101,108,101,99,116]⟩:ByteArray)=false:=rfl
theorem q_23_21:eqS (⟨#[98,111,111,108]⟩:ByteArray) (⟨#[116,111,105,110,116]⟩:ByteArray)=false:=rfl
theorem q_23_22:eqS (⟨#[98,111,111,108]⟩:ByteArray) (⟨#[105,110,116]⟩:ByteArray)=false:=rfl
theorem q_23_23:eqS (⟨#[98,111,111,108]⟩:ByteArray) (⟨#[98,111,111,108]⟩:ByteArray)=true:=rfl
theorem q_23_24:eqS (⟨#[98,111,111,108]⟩:ByteArray) (⟨#[65]⟩:ByteArray)=false:=rfl
theorem q_23_25:eqS (⟨#[98,111,111,108]⟩:ByteArray) (⟨#[]⟩:ByteArray)=false:=rfl
theorem q_24_0:eqS (⟨#[65]⟩:ByteArray) (⟨#[97,100,100]⟩:ByteArray)=false:=rfl
theorem q_24_1:eqS (⟨#[65]⟩:ByteArray) (⟨#[115,117,98]⟩:ByteArray)=false:=rfl
theorem q_24_2:eqS (⟨#[65]⟩:ByteArray) (⟨#[109,117,108]⟩:ByteArray)=false:=rfl
theorem q_24_3:eqS (⟨#[65]⟩:ByteArray) (⟨#[100,105,118]⟩:ByteArray)=false:=rfl
theorem q_24_4:eqS (⟨#[65]⟩:ByteArray) (⟨#[109,111,100]⟩:ByteArray)=false:=rfl
theorem q_24_5:eqS (⟨#[65]⟩:ByteArray) (⟨#[109,105,110]⟩:ByteArray)=false:=rfl
theorem q_24_6:eqS (⟨#[65]⟩:ByteArray) (⟨#[109,97,120]⟩:ByteArray)=false:=rfl
theorem q_24_7:eqS (⟨#[65]⟩:ByteArray) (⟨#[110,101,103]⟩:ByteArray)=false:=rfl
theorem q_24_8:eqS (⟨#[65]⟩:ByteArray) (⟨#[97,98,115]⟩:ByteArray)=false:=rfl
theorem q_24_9:eqS (⟨#[65]⟩:ByteArray) (⟨#[115,105,103,110]⟩:ByteArray)=false:=rfl
theorem q_24_10:eqS (⟨#[65]⟩:ByteArray) (⟨#[108,116]⟩:ByteArray)=false:=rfl
theorem q_24_11:eqS (⟨#[65]⟩:ByteArray) (⟨#[108,101]⟩:ByteArray)=false:=rfl
theorem q_24_12:eqS (⟨#[65]⟩:ByteArray) (⟨#[103,116]⟩:ByteArray)=false:=rfl
theorem q_24_13:eqS (⟨#[65]⟩:ByteArray) (⟨#[103,101]⟩:ByteArray)=false:=rfl
theorem q_24_14:eqS (⟨#[65]⟩:ByteArray) (⟨#[101,113]⟩:ByteArray)=false:=rfl
theorem q_24_15:eqS (⟨#[65]⟩:ByteArray) (⟨#[110,101]⟩:ByteArray)=false:=rfl
theorem q_24_16:eqS (⟨#[65]⟩:ByteArray) (⟨#[97,110,100]⟩:ByteArray)=false:=rfl
theorem q_24_17:eqS (⟨#[65]⟩:ByteArray) (⟨#[111,114]⟩:ByteArray)=false:=rfl
theorem q_24_18:eqS (⟨#[65]⟩:ByteArray) (⟨#[120,111,114]⟩:ByteArray)=false:=rfl
theorem q_24_19:eqS (⟨#[65]⟩:ByteArray) (⟨#[110,111,116]⟩:ByteArray)=false:=rfl
theorem q_24_20:eqS (⟨#[65]⟩:ByteArray) (⟨#[115,101,108,101,99,116]⟩:ByteArray)=false:=rfl
theorem q_24_21:eqS (⟨#[65]⟩:ByteArray) (⟨#[116,111,105,110,116]⟩:ByteArray)=false:=rfl
theorem q_24_22:eqS (⟨#[65]⟩:ByteArray) (⟨#[105,110,116]⟩:ByteArray)=false:=rfl
theorem q_24_23:eqS (⟨#[65]⟩:ByteArray) (⟨#[98,111,111,108]⟩:ByteArray)=false:=rfl
theorem q_24_24:eqS (⟨#[65]⟩:ByteArray) (⟨#[65]⟩:ByteArray)=true:=rfl
theorem q_24_25:eqS (⟨#[65]⟩:ByteArray) (⟨#[]⟩:ByteArray)=false:=rfl
theorem q_25_0:eqS (⟨#[]⟩:ByteArray) (⟨#[97,100,100]⟩:ByteArray)=false:=rfl
theorem q_25_1:eqS (⟨#[]⟩:ByteArray) (⟨#[115,117,98]⟩:ByteArray)=false:=rfl
theorem q_25_2:eqS (⟨#[]⟩:ByteArray) (⟨#[109,117,108]⟩:ByteArray)=false:=rfl
theorem q_25_3:eqS (⟨#[]⟩:ByteArray) (⟨#[100,105,118]⟩:ByteArray)=false:=rfl
theorem q_25_4:eqS (⟨#[]⟩:ByteArray) (⟨#[109,111,100]⟩:ByteArray)=false:=rfl
theorem q_25_5:eqS (⟨#[]⟩:ByteArray) (⟨#[109,105,110]⟩:ByteArray)=false:=rfl
theorem q_25_6:eqS (⟨#[]⟩:ByteArray) (⟨#[109,97,120]⟩:ByteArray)=false:=rfl
theorem q_25_7:eqS (⟨#[]⟩:ByteArray) (⟨#[110,101,103]⟩:ByteArray)=false:=rfl
theorem q_25_8:eqS (⟨#[]⟩:ByteArray) (⟨#[97,98,115]⟩:ByteArray)=false:=rfl
theorem q_25_9:eqS (⟨#[]⟩:ByteArray) (⟨#[115,105,103,110]⟩:ByteArray)=false:=rfl
theorem q_25_10:eqS (⟨#[]⟩:ByteArray) (⟨#[108,116]⟩:ByteArray)=false:=rfl
theorem q_25_11:eqS (⟨#[]⟩:ByteArray) (⟨#[108,101]⟩:ByteArray)=false:=rfl
theorem q_25_12:eqS (⟨#[]⟩:ByteArray) (⟨#[103,116]⟩:ByteArray)=false:=rfl
theorem q_25_13:eqS (⟨#[]⟩:ByteArray) (⟨#[103,101]⟩:ByteArray)=false:=rfl
theorem q_25_14:eqS (⟨#[]⟩:ByteArray) (⟨#[101,113]⟩:ByteArray)=false:=rfl
theorem q_25_15:eqS (⟨#[]⟩:ByteArray) (⟨#[110,101]⟩:ByteArray)=false:=rfl
theorem q_25_16:eqS (⟨#[]⟩:ByteArray) (⟨#[97,110,100]⟩:ByteArray)=false:=rfl
theorem q_25_17:eqS (⟨#[]⟩:ByteArray) (⟨#[111,114]⟩:ByteArray)=false:=rfl
theorem q_25_18:eqS (⟨#[]⟩:ByteArray) (⟨#[120,111,114]⟩:ByteArray)=false:=rfl
theorem q_25_19:eqS (⟨#[]⟩:ByteArray) (⟨#[110,111,116]⟩:ByteArray)=false:=rfl
theorem q_25_20:eqS (⟨#[]⟩:ByteArray) (⟨#[115,101,108,101,99,116]⟩:ByteArray)=false:=rfl
theorem q_25_21:eqS (⟨#[]⟩:ByteArray) (⟨#[116,111,105,110,116]⟩:ByteArray)=false:=rfl
theorem q_25_22:eqS (⟨#[]⟩:ByteArray) (⟨#[105,110,116]⟩:ByteArray)=false:=rfl
theorem q_25_23:eqS (⟨#[]⟩:ByteArray) (⟨#[98,111,111,108]⟩:ByteArray)=false:=rfl
theorem q_25_24:eqS (⟨#[]⟩:ByteArray) (⟨#[65]⟩:ByteArray)=false:=rfl
theorem q_25_25:eqS (⟨#[]⟩:ByteArray) (⟨#[]⟩:ByteArray)=true:=rfl
attribute [go_sem] q_0_0 q_0_1 q_0_2 q_0_3 q_0_4 q_0_5 q_0_6 q_0_7 q_0_8 q_0_9 q_0_10 q_0_11 q_0_12 q_0_13 q_0_14 q_0_15 q_0_16 q_0_17 q_0_18 q_0_19 q_0_20 q_0_21 q_0_22 q_0_23 q_0_24 q_0_25 q_1_0 q_1_1 q_1_2 q_1_3 q_1_4 q_1_5 q_1_6 q_1_7 q_1_8 q_1_9 q_1_10 q_1_11 q_1_12 q_1_13 q_1_14 q_1_15 q_1_16 q_1_17 q_1_18 q_1_19 q_1_20 q_1_21 q_1_22 q_1_23 q_1_24 q_1_25 q_2_0 q_2_1 q_2_2 q_2_3 q_2_4 q_2_5 q_2_6 q_2_7 q_2_8 q_2_9 q_2_10 q_2_11 q_2_12 q_2_13 q_2_14 q_2_15 q_2_16 q_2_17 q_2_18 q_2_19 q_2_20 q_2_21 q_2_22 q_2_23 q_2_24 q_2_25 q_3_0 q_3_1 q_3_2 q_3_3 q_3_4 q_3_5 q_3_6 q_3_7 q_3_8 q_3_9 q_3_10 q_3_11 q_3_12 q_3_13 q_3_14 q_3_15 q_3_16 q_3_17 q_3_18 q_3_19 q_3_20 q_3_21 q_3_22 q_3_23 q_3_24 q_3_25 q_4_0 q_4_1 q_4_2 q_4_3 q_4_4 q_4_5 q_4_6 q_4_7 q_4_8 q_4_9 q_4_10 q_4_11 q_4_12 q_4_13 q_4_14 q_4_15 q_4_16 q_4_17 q_4_18 q_4_19 q_4_20 q_4_21 q_4_22 q_4_23 q_4_24 q_4_25 q_5_0 q_5_1 q_5_2 q_5_3 q_5_4 q_5_5 q_5_6 q_5_7 q_5_8 q_5_9 q_5_10 q_5_11 q_5_12 q_5_13 q_5_14 q_5_15 q_5_16 q_5_17 q_5_18 q_5_19 q_5_20 q_5_21 q_5_22 q_5_23 q_5_24 q_5_25 q_6_0 q_6_1 q_6_2 q_6_3 q_6_4 q_6_5 q_6_6 q_6_7 q_6_8 q_6_9 q_6_10 q_6_11 q_6_12 q_6_13 q_6_14 q_6_15 q_6_16 q_6_17 q_6_18 q_6_19 q_6_20 q_6_21 q_6_22 q_6_23 q_6_24 q_6_25 q_7_0 q_7_1 q_7_2 q_7_3 q_7_4 q_7_5 q_7_6 q_7_7 q_7_8 q_7_9 q_7_10 q_7_11 q_7_12 q_7_13 q_7_14 q_7_15 q_7_16 q_7_17 q_7_18 q_7_19 q_7_20 q_7_21 q_7_22 q_7_23 q_7_24 q_7_25 q_8_0 q_8_1 q_8_2 q_8_3 q_8_4 q_8_5 q_8_6 q_8_7 q_8_8 q_8_9 q_8_10 q_8_11 q_8_12 q_8_13 q_8_14 q_8_15 q_8_16 q_8_17 q_8_18 q_8_19 q_8_20 q_8_21 q_8_22 q_8_23 q_8_24 q_8_25 q_9_0 q_9_1 q_9_2 q_9_3 q_9_4 q_9_5 q_9_6 q_9_7 q_9_8 q_9_9 q_9_10 q_9_11 q_9_12 q_9_13 q_9_14 q_9_15 q_9_16 q_9_17 q_9_18 q_9_19 q_9_20 q_9_21 q_9_22 q_9_23 q_9_24 q_9_25 q_10_0 q_10_1 q_10_2 q_10_3 q_10_4 q_10_5 q_10_6 q_10_7 q_10_8 q_10_9 q_10_10 q_10_11 q_10_12 q_10_13 q_10_14 q_10_15 q_10_16 q_10_17 q_10_18 q_10_19 q_10_20 q_10_21 q_10_22 q_10_23 q_10_24 q_10_25 q_11_0 q_11_1 q_11_2 q_11_3 q_11_4 q_11_5 q_11_6 q_11_7 q_11_8 q_11_9 q_11_10 q_11_11 q_11_12 q_11_13 q_11_14 q_11_15 q_11_16 q_11_17 q_11_18 q_11_19 q_11_20 q_11_21 q_11_22 q_11_23 q_11_24 q_11_25 q_12_0 q_12_1 q_12_2 q_12_3 q_12_4 q_12_5 q_12_6 q_12_7 q_12_8 q_12_9 q_12_10 q_12_11 q_12_12 q_12_13 q_12_14 q_12_15 q_12_16 q_12_17 q_12_18 q_12_19 q_12_20 q_12_21 q_12_22 q_12_23 q_12_24 q_12_25 q_13_0 q_13_1 q_13_2 q_13_3 q_13_4 q_13_5 q_13_6 q_13_7 q_13_8 q_13_9 q_13_10 q_13_11 q_13_12 q_13_13 q_13_14 q_13_15 q_13_16 q_13_17 q_13_18 q_13_19 q_13_20 q_13_21 q_13_22 q_13_23 q_13_24 q_13_25 q_14_0 q_14_1 q_14_2 q_14_3 q_14_4 q_14_5 q_14_6 q_14_7 q_14_8 q_14_9 q_14_10 q_14_11 q_14_12 q_14_13 q_14_14 q_14_15 q_14_16 q_14_17 q_14_18 q_14_19 q_14_20 q_14_21 q_14_22 q_14_23 q_14_24 q_14_25 q_15_0 q_15_1 q_15_2 q_15_3 q_15_4 q_15_5 q_15_6 q_15_7 q_15_8 q_15_9 q_15_10 q_15_11 q_15_12 q_15_13 q_15_14 q_15_15 q_15_16 q_15_17 q_15_18 q_15_19 q_15_20 q_15_21 q_15_22 q_15_23 q_15_24 q_15_25 q_16_0 q_16_1 q_16_2 q_16_3 q_16_4 q_16_5 q_16_6 q_16_7 q_16_8 q_16_9 q_16_10 q_16_11 q_16_12 q_16_13 q_16_14 q_16_15 q_16_16 q_16_17 q_16_18 q_16_19 q_16_20 q_16_21 q_16_22 q_16_23 q_16_24 q_16_25 q_17_0 q_17_1 q_17_2 q_17_3 q_17_4 q_17_5 q_17_6 q_17_7 q_17_8 q_17_9 q_17_10 q_17_11 q_17_12 q_17_13 q_17_14 q_17_15 q_17_16 q_17_17 q_17_18 q_17_19 q_17_20 q_17_21 q_17_22 q_17_23 q_17_24 q_17_25 q_18_0 q_18_1 q_18_2 q_18_3 q_18_4 q_18_5 q_18_6 q_18_7 q_18_8 q_18_9 q_18_10 q_18_11 q_18_12 q_18_13 q_18_14 q_18_15 q_18_16 q_18_17 q_18_18 q_18_19 q_18_20 q_18_21 q_18_22 q_18_23 q_18_24 q_18_25 q_19_0 q_19_1 q_19_2 q_19_3 q_19_4 q_19_5 q_19_6 q_19_7 q_19_8 q_19_9 q_19_10 q_19_11 q_19_12 q_19_13 q_19_14 q_19_15 q_19_16 q_19_17 q_19_18 q_19_19 q_19_20 q_19_21 q_19_22 q_19_23 q_19_24 q_19_25 q_20_0 q_20_1 q_20_2 q_20_3 q_20_4 q_20_5 q_20_6 q_20_7 q_20_8 q_20_9 q_20_10 q_20_11 q_20_12 q_20_13 q_20_14 q_20_15 q_20_16 q_20_17 q_20_18 q_20_19 q_20_20 q_20_21 q_20_22 q_20_23 q_20_24 q_20_25 q_21_0 q_21_1 q_21_2 q_21_3 q_21_4 q_21_5 q_21_6 q_21_7 q_21_8 q_21_9 q_21_10 q_21_11 q_21_12 q_21_13 q_21_14 q_21_15 q_21_16 q_21_17 q_21_18 q_21_19 q_21_20 q_21_21 q_21_22 q_21_23 q_21_24 q_21_25 q_22_0 q_22_1 q_22_2 q_22_3 q_22_4 q_22_5 q_22_6 q_22_7 q_22_8 q_22_9 q_22_10 q_22_11 q_22_12 q_22_13 q_22_14 q_22_15 q_22_16 q_22_17 q_22_18 q_22_19 q_22_20 q_22_21 q_22_22 q_22_23 q_22_24 q_22_25 q_23_0 q_23_1 q_23_2 q_23_3 q_23_4 q_23_5 q_23_6 q_23_7 q_23_8 q_23_9 q_23_10 q_23_11 q_23_12 q_23_13 q_23_14 q_23_15 q_23_16 q_23_17 q_23_18 q_23_19 q_23_20 q_23_21 q_23_22 q_23_23 q_23_24 q_23_25 q_24_0 q_24_1 q_24_2 q_24_3 q_24_4 q_24_5 q_24_6 q_24_7 q_24_8 q_24_9 q_24_10 q_24_11 q_24_12 q_24_13 q_24_14 q_24_15 q_24_16 q_24_17 q_24_18 q_24_19 q_24_20 q_24_21 q_24_22 q_24_23 q_24_24 q_24_25 q_25_0 q_25_1 q_25_2 q_25_3 q_25_4 q_25_5 q_25_6 q_25_7 q_25_8 q_25_9 q_25_10 q_25_11 q_25_12 q_25_13 q_25_14 q_25_15 q_25_16 q_25_17 q_25_18 q_25_19 q_25_20 q_25_21 q_25_22 q_25_23 q_25_24 q_25_25
structure Rw where
  op:ByteArray
  ps:List ByteArray
  rs:ByteArray
instance:Inhabited Rw:=⟨⟨⟨#[]⟩,[],⟨#[]⟩⟩⟩
def rowsL:List Rw:=[⟨(⟨#[97,100,100]⟩:ByteArray),[(⟨#[105,110,116]⟩:ByteArray),(⟨#[105,110,116]⟩:ByteArray)],(⟨#[105,110,116]⟩:ByteArray)⟩,⟨(⟨#[115,117,98]⟩:ByteArray),[(⟨#[105,110,116]⟩:ByteArray),(⟨#[105,110,116]⟩:ByteArray)],(⟨#[105,110,116]⟩:ByteArray)⟩,⟨(⟨#[109,117,108]⟩:ByteArray),[(⟨#[105,110,116]⟩:ByteArray),(⟨#[105,110,116]⟩:ByteArray)],(⟨#[105,110,116]⟩:ByteArray)⟩,⟨(⟨#[100,105,118]⟩:ByteArray),[(⟨#[105,110,116]⟩:ByteArray),(⟨#[105,110,116]⟩:ByteArray)],(⟨#[105,110,116]⟩:ByteArray)⟩,⟨(⟨#[109,111,100]⟩:ByteArray),[(⟨#[105,110,116]⟩:ByteArray),(⟨#[105,110,116]⟩:ByteArray)],(⟨#[105,110,116]⟩:ByteArray)⟩,⟨(⟨#[109,105,110]⟩:ByteArray),[(⟨#[105,110,116]⟩:ByteArray),(⟨#[105,110,116]⟩:ByteArray)],(⟨#[105,110,116]⟩:ByteArray)⟩,⟨(⟨#[109,97,120]⟩:ByteArray),[(⟨#[105,110,116]⟩:ByteArray),(⟨#[105,110,116]⟩:ByteArray)],(⟨#[105,110,116]⟩:ByteArray)⟩,⟨(⟨#[110,101,103]⟩:ByteArray),[(⟨#[105,110,116]⟩:ByteArray)],(⟨#[105,110,116]⟩:ByteArray)⟩,⟨(⟨#[97,98,115]⟩:ByteArray),[(⟨#[105,110,116]⟩:ByteArray)],(⟨#[105,110,116]⟩:ByteArray)⟩,⟨(⟨#[115,105,103,110]⟩:ByteArray),[(⟨#[105,110,116]⟩:ByteArray)],(⟨#[105,110,116]⟩:ByteArray)⟩,⟨(⟨#[108,116]⟩:ByteArray),[(⟨#[105,110,116]⟩:ByteArray),(⟨#[105,110,116]⟩:ByteArray)],(⟨#[98,111,111,108]⟩:ByteArray)⟩,⟨(⟨#[108,101]⟩:ByteArray),[(⟨#[105,110,116]⟩:ByteArray),(⟨#[105,110,116]⟩:ByteArray)],(⟨#[98,111,111,108]⟩:ByteArray)⟩,⟨(⟨#[103,116]⟩:ByteArray),[(⟨#[105,110,116]⟩:ByteArray),(⟨#[105,110,116]⟩:ByteArray)],(⟨#[98,111,111,108]⟩:ByteArray)⟩,⟨(⟨#[103,101]⟩:ByteArray),[(⟨#[105,110,116]⟩:ByteArray),(⟨#[105,110,116]⟩:ByteArray)],(⟨#[98,111,111,108]⟩:ByteArray)⟩,⟨(⟨#[101,113]⟩:ByteArray),[(⟨#[65]⟩:ByteArray),(⟨#[65]⟩:ByteArray)],(⟨#[98,111,111,108]⟩:ByteArray)⟩,⟨(⟨#[110,101]⟩:ByteArray),[(⟨#[65]⟩:ByteArray),(⟨#[65]⟩:ByteArray)],(⟨#[98,111,111,108]⟩:ByteArray)⟩,⟨(⟨#[97,110,100]⟩:ByteArray),[(⟨#[98,111,111,108]⟩:ByteArray),(⟨#[98,111,111,108]⟩:ByteArray)],(⟨#[98,111,111,108]⟩:ByteArray)⟩,⟨(⟨#[111,114]⟩:ByteArray),[(⟨#[98,111,111,108]⟩:ByteArray),(⟨#[98,111,111,108]⟩:ByteArray)],(⟨#[98,111,111,108]⟩:ByteArray)⟩,⟨(⟨#[120,111,114]⟩:ByteArray),[(⟨#[98,111,111,108]⟩:ByteArray),(⟨#[98,111,111,108]⟩:ByteArray)],(⟨#[98,111,111,108]⟩:ByteArray)⟩,⟨(⟨#[110,111,116]⟩:ByteArray),[(⟨#[98,111,111,108]⟩:ByteArray)],(⟨#[98,111,111,108]⟩:ByteArray)⟩,⟨(⟨#[115,101,108,101,99,116]⟩:ByteArray),[(⟨#[98,111,111,108]⟩:ByteArray),(⟨#[65]⟩:ByteArray),(⟨#[65]⟩:ByteArray)],(⟨#[65]⟩:ByteArray)⟩,⟨(⟨#[116,111,105,110,116]⟩:ByteArray),[(⟨#[98,111,111,108]⟩:ByteArray)],(⟨#[105,110,116]⟩:ByteArray)⟩]
def rowC (r:Rw):List AV:=[.lit (.string r.op),.sl true 1 (strs r.ps),.lit (.string r.rs)]
def rowCells:List AV:=rowsL.flatMap rowC
theorem rowCells_len:rowCells.length=66:=rfl
set_option maxHeartbeats 4000000 in
theorem rows_pc:PC Tryz.prog 112 [] (.agg rowCells):=by
  refine pcO E0_ok (fun _=>[0,1,2,3,4]) Tryz.func112 (h:=fun KF=>?_)
  unfold E0
  repeat' (first
   |(with_reducible first|refine nx ?_|refine t_seq fun K=>?_|refine t_br (fun hc=>?_) fun hc=>?_|refine t_bx ?_|apply And.intro|intro vr)
   |((with_reducible first|refine ny ?_|refine t_dwh (h:=fun K KL=>?_));intros;simp only [go_sem,geff]))
  all_goals try exact om
  refine end_ret rfl ?_
  simp only [fin,go_sem]
  exact LeA.refl _
end Go.Proofs.YtohiagaclfaolaaGreatDoor.El

namespace Go.Proofs.YtohiagaclfaolaaGreatDoor.El
open Go.Proofs.YtohiagaclfaolaaGreatDoor
open Go Go.Fw
set_option maxRecDepth 20000
noncomputable def con112:PCon Tryz.prog where
  f:=112
  c:=fun
   |[]=>some (True,.agg rowCells)
   |_=>none
  ok:=by
   intro args p r hc hp
   split at hc
   ·cases hc;exact rows_pc
   ·cases hc
  fk:=fk112
theorem con112_f:con112.f=112:=rfl
theorem con112_c:con112.c []=some (True,.agg rowCells):=rfl
theorem clone_pc {l:List ByteArray} (hl:l.length≤1000000):PC Tryz.prog 113 [.sl false 1 (strs l)] (.sl false 1 (strs l)):=by
  refine pcO E0_ok (fun _=>[0,2,4]) Tryz.func113 (h:=fun KF=>?_)
  unfold E0
  repeat' (first
   |(with_reducible first|refine nx ?_|refine t_seq fun K=>?_|refine t_br (fun hc=>?_) fun hc=>?_|refine t_bx ?_|apply And.intro|intro vr)
   |((with_reducible first|refine ny ?_|refine t_dwh (h:=fun K KL=>?_));intros;simp only [go_sem,geff]))
  all_goals try exact om
  ·skip
   refine end_ret rfl ?_
   simp only [fin,go_sem]
   rw [show strs l=[] from by assumption]
   exact LeA.nil false 1
  ·skip
   refine end_ret rfl ?_
   simp only [fin,go_sem]
   exact LeA.refl _
noncomputable def con113:PCon Tryz.prog where
  f:=113
  c:=fun
   |[x]=>(slS x).map fun l=>(l.length≤1000000,.sl false 1 (strs l))
   |_=>none
  ok:=by
   intro args p r hc hp
   split at hc
   ·rename_i x
    cases hx:slS x with
    |none=>rw [hx] at hc;cases hc
    |some l=>
     rw [hx] at hc
     cases hc
     exact PC.weak (clone_pc hp) ⟨slS_le hx,trivial⟩
   ·cases hc
  fk:=fk113
theorem con113_f:con113.f=113:=rfl
theorem con113_c {x:AV}:con113.c [x]=(slS x).map fun l=>(l.length≤1000000,.sl false 1 (strs l)):=rfl
theorem yes_def {x:AV}:yes x=some (True,x):=rfl
theorem need_def {p:Prop} {x:AV}:need p x=some (p,x):=rfl
def typesS (op:ByteArray):Option Rw:=rowsL.find? fun r=>eqS r.op op
def typesV (o:Option Rw):AV:=match o with
  |some r=> .tup [.sl false 1 (strs r.ps),.lit (.string r.rs),.lit (.bool true)]
  |none=> .tup [.lit (.slice none 0 0),.lit (.string ⟨#[]⟩),.lit (.bool false)]
theorem rows_len:rowsL.length=22:=rfl
theorem rows_ps:∀ r∈rowsL,r.ps.length≤3:=by decide
theorem row_cells:∀ i,i<22→(rowCells.drop (i*3)).take 3=rowC (rowsL.getD i default):=by
  intro i hi
  have:i=0∨i=1∨i=2∨i=3∨i=4∨i=5∨i=6∨i=7∨i=8∨i=9∨i=10∨i=11∨i=12∨i=13∨i=14∨i=15∨i=16∨i=17∨i=18∨i=19∨i=20∨i=21:=by omega
  rcases this with rfl|rfl|rfl|rfl|rfl|rfl|rfl|rfl|rfl|rfl|rfl|rfl|rfl|rfl|rfl|rfl|rfl|rfl|rfl|rfl|rfl|rfl<;>rfl
theorem rowCells_all:rowCells.all scal0=false:=rfl
noncomputable def E2:Env:=envOf (P:=Tryz.prog) zer (fun _=>false) (fun _=>false) [con112,con113] []
theorem E2_ok:EnvOk Tryz.prog E2:=envOk zer_ok
set_option maxHeartbeats 1000000 in
theorem types_pc {op:ByteArray}:PC Tryz.prog 101 [.lit (.string op)] (typesV (typesS op)):=by
  unfold typesS
  generalize hR:rowsL.find? (fun r=>eqS r.op op)=R
  refine pcO E2_ok (fun _=>[0,2,3,4,6,7,8,9,14]) Tryz.func101 (h:=fun KF=>?_)
  unfold E2
  repeat' (first
   |(with_reducible first|refine nx ?_|refine t_seq fun K=>?_|refine t_br (fun hc=>?_) fun hc=>?_|refine t_bx ?_|apply And.intro|intro vr)
   |((with_reducible first|refine ny ?_|refine t_dwh (h:=fun K KL=>?_));intros;simp only [go_sem,geff,con112_f,con112_c,rowCells_all,Bool.false_eq_true]))
  refine t_loop (ι:={i:Nat // i≤22∧(rowsL.drop i).find? (fun r=>eqS r.op op)=R}×List AObj) (fun i=>⟨upd (upd (upd topF 8 (.lit (.int .i64 i.1.1))) 7 (.agg rowCells)) 0 (.lit (.string op)),i.2⟩) (fun i=>22 - i.1.1) (⟨0,by omega,hR⟩,[]) ?_ ?_
  ·skip
   (refine Le.frame ?_;repeat' (first|exact leF_top _|(with_reducible refine leF_sl ?_ ?_)|(refine leF_upd (LeR.of_eq ?_) ?_)))<;>(try (simp only [go_sem];try rfl))
  ·rintro ⟨⟨i,hi,hF⟩,g⟩ K0
   rcases Nat.lt_or_ge i 22 with hc|hc
   ·have g1:decide ((i:Int)<22)=true:=decide_eq_true (by omega)
    have g2:=row_cells i hc
    have g3:(i*3+3≤66)=True:=eq_true (by omega)
    have hd:rowsL.drop i=rowsL.getD i default::rowsL.drop (i+1):=by
      rw [List.drop_eq_getElem_cons (by rw [rows_len];exact hc),getD_elem _ _ (by rw [rows_len];exact hc)]
    have hps:=rows_ps (rowsL.getD i default) (by rw [getD_elem _ _ (by rw [rows_len];exact hc)];exact List.getElem_mem _)
    generalize rowsL.getD i default=r at g2 hd hps
    obtain ⟨nm,ps,rs⟩:=r
    simp only at hps
    rw [hd,List.find?_cons] at hF
    have k1:∀ (A:AObj),(g++[A])[g.length]? =some A:=fun A=>getA0 rfl
    have k2:∀ (A B:AObj),(g++[A]).set g.length B=g++[B]:=fun A B=>setA0 rfl
    by_cases he:eqS nm op=true
    ·have:R=some ⟨nm,ps,rs⟩:=by rw [←hF];simp only [he]
     subst this
     repeat' (first
      |(with_reducible first|refine nx ?_|refine t_seq fun K=>?_|refine t_br (fun hc=>?_) fun hc=>?_|refine t_bx ?_|apply And.intro|intro vr)
      |((with_reducible first|refine ny ?_|refine t_dwh (h:=fun K KL=>?_));intros;simp only [go_sem,geff,g1,Int.toNat_natCast,g3,rowCells_len,g2,rowC,yes_def,need_def,k1,k2,he,con112_f,con113_f,con113_c,slS_sl,typesV]))
     all_goals try exact om
     refine end_ret rfl ?_
     simp only [fin,go_sem]
     exact LeA.refl _
    ·have he':eqS nm op=false:=by simpa using he
     have hF':(rowsL.drop (i+1)).find? (fun r=>eqS r.op op)=R:=by rw [←hF];simp only [he']
     repeat' (first
      |(with_reducible first|refine nx ?_|refine t_seq fun K=>?_|refine t_br (fun hc=>?_) fun hc=>?_|refine t_bx ?_|apply And.intro|intro vr)
      |((with_reducible first|refine ny ?_|refine t_dwh (h:=fun K KL=>?_));intros;simp only [go_sem,geff,g1,Int.toNat_natCast,g3,rowCells_len,g2,rowC,yes_def,need_def,k1,k2,he',con112_f,con113_f,con113_c,slS_sl]))
     all_goals try exact om
     refine ⟨(⟨i+1,by omega,hF'⟩,g++[.box 152 [.lit (.string nm),.sl true 1 (strs ps),.lit (.string rs)]]),by simp only;omega,?_⟩
     (refine Le.frame ?_;repeat' (first|exact leF_top _|(with_reducible refine leF_sl ?_ ?_)|(refine leF_upd (LeR.of_eq ?_) ?_)))<;>(try (simp only [go_sem];try rfl))
   ·have g1:decide ((i:Int)<22)=false:=decide_eq_false (by omega)
    have:i=22:=by omega
    subst this
    have:R=none:=by rw [←hF];rfl
    subst this
    repeat' (first
     |(with_reducible first|refine nx ?_|refine t_seq fun K=>?_|refine t_br (fun hc=>?_) fun hc=>?_|refine t_bx ?_|apply And.intro|intro vr)
     |((with_reducible first|refine ny ?_|refine t_dwh (h:=fun K KL=>?_));intros;simp only [go_sem,geff,g1,typesV]))
    refine end_ret rfl ?_
    simp only [fin,go_sem]
    exact LeA.refl _
theorem eqS_comm (a b:ByteArray):eqS a b=eqS b a:=by
  by_cases h:eqS a b=true
  ·rw [h,eqS_iff.1 h];exact (eqS_refl b).symm
  ·have: ¬ eqS b a=true:=fun e=>h (by rw [eqS_iff.1 e];exact eqS_refl a)
   simp only [Bool.not_eq_true] at h this
   rw [h,this]
set_option maxHeartbeats 4000000 in
theorem rtypes_pc {op:ByteArray}:PC Tryz.prog 105 [.lit (.string op)] (typesV (typesS op)):=by
  by_cases h0:op=(⟨#[97,100,100]⟩:ByteArray)
  ·subst h0
   refine pcO E0_ok (fun _=>[0,2,3,4,5,6,15,20,26,30,35,38,41]) Tryz.func105 (h:=fun KF=>?_)
   unfold E0
   repeat' (first
    |(with_reducible first|refine nx ?_|refine t_seq fun K=>?_|refine t_br (fun hc=>?_) fun hc=>?_|refine t_bx ?_|apply And.intro|intro vr)
    |((with_reducible first|refine ny ?_|refine t_dwh (h:=fun K KL=>?_));intros;simp only [go_sem,geff]))
   all_goals try exact om
   refine end_ret rfl ?_
   simp only [fin,go_sem]
   exact LeA.tup ⟨LeA.full true 1 _,LeA.refl _,LeA.refl _,trivial⟩
  have z0:eqS op (⟨#[97,100,100]⟩:ByteArray)=false:=Bool.eq_false_iff.2 fun e=>h0 (eqS_iff.1 e)
  by_cases h1:op=(⟨#[115,117,98]⟩:ByteArray)
  ·subst h1
   refine pcO E0_ok (fun _=>[0,2,3,4,5,6,15,20,26,30,35,38,41]) Tryz.func105 (h:=fun KF=>?_)
   unfold E0
   repeat' (first
    |(with_reducible first|refine nx ?_|refine t_seq fun K=>?_|refine t_br (fun hc=>?_) fun hc=>?_|refine t_bx ?_|apply And.intro|intro vr)
    |((with_reducible first|refine ny ?_|refine t_dwh (h:=fun K KL=>?_));intros;simp only [go_sem,geff]))
   all_goals try exact om
   refine end_ret rfl ?_
   simp only [fin,go_sem]
   exact LeA.tup ⟨LeA.full true 1 _,LeA.refl _,LeA.refl _,trivial⟩
  have z1:eqS op (⟨#[115,117,98]⟩:ByteArray)=false:=Bool.eq_false_iff.2 fun e=>h1 (eqS_iff.1 e)
  by_cases h2:op=(⟨#[109,117,108]⟩:ByteArray)
  ·subst h2
   refine pcO E0_ok (fun _=>[0,2,3,4,5,6,15,20,26,30,35,38,41]) Tryz.func105 (h:=fun KF=>?_)
   unfold E0
   repeat' (first
    |(with_reducible first|refine nx ?_|refine t_seq fun K=>?_|refine t_br (fun hc=>?_) fun hc=>?_|refine t_bx ?_|apply And.intro|intro vr)
    |((with_reducible first|refine ny ?_|refine t_dwh (h:=fun K KL=>?_));intros;simp only [go_sem,geff]))
   all_goals try exact om
   refine end_ret rfl ?_
   simp only [fin,go_sem]
   exact LeA.tup ⟨LeA.full true 1 _,LeA.refl _,LeA.refl _,trivial⟩
  have z2:eqS op (⟨#[109,117,108]⟩:ByteArray)=false:=Bool.eq_false_iff.2 fun e=>h2 (eqS_iff.1 e)
  by_cases h3:op=(⟨#[100,105,118]⟩:ByteArray)
  ·subst h3
   refine pcO E0_ok (fun _=>[0,2,3,4,5,6,15,20,26,30,35,38,41]) Tryz.func105 (h:=fun KF=>?_)
   unfold E0
   repeat' (first
    |(with_reducible first|refine nx ?_|refine t_seq fun K=>?_|refine t_br (fun hc=>?_) fun hc=>?_|refine t_bx ?_|apply And.intro|intro vr)
    |((with_reducible first|refine ny ?_|refine t_dwh (h:=fun K KL=>?_));intros;simp only [go_sem,geff]))
   all_goals try exact om
   refine end_ret rfl ?_
   simp only [fin,go_sem]
   exact LeA.tup ⟨LeA.full true 1 _,LeA.refl _,LeA.refl _,trivial⟩
  have z3:eqS op (⟨#[100,105,118]⟩:ByteArray)=false:=Bool.eq_false_iff.2 fun e=>h3 (eqS_iff.1 e)
  by_cases h4:op=(⟨#[109,111,100]⟩:ByteArray)
  ·subst h4
   refine pcO E0_ok (fun _=>[0,2,3,4,5,6,15,20,26,30,35,38,41]) Tryz.func105 (h:=fun KF=>?_)
   unfold E0
   repeat' (first
    |(with_reducible first|refine nx ?_|refine t_seq fun K=>?_|refine t_br (fun hc=>?_) fun hc=>?_|refine t_bx ?_|apply And.intro|intro vr)
    |((with_reducible first|refine ny ?_|refine t_dwh (h:=fun K KL=>?_));intros;simp only [go_sem,geff]))
   all_goals try exact om
   refine end_ret rfl ?_
   simp only [fin,go_sem]
   exact LeA.tup ⟨LeA.full true 1 _,LeA.refl _,LeA.refl _,trivial⟩
  have z4:eqS op (⟨#[109,111,100]⟩:ByteArray)=false:=Bool.eq_false_iff.2 fun e=>h4 (eqS_iff.1 e)
  by_cases h5:op=(⟨#[109,105,110]⟩:ByteArray)
  ·subst h5
   refine pcO E0_ok (fun _=>[0,2,3,4,5,6,15,20,26,30,35,38,41]) Tryz.func105 (h:=fun KF=>?_)
   unfold E0
   repeat' (first
    |(with_reducible first|refine nx ?_|refine t_seq fun K=>?_|refine t_br (fun hc=>?_) fun hc=>?_|refine t_bx ?_|apply And.intro|intro vr)
    |((with_reducible first|refine ny ?_|refine t_dwh (h:=fun K KL=>?_));intros;simp only [go_sem,geff]))
   all_goals try exact om
   refine end_ret rfl ?_
   simp only [fin,go_sem]
   exact LeA.tup ⟨LeA.full true 1 _,LeA.refl _,LeA.refl _,trivial⟩
  have z5:eqS op (⟨#[109,105,110]⟩:ByteArray)=false:=Bool.eq_false_iff.2 fun e=>h5 (eqS_iff.1 e)
  by_cases h6:op=(⟨#[109,97,120]⟩:ByteArray)
  ·subst h6
   refine pcO E0_ok (fun _=>[0,2,3,4,5,6,15,20,26,30,35,38,41]) Tryz.func105 (h:=fun KF=>?_)
   unfold E0
   repeat' (first
    |(with_reducible first|refine nx ?_|refine t_seq fun K=>?_|refine t_br (fun hc=>?_) fun hc=>?_|refine t_bx ?_|apply And.intro|intro vr)
    |((with_reducible first|refine ny ?_|refine t_dwh (h:=fun K KL=>?_));intros;simp only [go_sem,geff]))
   all_goals try exact om
   refine end_ret rfl ?_
   simp only [fin,go_sem]
   exact LeA.tup ⟨LeA.full true 1 _,LeA.refl _,LeA.refl _,trivial⟩
  have z6:eqS op (⟨#[109,97,120]⟩:ByteArray)=false:=Bool.eq_false_iff.2 fun e=>h6 (eqS_iff.1 e)
  by_cases h7:op=(⟨#[110,101,103]⟩:ByteArray)
  ·subst h7
   refine pcO E0_ok (fun _=>[0,2,3,4,5,6,15,20,26,30,35,38,41]) Tryz.func105 (h:=fun KF=>?_)
   unfold E0
   repeat' (first
    |(with_reducible first|refine nx ?_|refine t_seq fun K=>?_|refine t_br (fun hc=>?_) fun hc=>?_|refine t_bx ?_|apply And.intro|intro vr)
    |((with_reducible first|refine ny ?_|refine t_dwh (h:=fun K KL=>?_));intros;simp only [go_sem,geff]))
   all_goals try exact om
   refine end_ret rfl ?_
   simp only [fin,go_sem]
   exact LeA.tup ⟨LeA.full true 1 _,LeA.refl _,LeA.refl _,trivial⟩
  have z7:eqS op (⟨#[110,101,103]⟩:ByteArray)=false:=Bool.eq_false_iff.2 fun e=>h7 (eqS_iff.1 e)
  by_cases h8:op=(⟨#[97,98,115]⟩:ByteArray)
  ·subst h8
   refine pcO E0_ok (fun _=>[0,2,3,4,5,6,15,20,26,30,35,38,41]) Tryz.func105 (h:=fun KF=>?_)
   unfold E0
   repeat' (first
    |(with_reducible first|refine nx ?_|refine t_seq fun K=>?_|refine t_br (fun hc=>?_) fun hc=>?_|refine t_bx ?_|apply And.intro|intro vr)
    |((with_reducible first|refine ny ?_|refine t_dwh (h:=fun K KL=>?_));intros;simp only [go_sem,geff]))
   all_goals try exact om
   refine end_ret rfl ?_
   simp only [fin,go_sem]
   exact LeA.tup ⟨LeA.full true 1 _,LeA.refl _,LeA.refl _,trivial⟩
  have z8:eqS op (⟨#[97,98,115]⟩:ByteArray)=false:=Bool.eq_false_iff.2 fun e=>h8 (eqS_iff.1 e)
  by_cases h9:op=(⟨#[115,105,103,110]⟩:ByteArray)
  ·subst h9
   refine pcO E0_ok (fun _=>[0,2,3,4,5,6,15,20,26,30,35,38,41]) Tryz.func105 (h:=fun KF=>?_)
   unfold E0
   repeat' (first
    |(with_reducible first|refine nx ?_|refine t_seq fun K=>?_|refine t_br (fun hc=>?_) fun hc=>?_|refine t_bx ?_|apply And.intro|intro vr)
    |((with_reducible first|refine ny ?_|refine t_dwh (h:=fun K KL=>?_));intros;simp only [go_sem,geff]))
   all_goals try exact om
   refine end_ret rfl ?_
   simp only [fin,go_sem]
   exact LeA.tup ⟨LeA.full true 1 _,LeA.refl _,LeA.refl _,trivial⟩
  have z9:eqS op (⟨#[115,105,103,110]⟩:ByteArray)=false:=Bool.eq_false_iff.2 fun e=>h9 (eqS_iff.1 e)
  by_cases h10:op=(⟨#[108,116]⟩:ByteArray)
  ·subst h10
   refine pcO E0_ok (fun _=>[0,2,3,4,5,6,15,20,26,30,35,38,41]) Tryz.func105 (h:=fun KF=>?_)
   unfold E0
   repeat' (first
    |(with_reducible first|refine nx ?_|refine t_seq fun K=>?_|refine t_br (fun hc=>?_) fun hc=>?_|refine t_bx ?_|apply And.intro|intro vr)
    |((with_reducible first|refine ny ?_|refine t_dwh (h:=fun K KL=>?_));intros;simp only [go_sem,geff]))
   all_goals try exact om
   refine end_ret rfl ?_
   simp only [fin,go_sem]
   exact LeA.tup ⟨LeA.full true 1 _,LeA.refl _,LeA.refl _,trivial⟩
  have z10:eqS op (⟨#[108,116]⟩:ByteArray)=false:=Bool.eq_false_iff.2 fun e=>h10 (eqS_iff.1 e)
  by_cases h11:op=(⟨#[108,101]⟩:ByteArray)
  ·subst h11
   refine pcO E0_ok (fun _=>[0,2,3,4,5,6,15,20,26,30,35,38,41]) Tryz.func105 (h:=fun KF=>?_)
   unfold E0
   repeat' (first
    |(with_reducible first|refine nx ?_|refine t_seq fun K=>?_|refine t_br (fun hc=>?_) fun hc=>?_|refine t_bx ?_|apply And.intro|intro vr)
    |((with_reducible first|refine ny ?_|refine t_dwh (h:=fun K KL=>?_));intros;simp only [go_sem,geff]))
   all_goals try exact om
   refine end_ret rfl ?_
   simp only [fin,go_sem]
   exact LeA.tup ⟨LeA.full true 1 _,LeA.refl _,LeA.refl _,trivial⟩
  have z11:eqS op (⟨#[108,101]⟩:ByteArray)=false:=Bool.eq_false_iff.2 fun e=>h11 (eqS_iff.1 e)
  by_cases h12:op=(⟨#[103,116]⟩:ByteArray)
  ·subst h12
   refine pcO E0_ok (fun _=>[0,2,3,4,5,6,15,20,26,30,35,38,41]) Tryz.func105 (h:=fun KF=>?_)
   unfold E0
   repeat' (first
    |(with_reducible first|refine nx ?_|refine t_seq fun K=>?_|refine t_br (fun hc=>?_) fun hc=>?_|refine t_bx ?_|apply And.intro|intro vr)
    |((with_reducible first|refine ny ?_|refine t_dwh (h:=fun K KL=>?_));intros;simp only [go_sem,geff]))
   all_goals try exact om
   refine end_ret rfl ?_
   simp only [fin,go_sem]
   exact LeA.tup ⟨LeA.full true 1 _,LeA.refl _,LeA.refl _,trivial⟩
  have z12:eqS op (⟨#[103,116]⟩:ByteArray)=false:=Bool.eq_false_iff.2 fun e=>h12 (eqS_iff.1 e)
  by_cases h13:op=(⟨#[103,101]⟩:ByteArray)
  ·subst h13
   refine pcO E0_ok (fun _=>[0,2,3,4,5,6,15,20,26,30,35,38,41]) Tryz.func105 (h:=fun KF=>?_)
   unfold E0
   repeat' (first
    |(with_reducible first|refine nx ?_|refine t_seq fun K=>?_|refine t_br (fun hc=>?_) fun hc=>?_|refine t_bx ?_|apply And.intro|intro vr)
    |((with_reducible first|refine ny ?_|refine t_dwh (h:=fun K KL=>?_));intros;simp only [go_sem,geff]))
   all_goals try exact om
   refine end_ret rfl ?_
   simp only [fin,go_sem]
   exact LeA.tup ⟨LeA.full true 1 _,LeA.refl _,LeA.refl _,trivial⟩
  have z13:eqS op (⟨#[103,101]⟩:ByteArray)=false:=Bool.eq_false_iff.2 fun e=>h13 (eqS_iff.1 e)
  by_cases h14:op=(⟨#[101,113]⟩:ByteArray)
  ·subst h14
   refine pcO E0_ok (fun _=>[0,2,3,4,5,6,15,20,26,30,35,38,41]) Tryz.func105 (h:=fun KF=>?_)
   unfold E0
   repeat' (first
    |(with_reducible first|refine nx ?_|refine t_seq fun K=>?_|refine t_br (fun hc=>?_) fun hc=>?_|refine t_bx ?_|apply And.intro|intro vr)
    |((with_reducible first|refine ny ?_|refine t_dwh (h:=fun K KL=>?_));intros;simp only [go_sem,geff]))
   all_goals try exact om
   refine end_ret rfl ?_
   simp only [fin,go_sem]
   exact LeA.tup ⟨LeA.full true 1 _,LeA.refl _,LeA.refl _,trivial⟩
  have z14:eqS op (⟨#[101,113]⟩:ByteArray)=false:=Bool.eq_false_iff.2 fun e=>h14 (eqS_iff.1 e)
  by_cases h15:op=(⟨#[110,101]⟩:ByteArray)
  ·subst h15
   refine pcO E0_ok (fun _=>[0,2,3,4,5,6,15,20,26,30,35,38,41]) Tryz.func105 (h:=fun KF=>?_)
   unfold E0
   repeat' (first
    |(with_reducible first|refine nx ?_|refine t_seq fun K=>?_|refine t_br (fun hc=>?_) fun hc=>?_|refine t_bx ?_|apply And.intro|intro vr)
    |((with_reducible first|refine ny ?_|refine t_dwh (h:=fun K KL=>?_));intros;simp only [go_sem,geff]))
   all_goals try exact om
   refine end_ret rfl ?_
   simp only [fin,go_sem]
   exact LeA.tup ⟨LeA.full true 1 _,LeA.refl _,LeA.refl _,trivial⟩
  have z15:eqS op (⟨#[110,101]⟩:ByteArray)=false:=Bool.eq_false_iff.2 fun e=>h15 (eqS_iff.1 e)
  by_cases h16:op=(⟨#[97,110,100]⟩:ByteArray)
  ·subst h16
   refine pcO E0_ok (fun _=>[0,2,3,4,5,6,15,20,26,30,35,38,41]) Tryz.func105 (h:=fun KF=>?_)
   unfold E0
   repeat' (first
    |(with_reducible first|refine nx ?_|refine t_seq fun K=>?_|refine t_br (fun hc=>?_) fun hc=>?_|refine t_bx ?_|apply And.intro|intro vr)
    |((with_reducible first|refine ny ?_|refine t_dwh (h:=fun K KL=>?_));intros;simp only [go_sem,geff]))
   all_goals try exact om
   refine end_ret rfl ?_
   simp only [fin,go_sem]
   exact LeA.tup ⟨LeA.full true 1 _,LeA.refl _,LeA.refl _,trivial⟩
  have z16:eqS op (⟨#[97,110,100]⟩:ByteArray)=false:=Bool.eq_false_iff.2 fun e=>h16 (eqS_iff.1 e)
  by_cases h17:op=(⟨#[111,114]⟩:ByteArray)
  ·subst h17
   refine pcO E0_ok (fun _=>[0,2,3,4,5,6,15,20,26,30,35,38,41]) Tryz.func105 (h:=fun KF=>?_)
   unfold E0
   repeat' (first
    |(with_reducible first|refine nx ?_|refine t_seq fun K=>?_|refine t_br (fun hc=>?_) fun hc=>?_|refine t_bx ?_|apply And.intro|intro vr)
    |((with_reducible first|refine ny ?_|refine t_dwh (h:=fun K KL=>?_));intros;simp only [go_sem,geff]))
   all_goals try exact om
   refine end_ret rfl ?_
   simp only [fin,go_sem]
   exact LeA.tup ⟨LeA.full true 1 _,LeA.refl _,LeA.refl _,trivial⟩
  have z17:eqS op (⟨#[111,114]⟩:ByteArray)=false:=Bool.eq_false_iff.2 fun e=>h17 (eqS_iff.1 e)
  by_cases h18:op=(⟨#[120,111,114]⟩:ByteArray)
  ·subst h18
   refine pcO E0_ok (fun _=>[0,2,3,4,5,6,15,20,26,30,35,38,41]) Tryz.func105 (h:=fun KF=>?_)
   unfold E0
   repeat' (first
    |(with_reducible first|refine nx ?_|refine t_seq fun K=>?_|refine t_br (fun hc=>?_) fun hc=>?_|refine t_bx ?_|apply And.intro|intro vr)
    |((with_reducible first|refine ny ?_|refine t_dwh (h:=fun K KL=>?_));intros;simp only [go_sem,geff]))
   all_goals try exact om
   refine end_ret rfl ?_
   simp only [fin,go_sem]
   exact LeA.tup ⟨LeA.full true 1 _,LeA.refl _,LeA.refl _,trivial⟩
  have z18:eqS op (⟨#[120,111,114]⟩:ByteArray)=false:=Bool.eq_false_iff.2 fun e=>h18 (eqS_iff.1 e)
  by_cases h19:op=(⟨#[110,111,116]⟩:ByteArray)
  ·subst h19
   refine pcO E0_ok (fun _=>[0,2,3,4,5,6,15,20,26,30,35,38,41]) Tryz.func105 (h:=fun KF=>?_)
   unfold E0
   repeat' (first
    |(with_reducible first|refine nx ?_|refine t_seq fun K=>?_|refine t_br (fun hc=>?_) fun hc=>?_|refine t_bx ?_|apply And.intro|intro vr)
    |((with_reducible first|refine ny ?_|refine t_dwh (h:=fun K KL=>?_));intros;simp only [go_sem,geff]))
   all_goals try exact om
   refine end_ret rfl ?_
   simp only [fin,go_sem]
   exact LeA.tup ⟨LeA.full true 1 _,LeA.refl _,LeA.refl _,trivial⟩
  have z19:eqS op (⟨#[110,111,116]⟩:ByteArray)=false:=Bool.eq_false_iff.2 fun e=>h19 (eqS_iff.1 e)
  by_cases h20:op=(⟨#[115,101,108,101,99,116]⟩:ByteArray)
  ·subst h20
   refine pcO E0_ok (fun _=>[0,2,3,4,5,6,15,20,26,30,35,38,41]) Tryz.func105 (h:=fun KF=>?_)
   unfold E0
   repeat' (first
    |(with_reducible first|refine nx ?_|refine t_seq fun K=>?_|refine t_br (fun hc=>?_) fun hc=>?_|refine t_bx ?_|apply And.intro|intro vr)
    |((with_reducible first|refine ny ?_|refine t_dwh (h:=fun K KL=>?_));intros;simp only [go_sem,geff]))
   all_goals try exact om
   refine end_ret rfl ?_
   simp only [fin,go_sem]
   exact LeA.tup ⟨LeA.full true 1 _,LeA.refl _,LeA.refl _,trivial⟩
  have z20:eqS op (⟨#[115,101,108,101,99,116]⟩:ByteArray)=false:=Bool.eq_false_iff.2 fun e=>h20 (eqS_iff.1 e)
  by_cases h21:op=(⟨#[116,111,105,110,116]⟩:ByteArray)
  ·subst h21
   refine pcO E0_ok (fun _=>[0,2,3,4,5,6,15,20,26,30,35,38,41]) Tryz.func105 (h:=fun KF=>?_)
   unfold E0
   repeat' (first
    |(with_reducible first|refine nx ?_|refine t_seq fun K=>?_|refine t_br (fun hc=>?_) fun hc=>?_|refine t_bx ?_|apply And.intro|intro vr)
    |((with_reducible first|refine ny ?_|refine t_dwh (h:=fun K KL=>?_));intros;simp only [go_sem,geff]))
   all_goals try exact om
   refine end_ret rfl ?_
   simp only [fin,go_sem]
   exact LeA.tup ⟨LeA.full true 1 _,LeA.refl _,LeA.refl _,trivial⟩
  have z21:eqS op (⟨#[116,111,105,110,116]⟩:ByteArray)=false:=Bool.eq_false_iff.2 fun e=>h21 (eqS_iff.1 e)
  have hN:typesS op=none:=by
    unfold typesS
    rw [List.find?_eq_none]
    intro r hr
    rw [eqS_comm]
    have:r=rowsL.getD 0 default∨r=rowsL.getD 1 default∨r=rowsL.getD 2 default∨r=rowsL.getD 3 default∨r=rowsL.getD 4 default∨r=rowsL.getD 5 default∨r=rowsL.getD 6 default∨r=rowsL.getD 7 default∨r=rowsL.getD 8 default∨r=rowsL.getD 9 default∨r=rowsL.getD 10 default∨r=rowsL.getD 11 default∨r=rowsL.getD 12 default∨r=rowsL.getD 13 default∨r=rowsL.getD 14 default∨r=rowsL.getD 15 default∨r=rowsL.getD 16 default∨r=rowsL.getD 17 default∨r=rowsL.getD 18 default∨r=rowsL.getD 19 default∨r=rowsL.getD 20 default∨r=rowsL.getD 21 default:=by
      simp only [rowsL,List.mem_cons,List.mem_nil_iff,or_false] at hr
      exact hr
    rcases this with rfl|rfl|rfl|rfl|rfl|rfl|rfl|rfl|rfl|rfl|rfl|rfl|rfl|rfl|rfl|rfl|rfl|rfl|rfl|rfl|rfl|rfl<;>simp only [Bool.not_eq_true]
    all_goals first|exact z0|exact z1|exact z2|exact z3|exact z4|exact z5|exact z6|exact z7|exact z8|exact z9|exact z10|exact z11|exact z12|exact z13|exact z14|exact z15|exact z16|exact z17|exact z18|exact z19|exact z20|exact z21
  rw [hN]
  refine pcO E0_ok (fun _=>[0,2,3,4,5,6,15,20,26,30,35,38,41]) Tryz.func105 (h:=fun KF=>?_)
  unfold E0
  repeat' (first
   |(with_reducible first|refine nx ?_|refine t_seq fun K=>?_|refine t_br (fun hc=>?_) fun hc=>?_|refine t_bx ?_|apply And.intro|intro vr)
   |((with_reducible first|refine ny ?_|refine t_dwh (h:=fun K KL=>?_));intros;simp only [go_sem,geff,z0,z1,z2,z3,z4,z5,z6,z7,z8,z9,z10,z11,z12,z13,z14,z15,z16,z17,z18,z19,z20,z21]))
  refine end_ret rfl ?_
  simp only [fin,go_sem]
  exact LeA.refl _
end Go.Proofs.YtohiagaclfaolaaGreatDoor.El

namespace Go.Proofs.YtohiagaclfaolaaGreatDoor.El
open Go.Proofs.YtohiagaclfaolaaGreatDoor
open Go Go.Fw
set_option maxRecDepth 20000
end Go.Proofs.YtohiagaclfaolaaGreatDoor.El

namespace Go.Proofs.YtohiagaclfaolaaGreatDoor.El
open Go.Proofs.YtohiagaclfaolaaGreatDoor
open Go Go.Fw
set_option maxRecDepth 20000
end Go.Proofs.YtohiagaclfaolaaGreatDoor.El

namespace Go.Proofs.YtohiagaclfaolaaGreatDoor.El
open Go.Proofs.YtohiagaclfaolaaGreatDoor
open Go Go.Fw
set_option maxRecDepth 20000
end Go.Proofs.YtohiagaclfaolaaGreatDoor.El

namespace Go.Proofs.YtohiagaclfaolaaGreatDoor.El
open Go.Proofs.YtohiagaclfaolaaGreatDoor
open Go Go.Fw
set_option maxRecDepth 20000
noncomputable def con101:PCon Tryz.prog where
  f:=101
  c:=fun
   |[.lit (.string op)]=>some (True,typesV (typesS op))
   |_=>none
  ok:=by
   intro args p r hc hp
   split at hc
   ·cases hc;exact types_pc
   ·cases hc
  fk:=fk101
theorem con101_f:con101.f=101:=rfl
theorem con101_c {op:ByteArray}:con101.c [.lit (.string op)]=some (True,typesV (typesS op)):=rfl
noncomputable def con105:PCon Tryz.prog where
  f:=105
  c:=fun
   |[.lit (.string op)]=>some (True,typesV (typesS op))
   |_=>none
  ok:=by
   intro args p r hc hp
   split at hc
   ·cases hc;exact rtypes_pc
   ·cases hc
  fk:=fk105
theorem con105_f:con105.f=105:=rfl
theorem con105_c {op:ByteArray}:con105.c [.lit (.string op)]=some (True,typesV (typesS op)):=rfl
theorem typesV_none:typesV none= .tup [.lit (.slice none 0 0),.lit (.string ⟨#[]⟩),.lit (.bool false)]:=rfl
end Go.Proofs.YtohiagaclfaolaaGreatDoor.El

namespace Go.Proofs.YtohiagaclfaolaaGreatDoor.El
open Go.Proofs.YtohiagaclfaolaaGreatDoor
open Go Go.Fw
set_option maxRecDepth 20000
end Go.Proofs.YtohiagaclfaolaaGreatDoor.El

namespace Go.Proofs.YtohiagaclfaolaaGreatDoor.Bm
open Go.Proofs.YtohiagaclfaolaaGreatDoor
open Go Go.Fw
structure Ins where
  code:Int
  prim:ByteArray
  a:Int
  b:Int
  c:Int
  d:Int
def nilI:Ins:=⟨0,⟨#[]⟩,0,0,0,0⟩
structure Prg where
  regs:Int
  arena:Int
  ops:List Ins
  ins:List (Int×Int)
  outs:List (Int×Int)
  types:List Arr
def Prg.op (B:Prg) (i:Int):Ins:=B.ops.getD i.toNat nilI
def formS (x:Ins):Option (List Bool):=
  if x.code=1 then some [true,false]
  else if x.code=2∨x.code=10 then some [true,true,true,false]
  else if x.code=3∨x.code=4 then some [true,true,true]
  else if x.code=5 then (El.typesS x.prim).map fun r=>List.replicate (1+r.ps.length) true
  else if x.code=6∨x.code=7∨x.code=14 then some [true,true]
  else if x.code=8∨x.code=11 then some [true]
  else if x.code=9 then some [false,true]
  else if x.code=12∨x.code=13∨x.code=15 then some []
  else none
def maxC:Int:=1099511627776
def maxA:Int:=1048576
def oprOk (f:List Bool) (regs:Int) (i:Nat) (n:Int):Bool:=
  if i≥f.length then decide (n=0) else if f.getD i false=true then decide (0≤n∧n<regs) else true
def restOk (x:Ins):Bool:=
  if x.code=1 then decide (-maxC≤x.b∧x.b≤maxC)
  else if x.code=2 then decide (-maxA≤x.d∧x.d≤maxA)
  else if x.code=9 then decide (1≤x.a∧x.a≤1000000)
  else if x.code=10 then decide (1≤x.d∧x.d≤maxA)
  else true
def rightS (x:Ins) (regs:Int):Bool:=match formS x with
  |none=>false
  |some f=>(decide (x.code=5)||decide (x.prim.data.toList=[]))&&(oprOk f regs 0 x.a&&oprOk f regs 1 x.b&&oprOk f regs 2 x.c&&oprOk f regs 3 x.d)&&restOk x
def wrtB (c:Int):Bool:=decide (c=1)||decide (c=2)||decide (c=3)||decide (c=4)||decide (c=5)||decide (c=6)||decide (c=8)||decide (c=10)||decide (c=14)
def matchG (ops:List Ins):List Ins→Nat→List Int→List Nat→Option (List Int)
  |[],_,out,[]=>some out
  |[],_,_,_::_=>none
  |x::l,i,out,st=>
   if x.code=10∨x.code=11 then (if st.length≥40 then none else matchG ops l (i+1) (out++[(i:Int)]) (i::st))
   else if x.code=12 then (match st with
     |[]=>none
     |j::st'=>if (ops.getD j nilI).code=11 then matchG ops l (i+1) ((out++[(i:Int)]).set j i) (i::st') else none)
   else if x.code=13 then (match st with
     |[]=>none
     |j::st'=>matchG ops l (i+1) ((out++[(i:Int)]).set j i) st')
   else matchG ops l (i+1) (out++[(i:Int)]) st
def matchS (ops:List Ins):Option (List Int):=if ops.length>5000 then none else matchG ops ops 0 [] []
def typeOk (arena:Int) (t:Arr) (p:Int×Int):Bool:=
  (eqS t.e sInt||eqS t.e sBool)&&decide ((sizeS t.d).2=0)&&decide (t.x=[])&&decide (p.2=(sizeS t.d).1)&&decide (0≤p.1)&&decide (p.1≤arena - (sizeS t.d).1)
def typesOk (arena:Int):List Arr→List (Int×Int)→Bool
  |t::ts,p::ps=>typeOk arena t p&&typesOk arena ts ps
  |_,_=>true
def validS (B:Prg):Bool:=decide (0≤B.regs∧B.regs≤200)&&decide (0≤B.arena∧B.arena≤maxA)&&decide (B.types.length=B.ins.length+B.outs.length)&&B.ops.all (fun x=>rightS x B.regs)&&(matchS B.ops).isSome&&
  typesOk B.arena B.types (B.ins++B.outs)
structure Rng where
  lo:Int
  hi:Int
def gt (l:List Int) (i:Int):Int:=l.getD i.toNat 0
section
end
end Go.Proofs.YtohiagaclfaolaaGreatDoor.Bm

namespace Go.Proofs.YtohiagaclfaolaaGreatDoor.Bm
open Go.Proofs.YtohiagaclfaolaaGreatDoor
open Go Go.Fw
section
variable {B:Prg} {mt:List Int} {seen:List (List Rng)}
end
end Go.Proofs.YtohiagaclfaolaaGreatDoor.Bm

namespace Go.Proofs.YtohiagaclfaolaaGreatDoor.Bm
open Go.Proofs.YtohiagaclfaolaaGreatDoor
open Go Go.Fw
def opnr (c:Int):Bool:=decide (c=10)||decide (c=11)||decide (c=12)
def cd (ops:List Ins) (i:Nat):Int:=(ops.getD i nilI).code
structure Nest (ops:List Ins) (mt:List Int):Prop where
  len:mt.length=ops.length
  self:∀ j,j<ops.length→opnr (cd ops j)=false→mt.getD j 0=j
  clo:∀ j,j<ops.length→opnr (cd ops j)=true→∃ e:Nat,mt.getD j 0=e∧j<e∧e<ops.length∧(cd ops e=12→cd ops j=11)∧(cd ops e=12∨cd ops e=13)∧
    ∀ k,j<k→k<e→opnr (cd ops k)=true→∃ f:Nat,mt.getD k 0=f∧k<f∧f<e
end Go.Proofs.YtohiagaclfaolaaGreatDoor.Bm

namespace Go.Proofs.YtohiagaclfaolaaGreatDoor.Bm
open Go.Proofs.YtohiagaclfaolaaGreatDoor
open Go Go.Fw
section
variable {B:Prg} {mt:List Int} {seen:List (List Rng)}
theorem op_cd {i:Nat}:(B.op i).code=cd B.ops i:=rfl
theorem Nest.at (h:Nest B.ops mt) {i:Int} (h0:0≤i) (h1:i<B.ops.length) (ho:(B.op i).code=10∨(B.op i).code=11∨(B.op i).code=12):
    i<gt mt i∧gt mt i<B.ops.length∧((B.op (gt mt i)).code=12∨(B.op (gt mt i)).code=13)∧((B.op (gt mt i)).code=12→(B.op i).code=11):=by
  obtain ⟨n,rfl⟩:∃ n:Nat,i=n:=⟨i.toNat,by omega⟩
  obtain ⟨e,q1,q2,q3,q4,q5,_⟩:=h.clo n (by omega) (by rw [←op_cd];simp [opnr];omega)
  have:gt mt (n:Int)=e:=by simp [gt];simpa [List.getD] using q1
  rw [this]
  exact ⟨by omega,by omega,q5,q4⟩
end
end Go.Proofs.YtohiagaclfaolaaGreatDoor.Bm

namespace Go.Proofs.YtohiagaclfaolaaGreatDoor.Bm
open Go.Proofs.YtohiagaclfaolaaGreatDoor
open Go Go.Fw
instance:DecidableEq Rng:=fun a b=>if h:a.lo=b.lo∧a.hi=b.hi then isTrue (by obtain ⟨a,a'⟩:=a;obtain ⟨b,b'⟩:=b;obtain ⟨h1,h2⟩:=h;simp only at h1 h2;subst h1;subst h2;rfl) else isFalse (fun e=>h (by subst e;exact ⟨rfl,rfl⟩))
def intsR:Rng:=⟨-2147483648,2147483647⟩
def machR:Rng:=⟨-maxC,maxC⟩
def boolR:Rng:=⟨0,1⟩
def Rng.within (a b:Rng):Prop:=b.lo≤a.lo∧a.hi≤b.hi
instance (a b:Rng):Decidable (a.within b):=inferInstanceAs (Decidable (_∧_))
def Rng.has (a:Rng) (n:Int):Prop:=a.lo≤n∧n≤a.hi
def hullR (a b:Rng):Rng:=⟨minI a.lo b.lo,maxI a.hi b.hi⟩
inductive Has:List Rng→List Int→Prop
  |nil:Has [] []
  |cons {a:Rng} {n:Int} {l:List Rng} {m:List Int} (h:a.has n) (t:Has l m):Has (a::l) (n::m)
theorem Has.length {l:List Rng} {m:List Int} (h:Has l m):m.length=l.length:=by
  induction h with
  |nil=>rfl
  |cons _ _ ih=>simp [ih]
end Go.Proofs.YtohiagaclfaolaaGreatDoor.Bm

namespace Go.Proofs.YtohiagaclfaolaaGreatDoor.Bm
open Go.Proofs.YtohiagaclfaolaaGreatDoor
open Go Go.Fw
inductive Wins:List Rng→List Rng→Prop
  |nil:Wins [] []
  |cons {a b:Rng} {l m:List Rng} (h:a.within b) (t:Wins l m):Wins (a::l) (b::m)
end Go.Proofs.YtohiagaclfaolaaGreatDoor.Bm

namespace Go.Proofs.YtohiagaclfaolaaGreatDoor.Bm
open Go.Proofs.YtohiagaclfaolaaGreatDoor
open Go Go.Fw
def nilR:Rng:=⟨0,0⟩
def gR (s:List Rng) (i:Int):Rng:=s.getD i.toNat nilR
def withR (s:List Rng) (i:Int) (x:Rng):List Rng:=s.set i.toNat x
def widenR (r:Rng):Rng:=if r.within boolR then boolR else if r.within ⟨-1,1⟩ then ⟨-1,1⟩ else if r.within intsR then intsR else machR
def growR (a b:Rng):Rng:=if hullR a b=a then a else widenR (hullR a b)
def grownR (head t:List Rng):List Rng:=List.zipWith growR head t
structure W where
  before:List (List Rng)
  heads:List (Int×List Rng)
inductive VTk where
  |blk (i to:Int)
  |lop (i:Int) (v:Rng)
def InP (s:List Rng) (l:List Int):Prop:=l.length=s.length∧∀ i,i<s.length→(s.getD i nilR).has (l.getD i 0)
theorem InP.at {s:List Rng} {l:List Int} (h:InP s l) {i:Int} (h0:0≤i) (h1:i<s.length):(gR s i).has (gt l i):=h.2 i.toNat (by omega)
def OkR (r:Rng):Prop:=r.lo≤r.hi∧r.within machR
def OkS (n:Nat) (s:List Rng):Prop:=s.length=n∧∀ i,i<n→OkR (s.getD i nilR)
theorem okR_bool:OkR boolR:=⟨by decide,by decide,by decide⟩
theorem okR_ints:OkR intsR:=⟨by decide,by decide,by decide⟩
theorem okR_mach:OkR machR:=⟨by decide,by decide,by decide⟩
theorem okR_nil:OkR nilR:=⟨by decide,by decide,by decide⟩
theorem okR_widen (r:Rng):OkR (widenR r):=by
  unfold widenR
  split
  ·exact okR_bool
  ·split
   ·exact ⟨by decide,by decide,by decide⟩
   ·split
    ·exact okR_ints
    ·exact okR_mach
theorem okR_grow {a b:Rng} (h:OkR a):OkR (growR a b):=by
  unfold growR
  split
  ·exact h
  ·exact okR_widen _
theorem getD_zip {f:Rng→Rng→Rng}:∀ {s t:List Rng} {i:Nat},i<s.length→i<t.length→(List.zipWith f s t).getD i nilR=f (s.getD i nilR) (t.getD i nilR)
  |[],_,_,h,_=>by simp at h
  |_::_,[],_,_,h=>by simp at h
  |a::s,b::t,0,_,_=>by simp
  |a::s,b::t,i+1,h,k=>by simpa using getD_zip (f:=f) (s:=s) (t:=t) (i:=i) (by simpa using h) (by simpa using k)
theorem OkS.at {n:Nat} {s:List Rng} (h:OkS n s) (i:Int):OkR (gR s i):=by
  by_cases hi:i.toNat<n
  ·exact h.2 _ hi
  ·have:gR s i=nilR:=by simp [gR,List.getD,show s.length≤i.toNat by have:=h.1;omega]
   rw [this];exact okR_nil
theorem OkS.with {n:Nat} {s:List Rng} (h:OkS n s) {i:Int} {x:Rng} (hx:OkR x):OkS n (withR s i x):=by
  refine ⟨by simp [withR,h.1],fun j hj=>?_⟩
  by_cases e:i.toNat=j
  ·subst e;simpa [withR,List.getD,List.getElem?_set_self (show i.toNat<s.length by rw [h.1];exact hj)] using hx
  ·simpa [withR,List.getD,List.getElem?_set_ne e] using h.2 j hj
theorem OkS.grown {n:Nat} {s t:List Rng} (h:OkS n s) (k:OkS n t):OkS n (grownR s t):=by
  refine ⟨by simp [grownR,h.1,k.1],fun j hj=>?_⟩
  unfold grownR
  rw [getD_zip (by rw [h.1];exact hj) (by rw [k.1];exact hj)]
  exact okR_grow (h.2 j hj)
end Go.Proofs.YtohiagaclfaolaaGreatDoor.Bm

namespace Go.Proofs.YtohiagaclfaolaaGreatDoor.Bm
open Go.Proofs.YtohiagaclfaolaaGreatDoor
open Go Go.Fw
end Go.Proofs.YtohiagaclfaolaaGreatDoor.Bm

namespace Go.Proofs.YtohiagaclfaolaaGreatDoor.Bm
open Go.Proofs.YtohiagaclfaolaaGreatDoor
open Go Go.Fw
section
variable {B:Prg} {mt:List Int}
def VTk.hi (mt:List Int):VTk→Int
  |.blk _ to=>to
  |.lop i _=>gt mt i
end
end Go.Proofs.YtohiagaclfaolaaGreatDoor.Bm

namespace Go.Proofs.YtohiagaclfaolaaGreatDoor.Bm
open Go.Proofs.YtohiagaclfaolaaGreatDoor
open Go Go.Fw
section
variable {B:Prg} {mt:List Int}
theorem InP.refine {s:List Rng} {l:List Int} (h:InP s l) {i:Int} {x:Rng} (hx:x.has (gt l i)):InP (withR s i x) l:=by
  refine ⟨by simp [withR,h.1],fun j hj=>?_⟩
  have hj':j<s.length:=by simpa [withR] using hj
  by_cases e:i.toNat=j
  ·subst e
   simpa [withR,List.getD,List.getElem?_set_self hj',gt] using hx
  ·have:=h.2 j hj'
   simpa [withR,List.getD,List.getElem?_set_ne e] using this
end
end Go.Proofs.YtohiagaclfaolaaGreatDoor.Bm
