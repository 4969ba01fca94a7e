import Derived.Test.YtcpjahmajkhchaaGreatSC
import Derived.Test.YtcpjahmajkhchaaGreatSA
import Derived.Test.YtcpjahmajkhchaaGreatSB

set_option linter.all false

namespace Go.Proofs.YtcpjahmajkhchaaGreat
open Go Go.Fw
set_option maxRecDepth 20000
def a3of (p:Arr×Int):Arr×Bool×Int:=(p.1,false,p.2)
def runK (i:Ins) (sz:List Int) (L:List Arr):Kd→Arr×Bool×Int
  |.prim=>a3of (scalS i.op L)
  |.struc=>St.applyS i.op sz i.num L
  |.fold=>a3of (foldS i.fn (L.getD 0 nilA) (L.getD 1 nilA))
  |.scan=>a3of (scanP i.fn (L.getD 0 nilA))
  |.const=>a3of (ofS i.arr)
  |.size=>a3of (ofS ⟨sInt,[],sz⟩)
def runQ (i:Ins) (sz:List Int) (L:List Arr) (kd:Kd):Prop:=
  okC i.fn∧okA i.arr∧sz.length≤1000000∧L.length≤4096∧(∀ a∈L,okA a)∧(kd= .prim→∀ a∈L,1≤a.x.length)∧(kd= .fold→2≤L.length)∧(kd= .scan→1≤L.length)
def runF:Kd→FuncId
  |.prim=>98
  |.struc=>100
  |.fold=>103
  |.scan=>104
  |.const=>105
  |.size=>106
theorem con101V {op:ByteArray} {x y:AV} {num:Int}:St.con101.c [.lit (.string op),x,.lit (.int .i64 num),y]=match slK .i64 x,arrsOf y with
    |some ns,some cs=>some (cs.length≤4096∧(∀ a∈cs,okA a),a3V (St.applyS op ns num cs))
    |_,_=>none:=rfl
theorem con101g:St.con101.f=101:=rfl
attribute [go_sem] con101V con101g slA_sl ilsOf_sl stpsOf_sl arrsOf_sl a3V
noncomputable def P1:Env:=envJ (P:=Tryz.prog) jkK zer (fun _=>false) (fun _=>false) [St.con101,con16,con18,con47] []
theorem P1_ok:EnvOk Tryz.prog P1:=envJOk zer_ok
theorem struc_pc {i:Ins} {sz:List Int} {L:List Arr} (h4:L.length≤4096) (h5:∀ a∈L,okA a):PC Tryz.prog 100 [insV i,.sl false 1 (ints .i64 sz),.sl false 3 (arrs L)] (a3V (St.applyS i.op sz i.num L)):=by
  obtain ⟨op,a1,a2,ax,a4,num,⟨ae,ad,aX⟩,fn,ck,t1,t2,t3⟩:=i
  generalize hR:St.applyS op sz num L=R
  obtain ⟨⟨r1,r2,r3⟩,rb,re⟩:=R
  simp only [insV,hR]
  refine pcR P1_ok (kp100) Tryz.func100 [.cell 6 31,.tmp 7,.tmp 8] (h:=fun KF=>?_)
  unfold P1
  repeat' (first
   |(with_reducible first|refine nx ?_|refine t_seq fun K=>?_|refine t_br (fun hc=>?_) fun hc=>?_|refine t_bx ?_|apply And.intro|intro vr)
   |((with_reducible first|refine ny ?_|refine t_dwh (h:=fun K KL=>?_));intros;simp only [go_sem,kp100,geff,hR,arrV]))
  all_goals try exact h5 _ (by assumption)
  all_goals try exact nd
  all_goals (refine nl ?_;simp only [go_sem])
  exact a3_of slK_sl slK_sl rfl
theorem kfold_pc {i:Ins} {l:List Int} {L:List Arr} (h1:okC i.fn) (h5:∀ a∈L,okA a) (h:2≤L.length):PC Tryz.prog 103 [insV i,.sl false 1 (ints .i64 l),.sl false 3 (arrs L)] (a3V (a3of (foldS i.fn (L.getD 0 nilA) (L.getD 1 nilA)))):=by
  obtain ⟨op,a1,a2,ax,a4,num,⟨ae,ad,aX⟩,fn,ck,t1,t2,t3⟩:=i
  have k0:okA ⟨(L.getD 0 nilA).e,(L.getD 0 nilA).d,(L.getD 0 nilA).x⟩:=h5 _ (getD_mem nilA (by omega))
  have k1:okA ⟨(L.getD 1 nilA).e,(L.getD 1 nilA).d,(L.getD 1 nilA).x⟩:=h5 _ (getD_mem nilA (by omega))
  generalize hR:foldS fn (L.getD 0 nilA) (L.getD 1 nilA)=R
  have hR':foldS fn ⟨(L.getD 0 nilA).e,(L.getD 0 nilA).d,(L.getD 0 nilA).x⟩ ⟨(L.getD 1 nilA).e,(L.getD 1 nilA).d,(L.getD 1 nilA).x⟩=R:=hR
  obtain ⟨⟨r1,r2,r3⟩,re⟩:=R
  simp only [insV,hR]
  refine pcR P1_ok (kp103) Tryz.func103 [.cell 6 31,.tmp 7,.tmp 8] (h:=fun KF=>?_)
  unfold P1
  repeat' (first
   |(with_reducible first|refine nx ?_|refine t_seq fun K=>?_|refine t_br (fun hc=>?_) fun hc=>?_|refine t_bx ?_|apply And.intro|intro vr)|exact kpd
   |((with_reducible first|refine ny ?_|refine t_kLF ?_ ?_|refine t_drawE (id:=1) (fun i=>i==0) [(0,1),(1,1),(2,1),(3,1),(4,1),(5,1),(6,1),(7,1),(8,1),(9,1),(10,1),(11,1),(12,0),(13,0),(14,1)] (by kernel_rfl) fun K=>?_|refine t_dwh (h:=fun K KL=>?_));intros;simp only [go_sem,kp103,geff,hR',arrV]))
  all_goals try (first|exact h1.1|exact h1.2|exact k0.1|exact k0.2|exact k1.1|exact k1.2)
  all_goals try exact nd
  all_goals (refine nl ?_;simp only [go_sem])
  exact a3_of slK_sl slK_sl rfl
theorem kscan_pc {i:Ins} {l:List Int} {L:List Arr} (h1:okC i.fn) (h5:∀ a∈L,okA a) (h:1≤L.length):PC Tryz.prog 104 [insV i,.sl false 1 (ints .i64 l),.sl false 3 (arrs L)] (a3V (a3of (scanP i.fn (L.getD 0 nilA)))):=by
  obtain ⟨op,a1,a2,ax,a4,num,⟨ae,ad,aX⟩,fn,ck,t1,t2,t3⟩:=i
  have k0:okA ⟨(L.getD 0 nilA).e,(L.getD 0 nilA).d,(L.getD 0 nilA).x⟩:=h5 _ (getD_mem nilA (by omega))
  generalize hR:scanP fn (L.getD 0 nilA)=R
  have hR':scanP fn ⟨(L.getD 0 nilA).e,(L.getD 0 nilA).d,(L.getD 0 nilA).x⟩=R:=hR
  obtain ⟨⟨r1,r2,r3⟩,re⟩:=R
  simp only [insV,hR]
  refine pcR P1_ok (kp104) Tryz.func104 [.cell 6 31,.tmp 7,.tmp 8] (h:=fun KF=>?_)
  unfold P1
  repeat' (first
   |(with_reducible first|refine nx ?_|refine t_seq fun K=>?_|refine t_br (fun hc=>?_) fun hc=>?_|refine t_bx ?_|apply And.intro|intro vr)|exact kpd
   |((with_reducible first|refine ny ?_|refine t_kLF ?_ ?_|refine t_drawE (id:=1) (fun i=>i==0) [(0,1),(1,1),(2,1),(3,1),(4,1),(5,1),(6,1),(7,1),(8,1),(9,0),(10,0),(11,1)] (by kernel_rfl) fun K=>?_|refine t_dwh (h:=fun K KL=>?_));intros;simp only [go_sem,kp104,geff,hR',arrV]))
  all_goals try (first|exact h1.1|exact h1.2|exact k0.1|exact k0.2)
  all_goals try exact nd
  all_goals (refine nl ?_;simp only [go_sem])
  exact a3_of slK_sl slK_sl rfl
theorem kconst_pc {i:Ins} {l:List Int} {x:List AV} (h:okA i.arr):PC Tryz.prog 105 [insV i,.sl false 1 (ints .i64 l),.sl false 3 x] (a3V (a3of (ofS i.arr))):=by
  obtain ⟨op,a1,a2,ax,a4,num,⟨ae,ad,aX⟩,fn,ck,t1,t2,t3⟩:=i
  generalize hR:ofS ⟨ae,ad,aX⟩=R
  obtain ⟨⟨r1,r2,r3⟩,re⟩:=R
  simp only [insV,hR]
  refine pcR P1_ok (kp105) Tryz.func105 [.cell 6 31,.tmp 7,.tmp 8] (h:=fun KF=>?_)
  unfold P1
  repeat' (first
   |(with_reducible first|refine nx ?_|refine t_seq fun K=>?_|refine t_br (fun hc=>?_) fun hc=>?_|refine t_bx ?_|apply And.intro|intro vr)
   |((with_reducible first|refine ny ?_|refine t_dwh (h:=fun K KL=>?_));intros;simp only [go_sem,kp105,geff,hR,arrV]))
  all_goals try (first|exact h.1|exact h.2)
  all_goals try exact nd
  all_goals (refine nl ?_;simp only [go_sem])
  exact a3_of slK_sl slK_sl rfl
theorem ksize_pc {i:Ins} {l:List Int} {x:List AV} (h:l.length≤1000000):PC Tryz.prog 106 [insV i,.sl false 1 (ints .i64 l),.sl false 3 x] (a3V (a3of (ofS ⟨sInt,[],l⟩))):=by
  obtain ⟨op,a1,a2,ax,a4,num,⟨ae,ad,aX⟩,fn,ck,t1,t2,t3⟩:=i
  simp only [insV]
  generalize hR:ofS ⟨sInt,[],l⟩=R
  have hR':ofS ⟨⟨#[105,110,116]⟩,[],l⟩=R:=hR
  obtain ⟨⟨r1,r2,r3⟩,re⟩:=R
  refine pcR P1_ok (kp106) Tryz.func106 [.cell 6 31,.tmp 7,.tmp 8] (h:=fun KF=>?_)
  unfold P1
  repeat' (first
   |(with_reducible first|refine nx ?_|refine t_seq fun K=>?_|refine t_br (fun hc=>?_) fun hc=>?_|refine t_bx ?_|apply And.intro|intro vr)
   |((with_reducible first|refine ny ?_|refine t_dwh (h:=fun K KL=>?_));intros;simp only [go_sem,kp106,geff,hR',arrV]))
  all_goals try exact nd
  all_goals (refine nl ?_;simp only [go_sem])
  exact a3_of slK_sl slK_sl rfl
theorem krun_pc {i:Ins} {sz:List Int} {L:List Arr} {kd:Kd} (h:runQ i sz L kd):PC Tryz.prog (runF kd) [insV i,.sl false 1 (ints .i64 sz),.sl false 3 (arrs L)] (a3V (runK i sz L kd)):=by
  obtain ⟨h1,h2,h3,h4,h5,h6,h7,h8⟩:=h
  cases kd
  ·exact scalar_pc (by omega) (h6 rfl)
  ·exact struc_pc h4 h5
  ·exact kfold_pc h1 h5 (h7 rfl)
  ·exact kscan_pc h1 h5 (h8 rfl)
  ·exact kconst_pc h2
  ·exact ksize_pc h3
noncomputable def runCon (kd:Kd):PCon Tryz.prog where
  f:=runF kd
  c:=fun
   |[x,y,z]=>match insOf x,slK .i64 y,arrsOf z with
    |some i,some sz,some L=>some (runQ i sz L kd,a3V (runK i sz L kd))
    |_,_,_=>none
   |_=>none
  ok:=by
   intro args p r hc hp
   split at hc
   ·split at hc
    ·rename_i h1 h2 h3
     cases hc
     exact PC.weak (krun_pc hp) ⟨insOf_le h1,slK_le h2,arrsOf_le h3,trivial⟩
    ·cases hc
   ·cases hc
  fk:=by
   cases kd
   ·exact fk98
   ·exact fk100
   ·exact fk103
   ·exact fk104
   ·exact fk105
   ·exact fk106
theorem runCon_f {kd:Kd}:(runCon kd).f=runF kd:=rfl
theorem runCon_c {kd:Kd} {x y z:AV}:(runCon kd).c [x,y,z]=match insOf x,slK .i64 y,arrsOf z with
      |some i,some sz,some L=>some (runQ i sz L kd,a3V (runK i sz L kd))
      |_,_,_=>none:=rfl
end Go.Proofs.YtcpjahmajkhchaaGreat

namespace Go.Proofs.YtcpjahmajkhchaaGreat
open Go Go.Fw
set_option maxRecDepth 20000
theorem all_succ {n:Int} {axes:List Int} {i:Nat} (h:∀ j,j<i→axOk n axes j=true) (hi:axOk n axes i=true):∀ j,j<i+1→axOk n axes j=true:=fun j hj=>by
  rcases Nat.lt_or_ge j i with h'|h'
  ·exact h j h'
  ·rw [show j=i by omega];exact hi
set_option maxRecDepth 20000 in
set_option maxHeartbeats 4000000 in
theorem axes_pc {axes:List Int} {n:Int} (ha:axes.length≤1000000):PC Tryz.prog 61 [.sl false 1 (ints .i64 axes),.lit (.int .i64 n)] (.lit (.bool (decide (axP n axes)))):=by
  refine pcO E0_ok (fun _=>[0,1,4,5,9,40]) Tryz.func61 (h:=fun KF=>?_)
  unfold E0
  repeat' (first
   |(with_reducible first|refine nx ?_|refine t_seq fun K=>?_|refine t_br (fun hc=>?_) fun hc=>?_|refine t_bx ?_|apply And.intro|intro vr)|exact kpd
   |((with_reducible first|refine ny ?_|refine t_kLF ?_ ?_|refine t_drawE (id:=4) (fun _=>true) [(0,1),(1,1),(2,1),(3,1),(4,1),(5,1),(6,1),(7,1),(8,1),(9,1),(10,1),(11,1),(12,1),(13,1),(14,1),(15,1),(16,1),(17,1),(18,1),(19,1),(20,1),(21,1),(22,1),(23,1),(24,1),(25,1),(26,1),(27,1),(28,1)] (by kernel_rfl) fun K=>?_|refine t_dwh (h:=fun K KL=>?_));intros;simp only [go_sem,geff]))
  refine t_loop (ι:={i:Nat // i≤axes.length∧∀ j,j<i→axOk n axes j=true}) (fun i=>⟨upd (upd (upd topF 5 (.lit (.int .i64 i.1))) 1 (.lit (.int .i64 n))) 0 (.sl false 1 (ints .i64 axes)),[]⟩) (fun i=>axes.length - i.1) ⟨0,by omega,by intro j hj;omega⟩ ?_ ?_
  ·skip
   (refine Le.frame ?_;repeat' (first|exact leF_top _|(with_reducible refine leF_sl ?_ ?_)|(refine leF_upd (LeR.of_eq ?_) ?_)))<;>(try (simp only [go_sem];try rfl))
  ·rintro ⟨i,hi,hF⟩ K0
   rcases Nat.lt_or_ge i axes.length with hc|hc
   ·have g1:decide ((i:Int)<(axes.length:Int))=true:=decide_eq_true (by omega)
    have g2:=ints_getD .i64 axes i hc
    have hok:axOk n axes i=(!decide (axes.getD i 0<0)&&(!decide (axes.getD i 0≥n)&& !(decide ((i:Int)>0)&&decide (axes.getD (i - 1) 0≥axes.getD i 0)))):=rfl
    have g4:(ints .i64 axes).getD (i - 1) .top= .lit (.int .i64 (axes.getD (i - 1) 0)):=ints_getD .i64 axes (i - 1) (by omega)
    have hi1:((i:Int) - 1).toNat=i - 1:=by omega
    have hinw:∀ (m:Nat),m≤1000000→inI64 ((m:Int) - 1):=fun m hm=>by unfold inI64;omega
    by_cases c1:axes.getD i 0<0
    ·have c1':decide (axes.getD i 0<0)=true:=decide_eq_true c1
     have hno:=axP_no hc (by rw [hok,c1'];rfl)
     repeat' (first
      |(with_reducible first|refine nx ?_|refine t_seq fun K=>?_|refine t_br (fun hc=>?_) fun hc=>?_|refine t_bx ?_|apply And.intro|intro vr)|exact kpd
      |((with_reducible first|refine ny ?_|refine t_kLF ?_ ?_|refine t_drawE (id:=4) (fun _=>true) [(0,1),(1,1),(2,1),(3,1),(4,1),(5,1),(6,1),(7,1),(8,1),(9,1),(10,1),(11,1),(12,1),(13,1),(14,1),(15,1),(16,1),(17,1),(18,1),(19,1),(20,1),(21,1),(22,1),(23,1),(24,1),(25,1),(26,1),(27,1),(28,1)] (by kernel_rfl) fun K=>?_|refine t_dwh (h:=fun K KL=>?_));intros;simp only [go_sem,geff,g1,g2,c1',g4,hi1,Int.toNat_natCast]))
     all_goals try exact om
     refine end_ret rfl ?_
     simp only [fin,go_sem,decide_eq_false hno]
     exact LeA.refl _
    ·have c1':decide (axes.getD i 0<0)=false:=decide_eq_false c1
     by_cases c2:axes.getD i 0≥n
     ·have c2':decide (axes.getD i 0≥n)=true:=decide_eq_true c2
      have hno:=axP_no hc (by rw [hok,c2',Bool.not_true,Bool.false_and,Bool.and_false])
      repeat' (first
       |(with_reducible first|refine nx ?_|refine t_seq fun K=>?_|refine t_br (fun hc=>?_) fun hc=>?_|refine t_bx ?_|apply And.intro|intro vr)|exact kpd
       |((with_reducible first|refine ny ?_|refine t_kLF ?_ ?_|refine t_drawE (id:=4) (fun _=>true) [(0,1),(1,1),(2,1),(3,1),(4,1),(5,1),(6,1),(7,1),(8,1),(9,1),(10,1),(11,1),(12,1),(13,1),(14,1),(15,1),(16,1),(17,1),(18,1),(19,1),(20,1),(21,1),(22,1),(23,1),(24,1),(25,1),(26,1),(27,1),(28,1)] (by kernel_rfl) fun K=>?_|refine t_dwh (h:=fun K KL=>?_));intros;simp only [go_sem,geff,g1,g2,c1',c2',g4,hi1,Int.toNat_natCast]))
      all_goals try exact om
      refine end_ret rfl ?_
      simp only [fin,go_sem,decide_eq_false hno]
      exact LeA.refl _
     ·have c2':decide (axes.getD i 0≥n)=false:=decide_eq_false c2
      by_cases c3:i>0
      ·have c3':decide ((i:Int)>0)=true:=decide_eq_true (by omega)
       by_cases c4:axes.getD (i - 1) 0≥axes.getD i 0
       ·have c4':decide (axes.getD (i - 1) 0≥axes.getD i 0)=true:=decide_eq_true c4
        have hno:=axP_no hc (by rw [hok,c1',c2',c3',c4'];rfl)
        repeat' (first
         |(with_reducible first|refine nx ?_|refine t_seq fun K=>?_|refine t_br (fun hc=>?_) fun hc=>?_|refine t_bx ?_|apply And.intro|intro vr)|exact kpd
         |((with_reducible first|refine ny ?_|refine t_kLF ?_ ?_|refine t_drawE (id:=4) (fun _=>true) [(0,1),(1,1),(2,1),(3,1),(4,1),(5,1),(6,1),(7,1),(8,1),(9,1),(10,1),(11,1),(12,1),(13,1),(14,1),(15,1),(16,1),(17,1),(18,1),(19,1),(20,1),(21,1),(22,1),(23,1),(24,1),(25,1),(26,1),(27,1),(28,1)] (by kernel_rfl) fun K=>?_|refine t_dwh (h:=fun K KL=>?_));intros;simp only [go_sem,geff,g1,g2,c1',c2',c3',c4',g4,hi1,Int.toNat_natCast]))
        all_goals try exact om
        refine end_ret rfl ?_
        simp only [fin,go_sem,decide_eq_false hno]
        exact LeA.refl _
       ·have c4':decide (axes.getD (i - 1) 0≥axes.getD i 0)=false:=decide_eq_false c4
        have hyes:axOk n axes i=true:=by rw [hok,c1',c2',c3',c4'];rfl
        repeat' (first
         |(with_reducible first|refine nx ?_|refine t_seq fun K=>?_|refine t_br (fun hc=>?_) fun hc=>?_|refine t_bx ?_|apply And.intro|intro vr)|exact kpd
         |((with_reducible first|refine ny ?_|refine t_kLF ?_ ?_|refine t_drawE (id:=4) (fun _=>true) [(0,1),(1,1),(2,1),(3,1),(4,1),(5,1),(6,1),(7,1),(8,1),(9,1),(10,1),(11,1),(12,1),(13,1),(14,1),(15,1),(16,1),(17,1),(18,1),(19,1),(20,1),(21,1),(22,1),(23,1),(24,1),(25,1),(26,1),(27,1),(28,1)] (by kernel_rfl) fun K=>?_|refine t_dwh (h:=fun K KL=>?_));intros;simp only [go_sem,geff,g1,g2,c1',c2',c3',c4',g4,hi1,Int.toNat_natCast]))
        all_goals try exact om
        refine ⟨⟨i+1,by omega,all_succ hF hyes⟩,by simp only;omega,?_⟩
        (refine Le.frame ?_;repeat' (first|exact leF_top _|(with_reducible refine leF_sl ?_ ?_)|(refine leF_upd (LeR.of_eq ?_) ?_)))<;>(try (simp only [go_sem];try rfl))
      ·have c3':decide ((i:Int)>0)=false:=decide_eq_false (by omega)
       have hyes:axOk n axes i=true:=by rw [hok,c1',c2',c3'];rfl
       repeat' (first
        |(with_reducible first|refine nx ?_|refine t_seq fun K=>?_|refine t_br (fun hc=>?_) fun hc=>?_|refine t_bx ?_|apply And.intro|intro vr)|exact kpd
        |((with_reducible first|refine ny ?_|refine t_kLF ?_ ?_|refine t_drawE (id:=4) (fun _=>true) [(0,1),(1,1),(2,1),(3,1),(4,1),(5,1),(6,1),(7,1),(8,1),(9,1),(10,1),(11,1),(12,1),(13,1),(14,1),(15,1),(16,1),(17,1),(18,1),(19,1),(20,1),(21,1),(22,1),(23,1),(24,1),(25,1),(26,1),(27,1),(28,1)] (by kernel_rfl) fun K=>?_|refine t_dwh (h:=fun K KL=>?_));intros;simp only [go_sem,geff,g1,g2,c1',c2',c3',g4,hi1,Int.toNat_natCast]))
       all_goals try exact om
       refine ⟨⟨i+1,by omega,all_succ hF hyes⟩,by simp only;omega,?_⟩
       (refine Le.frame ?_;repeat' (first|exact leF_top _|(with_reducible refine leF_sl ?_ ?_)|(refine leF_upd (LeR.of_eq ?_) ?_)))<;>(try (simp only [go_sem];try rfl))
   ·have g1:decide ((i:Int)<(axes.length:Int))=false:=decide_eq_false (by omega)
    have hp:axP n axes:=fun j hj=>hF j (by omega)
    repeat' (first
     |(with_reducible first|refine nx ?_|refine t_seq fun K=>?_|refine t_br (fun hc=>?_) fun hc=>?_|refine t_bx ?_|apply And.intro|intro vr)|exact kpd
     |((with_reducible first|refine ny ?_|refine t_kLF ?_ ?_|refine t_drawE (id:=4) (fun _=>true) [(0,1),(1,1),(2,1),(3,1),(4,1),(5,1),(6,1),(7,1),(8,1),(9,1),(10,1),(11,1),(12,1),(13,1),(14,1),(15,1),(16,1),(17,1),(18,1),(19,1),(20,1),(21,1),(22,1),(23,1),(24,1),(25,1),(26,1),(27,1),(28,1)] (by kernel_rfl) fun K=>?_|refine t_dwh (h:=fun K KL=>?_));intros;simp only [go_sem,geff,g1]))
    refine end_ret rfl ?_
    simp only [fin,go_sem,decide_eq_true hp]
    exact LeA.refl _
noncomputable def con61:PCon Tryz.prog where
  f:=61
  c:=fun
   |[xaxes,.lit (.int .i64 n)]=>match slK .i64 xaxes with|some axes=>some (axes.length≤1000000,.lit (.bool (decide (axP n axes))))|_=>none
   |_=>none
  ok:=by
   intro args p r hc hp
   split at hc
   ·split at hc
    ·rename_i haxes
     cases hc
     exact PC.weak (axes_pc hp) ⟨slK_le haxes,LeA.refl _,trivial⟩
    ·cases hc
   ·cases hc
  fk:=fk61
theorem con61_f:con61.f=61:=rfl
theorem con61_c {xaxes:AV} {n:Int}:con61.c [xaxes,.lit (.int .i64 n)]=match slK .i64 xaxes with|some axes=>some (axes.length≤1000000,.lit (.bool (decide (axP n axes))))|_=>none:=rfl
set_option maxRecDepth 20000 in
set_option maxHeartbeats 4000000 in
theorem pick_pc {list axes:List Int} (hl:list.length≤1000000) (ha:axes.length≤1000000):PC Tryz.prog 55 [.sl false 1 (ints .i64 list),.sl false 1 (ints .i64 axes)] (optV (pickS list axes)):=by
  refine pcO E0_ok (fun _=>[0,1,4,5,6,7,8,9,10,11,12,36]) Tryz.func55 (h:=fun KF=>?_)
  unfold E0
  repeat' (first
   |(with_reducible first|refine nx ?_|refine t_seq fun K=>?_|refine t_br (fun hc=>?_) fun hc=>?_|refine t_bx ?_|apply And.intro|intro vr)
   |((with_reducible first|refine ny ?_|refine t_dwh (h:=fun K KL=>?_));intros;simp only [go_sem,geff]))
  refine t_loop (ι:={i:Nat // i≤axes.length∧∀ j,j<i→axOk list.length axes j=true}×Nat) (fun i=>⟨upd (upd (upd (upd (upd (upd topF 11 (.lit (.int .i64 i.1.1))) 10 (.lit (.int .i64 axes.length))) 9 (.sl false 1 (ints .i64 axes))) 6 (.arr 0 i.2)) 1 (.sl false 1 (ints .i64 axes))) 0 (.sl false 1 (ints .i64 list)),[.arr 3 1 (ints .i64 (pickM list (axes.take i.1.1))) i.2 false]⟩) (fun i=>axes.length - i.1.1) (⟨0,by omega,by intro j hj;omega⟩,0) ?_ ?_
  ·refine (le_nil 6 3 1 rfl).trans ?_
   (refine Le.frame ?_;repeat' (first|exact leF_top _|(with_reducible refine leF_sl ?_ ?_)|(refine leF_upd (LeR.of_eq ?_) ?_)))<;>(try (simp only [go_sem];try rfl))
  ·rintro ⟨⟨i,hi,hF⟩,ver⟩ K0
   rcases Nat.lt_or_ge i axes.length with hc|hc
   ·have g1:decide ((i:Int)<(axes.length:Int))=true:=decide_eq_true (by omega)
    have g2:=ints_getD .i64 axes i hc
    have hplen:=pickM_len list (axes.take i)
    rw [List.length_take] at hplen
    have hok:axOk list.length axes i=(!decide (axes.getD i 0<0)&&(!decide (axes.getD i 0≥list.length)&& !(decide ((i:Int)>0)&&decide (axes.getD (i - 1) 0≥axes.getD i 0)))):=rfl
    have g4:(ints .i64 axes).getD (i - 1) .top= .lit (.int .i64 (axes.getD (i - 1) 0)):=ints_getD .i64 axes (i - 1) (by omega)
    have hi1:((i:Int) - 1).toNat=i - 1:=by omega
    have hinw:∀ (m:Nat),m≤1000000→inI64 ((m:Int) - 1):=fun m hm=>by unfold inI64;omega
    by_cases c1:axes.getD i 0<0
    ·have c1':decide (axes.getD i 0<0)=true:=decide_eq_true c1
     have hno:=axP_no hc (by rw [hok,c1'];rfl)
     repeat' (first
      |(with_reducible first|refine nx ?_|refine t_seq fun K=>?_|refine t_br (fun hc=>?_) fun hc=>?_|refine t_bx ?_|apply And.intro|intro vr)
      |((with_reducible first|refine ny ?_|refine t_dwh (h:=fun K KL=>?_));intros;simp only [go_sem,geff,g1,g2,c1',g4,hi1,Int.toNat_natCast]))
     all_goals try exact om
     refine end_ret rfl ?_
     simp only [fin,go_sem,pickS,if_neg hno,optV]
     exact LeA.refl _
    ·have c1':decide (axes.getD i 0<0)=false:=decide_eq_false c1
     by_cases c2:axes.getD i 0≥list.length
     ·have c2':decide (axes.getD i 0≥list.length)=true:=decide_eq_true c2
      have hno:=axP_no hc (by rw [hok,c2',Bool.not_true,Bool.false_and,Bool.and_false])
      repeat' (first
       |(with_reducible first|refine nx ?_|refine t_seq fun K=>?_|refine t_br (fun hc=>?_) fun hc=>?_|refine t_bx ?_|apply And.intro|intro vr)
       |((with_reducible first|refine ny ?_|refine t_dwh (h:=fun K KL=>?_));intros;simp only [go_sem,geff,g1,g2,c1',c2',g4,hi1,Int.toNat_natCast]))
      all_goals try exact om
      refine end_ret rfl ?_
      simp only [fin,go_sem,pickS,if_neg hno,optV]
      exact LeA.refl _
     ·have c2':decide (axes.getD i 0≥list.length)=false:=decide_eq_false c2
      by_cases c3:i>0
      ·have c3':decide ((i:Int)>0)=true:=decide_eq_true (by omega)
       by_cases c4:axes.getD (i - 1) 0≥axes.getD i 0
       ·have c4':decide (axes.getD (i - 1) 0≥axes.getD i 0)=true:=decide_eq_true c4
        have hno:=axP_no hc (by rw [hok,c1',c2',c3',c4'];rfl)
        repeat' (first
         |(with_reducible first|refine nx ?_|refine t_seq fun K=>?_|refine t_br (fun hc=>?_) fun hc=>?_|refine t_bx ?_|apply And.intro|intro vr)
         |((with_reducible first|refine ny ?_|refine t_dwh (h:=fun K KL=>?_));intros;simp only [go_sem,geff,g1,g2,c1',c2',c3',c4',g4,hi1,Int.toNat_natCast]))
        all_goals try exact om
        refine end_ret rfl ?_
        simp only [fin,go_sem,pickS,if_neg hno,optV]
        exact LeA.refl _
       ·have c4':decide (axes.getD (i - 1) 0≥axes.getD i 0)=false:=decide_eq_false c4
        have hyes:axOk list.length axes i=true:=by rw [hok,c1',c2',c3',c4'];rfl
        have hin:=axOk_in hyes
        have g5:=ints_getD .i64 list (axes.getD i 0).toNat (by omega)
        have g6:=pickM_take (list:=list) hc
        repeat' (first
         |(with_reducible first|refine nx ?_|refine t_seq fun K=>?_|refine t_br (fun hc=>?_) fun hc=>?_|refine t_bx ?_|apply And.intro|intro vr)
         |((with_reducible first|refine ny ?_|refine t_dwh (h:=fun K KL=>?_));intros;simp only [go_sem,geff,g1,g2,g5,g6,c1',c2',c3',c4',g4,hi1,Int.toNat_natCast]))
        all_goals try exact om
        refine ⟨(⟨i+1,by omega,all_succ hF hyes⟩,ver+1),by simp only;omega,?_⟩
        (refine Le.frame ?_;repeat' (first|exact leF_top _|(with_reducible refine leF_sl ?_ ?_)|(refine leF_upd (LeR.of_eq ?_) ?_)))<;>(try (simp only [go_sem];try rfl))
      ·have c3':decide ((i:Int)>0)=false:=decide_eq_false (by omega)
       have hyes:axOk list.length axes i=true:=by rw [hok,c1',c2',c3'];rfl
       have hin:=axOk_in hyes
       have g5:=ints_getD .i64 list (axes.getD i 0).toNat (by omega)
       have g6:=pickM_take (list:=list) hc
       repeat' (first
        |(with_reducible first|refine nx ?_|refine t_seq fun K=>?_|refine t_br (fun hc=>?_) fun hc=>?_|refine t_bx ?_|apply And.intro|intro vr)
        |((with_reducible first|refine ny ?_|refine t_dwh (h:=fun K KL=>?_));intros;simp only [go_sem,geff,g1,g2,g5,g6,c1',c2',c3',g4,hi1,Int.toNat_natCast]))
       all_goals try exact om
       refine ⟨(⟨i+1,by omega,all_succ hF hyes⟩,ver+1),by simp only;omega,?_⟩
       (refine Le.frame ?_;repeat' (first|exact leF_top _|(with_reducible refine leF_sl ?_ ?_)|(refine leF_upd (LeR.of_eq ?_) ?_)))<;>(try (simp only [go_sem];try rfl))
   ·have g1:decide ((i:Int)<(axes.length:Int))=false:=decide_eq_false (by omega)
    have hp:axP list.length axes:=fun j hj=>hF j (by omega)
    have htk:axes.take i=axes:=List.take_of_length_le hc
    repeat' (first
     |(with_reducible first|refine nx ?_|refine t_seq fun K=>?_|refine t_br (fun hc=>?_) fun hc=>?_|refine t_bx ?_|apply And.intro|intro vr)
     |((with_reducible first|refine ny ?_|refine t_dwh (h:=fun K KL=>?_));intros;simp only [go_sem,geff,g1]))
    refine end_ret rfl ?_
    simp only [fin,go_sem,pickS,if_pos hp,optV,htk]
    exact LeA.refl _
noncomputable def con55:PCon Tryz.prog where
  f:=55
  c:=fun
   |[xlist,xaxes]=>match slK .i64 xlist,slK .i64 xaxes with|some list,some axes=>some (list.length≤1000000∧axes.length≤1000000,optV (pickS list axes))|_,_=>none
   |_=>none
  ok:=by
   intro args p r hc hp
   split at hc
   ·split at hc
    ·rename_i hlist haxes
     cases hc
     exact PC.weak ((fun hp:_∧_=>pick_pc hp.1 hp.2) hp) ⟨slK_le hlist,slK_le haxes,trivial⟩
    ·cases hc
   ·cases hc
  fk:=fk55
theorem con55_f:con55.f=55:=rfl
theorem con55_c {xlist:AV} {xaxes:AV}:con55.c [xlist,xaxes]=match slK .i64 xlist,slK .i64 xaxes with|some list,some axes=>some (list.length≤1000000∧axes.length≤1000000,optV (pickS list axes))|_,_=>none:=rfl
noncomputable def E23:Env:=envOf (P:=Tryz.prog) zer (fun _=>false) (fun _=>false) [con61] []
theorem E23_ok:EnvOk Tryz.prog E23:=envOk zer_ok
set_option maxRecDepth 20000 in
set_option maxHeartbeats 4000000 in
theorem rpick_pc {list axes:List Int} (hl:list.length≤1000000) (ha:axes.length≤1000000):PC Tryz.prog 31 [.sl false 1 (ints .i64 list),.sl false 1 (ints .i64 axes)] (optV (pickS list axes)):=by
  unfold pickS
  by_cases hp:axP list.length axes
  ·have d0:decide (axP list.length axes)=true:=decide_eq_true hp
   rw [if_pos hp]
   refine pcO E23_ok (fun _=>[0,1,4,5,6,7,12,16]) Tryz.func31 (h:=fun KF=>?_)
   unfold E23
   repeat' (first
    |(with_reducible first|refine nx ?_|refine t_seq fun K=>?_|refine t_br (fun hc=>?_) fun hc=>?_|refine t_bx ?_|apply And.intro|intro vr)
    |((with_reducible first|refine ny ?_|refine t_dwh (h:=fun K KL=>?_));intros;simp only [go_sem,geff,con61_f,con61_c,slK_sl,d0,Bool.not_true]))
   all_goals try exact om
   refine t_loop (ι:={i:Nat // i≤axes.length}×Nat) (fun i=>⟨upd (upd (upd (upd topF 7 (.lit (.int .i64 i.1.1))) 6 (.arr 0 i.2)) 1 (.sl false 1 (ints .i64 axes))) 0 (.sl false 1 (ints .i64 list)),[.arr 3 1 (ints .i64 (pickM list (axes.take i.1.1))) i.2 false]⟩) (fun i=>axes.length - i.1.1) (⟨0,by omega⟩,0) ?_ ?_
   ·refine (le_nil 6 3 1 rfl).trans ?_
    (refine Le.frame ?_;repeat' (first|exact leF_top _|(with_reducible refine leF_sl ?_ ?_)|(refine leF_upd (LeR.of_eq ?_) ?_)))<;>(try (simp only [go_sem];try rfl))
   ·rintro ⟨⟨i,hi⟩,ver⟩ K0
    rcases Nat.lt_or_ge i axes.length with hc|hc
    ·have g1:decide ((i:Int)<(axes.length:Int))=true:=decide_eq_true (by omega)
     have g2:=ints_getD .i64 axes i hc
     have hplen:=pickM_len list (axes.take i)
     rw [List.length_take] at hplen
     have hin:=axOk_in (hp i hc)
     have g5:=ints_getD .i64 list (axes.getD i 0).toNat (by omega)
     have g6:=pickM_take (list:=list) hc
     repeat' (first
      |(with_reducible first|refine nx ?_|refine t_seq fun K=>?_|refine t_br (fun hc=>?_) fun hc=>?_|refine t_bx ?_|apply And.intro|intro vr)
      |((with_reducible first|refine ny ?_|refine t_dwh (h:=fun K KL=>?_));intros;simp only [go_sem,geff,con61_f,g1,g2,g5,g6,Int.toNat_natCast]))
     all_goals try exact om
     refine ⟨(⟨i+1,by omega⟩,ver+1),by simp only;omega,?_⟩
     (refine Le.frame ?_;repeat' (first|exact leF_top _|(with_reducible refine leF_sl ?_ ?_)|(refine leF_upd (LeR.of_eq ?_) ?_)))<;>(try (simp only [go_sem];try rfl))
    ·have g1:decide ((i:Int)<(axes.length:Int))=false:=decide_eq_false (by omega)
     have htk:axes.take i=axes:=List.take_of_length_le hc
     repeat' (first
      |(with_reducible first|refine nx ?_|refine t_seq fun K=>?_|refine t_br (fun hc=>?_) fun hc=>?_|refine t_bx ?_|apply And.intro|intro vr)
      |((with_reducible first|refine ny ?_|refine t_dwh (h:=fun K KL=>?_));intros;simp only [go_sem,geff,con61_f,g1]))
     refine end_ret rfl ?_
     simp only [fin,go_sem,optV,htk]
     exact LeA.refl _
  ·have d0:decide (axP list.length axes)=false:=decide_eq_false hp
   rw [if_neg hp]
   refine pcO E23_ok (fun _=>[0,1,4,5,6,7,12,16]) Tryz.func31 (h:=fun KF=>?_)
   unfold E23
   repeat' (first
    |(with_reducible first|refine nx ?_|refine t_seq fun K=>?_|refine t_br (fun hc=>?_) fun hc=>?_|refine t_bx ?_|apply And.intro|intro vr)
    |((with_reducible first|refine ny ?_|refine t_dwh (h:=fun K KL=>?_));intros;simp only [go_sem,geff,con61_f,con61_c,slK_sl,d0,Bool.not_false]))
   all_goals try exact om
   refine end_ret rfl ?_
   simp only [fin,go_sem,optV]
   exact LeA.refl _
noncomputable def con31:PCon Tryz.prog where
  f:=31
  c:=fun
   |[xlist,xaxes]=>match slK .i64 xlist,slK .i64 xaxes with|some list,some axes=>some (list.length≤1000000∧axes.length≤1000000,optV (pickS list axes))|_,_=>none
   |_=>none
  ok:=by
   intro args p r hc hp
   split at hc
   ·split at hc
    ·rename_i hlist haxes
     cases hc
     exact PC.weak ((fun hp:_∧_=>rpick_pc hp.1 hp.2) hp) ⟨slK_le hlist,slK_le haxes,trivial⟩
    ·cases hc
   ·cases hc
  fk:=fk31
theorem con31_f:con31.f=31:=rfl
theorem con31_c {xlist:AV} {xaxes:AV}:con31.c [xlist,xaxes]=match slK .i64 xlist,slK .i64 xaxes with|some list,some axes=>some (list.length≤1000000∧axes.length≤1000000,optV (pickS list axes))|_,_=>none:=rfl
end Go.Proofs.YtcpjahmajkhchaaGreat

namespace Go.Proofs.YtcpjahmajkhchaaGreat
open Go Go.Fw
set_option maxRecDepth 20000
noncomputable def E24:Env:=envOf (P:=Tryz.prog) zer (fun t=>t==35) (fun _=>false) [con55,con81,con45] []
theorem E24_ok:EnvOk Tryz.prog E24:=envOk zer_ok
theorem ofE_rank {a:Arr} (h:ofE a=0):a.d.length≤6:=(sizeS_ok (ofE_inv h).2.1).1
set_option maxRecDepth 20000 in
set_option maxHeartbeats 2000000 in
theorem check_pc {frame axes:List Int} {r:Int} {a:Arr} (hl:frame.length≤1000000) (hx:axes.length≤1000000) (hr:inI64 r) (ha:okA a):
    PC Tryz.prog 75 [.sl false 1 (ints .i64 frame),.sl false 1 (ints .i64 axes),.lit (.int .i64 r),arrV a] (.lit (.int .i64 (checkS frame axes r a))):=by
  have ha1:=ha.1
  have ha2:=ha.2
  unfold checkS
  cases hP:pickS frame axes with
  |none=>
   simp only
   refine pcO E24_ok (fun _=>[0,1,2,7,8,9,10,17,25,38]) Tryz.func75 (h:=fun KF=>?_)
   unfold E24
   repeat' (first
    |(with_reducible first|refine nx ?_|refine t_seq fun K=>?_|refine t_br (fun hc=>?_) fun hc=>?_|refine t_bx ?_|apply And.intro|intro vr)
    |((with_reducible first|refine ny ?_|refine t_dwh (h:=fun K KL=>?_));intros;simp only [go_sem,geff,con55_f,con55_c,con81_f,con45_f,con45_c,arrV_def,arrOf_agg,slK_sl,hP,optV,Bool.not_false,Bool.not_true]))
   all_goals try exact om
   refine end_ret rfl ?_
   simp only [fin,go_sem]
   exact LeA.refl _
  |some own=>
   simp only
   by_cases h0:ofE a=0
   ·have e0:(ofE a==0)=true:=by rw [h0];rfl
    have hrk:=ofE_rank h0
    rw [if_neg (by simpa using h0)]
    by_cases h1:r<0
    ·have h1':decide (r<0)=true:=decide_eq_true h1
     rw [if_pos (.inl h1)]
     refine pcO E24_ok (fun _=>[0,1,2,7,8,9,10,17,25,38]) Tryz.func75 (h:=fun KF=>?_)
     unfold E24
     repeat' (first
      |(with_reducible first|refine nx ?_|refine t_seq fun K=>?_|refine t_br (fun hc=>?_) fun hc=>?_|refine t_bx ?_|apply And.intro|intro vr)
      |((with_reducible first|refine ny ?_|refine t_dwh (h:=fun K KL=>?_));intros;simp only [go_sem,geff,con55_f,con55_c,con81_f,con45_f,con45_c,arrV_def,arrOf_agg,slK_sl,hP,optV,e0,h1',Bool.not_false,Bool.not_true]))
     all_goals try exact om
     refine end_ret rfl ?_
     simp only [fin,go_sem]
     exact LeA.refl _
    ·have h1':decide (r<0)=false:=decide_eq_false h1
     have hw:((a.d.length:Int) !=IntKind.i64.wrap (r+(axes.length:Int)))=((a.d.length:Int) !=r+(axes.length:Int)):=by
       rw [wrap64_eq]
       by_cases e:(a.d.length:Int)=r+axes.length
       ·rw [bne_eq_false_iff_eq.2 e,bne_eq_false_iff_eq];unfold inI64 at hr;omega
       ·rw [bne_iff_ne.2 e,bne_iff_ne];unfold inI64 at hr;omega
     by_cases h2:(a.d.length:Int)=r+axes.length
     ·have h2':((a.d.length:Int) !=r+(axes.length:Int))=false:=bne_eq_false_iff_eq.2 h2
      rw [if_neg (by omega)]
      by_cases h3:a.d.take axes.length=own
      ·have h3':decide (a.d.take axes.length=own)=true:=decide_eq_true h3
       rw [if_neg (by simpa using h3)]
       refine pcO E24_ok (fun _=>[0,1,2,7,8,9,10,17,25,38]) Tryz.func75 (h:=fun KF=>?_)
       unfold E24
       repeat' (first
        |(with_reducible first|refine nx ?_|refine t_seq fun K=>?_|refine t_br (fun hc=>?_) fun hc=>?_|refine t_bx ?_|apply And.intro|intro vr)
        |((with_reducible first|refine ny ?_|refine t_dwh (h:=fun K KL=>?_));intros;simp only [go_sem,geff,con55_f,con55_c,con81_f,con81_c,con45_f,con45_c,arrV_def,arrOf_agg,slK_sl,hP,optV,e0,h1',hw,h2',h3',Bool.not_false,Bool.not_true,Int.toNat_natCast,List.length_take]))
       all_goals try exact om
       refine end_ret rfl ?_
       simp only [fin,go_sem]
       exact LeA.refl _
      ·have h3':decide (a.d.take axes.length=own)=false:=decide_eq_false h3
       rw [if_pos h3]
       refine pcO E24_ok (fun _=>[0,1,2,7,8,9,10,17,25,38]) Tryz.func75 (h:=fun KF=>?_)
       unfold E24
       repeat' (first
        |(with_reducible first|refine nx ?_|refine t_seq fun K=>?_|refine t_br (fun hc=>?_) fun hc=>?_|refine t_bx ?_|apply And.intro|intro vr)
        |((with_reducible first|refine ny ?_|refine t_dwh (h:=fun K KL=>?_));intros;simp only [go_sem,geff,con55_f,con55_c,con81_f,con81_c,con45_f,con45_c,arrV_def,arrOf_agg,slK_sl,hP,optV,e0,h1',hw,h2',h3',Bool.not_false,Bool.not_true,Int.toNat_natCast,List.length_take]))
       all_goals try exact om
       refine end_ret rfl ?_
       simp only [fin,go_sem]
       exact LeA.refl _
     ·have h2':((a.d.length:Int) !=r+(axes.length:Int))=true:=bne_iff_ne.2 h2
      rw [if_pos (.inr h2)]
      refine pcO E24_ok (fun _=>[0,1,2,7,8,9,10,17,25,38]) Tryz.func75 (h:=fun KF=>?_)
      unfold E24
      repeat' (first
       |(with_reducible first|refine nx ?_|refine t_seq fun K=>?_|refine t_br (fun hc=>?_) fun hc=>?_|refine t_bx ?_|apply And.intro|intro vr)
       |((with_reducible first|refine ny ?_|refine t_dwh (h:=fun K KL=>?_));intros;simp only [go_sem,geff,con55_f,con55_c,con81_f,con45_f,con45_c,arrV_def,arrOf_agg,slK_sl,hP,optV,e0,h1',hw,h2',Bool.not_false,Bool.not_true]))
      all_goals try exact om
      refine end_ret rfl ?_
      simp only [fin,go_sem]
      exact LeA.refl _
   ·have e0:(ofE a==0)=false:=bne0 h0
    rw [if_pos h0]
    refine pcO E24_ok (fun _=>[0,1,2,7,8,9,10,17,25,38]) Tryz.func75 (h:=fun KF=>?_)
    unfold E24
    repeat' (first
     |(with_reducible first|refine nx ?_|refine t_seq fun K=>?_|refine t_br (fun hc=>?_) fun hc=>?_|refine t_bx ?_|apply And.intro|intro vr)
     |((with_reducible first|refine ny ?_|refine t_dwh (h:=fun K KL=>?_));intros;simp only [go_sem,geff,con55_f,con55_c,con81_f,con45_f,con45_c,arrV_def,arrOf_agg,slK_sl,hP,optV,e0,Bool.not_false,Bool.not_true]))
    all_goals try exact om
    refine end_ret rfl ?_
    simp only [fin,go_sem]
    exact LeA.refl _
noncomputable def con75:PCon Tryz.prog where
  f:=75
  c:=fun
   |[xframe,xaxes,.lit (.int .i64 r),xa]=>match slK .i64 xframe,slK .i64 xaxes,arrOf xa with|some frame,some axes,some a=>some (frame.length≤1000000∧axes.length≤1000000∧inI64 r∧okA a,.lit (.int .i64 (checkS frame axes r a)))|_,_,_=>none
   |_=>none
  ok:=by
   intro args p r hc hp
   split at hc
   ·split at hc
    ·rename_i hframe haxes ha
     cases hc
     exact PC.weak ((fun hp:_∧_∧_∧_=>check_pc hp.1 hp.2.1 hp.2.2.1 hp.2.2.2) hp) ⟨slK_le hframe,slK_le haxes,LeA.refl _,arrOf_le ha,trivial⟩
    ·cases hc
   ·cases hc
  fk:=fk75
theorem con75_f:con75.f=75:=rfl
theorem con75_c {xframe:AV} {xaxes:AV} {r:Int} {xa:AV}:con75.c [xframe,xaxes,.lit (.int .i64 r),xa]=match slK .i64 xframe,slK .i64 xaxes,arrOf xa with|some frame,some axes,some a=>some (frame.length≤1000000∧axes.length≤1000000∧inI64 r∧okA a,.lit (.int .i64 (checkS frame axes r a)))|_,_,_=>none:=rfl
noncomputable def E25:Env:=envOf (P:=Tryz.prog) zer (fun _=>false) (fun _=>false) [con69,con75] []
theorem E25_ok:EnvOk Tryz.prog E25:=envOk zer_ok
structure Lk (frame:List Int) (axs:List (List Int)) (rs:List Int) (l:List Arr) (G:Int) where
  i:Nat
  g:List AObj
  hi:i≤l.length
  hF:chkG frame (axs.drop i) (rs.drop i) (l.drop i)=G
set_option maxRecDepth 20000 in
set_option maxHeartbeats 4000000 in
theorem chk_pc {frame:List Int} {axs:List (List Int)} {rs:List Int} {l:List Arr} (hf:frame.length≤1000000) (hx:∀ x∈axs,x.length≤1000000) (hm:l.length≤1000000) (hr:∀ r∈rs,inI64 r) (hl:∀ a∈l,okA a):
    PC Tryz.prog 53 [.sl false 1 (ints .i64 frame),.sl false 1 (ils axs),.sl false 1 (ints .i64 rs),.sl false 3 (arrs l)] (.lit (.int .i64 (chkS frame axs rs l))):=by
  unfold chkS
  generalize hS:sizeS frame=s
  obtain ⟨sn,se⟩:=s
  simp only
  by_cases h1:se≠0∧se≠3
  ·have e1:(se !=0)=true:=bne_iff_ne.2 h1.1
   have e2:(se !=3)=true:=bne_iff_ne.2 h1.2
   rw [if_pos (.inl h1)]
   refine pcO E25_ok (fun _=>[0,1,2,3,8,10,11,12,13,38,40,41,42,43,44,60]) Tryz.func53 (h:=fun KF=>?_)
   unfold E25
   repeat' (first
    |(with_reducible first|refine nx ?_|refine t_seq fun K=>?_|refine t_br (fun hc=>?_) fun hc=>?_|refine t_bx ?_|apply And.intro|intro vr)
    |((with_reducible first|refine ny ?_|refine t_dwh (h:=fun K KL=>?_));intros;simp only [go_sem,geff,con69_f,con75_f,con69_c,arrs_length,ils_length,slK_sl,szV_def,hS,e1,e2]))
   all_goals try exact om
   refine end_ret rfl ?_
   simp only [fin,go_sem]
   exact LeA.refl _
  ·have h1':se=0∨se=3:=by omega
   by_cases h2:axs.length=l.length
   ·have e3:((axs.length:Int) !=(l.length:Int))=false:=by rw [bne_eq_false_iff_eq];omega
    by_cases h3:rs.length=l.length
    ·have e4:((rs.length:Int) !=(l.length:Int))=false:=by rw [bne_eq_false_iff_eq];omega
     rw [if_neg (by omega)]
     rcases h1' with rfl|rfl
     ·rw [if_neg (by simp)]
      generalize hG:chkG frame axs rs l=G
      refine pcO E25_ok (fun _=>[0,1,2,3,8,10,11,12,13,38,40,41,42,43,44,60]) Tryz.func53 (h:=fun KF=>?_)
      unfold E25
      repeat' (first
       |(with_reducible first|refine nx ?_|refine t_seq fun K=>?_|refine t_br (fun hc=>?_) fun hc=>?_|refine t_bx ?_|apply And.intro|intro vr)
       |((with_reducible first|refine ny ?_|refine t_dwh (h:=fun K KL=>?_));intros;simp only [go_sem,geff,con69_f,con75_f,con69_c,arrs_length,ils_length,slK_sl,szV_def,hS,e3,e4]))
      all_goals try exact om
      refine t_loop (ι:=Lk frame axs rs l G) (fun i=>⟨upd (upd (upd (upd (upd (upd topF 43 (.lit (.int .i64 i.i))) 42 (.lit (.int .i64 l.length))) 41 (.sl false 3 (arrs l))) 2 (.sl false 1 (ints .i64 rs))) 1 (.sl false 1 (ils axs))) 0 (.sl false 1 (ints .i64 frame)),i.g⟩) (fun i=>l.length - i.i) ⟨0,[],by omega,hG⟩ ?_ ?_
      ·skip
       (refine Le.frame ?_;repeat' (first|exact leF_top _|(with_reducible refine leF_sl ?_ ?_)|(refine leF_upd (LeR.of_eq ?_) ?_)))<;>(try (simp only [go_sem];try rfl))
      ·rintro ⟨i,g,hi,hF⟩ K0
       have k1:∀ (X:AObj),(g++[X])[g.length]? =some X:=fun X=>getA0 rfl
       have k2:∀ (X Y:AObj),(g++[X]).set g.length Y=g++[Y]:=fun X Y=>setA0 rfl
       rcases Nat.lt_or_ge i l.length with hc|hc
       ·have g1:decide ((i:Int)<(l.length:Int))=true:=decide_eq_true (by omega)
        have g2:=arrs_getD l i hc
        have g3:=ints_getD .i64 rs i (by omega)
        have g4:=ils_getD axs i (by omega)
        have ha:=hl _ (getD_mem nilA hc)
        have hr':=hr _ (getD_mem 0 (show i<rs.length by omega))
        have hx':=hx _ (getD_mem [] (show i<axs.length by omega))
        rw [drop_getD nilA hc,drop_getD 0 (show i<rs.length by omega),drop_getD [] (show i<axs.length by omega),chkG] at hF
        generalize l.getD i nilA=a at g2 hF ha
        generalize rs.getD i 0=r at g3 hF hr'
        generalize axs.getD i []=ax at g4 hF hx'
        generalize hC:checkS frame ax r a=c at hF
        by_cases c0:c=0
        ·subst c0
         rw [if_neg (by simp)] at hF
         repeat' (first
          |(with_reducible first|refine nx ?_|refine t_seq fun K=>?_|refine t_br (fun hc=>?_) fun hc=>?_|refine t_bx ?_|apply And.intro|intro vr)
          |((with_reducible first|refine ny ?_|refine t_dwh (h:=fun K KL=>?_));intros;simp only [go_sem,geff,con69_f,con75_f,con75_c,g1,g2,g3,g4,k1,k2,hC,arrs_length,ils_length,arrV_def,arrOf_agg,slK_sl,Int.toNat_natCast]))
         all_goals try exact om
         all_goals try first|exact ha|exact hr'|exact hx'
         refine ⟨⟨i+1,g++[.box 31 [.lit (.string a.e),.sl false 1 (ints .i64 a.d),.sl false 1 (ints .i64 a.x)]],by omega,hF⟩,by simp only;omega,?_⟩
         (refine Le.frame ?_;repeat' (first|exact leF_top _|(with_reducible refine leF_sl ?_ ?_)|(refine leF_upd (LeR.of_eq ?_) ?_)))<;>(try (simp only [go_sem];try rfl))
        ·have c1:(c !=0)=true:=bne_iff_ne.2 c0
         rw [if_pos c0] at hF
         subst hF
         repeat' (first
          |(with_reducible first|refine nx ?_|refine t_seq fun K=>?_|refine t_br (fun hc=>?_) fun hc=>?_|refine t_bx ?_|apply And.intro|intro vr)
          |((with_reducible first|refine ny ?_|refine t_dwh (h:=fun K KL=>?_));intros;simp only [go_sem,geff,con69_f,con75_f,con75_c,g1,g2,g3,g4,k1,k2,hC,c1,arrs_length,ils_length,arrV_def,arrOf_agg,slK_sl,Int.toNat_natCast]))
         all_goals try exact om
         all_goals try first|exact ha|exact hr'|exact hx'
         refine end_ret rfl ?_
         simp only [fin,go_sem]
         exact LeA.refl _
       ·have g1:decide ((i:Int)<(l.length:Int))=false:=decide_eq_false (by omega)
        rw [List.drop_eq_nil_of_le hc,chkG] at hF
        ·subst hF
         repeat' (first
          |(with_reducible first|refine nx ?_|refine t_seq fun K=>?_|refine t_br (fun hc=>?_) fun hc=>?_|refine t_bx ?_|apply And.intro|intro vr)
          |((with_reducible first|refine ny ?_|refine t_dwh (h:=fun K KL=>?_));intros;simp only [go_sem,geff,con69_f,con75_f,g1,arrs_length]))
         all_goals try exact om
         refine end_ret rfl ?_
         simp only [fin,go_sem]
         exact LeA.refl _
        ·intro _ _ _ _ _ _ _ _ h;cases h
     ·rw [if_pos (by decide)]
      refine pcO E25_ok (fun _=>[0,1,2,3,8,10,11,12,13,38,40,41,42,43,44,60]) Tryz.func53 (h:=fun KF=>?_)
      unfold E25
      repeat' (first
       |(with_reducible first|refine nx ?_|refine t_seq fun K=>?_|refine t_br (fun hc=>?_) fun hc=>?_|refine t_bx ?_|apply And.intro|intro vr)
       |((with_reducible first|refine ny ?_|refine t_dwh (h:=fun K KL=>?_));intros;simp only [go_sem,geff,con69_f,con75_f,con69_c,arrs_length,ils_length,slK_sl,szV_def,hS,e3,e4]))
      all_goals try exact om
      refine end_ret rfl ?_
      simp only [fin,go_sem]
      exact LeA.refl _
    ·have e4:((rs.length:Int) !=(l.length:Int))=true:=bne_iff_ne.2 (by omega)
     rw [if_pos (.inr (.inr h3))]
     rcases h1' with rfl|rfl
     ·skip
      refine pcO E25_ok (fun _=>[0,1,2,3,8,10,11,12,13,38,40,41,42,43,44,60]) Tryz.func53 (h:=fun KF=>?_)
      unfold E25
      repeat' (first
       |(with_reducible first|refine nx ?_|refine t_seq fun K=>?_|refine t_br (fun hc=>?_) fun hc=>?_|refine t_bx ?_|apply And.intro|intro vr)
       |((with_reducible first|refine ny ?_|refine t_dwh (h:=fun K KL=>?_));intros;simp only [go_sem,geff,con69_f,con75_f,con69_c,arrs_length,ils_length,slK_sl,szV_def,hS,e3,e4]))
      all_goals try exact om
      refine end_ret rfl ?_
      simp only [fin,go_sem]
      exact LeA.refl _
     ·skip
      refine pcO E25_ok (fun _=>[0,1,2,3,8,10,11,12,13,38,40,41,42,43,44,60]) Tryz.func53 (h:=fun KF=>?_)
      unfold E25
      repeat' (first
       |(with_reducible first|refine nx ?_|refine t_seq fun K=>?_|refine t_br (fun hc=>?_) fun hc=>?_|refine t_bx ?_|apply And.intro|intro vr)
       |((with_reducible first|refine ny ?_|refine t_dwh (h:=fun K KL=>?_));intros;simp only [go_sem,geff,con69_f,con75_f,con69_c,arrs_length,ils_length,slK_sl,szV_def,hS,e3,e4]))
      all_goals try exact om
      refine end_ret rfl ?_
      simp only [fin,go_sem]
      exact LeA.refl _
   ·have e3:((axs.length:Int) !=(l.length:Int))=true:=bne_iff_ne.2 (by omega)
    rw [if_pos (.inr (.inl h2))]
    rcases h1' with rfl|rfl
    ·skip
     refine pcO E25_ok (fun _=>[0,1,2,3,8,10,11,12,13,38,40,41,42,43,44,60]) Tryz.func53 (h:=fun KF=>?_)
     unfold E25
     repeat' (first
      |(with_reducible first|refine nx ?_|refine t_seq fun K=>?_|refine t_br (fun hc=>?_) fun hc=>?_|refine t_bx ?_|apply And.intro|intro vr)
      |((with_reducible first|refine ny ?_|refine t_dwh (h:=fun K KL=>?_));intros;simp only [go_sem,geff,con69_f,con75_f,con69_c,arrs_length,ils_length,slK_sl,szV_def,hS,e3]))
     all_goals try exact om
     refine end_ret rfl ?_
     simp only [fin,go_sem]
     exact LeA.refl _
    ·skip
     refine pcO E25_ok (fun _=>[0,1,2,3,8,10,11,12,13,38,40,41,42,43,44,60]) Tryz.func53 (h:=fun KF=>?_)
     unfold E25
     repeat' (first
      |(with_reducible first|refine nx ?_|refine t_seq fun K=>?_|refine t_br (fun hc=>?_) fun hc=>?_|refine t_bx ?_|apply And.intro|intro vr)
      |((with_reducible first|refine ny ?_|refine t_dwh (h:=fun K KL=>?_));intros;simp only [go_sem,geff,con69_f,con75_f,con69_c,arrs_length,ils_length,slK_sl,szV_def,hS,e3]))
     all_goals try exact om
     refine end_ret rfl ?_
     simp only [fin,go_sem]
     exact LeA.refl _
noncomputable def con53:PCon Tryz.prog where
  f:=53
  c:=fun
   |[xframe,xaxs,xrs,xl]=>match slK .i64 xframe,ilsOf xaxs,slK .i64 xrs,arrsOf xl with|some frame,some axs,some rs,some l=>some (frame.length≤1000000∧(∀ x∈axs,x.length≤1000000)∧l.length≤1000000∧(∀ r∈rs,inI64 r)∧(∀ a∈l,okA a),.lit (.int .i64 (chkS frame axs rs l)))|_,_,_,_=>none
   |_=>none
  ok:=by
   intro args p r hc hp
   split at hc
   ·split at hc
    ·rename_i hframe haxs hrs hl
     cases hc
     exact PC.weak ((fun hp:_∧_∧_∧_∧_=>chk_pc hp.1 hp.2.1 hp.2.2.1 hp.2.2.2.1 hp.2.2.2.2) hp) ⟨slK_le hframe,ilsOf_le haxs,slK_le hrs,arrsOf_le hl,trivial⟩
    ·cases hc
   ·cases hc
  fk:=fk53
theorem con53_f:con53.f=53:=rfl
theorem con53_c {xframe:AV} {xaxs:AV} {xrs:AV} {xl:AV}:con53.c [xframe,xaxs,xrs,xl]=match slK .i64 xframe,ilsOf xaxs,slK .i64 xrs,arrsOf xl with|some frame,some axs,some rs,some l=>some (frame.length≤1000000∧(∀ x∈axs,x.length≤1000000)∧l.length≤1000000∧(∀ r∈rs,inI64 r)∧(∀ a∈l,okA a),.lit (.int .i64 (chkS frame axs rs l)))|_,_,_,_=>none:=rfl
end Go.Proofs.YtcpjahmajkhchaaGreat

namespace Go.Proofs.YtcpjahmajkhchaaGreat
open Go Go.Fw
set_option maxRecDepth 20000
attribute [go_sem] con69_f con69_c szV
noncomputable def P2:Env:=envJ (P:=Tryz.prog) jkK zer (fun _=>false) (fun _=>false) [con69,con47] []
theorem P2_ok:EnvOk Tryz.prog P2:=envJOk zer_ok
theorem zeros_pc {e:ByteArray} {d:List Int} (hd:d.length≤1000000):PC Tryz.prog 82 [.lit (.string e),.sl false 1 (ints .i64 d)] (aeV (zerosS e d)):=by
  generalize hR:zerosS e d=R
  unfold zerosS at hR
  cases h1:tyOk e with
  |false=>
   rw [if_pos h1] at hR
   have h1':=h1
   simp only [tyOk,Bool.or_eq_false_iff] at h1'
   obtain ⟨q1,q2⟩:=h1'
   refine pcR P2_ok (kp82) Tryz.func82 [.cell 4 31,.tmp 5] (h:=fun KF=>?_)
   unfold P2
   repeat' (first
    |(with_reducible first|refine nx ?_|refine t_seq fun K=>?_|refine t_br (fun hc=>?_) fun hc=>?_|refine t_bx ?_|apply And.intro|intro vr)
    |((with_reducible first|refine ny ?_|refine t_dwh (h:=fun K KL=>?_));intros;simp only [go_sem,kp82,geff,q1,q2,Bool.not_false]))
   all_goals try exact nd
   all_goals (refine nl ?_;simp only [go_sem])
   exact ae_of rfl rfl hR.symm
  |true=>
   rw [if_neg (by rw [h1];decide)] at hR
   have h1':(!eqS e ⟨#[105,110,116]⟩&& !eqS e ⟨#[98,111,111,108]⟩)=false:=by
     simp only [tyOk,Bool.or_eq_true] at h1
     rcases h1 with h|h
     ·rw [h];rfl
     ·rw [h,Bool.not_true,Bool.and_false]
   have hb:=sizeS_bd d
   generalize hS:sizeS d=s at hR hb
   obtain ⟨n,se⟩:=s
   simp only at hR hb
   by_cases h2:se=0
   ·subst h2
    rw [if_neg (by simp)] at hR
    generalize hO:ofS ⟨e,d,List.replicate n.toNat 0⟩=O at hR
    obtain ⟨⟨o1,o2,o3⟩,oe⟩:=O
    have e00:((0:Int) !=0)=false:=rfl
    refine pcR P2_ok (kp82) Tryz.func82 [.cell 4 31,.tmp 5] (h:=fun KF=>?_)
    unfold P2
    repeat' (first
     |(with_reducible first|refine nx ?_|refine t_seq fun K=>?_|refine t_br (fun hc=>?_) fun hc=>?_|refine t_bx ?_|apply And.intro|intro vr)
     |((with_reducible first|refine ny ?_|refine t_dwh (h:=fun K KL=>?_));intros;simp only [go_sem,kp82,geff,h1',hS,e00,rep_ints,hO,arrV]))
    all_goals try exact nd
    all_goals try (simp only [List.length_replicate];omega)
    all_goals (refine nl ?_;simp only [go_sem])
    exact ae_of slK_sl slK_sl hR.symm
   ·rw [if_pos h2] at hR
    have h2':(se !=0)=true:=bne_iff_ne.2 h2
    refine pcR P2_ok (kp82) Tryz.func82 [.cell 4 31,.tmp 5] (h:=fun KF=>?_)
    unfold P2
    repeat' (first
     |(with_reducible first|refine nx ?_|refine t_seq fun K=>?_|refine t_br (fun hc=>?_) fun hc=>?_|refine t_bx ?_|apply And.intro|intro vr)
     |((with_reducible first|refine ny ?_|refine t_dwh (h:=fun K KL=>?_));intros;simp only [go_sem,kp82,geff,h1',hS,h2']))
    all_goals try exact nd
    all_goals (refine nl ?_;simp only [go_sem])
    exact ae_of rfl rfl hR.symm
noncomputable def con82:PCon Tryz.prog where
  f:=82
  c:=fun
   |[.lit (.string e),xd]=>match slK .i64 xd with|some d=>some (d.length≤1000000,aeV (zerosS e d))|_=>none
   |_=>none
  ok:=by
   intro args p r hc hp
   split at hc
   ·split at hc
    ·rename_i hd
     cases hc
     exact PC.weak (zeros_pc hp) ⟨LeA.refl _,slK_le hd,trivial⟩
    ·cases hc
   ·cases hc
  fk:=fk82
theorem con82_f:con82.f=82:=rfl
theorem con82_c {e:ByteArray} {xd:AV}:con82.c [.lit (.string e),xd]=match slK .i64 xd with|some d=>some (d.length≤1000000,aeV (zerosS e d))|_=>none:=rfl
attribute [go_sem] con82_f con82_c
def smpZ (a:Arr) (r:Int):Arr×Int:=zerosS a.e (a.d.drop ((a.d.length:Int) - r).toNat)
def smpG:List Arr→List Int→List Arr→List Arr×Int
  |a::l,r::rs,acc=>if (smpZ a r).2≠0 then ([],(smpZ a r).2) else smpG l rs (acc++[(smpZ a r).1])
  |_,_,acc=>(acc,0)
theorem smpG_nil {rs:List Int} {acc:List Arr}:smpG [] rs acc=(acc,0):=by cases rs<;>rfl
def smV (p:List Arr×Int):AV:= .tup [.sl false 3 (arrs p.1),.lit (.int .i64 p.2)]
theorem sm_of {x:AV} {n:Int} {l:List Arr} {p:List Arr×Int} (hx:arrsOf x=some l) (h:p=(l,n)):LeA (.tup [x,.lit (.int .i64 n)]) (smV p):=by
  subst h;exact LeA.tup ⟨arrsOf_le hx,LeA.refl _,trivial⟩
structure Sp (rk:List Int) (L:List Arr) (R:List Arr×Int) where
  i:Nat
  v:Nat
  acc:List Arr
  hi:i≤L.length
  ha:acc.length=i
  hF:smpG (L.drop i) (rk.drop i) acc=R
noncomputable def P3:Env:=envJ (P:=Tryz.prog) jkK zer (fun _=>false) (fun _=>false) [con82] []
theorem P3_ok:EnvOk Tryz.prog P3:=envJOk zer_ok
theorem arrs_app' {l:List Arr} {e:ByteArray} {d x:List Int}:arrs l++[.agg [.lit (.string e),.sl false 1 (ints .i64 d),.sl false 1 (ints .i64 x)]]=arrs (l++[⟨e,d,x⟩]):=by simp [arrs,arrV]
set_option maxHeartbeats 4000000 in
theorem sample_pc {rk:List Int} {L:List Arr} (hl:L.length≤4096) (hr:rk.length=L.length) (hd:∀ j,j<L.length→0≤rk.getD j 0∧rk.getD j 0≤((L.getD j nilA).d.length:Int)∧(L.getD j nilA).d.length≤1000000):
    PC Tryz.prog 58 [.sl false 1 (ints .i64 rk),.sl false 3 (arrs L)] (smV (smpG L rk [])):=by
  generalize hR:smpG L rk []=R
  refine pcR P3_ok (kp58) Tryz.func58 [.tmp 4,.tmp 5] (h:=fun KF=>?_)
  unfold P3
  repeat' (first
   |(with_reducible first|refine nx ?_|refine t_seq fun K=>?_|refine t_br (fun hc=>?_) fun hc=>?_|refine t_bx ?_|apply And.intro|intro vr)|exact kpd
   |((with_reducible first|refine ny ?_|refine t_kLF ?_ ?_|refine t_drawE (id:=5) (fun i=>i==1) [(0,1),(1,1),(2,1),(3,1),(4,1),(5,1),(6,1),(7,1),(8,1),(9,1),(10,1),(11,1),(12,1),(13,1),(14,1),(15,1),(16,1),(17,0),(18,0),(19,1)] (by kernel_rfl) fun K=>?_|refine t_dwh (h:=fun K KL=>?_));intros;simp only [go_sem,kp58,geff,arrs_length]))
  all_goals try exact nd
  refine t_loopF (ι:=Sp rk L R) (fun i=>[(13,.lit (.int .i64 i.i)),(6,.arr 0 i.v)]) (fun i=>[.arr 31 3 (arrs i.acc) i.v false]) (fun i=>L.length - i.i) ⟨0,0,[],by omega,rfl,hR⟩ ?_ ?_
  ·refine (le_nil 6 31 3 rfl).trans ?_
   exact lf
  rintro ⟨i,v,acc,hi,ha,hF⟩ K0
  rcases Nat.lt_or_ge i L.length with hc|hc
  ·rw [drop_getD nilA hc,drop_getD (0:Int) (show i<rk.length by omega),smpG] at hF
   have g3:decide ((i:Int)<(L.length:Int))=true:=decide_eq_true (by omega)
   obtain ⟨d1,d2,d3⟩:=hd i hc
   have hz:zerosS (L.getD i nilA).e ((L.getD i nilA).d.drop (((L.getD i nilA).d.length:Int) - rk.getD i 0).toNat)=smpZ (L.getD i nilA) (rk.getD i 0):=rfl
   generalize hZ:smpZ (L.getD i nilA) (rk.getD i 0)=Z at hF hz
   obtain ⟨⟨z1,z2,z3⟩,ze⟩:=Z
   simp only at hF
   by_cases h0:ze=0
   ·subst h0
    rw [if_neg (by simp)] at hF
    have e00:((0:Int) !=0)=false:=rfl
    repeat' (first
     |(with_reducible first|refine nx ?_|refine t_seq fun K=>?_|refine t_br (fun hc=>?_) fun hc=>?_|refine t_bx ?_|apply And.intro|intro vr)|exact kpd
     |((with_reducible first|refine ny ?_|refine t_kLF ?_ ?_|refine t_drawE (id:=5) (fun i=>i==1) [(0,1),(1,1),(2,1),(3,1),(4,1),(5,1),(6,1),(7,1),(8,1),(9,1),(10,1),(11,1),(12,1),(13,1),(14,1),(15,1),(16,1),(17,0),(18,0),(19,1)] (by kernel_rfl) fun K=>?_|refine t_dwh (h:=fun K KL=>?_));intros;simp only [go_sem,kp58,geff,g3,hz,e00,arrV,Int.toNat_natCast,arrs_length,List.take_length,arrs_app']))
    all_goals try (rw [List.length_drop];omega)
    all_goals try exact nd
    refine ⟨⟨i+1,v+1,acc++[⟨z1,z2,z3⟩],by omega,by simp;omega,hF⟩,by show L.length - (i+1)<L.length - i;omega,?_⟩
    simp only [updL_nil,updL_cons,delF_top,delF_upd,Nat.reduceEqDiff,reduceIte]
    refine le_two (σ:=[.arr 31 3 (arrs (acc++[⟨z1,z2,z3⟩])) (v+1) false,.box 31 [.lit (.string (L.getD i nilA).e),.sl false 1 (ints .i64 (L.getD i nilA).d),.sl false 1 (ints .i64 (L.getD i nilA).x)],.box 31 [.lit (.string z1),.sl false 1 (ints .i64 z2),.sl false 1 (ints .i64 z3)]]) (l:=[.arr 31 3 (arrs (acc++[⟨z1,z2,z3⟩])) (v+1) false]) (a:= .box 31 [.lit (.string (L.getD i nilA).e),.sl false 1 (ints .i64 (L.getD i nilA).d),.sl false 1 (ints .i64 (L.getD i nilA).x)]) (b:= .box 31 [.lit (.string z1),.sl false 1 (ints .i64 z2),.sl false 1 (ints .i64 z3)]) rfl (Nat.zero_le _) (fun m=>by simp [lowO,low1,low0]) (fun m=>rfl) ?_ ?_
    ·intro m hm
     repeat' (first|exact low_top|(refine low_upd ?_ ?_))
     all_goals (first|rfl|(simp only [low_arr,low_ref,decide_eq_true_eq];simp at hm;omega))
    repeat' (first|exact leF_top _|exact (fun _=>LeR.refl _)|(with_reducible refine leF_sl ?_ ?_)|(refine leF_upd ?_ ?_))
    all_goals (first|exact LeR.top _|exact LeR.refl _|(refine LeR.of_eq ?_;(try simp only [go_sem]);try rfl)|((try simp only [go_sem]);try rfl))
   ·rw [if_pos h0] at hF
    have h0':(ze !=0)=true:=bne_iff_ne.2 h0
    repeat' (first
     |(with_reducible first|refine nx ?_|refine t_seq fun K=>?_|refine t_br (fun hc=>?_) fun hc=>?_|refine t_bx ?_|apply And.intro|intro vr)|exact kpd
     |((with_reducible first|refine ny ?_|refine t_kLF ?_ ?_|refine t_drawE (id:=5) (fun i=>i==1) [(0,1),(1,1),(2,1),(3,1),(4,1),(5,1),(6,1),(7,1),(8,1),(9,1),(10,1),(11,1),(12,1),(13,1),(14,1),(15,1),(16,1),(17,0),(18,0),(19,1)] (by kernel_rfl) fun K=>?_|refine t_dwh (h:=fun K KL=>?_));intros;simp only [go_sem,kp58,geff,g3,hz,h0',arrV,Int.toNat_natCast,arrs_length,List.take_length]))
    all_goals try (rw [List.length_drop];omega)
    all_goals try exact nd
    all_goals (refine nl ?_;simp only [go_sem])
    exact sm_of rfl hF.symm
  ·have g3:decide ((i:Int)<(L.length:Int))=false:=decide_eq_false (by omega)
   rw [List.drop_eq_nil_of_le hc,smpG_nil] at hF
   repeat' (first
    |(with_reducible first|refine nx ?_|refine t_seq fun K=>?_|refine t_br (fun hc=>?_) fun hc=>?_|refine t_bx ?_|apply And.intro|intro vr)|exact kpd
    |((with_reducible first|refine ny ?_|refine t_kLF ?_ ?_|refine t_drawE (id:=5) (fun i=>i==1) [(0,1),(1,1),(2,1),(3,1),(4,1),(5,1),(6,1),(7,1),(8,1),(9,1),(10,1),(11,1),(12,1),(13,1),(14,1),(15,1),(16,1),(17,0),(18,0),(19,1)] (by kernel_rfl) fun K=>?_|refine t_dwh (h:=fun K KL=>?_));intros;simp only [go_sem,kp58,geff,g3,Int.toNat_natCast,arrs_length]))
   all_goals try exact nd
   all_goals (refine nl ?_;simp only [go_sem])
   exact sm_of arrsOf_sl hF.symm
noncomputable def con58:PCon Tryz.prog where
  f:=58
  c:=fun
   |[xrk,xL]=>match slK .i64 xrk,arrsOf xL with|some rk,some L=>some (L.length≤4096∧rk.length=L.length∧(∀ j,j<L.length→0≤rk.getD j 0∧rk.getD j 0≤((L.getD j nilA).d.length:Int)∧(L.getD j nilA).d.length≤1000000),smV (smpG L rk []))|_,_=>none
   |_=>none
  ok:=by
   intro args p r hc hp
   split at hc
   ·split at hc
    ·rename_i hrk hL
     cases hc
     exact PC.weak ((fun hp:_∧_∧_=>sample_pc hp.1 hp.2.1 hp.2.2) hp) ⟨slK_le hrk,arrsOf_le hL,trivial⟩
    ·cases hc
   ·cases hc
  fk:=fk58
theorem con58_f:con58.f=58:=rfl
theorem con58_c {xrk:AV} {xL:AV}:con58.c [xrk,xL]=match slK .i64 xrk,arrsOf xL with|some rk,some L=>some (L.length≤4096∧rk.length=L.length∧(∀ j,j<L.length→0≤rk.getD j 0∧rk.getD j 0≤((L.getD j nilA).d.length:Int)∧(L.getD j nilA).d.length≤1000000),smV (smpG L rk []))|_,_=>none:=rfl
attribute [go_sem] con58_f con58_c smV
end Go.Proofs.YtcpjahmajkhchaaGreat

namespace Go.Proofs.YtcpjahmajkhchaaGreat
open Go Go.Fw
set_option maxRecDepth 20000
def digF:List Int→Int→List Int
  |[],_=>[]
  |_::t,o=>o / prI t::digF t (o % prI t)
theorem prI_rev:∀ l:List Int,prI l.reverse=prI l
  |[]=>rfl
  |d::t=>by rw [List.reverse_cons,prI_app,prI_rev t,prI,prI,prI,Int.mul_one,Int.mul_comm]
theorem digR_app:∀ (l:List Int) (d o:Int),(∀ x∈l,1≤x)→0≤o→digR (l++[d]) o=digR l o++[(o / prI l).tmod d]
  |[],d,o,_,h=>by simp [digR,prI]
  |x::l,d,o,hl,h=>by
   have hx:=hl x (by simp)
   have h1:o.tdiv x=o / x:=Int.tdiv_eq_ediv_of_nonneg h
   have h2:0≤o / x:=Int.ediv_nonneg h (by omega)
   rw [List.cons_append,digR,digR,List.cons_append,h1,digR_app l d _ (fun y hy=>hl y (by simp [hy])) h2,prI,Int.ediv_ediv_of_nonneg (by omega)]
theorem digR_mod:∀ (l:List Int) (o:Int),(∀ x∈l,1≤x)→0≤o→digR l (o % prI l)=digR l o
  |[],_,_,_=>rfl
  |x::l,o,hl,h=>by
   have hx:=hl x (by simp)
   have ht:∀ y∈l,1≤y:=fun y hy=>hl y (by simp [hy])
   have hp:=prI_pos ht
   have h0:0≤o % (x*prI l):=Int.emod_nonneg _ (by have:=Int.mul_pos (show 0<x by omega) (show 0<prI l by omega);omega)
   rw [prI,digR,digR,Int.tmod_eq_emod_of_nonneg h0,Int.tmod_eq_emod_of_nonneg h,Int.tdiv_eq_ediv_of_nonneg h0,Int.tdiv_eq_ediv_of_nonneg h,Int.emod_emod_of_dvd o ⟨prI l,rfl⟩]
   have e:o % (x*prI l) / x=(o / x) % prI l:=by
     have h1:=Int.emod_add_mul_ediv o (x*prI l)
     have h2:=Int.emod_add_mul_ediv (o / x) (prI l)
     rw [Int.ediv_ediv_of_nonneg (by omega)] at h2
     have h3:o=o % (x*prI l)+x*(prI l*(o / (x*prI l))):=by rw [←Int.mul_assoc];omega
     have h4:o / x=o % (x*prI l) / x+prI l*(o / (x*prI l)):=by
       conv=>lhs;rw [h3]
       rw [Int.add_mul_ediv_left _ _ (by omega)]
     omega
   rw [e,digR_mod l _ ht (Int.ediv_nonneg h (by omega))]
theorem dig_eq:∀ (d:List Int) (o:Int),(∀ x∈d,1≤x)→0≤o→o<prI d→(digR d.reverse o).reverse=digF d o
  |[],_,_,_,_=>rfl
  |d::t,o,hl,h,hb=>by
   have hd:=hl d (by simp)
   have ht:∀ y∈t,1≤y:=fun y hy=>hl y (by simp [hy])
   have hr:∀ y∈t.reverse,1≤y:=fun y hy=>ht y (List.mem_reverse.1 hy)
   have hp:=prI_pos ht
   have h1:0≤o / prI t:=Int.ediv_nonneg h (by omega)
   have h2:o / prI t<d:=Int.ediv_lt_of_lt_mul (by omega) hb
   rw [List.reverse_cons,digR_app _ _ _ hr h,List.reverse_append,prI_rev]
   have e:digR t.reverse o=digR t.reverse (o % prI t):=by
     have:=digR_mod t.reverse o hr h
     rw [prI_rev] at this;exact this.symm
   rw [e,digF,List.reverse_cons,List.reverse_nil,List.nil_append,List.singleton_append,Int.tmod_eq_emod_of_nonneg h1,Int.emod_eq_of_lt h1 h2,
    dig_eq t _ ht (Int.emod_nonneg _ (by omega)) (Int.emod_lt_of_pos _ (by omega))]
theorem digF_len:∀ (d:List Int) (o:Int),(digF d o).length=d.length
  |[],_=>rfl
  |_::t,o=>by simp [digF,digF_len t]
theorem atS_dig:∀ (d:List Int) (o k:Int),(∀ x∈d,1≤x)→0≤o→o<prI d→atS d (digF d o) k=some (k*prI d+o)
  |[],o,k,_,h,hb=>by simp only [prI] at hb;simp only [digF,atS,prI];congr 1;omega
  |d::t,o,k,hl,h,hb=>by
   have hd:=hl d (by simp)
   have ht:∀ y∈t,1≤y:=fun y hy=>hl y (by simp [hy])
   have hp:=prI_pos ht
   have h1:0≤o / prI t:=Int.ediv_nonneg h (by omega)
   have h2:o / prI t<d:=Int.ediv_lt_of_lt_mul (by omega) hb
   rw [digF,atS,if_neg (by omega),atS_dig t _ _ ht (Int.emod_nonneg _ (by omega)) (Int.emod_lt_of_pos _ (by omega))]
   congr 1
   have e:=Int.emod_add_mul_ediv o (prI t)
   rw [Int.add_mul,prI,←Int.mul_assoc,Int.mul_comm (o / prI t)]
   omega
theorem idx_ok {d:List Int} {n p:Int} (hS:sizeS d=(n,0)) (h:0≤p) (hb:p<n):idxS d p=(digF d p,0)∧(∀ x∈d,1≤x)∧n=prI d:=by
  have hn:=(sizeS_ok hS).2.2.1
  have hp:=dims_pos hS h hb
  refine ⟨?_,hp,hn⟩
  unfold idxS
  rw [hS]
  simp only
  rw [if_neg (by simp),if_neg (by omega),dig_eq d p hp h (by omega)]
def chunk (a:Arr) (c:List Int) (k:Nat):Arr:=⟨a.e,c,(a.x.drop (k*(prI c).toNat)).take (prI c).toNat⟩
theorem nat_mul {k:Nat} {m:Int} (h:0≤m):((k:Int)*m).toNat=k*m.toNat:=by
  obtain ⟨p,rfl⟩:∃ p:Nat,m=p:=⟨m.toNat,by omega⟩
  rw [←Int.natCast_mul];rfl
theorem chunk_ok {a:Arr} {f c:List Int} {n k:Nat} (h0:ofE a=0) (hd:a.d=f++c) (hf:sizeS f=((n:Int),0)) (hk:k<n):ofE (chunk a c k)=0∧0≤prI c:=by
  obtain ⟨_,hp,hn⟩:=idx_ok hf (p:=(k:Int)) (by omega) (by omega)
  obtain ⟨_,q2,_,_,_,q6⟩:=cell_ok (k:=k) h0 hd hp (by omega) (by omega)
  rw [nat_mul q2] at q6
  exact ⟨q6,q2⟩
theorem chunk_cell {a:Arr} {r:Int} {f c:List Int} {n k:Nat} (hS:splitS a r=(f,c,0)) (hf:sizeS f=((n:Int),0)) (hk:k<n):cellS a r (idxS f k).1=(chunk a c k,0):=by
  obtain ⟨h0,hd,_,_⟩:=splitS_inv hS
  obtain ⟨e,hp,hn⟩:=idx_ok hf (p:=(k:Int)) (by omega) (by omega)
  have hc:=(chunk_ok h0 hd hf hk).2
  unfold cellS
  rw [hS,e]
  simp only
  rw [if_neg (by simp),if_neg (by simp [digF_len]),atS_dig f _ _ hp (by omega) (by omega)]
  simp only [Int.zero_mul,Int.zero_add]
  rw [nat_mul hc]
  rfl
end Go.Proofs.YtcpjahmajkhchaaGreat

namespace Go.Proofs.YtcpjahmajkhchaaGreat
open Go Go.Fw
set_option maxRecDepth 20000
theorem jnG_ok {sm:Arr} {m:Int} (hm:sizeS sm.d=(m,0)):∀ (L:List Arr) (acc w:List Int),jnG sm L acc=(w,0)→(∀ c∈L,ofE c=0)→
    (w.length:Int)=acc.length+L.length*m∧∀ n∈w,n∈acc∨vld sm.e n=true
  |[],acc,w,h,_=>by
   cases h
   exact ⟨by simp,fun n hn=> .inl hn⟩
  |c::t,acc,w,h,hv=>by
   unfold jnG at h
   split at h
   ·cases h
   rename_i q1
   split at h
   ·cases h
   rename_i q2
   obtain ⟨r1,r2⟩:=jnG_ok hm t (acc++c.x) w h (fun a ha=>hv a (by simp [ha]))
   obtain ⟨_,s2,s3⟩:=ofE_inv (hv c (by simp))
   have hd:c.d=sm.d:=by simpa using q2
   have he:eqS c.e sm.e=true:=by simpa using q1
   rw [hd,hm] at s2
   cases s2
   refine ⟨by rw [r1,List.length_append,List.length_cons];push_cast;rw [Int.add_mul];omega,fun n hn=>?_⟩
   rcases r2 n hn with h'|h'
   ·rcases List.mem_append.1 h' with h'|h'
    ·exact .inl h'
    ·refine .inr ?_
     have hb: ¬ (!vld c.e n)=true:=fun hb=>by
       have:bad c=true:=List.any_eq_true.2 ⟨n,h',hb⟩
       rw [s3] at this;cases this
     rw [eqS_iff.1 he] at hb
     simpa using hb
   ·exact .inr h'
theorem join_of {fr:List Int} {L:List Arr} {sm:Arr} {w:List Int} {n2:Int} (hs:ofE sm=0) (hf:sizeS fr=((L.length:Int),0)) (hL:∀ c∈L,ofE c=0) (hj:jnG sm L []=(w,0)) (h2:sizeS (fr++sm.d)=(n2,0)):
    ofS ⟨sm.e,fr++sm.d,w⟩=(⟨sm.e,fr++sm.d,w⟩,0):=by
  obtain ⟨t1,t2,t3⟩:=ofE_inv hs
  obtain ⟨r1,r2⟩:=jnG_ok t2 L [] w hj hL
  have e1:=(sizeS_ok h2).2.2.1
  rw [prI_app,←(sizeS_ok hf).2.2.1,←(sizeS_ok t2).2.2.1] at e1
  have h0:ofE ⟨sm.e,fr++sm.d,w⟩=0:=by
    unfold ofE
    rw [if_neg (by have:=t1;unfold tyOk at this;show ¬ (eqS sm.e sInt||eqS sm.e sBool)=false;unfold sInt sBool;rw [this];decide)]
    simp only [h2]
    rw [if_neg (by simp),if_neg (by rw [r1,e1];simp),if_neg]
    intro hb
    obtain ⟨n,hn,hb⟩:=List.any_eq_true.1 hb
    rcases r2 n hn with h'|h'
    ·cases h'
    ·rw [h'] at hb;cases hb
  unfold ofS
  rw [if_pos h0]
theorem joinS_inv {fr:List Int} {L:List Arr} {sm a:Arr} (h:joinS fr L sm=(a,0)):
    ofE sm=0∧(∀ c∈L,ofE c=0)∧sizeS fr=((L.length:Int),0)∧jnG sm L []=(a.x,0)∧a=⟨sm.e,fr++sm.d,a.x⟩∧ofE a=0:=by
  unfold joinS at h
  split at h
  ·cases h
  rename_i h1
  simp only [Bool.or_eq_true,not_or,Bool.not_eq_true,Bool.not_eq_false',beq_iff_eq] at h1
  split at h
  ·rename_i h2;exact absurd (congrArg Prod.snd h) h2
  rename_i h2
  split at h
  ·cases h
  rename_i h3
  split at h
  ·rename_i h4;exact absurd (congrArg Prod.snd h) h4
  rename_i h4
  split at h
  ·rename_i h5;exact absurd (congrArg Prod.snd h) h5
  rename_i h5
  have hval:∀ c∈L,ofE c=0:=fun c hcm=>by
    have hv:invA c=false:=by
      cases h:invA c with
      |false=>rfl
      |true=>exact absurd (List.any_eq_true.2 ⟨_,hcm,h⟩) (by rw [h1.2];decide)
    simpa [invA] using hv
  have e2:(sizeS fr).2=0:=by simpa using h2
  have e3:(L.length:Int)=(sizeS fr).1:=by simpa using h3
  have e4:(jnG sm L []).2=0:=by simpa using h4
  have e5:(sizeS (fr++sm.d)).2=0:=by simpa using h5
  have hof:=join_of (fr:=fr) (L:=L) (sm:=sm) (w:=(jnG sm L []).1) (n2:=(sizeS (fr++sm.d)).1) h1.1 (by rw [e3,←e2]) hval (by rw [←e4]) (by rw [←e5])
  have h0:ofE ⟨sm.e,fr++sm.d,(jnG sm L []).1⟩=0:=by rw [←ofS_snd,hof]
  have ha:=congrArg Prod.fst h
  simp only at ha
  subst ha
  exact ⟨h1.1,hval,by rw [e3,←e2],by rw [←e4],rfl,h0⟩
theorem jnG_pre {sm:Arr}:∀ (L:List Arr) (acc w:List Int),jnG sm L acc=(w,0)→∃ v,w=acc++v
  |[],acc,w,h=>by cases h;exact ⟨[],by simp⟩
  |c::t,acc,w,h=>by
   rw [jnG] at h
   split at h
   ·cases h
   split at h
   ·cases h
   obtain ⟨v,rfl⟩:=jnG_pre t (acc++c.x) w h
   exact ⟨c.x++v,by rw [List.append_assoc]⟩
theorem jnG_same {sm:Arr}:∀ (L:List Arr) (acc w:List Int),jnG sm L acc=(w,0)→∀ c∈L,c.e=sm.e∧c.d=sm.d∧True
  |[],_,_,_,c,hc=>by cases hc
  |c::t,acc,w,h,x,hx=>by
   rw [jnG] at h
   split at h
   ·cases h
   rename_i h1
   split at h
   ·cases h
   rename_i h2
   rcases List.mem_cons.1 hx with rfl|hx
   ·exact ⟨eqS_iff.1 (by simpa using h1),by simpa using h2,trivial⟩
   ·exact jnG_same t _ w h x hx
theorem jnG_parts {sm:Arr} {m:Nat}:∀ (L:List Arr) (acc w:List Int),jnG sm L acc=(w,0)→(∀ c∈L,c.x.length=m)→
    (∀ c∈L,c.e=sm.e∧c.d=sm.d)∧w.length=acc.length+L.length*m∧∀ k,k<L.length→(w.drop (acc.length+k*m)).take m=(L.getD k nilA).x
  |[],acc,w,h,_=>by cases h;exact ⟨by simp,by simp,fun k hk=>absurd hk (by simp)⟩
  |c::t,acc,w,h,hm=>by
   rw [jnG] at h
   split at h
   ·cases h
   rename_i h1
   split at h
   ·cases h
   rename_i h2
   have hc:c.e=sm.e∧c.d=sm.d:=⟨eqS_iff.1 (by simpa using h1),by simpa using h2⟩
   have hcm:=hm c (by simp)
   obtain ⟨r1,r2,r3⟩:=jnG_parts t (acc++c.x) w h fun x hx=>hm x (by simp [hx])
   have hlen:(acc++c.x).length=acc.length+m:=by rw [List.length_append,hcm]
   refine ⟨fun x hx=>?_,?_,fun k hk=>?_⟩
   ·rcases List.mem_cons.1 hx with rfl|hx
    ·exact hc
    ·exact r1 x hx
   ·rw [r2,hlen,List.length_cons,Nat.succ_mul];omega
   ·rcases k with _|k
    ·simp only [Nat.zero_mul,Nat.add_zero,List.getD_cons_zero]
     obtain ⟨v,hv⟩:=jnG_pre t (acc++c.x) w h
     rw [hv,List.append_assoc,List.drop_left,List.take_append_of_le_length (by omega),←hcm,List.take_length]
    ·have:=r3 k (by simpa using hk)
     rw [hlen] at this
     rw [List.getD_cons_succ,←this,Nat.succ_mul]
     congr 2;omega
theorem join_cell {fr:List Int} {L:List Arr} {sm a:Arr} (h:joinS fr L sm=(a,0)) {k:Nat} (hk:k<L.length):
    cellS a (sm.d.length:Int) (idxS fr (k:Int)).1=(L.getD k nilA,0):=by
  obtain ⟨h1,h2,h3,h4,h5,h6⟩:=joinS_inv h
  obtain ⟨t1,t2,t3⟩:=ofE_inv h1
  have hs:=sizeS_ok t2
  have hm:∀ c∈L,c.x.length=(prI sm.d).toNat:=by
    intro c hc
    obtain ⟨q1,q2, -⟩:=jnG_same L [] a.x h4 c hc
    have:=(ofE_inv (h2 c hc)).2.1
    rw [q2] at this
    have e:=(sizeS_ok this).2.2.1
    omega
  obtain ⟨p1,p2,p3⟩:=jnG_parts L [] a.x h4 hm
  have hS:splitS a (sm.d.length:Int)=(fr,sm.d,0):=by
    unfold splitS
    have hd:a.d=fr++sm.d:=by rw [h5]
    rw [if_neg (by simpa using h6),if_neg (by rw [hd,List.length_append];omega),hd,List.length_append]
    have e:fr.length+sm.d.length - ((sm.d.length:Int)).toNat=fr.length:=by omega
    rw [e,List.take_left,List.drop_left]
  rw [chunk_cell hS h3 hk]
  have hp:=p3 k hk
  have hke:=p1 (L.getD k nilA) (getD_mem nilA hk)
  refine congrArg (·,(0:Int)) ?_
  unfold chunk
  rw [List.length_nil,Nat.zero_add] at hp
  rw [hp]
  generalize L.getD k nilA=c at hke
  obtain ⟨ce,cd,cx⟩:=c
  obtain ⟨rfl,rfl⟩:=hke
  rw [h5]
theorem digF_in:∀ (d:List Int) (o:Int),(∀ x∈d,1≤x)→0≤o→o<prI d→∀ j,j<d.length→0≤(digF d o).getD j 0∧(digF d o).getD j 0<d.getD j 0
  |[],_,_,_,_,j,h=>absurd h (by simp)
  |d::t,o,hl,h,hb,j,hj=>by
   have ht:∀ y∈t,1≤y:=fun y hy=>hl y (by simp [hy])
   have hp:=prI_pos ht
   have h1:0≤o / prI t:=Int.ediv_nonneg h (by omega)
   have h2:o / prI t<d:=Int.ediv_lt_of_lt_mul (by omega) hb
   rcases j with _|j
   ·exact ⟨h1,h2⟩
   ·exact digF_in t _ ht (Int.emod_nonneg _ (by omega)) (Int.emod_lt_of_pos _ (by omega)) j (by simpa using hj)
theorem atS_in:∀ (f o:List Int) (k:Int),o.length=f.length→(∀ x∈f,1≤x)→(∀ j,j<f.length→0≤o.getD j 0∧o.getD j 0<f.getD j 0)→∃ m,atS f o k=some m∧k*prI f≤m∧m<(k+1)*prI f
  |[],o,k,_,_,_=>by cases o<;>exact ⟨k,rfl,by simp [prI],by simp [prI];omega⟩
  |d::f,[],_,h,_,_=>by simp at h
  |d::f,n::o,k,h,hf,hr=>by
   have h0:=hr 0 (by simp)
   simp only [List.getD_cons_zero] at h0
   have hft:∀ x∈f,1≤x:=fun x hx=>hf x (by simp [hx])
   have hp:=prI_pos hft
   obtain ⟨m,h1,h2,h3⟩:=atS_in f o (k*d+n) (by simpa using h) hft fun j hj=>by
     have:=hr (j+1) (by simpa using hj)
     simpa using this
   refine ⟨m,by rw [atS,if_neg (by omega)];exact h1,?_,?_⟩
   ·have:k*d*prI f≤(k*d+n)*prI f:=Int.mul_le_mul_of_nonneg_right (by omega) (by omega)
    rw [prI,←Int.mul_assoc];omega
   ·have:(k*d+n+1)*prI f≤((k+1)*d)*prI f:=Int.mul_le_mul_of_nonneg_right (by rw [Int.add_mul];omega) (by omega)
    rw [prI,←Int.mul_assoc];omega
theorem own_cell {fr ax ix:List Int} {r:Int} {a:Arr} (hc:checkS fr ax r a=0) (hl:ix.length=fr.length) (hp:∀ x∈fr,1≤x) (hi:∀ j,j<fr.length→0≤ix.getD j 0∧ix.getD j 0<fr.getD j 0):
    ∃ y b,pickS ix ax=some y∧cellS a r y=(b,0)∧ofE b=0∧b.e=a.e∧(b.d.length:Int)=r∧0≤r∧b.d=a.d.drop (a.d.length - r.toNat):=by
  unfold checkS at hc
  cases hP:pickS fr ax with
  |none=>rw [hP] at hc;cases hc
  |some own=>
   rw [hP] at hc
   simp only at hc
   split at hc
   ·cases hc
   rename_i h1
   split at hc
   ·cases hc
   rename_i h2
   split at hc
   ·cases hc
   rename_i h3
   have h0:ofE a=0:=by simpa using h1
   have hr0:0≤r:=by omega
   have hrl:(a.d.length:Int)=r+ax.length:=by omega
   have hown:a.d.take ax.length=own:=by simpa using h3
   unfold pickS at hP
   split at hP
   rotate_left
   ·cases hP
   rename_i haxp
   cases hP
   have haxp':axP ix.length ax:=by rw [hl];exact haxp
   have hcount:a.d.length - r.toNat=ax.length:=by omega
   have hS:splitS a r=(pickM fr ax,a.d.drop (a.d.length - r.toNat),0):=by
     unfold splitS
     rw [if_neg h1,if_neg (by omega),hcount,hown]
   have hfm:∀ x∈pickM fr ax,1≤x:=by
     intro x hx
     obtain ⟨q,hq,rfl⟩:=List.mem_map.1 hx
     obtain ⟨i,hi',rfl⟩:=List.mem_iff_getElem.1 hq
     have:=axOk_in (haxp i hi')
     rw [show ax.getD i 0=ax[i] by simp [List.getD,hi']] at this
     exact hp _ (by rw [List.getD_eq_getElem?_getD,List.getElem?_eq_getElem (by omega)];exact List.getElem_mem (by omega))
   have hin:∀ j,j<(pickM fr ax).length→0≤(pickM ix ax).getD j 0∧(pickM ix ax).getD j 0<(pickM fr ax).getD j 0:=by
     intro j hj
     rw [pickM_len] at hj
     have:=axOk_in (haxp j hj)
     have e1:∀ l:List Int,(pickM l ax).getD j 0=l.getD (ax.getD j 0).toNat 0:=fun l=>by simp [pickM,List.getD,hj]
     rw [e1,e1]
     exact hi _ (by omega)
   obtain ⟨m,m1,m2,m3⟩:=atS_in (pickM fr ax) (pickM ix ax) 0 (by rw [pickM_len,pickM_len]) hfm hin
   have hd:a.d=pickM fr ax++a.d.drop (a.d.length - r.toNat):=by
     conv=>lhs;rw [←List.take_append_drop (a.d.length - r.toNat) a.d]
     rw [hcount,hown]
   obtain ⟨_,q2,q3,q4,_,q6⟩:=cell_ok (k:=m) h0 hd hfm (by omega) (by omega)
   refine ⟨pickM ix ax,_,by unfold pickS;rw [if_pos haxp'],?_,q6,rfl,?_,hr0,rfl⟩
   ·unfold cellS
    rw [hS]
    simp only
    rw [if_neg (by simp),if_neg (by simp [pickM_len]),m1]
   ·show ((a.d.drop (a.d.length - r.toNat)).length:Int)=r
    rw [List.length_drop];omega
theorem chkG_at {fr:List Int}:∀ (axs:List (List Int)) (rs:List Int) (l:List Arr),chkG fr axs rs l=0→axs.length=l.length→rs.length=l.length→∀ j,j<l.length→checkS fr (axs.getD j []) (rs.getD j 0) (l.getD j nilA)=0
  |[],_,l,_,h1,_,j,hj=>by rw [←h1] at hj;simp at hj
  |_::_,[],l,_,_,h2,j,hj=>by rw [←h2] at hj;simp at hj
  |_::_,_::_,[],_,_,_,j,hj=>by simp at hj
  |ax::axs,r::rs,a::l,h,h1,h2,j,hj=>by
   rw [chkG] at h
   split at h
   ·rename_i hn;exact absurd h hn
   rename_i hn
   rcases j with _|j
   ·simpa using hn
   ·exact chkG_at axs rs l h (by simpa using h1) (by simpa using h2) j (by simpa using hj)
theorem chkS_inv {fr:List Int} {axs:List (List Int)} {rs:List Int} {l:List Arr} (h:chkS fr axs rs l=0):(sizeS fr).2=0∧axs.length=l.length∧rs.length=l.length∧∀ j,j<l.length→checkS fr (axs.getD j []) (rs.getD j 0) (l.getD j nilA)=0:=by
  unfold chkS at h
  split at h
  ·cases h
  rename_i h1
  split at h
  ·cases h
  rename_i h2
  have e1:(sizeS fr).2=0:=by simpa using h2
  have e2:axs.length=l.length:=Decidable.byContradiction fun e=>h1 (.inr (.inl e))
  have e3:rs.length=l.length:=Decidable.byContradiction fun e=>h1 (.inr (.inr e))
  exact ⟨e1,e2,e3,chkG_at axs rs l h e2 e3⟩
end Go.Proofs.YtcpjahmajkhchaaGreat

namespace Go.Proofs.YtcpjahmajkhchaaGreat
open Go Go.Fw
set_option maxRecDepth 20000
def rksK (op:ByteArray) (n:Int):Kd→List Int×Bool
  |.prim=>fixS (List.replicate (nps op) 0) n
  |.struc=>St.ranksI op n
  |.fold=>fixS [0,1] n
  |.scan=>fixS [1] n
  |.const=>fixS [] n
  |.size=>fixS [] n
def rksS (op:ByteArray) (n:Int):List Int×Bool:=match kindS op with
  |some k=>rksK op n k
  |none=>([],false)
theorem con59V {op:ByteArray} {n:Int}:St.con59.c [.lit (.string op),.lit (.int .i64 n)]=some (True,rkV (St.ranksQ op n)):=rfl
theorem con99V {op:ByteArray} {n:Int}:St.con99.c [.lit (.string op),.lit (.int .i64 n)]=some (n≤1000000,rkV (St.ranksI op n)):=rfl
theorem con59g:St.con59.f=59:=rfl
theorem con99g:St.con99.f=99:=rfl
theorem con117V {op:ByteArray} {n:Int} {l:List Int}:con117.c [.lit (.string op),.lit (.int .i64 n),.sref (.sl false 1 (ints .i64 l)) 0]=some (True,rkV (fixS l n)):=by rw [con117_c,kOf_ints];rfl
attribute [go_sem] con59V con99V con59g con99g con117V rkV
noncomputable def MR1:Env:=envJ (P:=Tryz.prog) jkK zer (fun _=>false) (fun _=>false) [con51,con96,con117,St.con99] []
theorem MR1_ok:EnvOk Tryz.prog MR1:=envJOk zer_ok
theorem rk_of {x:AV} {b:Bool} {r:List Int} {p:List Int×Bool} (hx:slK .i64 x=some r) (h:p=(r,b)):LeA (.tup [x,.lit (.bool b)]) (rkV p):=by
  subst h
  exact LeA.tup ⟨slK_le hx,LeA.refl _,trivial⟩
set_option maxHeartbeats 8000000 in
theorem ranks_pc {op:ByteArray} {n:Int} (hn:n≤1000000):PC Tryz.prog 36 [.lit (.string op),.lit (.int .i64 n)] (rkV (rksS op n)):=by
  generalize hR:rksS op n=R
  unfold rksS at hR
  cases hk:kindS op with
  |none=>
   rw [hk] at hR
   refine pcR MR1_ok (kp36) Tryz.func36 [.tmp 4,.tmp 5] (h:=fun KF=>?_)
   unfold MR1
   repeat' (first
    |(with_reducible first|refine nx ?_|refine t_seq fun K=>?_|refine t_br (fun hc=>?_) fun hc=>?_|refine t_bx ?_|apply And.intro|intro vr)
    |((with_reducible first|refine ny ?_|refine t_dwh (h:=fun K KL=>?_));intros;simp only [go_sem,kp36,geff,hk,fdV,Bool.not_false]))
   all_goals try exact nd
   all_goals (refine nl ?_;simp only [go_sem])
   exact rk_of rfl hR.symm
  |some k=>
   rw [hk] at hR
   simp only at hR
   subst hR
   cases k<;>simp only [rksK]
   ·skip
    refine pcR MR1_ok (kp36) Tryz.func36 [.tmp 4,.tmp 5] (h:=fun KF=>?_)
    unfold MR1
    repeat' (first
     |(with_reducible first|refine nx ?_|refine t_seq fun K=>?_|refine t_br (fun hc=>?_) fun hc=>?_|refine t_bx ?_|apply And.intro|intro vr)
     |((with_reducible first|refine ny ?_|refine t_dwh (h:=fun K KL=>?_));intros;simp only [go_sem,kp36,geff,hk,fdV,kdV,Bool.not_true]))
    all_goals try exact nd
    all_goals (refine nl ?_;simp only [go_sem])
    exact LeA.refl _
   ·skip
    refine pcR MR1_ok (kp36) Tryz.func36 [.tmp 4,.tmp 5] (h:=fun KF=>?_)
    unfold MR1
    repeat' (first
     |(with_reducible first|refine nx ?_|refine t_seq fun K=>?_|refine t_br (fun hc=>?_) fun hc=>?_|refine t_bx ?_|apply And.intro|intro vr)
     |((with_reducible first|refine ny ?_|refine t_dwh (h:=fun K KL=>?_));intros;simp only [go_sem,kp36,geff,hk,fdV,kdV,Bool.not_true]))
    all_goals try exact nd
    all_goals (refine nl ?_;simp only [go_sem])
    exact LeA.refl _
   ·skip
    refine pcR MR1_ok (kp36) Tryz.func36 [.tmp 4,.tmp 5] (h:=fun KF=>?_)
    unfold MR1
    repeat' (first
     |(with_reducible first|refine nx ?_|refine t_seq fun K=>?_|refine t_br (fun hc=>?_) fun hc=>?_|refine t_bx ?_|apply And.intro|intro vr)
     |((with_reducible first|refine ny ?_|refine t_dwh (h:=fun K KL=>?_));intros;simp only [go_sem,kp36,geff,hk,fdV,kdV,Bool.not_true,fixV]))
    all_goals try exact nd
    all_goals (refine nl ?_;simp only [go_sem])
    exact LeA.refl _
   ·skip
    refine pcR MR1_ok (kp36) Tryz.func36 [.tmp 4,.tmp 5] (h:=fun KF=>?_)
    unfold MR1
    repeat' (first
     |(with_reducible first|refine nx ?_|refine t_seq fun K=>?_|refine t_br (fun hc=>?_) fun hc=>?_|refine t_bx ?_|apply And.intro|intro vr)
     |((with_reducible first|refine ny ?_|refine t_dwh (h:=fun K KL=>?_));intros;simp only [go_sem,kp36,geff,hk,fdV,kdV,Bool.not_true,fixV]))
    all_goals try exact nd
    all_goals (refine nl ?_;simp only [go_sem])
    exact LeA.refl _
   ·skip
    refine pcR MR1_ok (kp36) Tryz.func36 [.tmp 4,.tmp 5] (h:=fun KF=>?_)
    unfold MR1
    repeat' (first
     |(with_reducible first|refine nx ?_|refine t_seq fun K=>?_|refine t_br (fun hc=>?_) fun hc=>?_|refine t_bx ?_|apply And.intro|intro vr)
     |((with_reducible first|refine ny ?_|refine t_dwh (h:=fun K KL=>?_));intros;simp only [go_sem,kp36,geff,hk,fdV,kdV,Bool.not_true,fixV]))
    all_goals try exact nd
    all_goals (refine nl ?_;simp only [go_sem])
    exact LeA.refl _
   ·skip
    refine pcR MR1_ok (kp36) Tryz.func36 [.tmp 4,.tmp 5] (h:=fun KF=>?_)
    unfold MR1
    repeat' (first
     |(with_reducible first|refine nx ?_|refine t_seq fun K=>?_|refine t_br (fun hc=>?_) fun hc=>?_|refine t_bx ?_|apply And.intro|intro vr)
     |((with_reducible first|refine ny ?_|refine t_dwh (h:=fun K KL=>?_));intros;simp only [go_sem,kp36,geff,hk,fdV,kdV,Bool.not_true,fixV]))
    all_goals try exact nd
    all_goals (refine nl ?_;simp only [go_sem])
    exact LeA.refl _
def rksR (op:ByteArray) (n:Int):List Int×Bool:=
  if eqS op sConst=true then ([],n==0) else if eqS op sSize=true then ([],n==0)
  else if eqS op sFold=true then (if n=2 then ([0,1],true) else ([],false))
  else if eqS op sScan=true then (if n=1 then ([1],true) else ([],false))
  else match El.typesS op with
    |some r=>if n=(r.ps.length:Int) then (List.replicate r.ps.length 0,true) else ([],false)
    |none=>St.ranksQ op n
noncomputable def MR2:Env:=envJ (P:=Tryz.prog) jkK zer (fun _=>false) (fun _=>false) [El.con44,St.con59] []
theorem MR2_ok:EnvOk Tryz.prog MR2:=envJOk zer_ok
set_option maxHeartbeats 8000000 in
theorem rranks_pc {op:ByteArray} {n:Int}:PC Tryz.prog 29 [.lit (.string op),.lit (.int .i64 n)] (rkV (rksR op n)):=by
  generalize hR:rksR op n=R
  unfold rksR at hR
  cases h1:eqS op sConst with
  |true=>
   have h1':eqS op ⟨#[99,111,110,115,116]⟩=true:=h1
   rw [if_pos h1] at hR
   refine pcR MR2_ok (kp29) Tryz.func29 [.tmp 4,.tmp 5] (h:=fun KF=>?_)
   unfold MR2
   repeat' (first
    |(with_reducible first|refine nx ?_|refine t_seq fun K=>?_|refine t_br (fun hc=>?_) fun hc=>?_|refine t_bx ?_|apply And.intro|intro vr)
    |((with_reducible first|refine ny ?_|refine t_dwh (h:=fun K KL=>?_));intros;simp only [go_sem,kp29,geff,h1']))
   all_goals try exact nd
   all_goals (refine nl ?_;simp only [go_sem])
   exact rk_of rfl hR.symm
  |false=>
  have h1':eqS op ⟨#[99,111,110,115,116]⟩=false:=h1
  rw [if_neg (by rw [h1];decide)] at hR
  cases h2:eqS op sSize with
  |true=>
   have h2':eqS op ⟨#[115,105,122,101]⟩=true:=h2
   rw [if_pos h2] at hR
   refine pcR MR2_ok (kp29) Tryz.func29 [.tmp 4,.tmp 5] (h:=fun KF=>?_)
   unfold MR2
   repeat' (first
    |(with_reducible first|refine nx ?_|refine t_seq fun K=>?_|refine t_br (fun hc=>?_) fun hc=>?_|refine t_bx ?_|apply And.intro|intro vr)
    |((with_reducible first|refine ny ?_|refine t_dwh (h:=fun K KL=>?_));intros;simp only [go_sem,kp29,geff,h1',h2']))
   all_goals try exact nd
   all_goals (refine nl ?_;simp only [go_sem])
   exact rk_of rfl hR.symm
  |false=>
  have h2':eqS op ⟨#[115,105,122,101]⟩=false:=h2
  rw [if_neg (by rw [h2];decide)] at hR
  cases h3:eqS op sFold with
  |true=>
   have h3':eqS op ⟨#[102,111,108,100]⟩=true:=h3
   rw [if_pos h3] at hR
   refine pcR MR2_ok (kp29) Tryz.func29 [.tmp 4,.tmp 5] (h:=fun KF=>?_)
   unfold MR2
   repeat' (first
    |(with_reducible first|refine nx ?_|refine t_seq fun K=>?_|refine t_br (fun hc=>?_) fun hc=>?_|refine t_bx ?_|apply And.intro|intro vr)
    |((with_reducible first|refine ny ?_|refine t_dwh (h:=fun K KL=>?_));intros;simp only [go_sem,kp29,geff,h1',h2',h3']))
   all_goals try exact nd
   all_goals (refine nl ?_;simp only [go_sem])
   all_goals refine rk_of (by first|exact slK_two|rfl) ?_
   all_goals rw [←hR]
   all_goals (first|rw [if_pos (by simpa using hc)]|rw [if_neg (by simpa using hc)])
  |false=>
  have h3':eqS op ⟨#[102,111,108,100]⟩=false:=h3
  rw [if_neg (by rw [h3];decide)] at hR
  cases h4:eqS op sScan with
  |true=>
   have h4':eqS op ⟨#[115,99,97,110]⟩=true:=h4
   rw [if_pos h4] at hR
   refine pcR MR2_ok (kp29) Tryz.func29 [.tmp 4,.tmp 5] (h:=fun KF=>?_)
   unfold MR2
   repeat' (first
    |(with_reducible first|refine nx ?_|refine t_seq fun K=>?_|refine t_br (fun hc=>?_) fun hc=>?_|refine t_bx ?_|apply And.intro|intro vr)
    |((with_reducible first|refine ny ?_|refine t_dwh (h:=fun K KL=>?_));intros;simp only [go_sem,kp29,geff,h1',h2',h3',h4']))
   all_goals try exact nd
   all_goals (refine nl ?_;simp only [go_sem])
   all_goals refine rk_of (by first|exact slK_one|rfl) ?_
   all_goals rw [←hR]
   all_goals (first|rw [if_pos (by simpa using hc)]|rw [if_neg (by simpa using hc)])
  |false=>
  have h4':eqS op ⟨#[115,99,97,110]⟩=false:=h4
  rw [if_neg (by rw [h4];decide)] at hR
  cases hT:El.typesS op with
  |none=>
   rw [hT] at hR
   subst hR
   refine pcR MR2_ok (kp29) Tryz.func29 [.tmp 4,.tmp 5] (h:=fun KF=>?_)
   unfold MR2
   repeat' (first
    |(with_reducible first|refine nx ?_|refine t_seq fun K=>?_|refine t_br (fun hc=>?_) fun hc=>?_|refine t_bx ?_|apply And.intro|intro vr)
    |((with_reducible first|refine ny ?_|refine t_dwh (h:=fun K KL=>?_));intros;simp only [go_sem,kp29,geff,h1',h2',h3',h4',hT]))
   all_goals try exact nd
   all_goals (refine nl ?_;simp only [go_sem])
   exact LeA.refl _
  |some r=>
   rw [hT] at hR
   simp only at hR
   have hr:=types_len hT
   by_cases hn:n=(r.ps.length:Int)
   ·rw [if_pos hn] at hR
    subst hn
    subst hR
    refine pcR MR2_ok (kp29) Tryz.func29 [.tmp 4,.tmp 5] (h:=fun KF=>?_)
    unfold MR2
    repeat' (first
     |(with_reducible first|refine nx ?_|refine t_seq fun K=>?_|refine t_br (fun hc=>?_) fun hc=>?_|refine t_bx ?_|apply And.intro|intro vr)
     |((with_reducible first|refine ny ?_|refine t_dwh (h:=fun K KL=>?_));intros;simp only [go_sem,kp29,geff,h1',h2',h3',h4',hT,strs_length,beq_self_eq_true,rep_ints,Int.toNat_natCast]))
    all_goals try exact nd
    all_goals (refine nl ?_;simp only [go_sem])
    exact rk_of slK_sl rfl
   ·rw [if_neg hn] at hR
    have hn':(n==(r.ps.length:Int))=false:=beq_eq_false_iff_ne.2 hn
    refine pcR MR2_ok (kp29) Tryz.func29 [.tmp 4,.tmp 5] (h:=fun KF=>?_)
    unfold MR2
    repeat' (first
     |(with_reducible first|refine nx ?_|refine t_seq fun K=>?_|refine t_br (fun hc=>?_) fun hc=>?_|refine t_bx ?_|apply And.intro|intro vr)
     |((with_reducible first|refine ny ?_|refine t_dwh (h:=fun K KL=>?_));intros;simp only [go_sem,kp29,geff,h1',h2',h3',h4',hT,strs_length,hn']))
    all_goals try exact nd
    all_goals (refine nl ?_;simp only [go_sem])
    exact rk_of rfl hR.symm
noncomputable def con29:PCon Tryz.prog where
  f:=29
  c:=fun
   |[.lit (.string op),.lit (.int .i64 n)]=>some (True,rkV (rksR op n))
   |_=>none
  ok:=by
   intro args p r hc hp
   split at hc
   ·cases hc;exact rranks_pc
   ·cases hc
  fk:=fk29
theorem con29_f:con29.f=29:=rfl
theorem con29_c {op:ByteArray} {n:Int}:con29.c [.lit (.string op),.lit (.int .i64 n)]=some (True,rkV (rksR op n)):=rfl
attribute [go_sem] con29_f con29_c
theorem opI_notS {op:ByteArray} (h:isS op=false):St.opI op=13:=by
  simp only [isS,opNames,List.any_cons,List.any_nil,Bool.or_false,Bool.or_eq_false_iff] at h
  obtain ⟨q0,q1,q2,q3,q4,q5,q6,q7,q8,q9,q10,q11,q12⟩:=h
  rw [eqS_symm] at q0 q1 q2 q3 q4 q5 q6 q7 q8 q9 q10 q11 q12
  exact St.opI_no ⟨q0,q1,q2,q3,q4,q5,q6,q7,q8,q9,q10,q11,q12⟩
theorem ranks_same {op:ByteArray} {n:Int} (h0:0≤n) (hn:n≤4096):rksR op n=rksS op n:=by
  unfold rksR
  by_cases h1:eqS op sConst=true
  ·rw [if_pos h1,eqS_iff.1 h1]
   show _=fixS [] n
   unfold fixS
   by_cases hz:n=0
   ·subst hz;rfl
   ·rw [if_neg (by simpa using hz),beq_eq_false_iff_ne.2 hz]
  rw [if_neg h1]
  by_cases h2:eqS op sSize=true
  ·rw [if_pos h2,eqS_iff.1 h2]
   show _=fixS [] n
   unfold fixS
   by_cases hz:n=0
   ·subst hz;rfl
   ·rw [if_neg (by simpa using hz),beq_eq_false_iff_ne.2 hz]
  rw [if_neg h2]
  by_cases h3:eqS op sFold=true
  ·rw [if_pos h3,eqS_iff.1 h3];rfl
  rw [if_neg h3]
  by_cases h4:eqS op sScan=true
  ·rw [if_pos h4,eqS_iff.1 h4];rfl
  rw [if_neg h4]
  unfold rksS kindS
  cases hT:El.typesS op with
  |some r=>
   simp only [Option.isSome_some,if_true]
   show _=fixS (List.replicate (nps op) 0) n
   unfold nps fixS
   rw [hT]
   simp only [List.length_replicate]
  |none=>
   simp only [Option.isSome_none,Bool.false_eq_true,if_false,h1,h2,h3,h4]
   cases hs:isS op with
   |true=>exact St.ranks_eq h0 hn
   |false=>
    simp only [Bool.false_eq_true,if_false]
    unfold St.ranksQ
    rw [opI_notS hs];rfl
end Go.Proofs.YtcpjahmajkhchaaGreat

namespace Go.Proofs.YtcpjahmajkhchaaGreat.St
open Go.Proofs.YtcpjahmajkhchaaGreat
open Go Go.Fw
set_option maxRecDepth 20000
set_option maxRecDepth 20000
def elemS (op:ByteArray) (ns:List Int) (num:Int) (cs:List Arr) (ix:List Int):Int:=
  let a:=cs.getD 0 nilA
  match opI op with
  |0=>ix.getD 0 0
  |1=>a.x.getD 0 0
  |2=>a.x.getD (ix.getD 0 0).toNat 0
  |3=>a.x.getD (ns.getD 0 0+ix.getD 0 0).toNat 0
  |4=>a.x.getD ((a.x.length:Int) - 1 - ix.getD 0 0).toNat 0
  |5=>if ix.getD 0 0<a.x.length then a.x.getD (ix.getD 0 0).toNat 0 else (cs.getD 1 nilA).x.getD (ix.getD 0 0 - a.x.length).toNat 0
  |6=>a.x.getD (ix.getD 1 0*a.d.getD 1 0+ix.getD 0 0).toNat 0
  |7=>a.x.getD (ix.getD 0 0*a.d.getD 1 0+ix.getD 0 0).toNat 0
  |8=>a.x.getD (ix.getD 0 0+ix.getD 1 0).toNat 0
  |9=>a.x.getD (ix.getD 0 0*num+ix.getD 1 0).toNat 0
  |_=>(cs.getD (ix.getD 0 0).toNat nilA).x.getD 0 0
end Go.Proofs.YtcpjahmajkhchaaGreat.St

namespace Go.Proofs.YtcpjahmajkhchaaGreat.St
open Go.Proofs.YtcpjahmajkhchaaGreat
open Go Go.Fw
set_option maxRecDepth 20000
set_option maxRecDepth 20000
end Go.Proofs.YtcpjahmajkhchaaGreat.St

namespace Go.Proofs.YtcpjahmajkhchaaGreat.St
open Go.Proofs.YtcpjahmajkhchaaGreat
open Go Go.Fw
set_option maxRecDepth 20000
def allV (e:ByteArray) (x:List Int):Prop:=∀ n∈x,vld e n=true
theorem val_allV {a:Arr} (h:ofE a=0):allV a.e a.x:=by
  have hb:=(ofE_inv h).2.2
  intro n hn
  unfold bad at hb
  rw [List.any_eq_false] at hb
  simpa using hb n hn
theorem of_ok {e:ByteArray} {d x:List Int} (ht:tyOk e=true) (hs:(sizeS d).2=0) (hl:(x.length:Int)=(sizeS d).1) (hv:allV e x):ofE ⟨e,d,x⟩=0:=by
  unfold ofE
  rw [if_neg (by unfold tyOk at ht;simp only;rw [show (eqS e sInt||eqS e sBool)=true from ht];simp),if_neg (by simpa using hs),if_neg (by simpa using hl),if_neg]
  simp only
  intro h
  rw [List.any_eq_true] at h
  obtain ⟨n,hn,h2⟩:=h
  rw [hv n hn] at h2
  cases h2
theorem res_el {op el:ByteArray} {l:List ByteArray} (h:resultS op l=(el,true)):(∀ t∈sameS op l,t=el)∧(sameS op l=[]→el=sInt):=by
  unfold resultS at h
  by_cases h1:(ranksI op l.length).2=false∨l.any noEl=true
  ·rw [if_pos h1] at h;cases h
  rw [if_neg h1] at h
  by_cases h2:selS op=true∧eqS (l.getD 1 ByteArray.empty) sInt=false
  ·rw [if_pos h2] at h;cases h
  rw [if_neg h2] at h
  by_cases h3:sameS op l=[]
  ·rw [if_pos h3] at h
   injection h with h _
   exact ⟨fun t ht=>(by rw [h3] at ht;cases ht),fun _=>h.symm⟩
  rw [if_neg h3] at h
  by_cases h4:((sameS op l).any fun t=> !eqS t ((sameS op l).getD 0 ByteArray.empty))=true
  ·rw [if_pos h4] at h;cases h
  rw [if_neg h4] at h
  injection h with h _
  refine ⟨fun t ht=>?_,fun e=>absurd e h3⟩
  rw [←h]
  have:=List.any_eq_false.1 (Bool.eq_false_iff.2 h4) t ht
  exact eqS_iff.1 (by simpa using this)
theorem gat_all {e:Ent} {k:Int} {out:List Int} {a:Arr} {el:ByteArray} (h:gatP e k out a) (hv:allV el a.x):allV el (gatherS (e.from_.getD 0) k out a (sizeS out).1.toNat):=by
  obtain ⟨g,hg, -, -, -, -,hp⟩:=h
  intro n hn
  unfold gatherS at hn
  obtain ⟨j,hj,rfl⟩:=List.mem_map.1 hn
  rw [List.mem_range] at hj
  obtain ⟨-, -,h0,h1⟩:=hp j (by omega)
  rw [hg,Option.getD_some]
  generalize fromS g k a.d (digF out j)=m at h0 h1
  apply hv
  rw [List.getD_eq_getElem?_getD,List.getElem?_eq_getElem (by omega:m.toNat<a.x.length)]
  exact List.getElem_mem (by omega:m.toNat<a.x.length)
theorem gat_get {g:Nat} {k:Int} {out:List Int} {a:Arr} {n:Int} {p:Nat} (h:(p:Int)<n):(gatherS g k out a n.toNat).getD p 0=a.x.getD (fromS g k a.d (digF out p)).toNat 0:=by
  unfold gatherS
  rw [List.getD_eq_getElem?_getD,List.getElem?_map,List.getElem?_range (by omega)]
  rfl
theorem ty_of {a:Arr} (h:ofE a=0):tyOk a.e=true:=(ofE_inv h).1
theorem vld0 {e:ByteArray} (h:tyOk e=true):vld e 0=true:=by
  unfold tyOk at h
  rw [Bool.or_eq_true] at h
  rcases h with h|h
  ·rw [eqS_iff.1 h];rfl
  ·rw [eqS_iff.1 h];rfl
theorem rangeS_get {n p:Nat} (h:p<n):(rangeS n).getD p 0=p:=by
  unfold rangeS
  rw [List.getD_eq_getElem?_getD,List.getElem?_map,List.getElem?_range h];rfl
theorem app_get {x y:List Int} {p:Nat}:(x++y).getD p 0=if (p:Int)<x.length then x.getD p 0 else y.getD ((p:Int) - x.length).toNat 0:=by
  simp only [List.getD_eq_getElem?_getD]
  split
  ·rw [List.getElem?_append_left (by omega)]
  ·rw [List.getElem?_append_right (by omega),show ((p:Int) - x.length).toNat=p - x.length by omega]
theorem ones_get:∀ {cs:List Arr} {p:Nat},(∀ a∈cs,a.x.length=1)→(cs.flatMap (·.x)).getD p 0=(cs.getD p nilA).x.getD 0 0
  |[],p,_=>by simp [nilA]
  |a::t,p,h=>by
   have h1:=h a (by simp)
   match hx:a.x,h1 with
   |[v],_=>
    cases p with
    |zero=>simp [hx]
    |succ p=>
     have:=ones_get (cs:=t) (p:=p) fun b hb=>h b (by simp [hb])
     simp only [List.flatMap_cons,hx,List.singleton_append,List.getD_cons_succ,this]
theorem ones_len:∀ {cs:List Arr},(∀ a∈cs,a.x.length=1)→(cs.flatMap (·.x)).length=cs.length
  |[],_=>rfl
  |a::t,h=>by
   have:=ones_len (cs:=t) fun b hb=>h b (by simp [hb])
   have:=h a (by simp)
   simp only [List.flatMap_cons,List.length_append,List.length_cons];omega
theorem gatherS_lenI {g:Nat} {k:Int} {out:List Int} {a:Arr} {n:Int} (h:0≤n):((gatherS g k out a n.toNat).length:Int)=n:=by rw [gatherS_len];omega
set_option maxHeartbeats 2000000 in
theorem data_ok {op el:ByteArray} {ns:List Int} {num:Int} {cs:List Arr} {d:List Int} {e:Ent} (hs:Shp op ns num (cs.map Arr.d) d) (hv:∀ a∈cs,ofE a=0) (hd:(sizeS d).2=0) (hg:givenS op ns.length num cs.length=(e,0))
    (hr:resultS op (cs.map (·.e))=(el,true)):tyOk el=true∧((dataS op (sizeK ns num) d cs (e.from_.getD 0)).1.length:Int)=(sizeS d).1∧allV el (dataS op (sizeK ns num) d cs (e.from_.getD 0)).1∧
      (selS op=false→(dataS op (sizeK ns num) d cs (e.from_.getD 0)).2=false∧∀ p:Nat,(p:Int)<(sizeS d).1→elemS op ns num cs (digF d p)=(dataS op (sizeK ns num) d cs (e.from_.getD 0)).1.getD p 0)∧
      (selS op=true→d=if eqS op n_index=true then [] else (cs.getD 0 nilA).d):=by
  obtain ⟨h1,h2⟩:=res_el hr
  have hcl:=cls_of hs hv hd hg
  have hS0:=(sizeS_bd d).1
  obtain ⟨-,hdm,hN,hN2⟩:=sizeS_ok (d:=d) (n:=(sizeS d).1) (Prod.ext rfl hd)
  generalize hds:cs.map Arr.d=ds at hs
  cases hs with
  |iota k hk=>
   obtain rfl:=map0 hds
   obtain rfl:=h2 rfl
   have e1:dataS n_iota (sizeK [k] 0) [k] [] (e.from_.getD 0)=(rangeS k.toNat,false):=rfl
   have hk1:=hk.1
   have hk2:=hk.2
   rw [prI,prI,Int.mul_one] at hN
   rw [e1]
   refine ⟨rfl,by rw [rangeS_len];omega,?_,fun _=>⟨rfl,fun p hp=>?_⟩,fun h=>by cases h⟩
   ·intro n hn
    unfold rangeS at hn
    obtain ⟨j,hj,rfl⟩:=List.mem_map.1 hn
    rw [List.mem_range] at hj
    unfold vld
    rw [if_pos (show eqS sInt sInt=true from rfl)]
    exact decide_eq_true (by omega)
   ·rw [dig1,rangeS_get (by omega)];rfl
  |fill k hk=>
   obtain ⟨a,rfl,ha⟩:=map1 hds
   have hva:=hv a (by simp)
   obtain rfl:a.e=el:=h1 a.e (by show a.e∈[a.e];simp)
   cases hcl with
   |iota _ q=>cases q
   |join _ q=>cases q
   |pick _ _ _ q=>cases q
   |move _ _ _ _ _ hgt=>
    obtain rfl:=giv_f hg (show findS n_fill _=(ents.getD 1 ent0,true) from rfl)
    have e1:∀ D:List Int,dataS n_fill (sizeK [k] 0) D [a] (((ents.getD 1 ent0)).from_.getD 0)=(gatherS 135 (sizeK [k] 0) D a (sizeS D).1.toNat,false):=fun _=>rfl
    rw [e1]
    refine ⟨ty_of hva,gatherS_lenI hS0,gat_all hgt (val_allV hva),fun _=>⟨rfl,fun p hp=>?_⟩,fun h=>by cases h⟩
    simp only
    rw [gat_get hp]
    rfl
  |take k n hk hn hkn=>
   obtain ⟨a,rfl,ha⟩:=map1 hds
   have hva:=hv a (by simp)
   obtain rfl:a.e=el:=h1 a.e (by show a.e∈[a.e];simp)
   cases hcl with
   |iota _ q=>cases q
   |join _ q=>cases q
   |pick _ _ _ q=>cases q
   |move _ _ _ _ _ hgt=>
    obtain rfl:=giv_f hg (show findS n_take _=(ents.getD 2 ent0,true) from rfl)
    have e1:∀ D:List Int,dataS n_take (sizeK [k] 0) D [a] (((ents.getD 2 ent0)).from_.getD 0)=(gatherS 138 (sizeK [k] 0) D a (sizeS D).1.toNat,false):=fun _=>rfl
    rw [e1]
    refine ⟨ty_of hva,gatherS_lenI hS0,gat_all hgt (val_allV hva),fun _=>⟨rfl,fun p hp=>?_⟩,fun h=>by cases h⟩
    simp only
    rw [gat_get hp]
    rw [dig1];rfl
  |drop k n hk hn hkn=>
   obtain ⟨a,rfl,ha⟩:=map1 hds
   have hva:=hv a (by simp)
   obtain rfl:a.e=el:=h1 a.e (by show a.e∈[a.e];simp)
   cases hcl with
   |iota _ q=>cases q
   |join _ q=>cases q
   |pick _ _ _ q=>cases q
   |move _ _ _ _ _ hgt=>
    obtain rfl:=giv_f hg (show findS n_drop _=(ents.getD 3 ent0,true) from rfl)
    have e1:∀ D:List Int,dataS n_drop (sizeK [k] 0) D [a] (((ents.getD 3 ent0)).from_.getD 0)=(gatherS 140 (sizeK [k] 0) D a (sizeS D).1.toNat,false):=fun _=>rfl
    rw [e1]
    refine ⟨ty_of hva,gatherS_lenI hS0,gat_all hgt (val_allV hva),fun _=>⟨rfl,fun p hp=>?_⟩,fun h=>by cases h⟩
    simp only
    rw [gat_get hp]
    rw [dig1];show a.x.getD (k+(p:Int)).toNat 0=a.x.getD ((p:Int)+k).toNat 0;rw [Int.add_comm]
  |reverse n hn=>
   obtain ⟨a,rfl,ha⟩:=map1 hds
   have hva:=hv a (by simp)
   obtain rfl:a.e=el:=h1 a.e (by show a.e∈[a.e];simp)
   cases hcl with
   |iota _ q=>cases q
   |join _ q=>cases q
   |pick _ _ _ q=>cases q
   |move _ _ _ _ _ hgt=>
    obtain rfl:=giv_f hg (show findS n_reverse _=(ents.getD 4 ent0,true) from rfl)
    have e1:∀ D:List Int,dataS n_reverse (sizeK [] 0) D [a] (((ents.getD 4 ent0)).from_.getD 0)=(gatherS 142 (sizeK [] 0) D a (sizeS D).1.toNat,false):=fun _=>rfl
    rw [e1]
    refine ⟨ty_of hva,gatherS_lenI hS0,gat_all hgt (val_allV hva),fun _=>⟨rfl,fun p hp=>?_⟩,fun h=>by cases h⟩
    simp only
    rw [gat_get hp]
    rw [dig1,ha];show a.x.getD ((a.x.length:Int) - 1 - (p:Int)).toNat 0=a.x.getD (n - 1 - (p:Int)).toNat 0;rw [val_len1 hva ha]
  |append m n hm hn=>
   obtain ⟨a,b,rfl,ha,hb⟩:=map2 hds
   have hva:=hv a (by simp)
   have hvb:=hv b (by simp)
   obtain rfl:a.e=el:=h1 a.e (by show a.e∈[a.e,b.e];simp)
   have hbe:b.e=a.e:=h1 b.e (by show b.e∈[a.e,b.e];simp)
   have la:=val_len1 hva ha
   have lb:=val_len1 hvb hb
   have e1:dataS n_append (sizeK [] 0) [m+n] [a,b] (e.from_.getD 0)=(a.x++b.x,false):=by show ([a,b].flatMap (·.x),false)=_;simp
   rw [prI,prI,Int.mul_one] at hN
   rw [e1]
   refine ⟨ty_of hva,by rw [List.length_append];omega,?_,fun _=>⟨rfl,fun p hp=>?_⟩,fun h=>by cases h⟩
   ·intro v hm
    rcases List.mem_append.1 hm with h|h
    ·exact val_allV hva v h
    ·have:=val_allV hvb v h
     rwa [hbe] at this
   ·rw [dig1]
    simp only
    rw [app_get]
    rfl
  |transpose m n hm hn=>
   obtain ⟨a,rfl,ha⟩:=map1 hds
   have hva:=hv a (by simp)
   obtain rfl:a.e=el:=h1 a.e (by show a.e∈[a.e];simp)
   cases hcl with
   |iota _ q=>cases q
   |join _ q=>cases q
   |pick _ _ _ q=>cases q
   |move _ _ _ _ _ hgt=>
    obtain rfl:=giv_f hg (show findS n_transpose _=(ents.getD 6 ent0,true) from rfl)
    have e1:∀ D:List Int,dataS n_transpose (sizeK [] 0) D [a] (((ents.getD 6 ent0)).from_.getD 0)=(gatherS 145 (sizeK [] 0) D a (sizeS D).1.toNat,false):=fun _=>rfl
    rw [e1]
    refine ⟨ty_of hva,gatherS_lenI hS0,gat_all hgt (val_allV hva),fun _=>⟨rfl,fun p hp=>?_⟩,fun h=>by cases h⟩
    simp only
    rw [gat_get hp]
    rw [dig2];rfl
  |diagonal n hn=>
   obtain ⟨a,rfl,ha⟩:=map1 hds
   have hva:=hv a (by simp)
   obtain rfl:a.e=el:=h1 a.e (by show a.e∈[a.e];simp)
   cases hcl with
   |iota _ q=>cases q
   |join _ q=>cases q
   |pick _ _ _ q=>cases q
   |move _ _ _ _ _ hgt=>
    obtain rfl:=giv_f hg (show findS n_diagonal _=(ents.getD 7 ent0,true) from rfl)
    have e1:∀ D:List Int,dataS n_diagonal (sizeK [] 0) D [a] (((ents.getD 7 ent0)).from_.getD 0)=(gatherS 147 (sizeK [] 0) D a (sizeS D).1.toNat,false):=fun _=>rfl
    rw [e1]
    refine ⟨ty_of hva,gatherS_lenI hS0,gat_all hgt (val_allV hva),fun _=>⟨rfl,fun p hp=>?_⟩,fun h=>by cases h⟩
    simp only
    rw [gat_get hp]
    rw [dig1];rfl
  |windows k n hk hn hkn=>
   obtain ⟨a,rfl,ha⟩:=map1 hds
   have hva:=hv a (by simp)
   obtain rfl:a.e=el:=h1 a.e (by show a.e∈[a.e];simp)
   cases hcl with
   |iota _ q=>cases q
   |join _ q=>cases q
   |pick _ _ _ q=>cases q
   |move _ _ _ _ _ hgt=>
    obtain rfl:=giv_f hg (show findS n_windows _=(ents.getD 8 ent0,true) from rfl)
    have e1:∀ D:List Int,dataS n_windows (sizeK [k] 0) D [a] (((ents.getD 8 ent0)).from_.getD 0)=(gatherS 149 (sizeK [k] 0) D a (sizeS D).1.toNat,false):=fun _=>rfl
    rw [e1]
    refine ⟨ty_of hva,gatherS_lenI hS0,gat_all hgt (val_allV hva),fun _=>⟨rfl,fun p hp=>?_⟩,fun h=>by cases h⟩
    simp only
    rw [gat_get hp]
    rw [dig2];rfl
  |chunk c q hc1 hc2 hq hn=>
   obtain ⟨a,rfl,ha⟩:=map1 hds
   have hva:=hv a (by simp)
   obtain rfl:a.e=el:=h1 a.e (by show a.e∈[a.e];simp)
   cases hcl with
   |iota _ q=>cases q
   |join _ q=>cases q
   |pick _ _ _ q=>cases q
   |move _ _ _ _ _ hgt=>
    obtain rfl:=giv_f hg (show findS n_chunk _=(ents.getD 9 ent0,true) from rfl)
    have e1:∀ D:List Int,dataS n_chunk (sizeK [] num) D [a] (((ents.getD 9 ent0)).from_.getD 0)=(gatherS 151 (sizeK [] num) D a (sizeS D).1.toNat,false):=fun _=>rfl
    rw [e1]
    refine ⟨ty_of hva,gatherS_lenI hS0,gat_all hgt (val_allV hva),fun _=>⟨rfl,fun p hp=>?_⟩,fun h=>by cases h⟩
    simp only
    rw [gat_get hp]
    rw [dig2];rfl
  |index n hn=>
   obtain ⟨a,b,rfl,ha,hb⟩:=map2 hds
   have hva:=hv a (by simp)
   obtain rfl:a.e=el:=h1 a.e (by show a.e∈[a.e];simp)
   have e1:dataS n_index (sizeK [] 0) [] [a,b] (e.from_.getD 0)=checkedS n_index [a,b]:=rfl
   rw [prI] at hN
   rw [e1]
   refine ⟨ty_of hva,?_,?_,fun h=>(by cases h),fun _=>rfl⟩
   ·unfold checkedS
    simp only
    split
    ·simp;omega
    ·rw [if_pos (show eqS n_index n_index=true from rfl)];simp;omega
   ·unfold checkedS
    simp only [List.getD_cons_zero,List.getD_cons_succ]
    split
    ·intro v hv
     rw [List.mem_singleton] at hv;subst hv
     exact vld0 (ty_of hva)
    ·rename_i hno
     rw [if_pos (show eqS n_index n_index=true from rfl)]
     intro v hv
     rw [List.mem_singleton] at hv;subst hv
     have ho:outS a b=false:=by
       cases h:outS a b with
       |false=>rfl
       |true=>exact absurd (by rw [h];rfl) hno
     unfold outS at ho
     rw [Bool.or_eq_false_iff,decide_eq_false_iff_not,decide_eq_false_iff_not] at ho
     have hlt:(b.x.getD 0 0).toNat<a.x.length:=by omega
     apply val_allV hva
     generalize (b.x.getD 0 0).toNat=j at hlt
     rw [List.getD_eq_getElem?_getD,List.getElem?_eq_getElem hlt]
     exact List.getElem_mem hlt
  |update n hn=>
   obtain ⟨a,b,c,rfl,ha,hb,hc⟩:=map3 hds
   have hva:=hv a (by simp)
   have hvc:=hv c (by simp)
   obtain rfl:a.e=el:=h1 a.e (by show a.e∈[a.e,c.e];simp)
   have hce:c.e=a.e:=h1 c.e (by show c.e∈[a.e,c.e];simp)
   have la:=val_len1 hva ha
   have lc:=val_len0 hvc hc
   have e1:dataS n_update (sizeK [] 0) [n] [a,b,c] (e.from_.getD 0)=checkedS n_update [a,b,c]:=rfl
   rw [prI,prI,Int.mul_one] at hN
   rw [e1]
   have e2:checkedS n_update [a,b,c]=if outS a b=true then (a.x,true) else (a.x.set (b.x.getD 0 0).toNat (c.x.getD 0 0),false):=rfl
   rw [e2]
   refine ⟨ty_of hva,?_,?_,fun h=>(by cases h),fun _=>by rw [if_neg (by decide)];simp [ha]⟩
   ·split
    ·simp only;omega
    ·simp only [List.length_set];omega
   ·split
    ·exact val_allV hva
    ·intro v hv
     rcases List.mem_or_eq_of_mem_set hv with h|h
     ·exact val_allV hva v h
     ·subst h
      match hx:c.x,lc with
      |[w],_=>
       have:=val_allV hvc w (by rw [hx];simp)
       rw [hce] at this
       simpa using this
  |pack m hm1 hm2=>
   have hlen:cs.length=m:=by have:=congrArg List.length hds;simpa using this
   have hone:∀ a∈cs,a.x.length=1:=fun a ha=>by
     have:a.d∈cs.map Arr.d:=List.mem_map_of_mem ha
     rw [hds] at this
     exact val_len0 (hv a ha) (List.eq_of_mem_replicate this)
   have hel:∀ a∈cs,a.e=el:=fun a ha=>h1 a.e (by show a.e∈cs.map (·.e);exact List.mem_map_of_mem ha)
   have h0:cs.getD 0 nilA∈cs:=by rw [List.getD_eq_getElem?_getD,List.getElem?_eq_getElem (by omega)];exact List.getElem_mem (by omega)
   have e1:dataS n_pack (sizeK [] 0) [(m:Int)] cs (e.from_.getD 0)=(cs.flatMap (·.x),false):=rfl
   rw [prI,prI,Int.mul_one] at hN
   rw [e1]
   refine ⟨?_,by simp only;rw [ones_len hone];omega,?_,fun _=>⟨rfl,fun p hp=>?_⟩,fun h=>by cases h⟩
   ·rw [←hel _ h0];exact ty_of (hv _ h0)
   ·intro v hm
    obtain ⟨a,ha,hm⟩:=List.mem_flatMap.1 hm
    rw [←hel a ha]
    exact val_allV (hv a ha) v hm
   ·rw [dig1]
    simp only
    rw [ones_get hone]
    rfl
end Go.Proofs.YtcpjahmajkhchaaGreat.St

namespace Go.Proofs.YtcpjahmajkhchaaGreat.St
open Go.Proofs.YtcpjahmajkhchaaGreat
open Go Go.Fw
set_option maxRecDepth 20000
set_option maxRecDepth 20000
end Go.Proofs.YtcpjahmajkhchaaGreat.St

namespace Go.Proofs.YtcpjahmajkhchaaGreat.St
open Go.Proofs.YtcpjahmajkhchaaGreat
open Go Go.Fw
set_option maxRecDepth 20000
theorem val_of {cs:List Arr} (h:cs.all valA=true):∀ a∈cs,ofE a=0:=fun a ha=>by
  rw [List.all_eq_true] at h
  exact beq_iff_eq.1 (h a ha)
structure AppI (op:ByteArray) (ns:List Int) (num:Int) (cs:List Arr) (R:Arr×Bool×Int):Prop where
  ok:R.2.2=0
  val:ofE R.1=0
  res:resultS op (cs.map (·.e))=(R.1.e,true)
  dim:dimsI op ns num (cs.map (·.d))=(R.1.d,0)
  all:∀ a∈cs,ofE a=0
  shp:Shp op ns num (cs.map (·.d)) R.1.d
  giv:(givenS op ns.length num cs.length).2=0
  x:R.1.x=(dataS op (sizeK ns num) R.1.d cs ((givenS op ns.length num cs.length).1.from_.getD 0)).1
  b:R.2.1=(dataS op (sizeK ns num) R.1.d cs ((givenS op ns.length num cs.length).1.from_.getD 0)).2
theorem app_inv (op:ByteArray) (ns:List Int) (num:Int) (cs:List Arr):
    ((applyS op ns num cs).2.2≠0∧(applyS op ns num cs).1=nilA∧(applyS op ns num cs).2.1=false)∨AppI op ns num cs (applyS op ns num cs):=by
  generalize hR:applyS op ns num cs=R
  unfold applyS at hR
  by_cases h0:(givenS op ns.length num cs.length).2=0
  ·rw [if_neg (by simpa using h0)] at hR
   cases hA:cs.all valA with
   |false=>rw [if_pos hA] at hR;subst hR;exact .inl ⟨by decide,rfl,rfl⟩
   |true=>
    rw [if_neg (by rw [hA];simp)] at hR
    have hv:=val_of hA
    unfold applyT at hR
    cases hq:(resultS op (cs.map (·.e))).2 with
    |false=>rw [if_pos hq] at hR;subst hR;exact .inl ⟨by decide,rfl,rfl⟩
    |true=>
     rw [if_neg (by rw [hq];simp)] at hR
     by_cases hd:(dimsI op ns num (cs.map (·.d))).2=0
     ·rw [if_neg (by simpa using hd)] at hR
      right
      have hD:dimsI op ns num (cs.map (·.d))=((dimsI op ns num (cs.map (·.d))).1,0):=Prod.ext rfl hd
      have hQ:resultS op (cs.map (·.e))=((resultS op (cs.map (·.e))).1,true):=Prod.ext rfl hq
      have hG:givenS op ns.length num cs.length=((givenS op ns.length num cs.length).1,0):=Prod.ext rfl h0
      obtain ⟨s1,s2, -, -⟩:=shp_of hD
      obtain ⟨t1,t2,t3, -, -⟩:=data_ok s1 hv s2 hG hQ
      subst hR
      exact ⟨rfl,of_ok t1 s2 t2 t3,hQ,hD,hv,s1,h0,rfl,rfl⟩
     ·rw [if_pos (by simpa using hd)] at hR;subst hR;exact .inl ⟨hd,rfl,rfl⟩
  ·rw [if_pos (by simpa using h0)] at hR;subst hR;exact .inl ⟨h0,rfl,rfl⟩
theorem app_okA (op:ByteArray) (ns:List Int) (num:Int) (cs:List Arr):okA (applyS op ns num cs).1:=by
  rcases app_inv op ns num cs with ⟨_,h,_⟩|h
  ·rw [h];exact ⟨by simp [nilA],by simp [nilA]⟩
  ·have h1:=(ofE_inv h.val).2.1
   have h2:=sizeS_ok h1
   exact ⟨by omega,by omega⟩
end Go.Proofs.YtcpjahmajkhchaaGreat.St

namespace Go.Proofs.YtcpjahmajkhchaaGreat
open Go Go.Fw
set_option maxRecDepth 20000
noncomputable def con54:PCon Tryz.prog where
  f:=54
  c:=fun
   |[xfr]=>match slK .i64 xfr with|some fr=>some (fr.length≤1000000,inV (indicesS fr))|_=>none
   |_=>none
  ok:=by
   intro args p r hc hp
   split at hc
   ·split at hc
    ·rename_i hfr
     cases hc
     exact PC.weak (indices_pc hp) ⟨slK_le hfr,trivial⟩
    ·cases hc
   ·cases hc
  fk:=fk54
theorem con54_f:con54.f=54:=rfl
theorem con54_c {xfr:AV}:con54.c [xfr]=match slK .i64 xfr with|some fr=>some (fr.length≤1000000,inV (indicesS fr))|_=>none:=rfl
def rkF:Kd→FuncId
  |.prim=>96
  |.struc=>99
  |_=>117
def fixC (l:List Int):List AV:=[.sref (.sl false 1 (ints .i64 l)) 0]
def rkC:Kd→List AV
  |.prim=>[]
  |.struc=>[]
  |.fold=>fixC [0,1]
  |.scan=>fixC [1]
  |_=>fixC []
def hasF:Kd→FuncId
  |.prim=>95
  |.struc=>74
  |_=>125
def hasC:Kd→List AV
  |.prim=>[]
  |.struc=>[]
  |.fold=>[.sref (.lit (.string sFold)) 0]
  |.scan=>[.sref (.lit (.string sScan)) 0]
  |.const=>[.sref (.lit (.string sConst)) 0]
  |.size=>[.sref (.lit (.string sSize)) 0]
theorem kdV_gen {kd:Kd}:kdV kd= .agg [.fn (.func (hasF kd)) [] (hasC kd),.fn (.func (rkF kd)) [] (rkC kd),.fn (.func (runF kd)) [] []]:=by cases kd<;>rfl
open Classical in
noncomputable def rkCon (kd:Kd):PCon Tryz.prog where
  f:=rkF kd
  c:=fun
   |.lit (.string op):: .lit (.int .i64 n)::rest=>if rest=rkC kd then some (n≤1000000,rkV (rksK op n kd)) else none
   |_=>none
  ok:=by
   intro args p r hc hp
   split at hc
   ·split at hc
    ·rename_i h
     cases hc
     subst h
     cases kd
     ·exact zeros1_pc
     ·exact St.ranks_pc hp
     ·exact fixed1_pc
     ·exact fixed1_pc
     ·exact fixed1_pc
     ·exact fixed1_pc
    ·cases hc
   ·cases hc
  fk:=by
   cases kd
   ·exact fk96
   ·exact fk99
   ·exact fk117
   ·exact fk117
   ·exact fk117
   ·exact fk117
theorem rkCon_f {kd:Kd}:(rkCon kd).f=rkF kd:=rfl
theorem rkCon_c {kd:Kd} {op:ByteArray} {n:Int}:(rkCon kd).c (.lit (.string op):: .lit (.int .i64 n)::rkC kd)=some (n≤1000000,rkV (rksK op n kd)):=if_pos rfl
theorem rkF_51 {kd:Kd}:(rkF kd=51)=False:=by cases kd<;>simp [rkF]
theorem rkF_52 {kd:Kd}:(rkF kd=52)=False:=by cases kd<;>simp [rkF]
theorem rkF_53 {kd:Kd}:(rkF kd=53)=False:=by cases kd<;>simp [rkF]
theorem rkF_54 {kd:Kd}:(rkF kd=54)=False:=by cases kd<;>simp [rkF]
theorem rkF_55 {kd:Kd}:(rkF kd=55)=False:=by cases kd<;>simp [rkF]
theorem rkF_56 {kd:Kd}:(rkF kd=56)=False:=by cases kd<;>simp [rkF]
theorem rkF_57 {kd:Kd}:(rkF kd=57)=False:=by cases kd<;>simp [rkF]
theorem rkF_58 {kd:Kd}:(rkF kd=58)=False:=by cases kd<;>simp [rkF]
theorem runF_51 {kd:Kd}:(runF kd=51)=False:=by cases kd<;>simp [runF]
theorem runF_52 {kd:Kd}:(runF kd=52)=False:=by cases kd<;>simp [runF]
theorem runF_53 {kd:Kd}:(runF kd=53)=False:=by cases kd<;>simp [runF]
theorem runF_54 {kd:Kd}:(runF kd=54)=False:=by cases kd<;>simp [runF]
theorem runF_55 {kd:Kd}:(runF kd=55)=False:=by cases kd<;>simp [runF]
theorem runF_56 {kd:Kd}:(runF kd=56)=False:=by cases kd<;>simp [runF]
theorem runF_57 {kd:Kd}:(runF kd=57)=False:=by cases kd<;>simp [runF]
theorem runF_58 {kd:Kd}:(runF kd=58)=False:=by cases kd<;>simp [runF]
theorem runF_rk {kd:Kd}:(runF kd=rkF kd)=False:=by cases kd<;>simp [runF,rkF]
theorem rkC_cl {kd:Kd} {b:Bool} {σ:List AObj}:closeL1 b σ (rkC kd)=some (rkC kd):=by cases kd<;>simp [rkC,fixC,closeL1,close1,close0]
theorem rkC_id {kd:Kd}:(rkC kd).flatMap ids1=[]:=by cases kd<;>rfl
theorem rkC_cap {kd:Kd}:(rkC kd).all capC=true:=by cases kd<;>rfl
theorem hasC_cap {kd:Kd}:(hasC kd).all capC=true:=by cases kd<;>rfl
theorem rkC_low {kd:Kd} {m:Nat}:(rkC kd).all (low0 m)=true:=by cases kd<;>rfl
theorem hasC_low {kd:Kd} {m:Nat}:(hasC kd).all (low0 m)=true:=by cases kd<;>rfl
def ownC (ax:List (List Int)) (rk:List Int) (L:List Arr) (ix:List Int) (i:Nat):Arr:=(cellS (L.getD i nilA) (rk.getD i 0) ((pickS ix (ax.getD i [])).getD [])).1
def ownS (ax:List (List Int)) (rk:List Int) (L:List Arr) (ix:List Int) (n:Nat):List Arr:=(List.range n).map (ownC ax rk L ix)
theorem ownS_succ {ax:List (List Int)} {rk:List Int} {L:List Arr} {ix:List Int} {n:Nat}:ownS ax rk L ix (n+1)=ownS ax rk L ix n++[ownC ax rk L ix n]:=by simp [ownS,List.range_succ]
theorem ownS_len {ax:List (List Int)} {rk:List Int} {L:List Arr} {ix:List Int} {n:Nat}:(ownS ax rk L ix n).length=n:=by simp [ownS]
def goI (run:List Arr→Arr×Bool×Int) (own:List Int→List Arr):List (List Int)→List Arr→Bool→List Arr×Bool×Int
  |[],acc,v=>(acc,v,0)
  |ix::t,acc,v=>if (run (own ix)).2.2≠0 then ([],false,(run (own ix)).2.2) else goI run own t (acc++[(run (own ix)).1]) (v||(run (own ix)).2.1)
def endI (a:Arr×Int) (v:Bool):Arr×Bool×Int:=if a.2≠0 then (nilA,false,a.2) else (a.1,v,0)
def finI (run:List Arr→Arr×Bool×Int) (fr rk:List Int) (L:List Arr) (g:List Arr×Bool×Int):Arr×Bool×Int:=
  if g.2.2≠0 then (nilA,false,g.2.2)
  else if 0<g.1.length then endI (joinS fr g.1 (g.1.getD 0 nilA)) g.2.1
  else if (smpG L rk []).2≠0 then (nilA,false,(smpG L rk []).2)
  else if (run (smpG L rk []).1).2.2≠0 then (nilA,false,(run (smpG L rk []).1).2.2)
  else endI (joinS fr [] (run (smpG L rk []).1).1) g.2.1
def instrK (i:Ins) (fr sz:List Int) (L:List Arr) (kd:Kd) (rk:List Int):Arr×Bool×Int:=
  if chkS fr i.ax rk L≠0 then (nilA,false,chkS fr i.ax rk L)
  else finI (fun o=>runK i sz o kd) fr rk L (goI (fun o=>runK i sz o kd) (fun ix=>ownS i.ax rk L ix L.length) (indicesS fr).1 [] false)
def instrS (i:Ins) (fr sz:List Int) (L:List Arr):Arr×Bool×Int:=match kindS i.op with
  |none=>(nilA,false,7)
  |some kd=>if (!(rksK i.op L.length kd).2||(formedS i sz.length !=0))=true then (nilA,false,1) else instrK i fr sz L kd (rksK i.op L.length kd).1
structure okJ (i:Ins) (fr sz:List Int) (L:List Arr):Prop where
  h1:okC i.fn
  h2:okA i.arr
  h3:sz.length≤1000000
  h4:L.length≤4096
  h5:∀ a∈L,okA a
  h6:∀ x∈i.ax,x.length≤1000000
  h7:fr.length≤1000000
theorem ents_rk:∀ e∈ents,∀ r∈e.ranks,0≤r∧r≤2:=by decide
theorem findG_mem:∀ {l:List Ent} {s:ByteArray} {e:Ent},findG l s=some e→e∈l
  |[],_,_,h=>by cases h
  |e'::l,s,e,h=>by
   unfold findG at h
   split at h
   ·cases h;simp
   ·exact List.mem_cons_of_mem _ (findG_mem h)
theorem find_rk {op:ByteArray} {n:Int}:∀ r∈(findS op n).1.ranks,0≤r∧r≤2:=by
  unfold findS
  split
  ·intro r hr
   simp only [packE] at hr
   have:=List.eq_of_mem_replicate hr
   omega
  ·cases hg:findG ents op with
   |none=>intro r hr;cases hr
   |some e=>exact ents_rk e (findG_mem hg)
theorem okA_ofS' {a:Arr} (h:okA a):okA (ofS a).1:=by
  unfold ofS;split
  ·exact h
  ·exact okA_nil
theorem okA_fold' {c:List Stp} {a x:Arr}:okA (foldS c a x).1:=by
  unfold foldS
  split
  ·exact okA_nil
  ·split
   ·exact okA_nil
   ·exact okA_ofS' ⟨by simp,by simp⟩
theorem okA_scanP {c:List Stp} {x:Arr} (h:okA x):okA (scanP c x).1:=by
  unfold scanP
  split
  ·exact okA_nil
  ·split
   ·exact okA_nil
   ·exact ⟨h.1,by simp only [scanG_len,List.length_nil,Nat.zero_add];exact h.2⟩
theorem rks_small {op:ByteArray} {n:Int} {kd:Kd}:∀ r∈(rksK op n kd).1,0≤r∧r≤2:=by
  have hf:∀ l:List Int,(∀ r∈l,0≤r∧r≤2)→∀ r∈(fixS l n).1,0≤r∧r≤2:=fun l h r hr=>by
    unfold fixS at hr
    split at hr
    ·exact h r hr
    ·cases hr
  cases kd
  ·exact hf _ fun r hr=>by rw [List.eq_of_mem_replicate hr];omega
  ·intro r hr
   simp only [rksK,St.ranksI] at hr
   split at hr
   ·cases hr
   ·exact find_rk r hr
  ·exact hf _ (by decide)
  ·exact hf _ (by decide)
  ·exact hf _ (by decide)
  ·exact hf _ (by decide)
theorem okA_run {i:Ins} {sz:List Int} {L:List Arr} {kd:Kd} (h:∀ a∈L,okA a) (h2:okA i.arr) (h3:sz.length≤1000000):okA (runK i sz L kd).1:=by
  cases kd
  ·show okA (scalS i.op L).1
   unfold scalS
   split
   ·exact okA_nil
   ·exact okA_ofS' ⟨by simp,by simp⟩
  ·exact St.app_okA _ _ _ _
  ·exact okA_fold'
  ·exact okA_scanP (by
     rcases L with _|⟨a,t⟩
     ·exact okA_nil
     ·exact h a (by simp))
  ·exact okA_ofS' h2
  ·exact okA_ofS' ⟨by simp,h3⟩
end Go.Proofs.YtcpjahmajkhchaaGreat

namespace Go.Proofs.YtcpjahmajkhchaaGreat
open Go Go.Fw
set_option maxRecDepth 20000
attribute [go_sem] con53_f con53_c con54_f con54_c con55_f con55_c con56_f con56_c con57_f con57_c con52_f con52_c runCon_f runCon_c rkCon_f rkCon_c rkF_51 rkF_52 rkF_53 rkF_54 rkF_55 rkF_56 rkF_57 rkF_58 runF_51 runF_52 runF_53 runF_54 runF_55 runF_56 runF_57 runF_58 runF_rk rkC_cl rkC_id rkC_cap hasC_cap insOf_agg rkV
structure Jo (run:List Arr→Arr×Bool×Int) (own:List Int→List Arr) (ixs:List (List Int)) (G:List Arr×Bool×Int) where
  k:Nat
  v:Nat
  acc:List Arr
  vi:Bool
  hk:k≤ixs.length
  ha:acc.length=k
  ho:∀ a∈acc,okA a
  hF:goI run own (ixs.drop k) acc vi=G
noncomputable def Q1 (kd:Kd):Env:=envJ (P:=Tryz.prog) jkK zer (fun _=>false) (fun _=>false) [con51,con52,con53,con54,con55,con56,con57,con58,rkCon kd,runCon kd] []
theorem Q1_ok (kd:Kd):EnvOk Tryz.prog (Q1 kd):=envJOk zer_ok
theorem optV_some {l:List Int}:optV (some l)= .tup [.sl false 1 (ints .i64 l),.lit (.bool true)]:=rfl
theorem a3_nil {r:Arr×Bool×Int} {e:Int} (h:r=(nilA,false,e)):LeA (.tup [.agg [.lit (.string ByteArray.empty),.sl true 1 [],.sl true 1 []],.lit (.bool false),.lit (.int .i64 e)]) (a3V r):=a3_of rfl rfl h
set_option maxHeartbeats 16000000 in
theorem instr_core {op:ByteArray} {a1 a2 a4 t3:List AV} {ax:List (List Int)} {num:Int} {ae:ByteArray} {ad aX:List Int} {fn:List Stp} {ck:Int} {t1 t2:ByteArray} {fr sz:List Int} {L:List Arr} {n:Int} {kd:Kd} {rk:List Int} {R:Arr×Bool×Int}
    (hk:kindS op=some kd) (hrk:rksK op L.length kd=(rk,true)) (hf:formedS ⟨op,a1,a2,ax,a4,num,⟨ae,ad,aX⟩,fn,ck,t1,t2,t3⟩ sz.length=0) (hc:chkS fr ax rk L=0) (hS:sizeS fr=(n,0))
    (hJ:okJ ⟨op,a1,a2,ax,a4,num,⟨ae,ad,aX⟩,fn,ck,t1,t2,t3⟩ fr sz L) (o5:rk.length=L.length) (o6:ax.length=L.length) (hr:∀ r∈rk,0≤r∧r≤2)
    (hW:∀ ix∈inds fr n.toNat,∀ j,j<L.length→∃ y,pickS ix (ax.getD j [])=some y) (hQ:∀ ix∈inds fr n.toNat,runQ ⟨op,a1,a2,ax,a4,num,⟨ae,ad,aX⟩,fn,ck,t1,t2,t3⟩ sz (ownS ax rk L ix L.length) kd)
    (hZ:∀ j,j<L.length→rk.getD j 0≤((L.getD j nilA).d.length:Int)) (hQ0:n=0→(smpG L rk []).2=0→runQ ⟨op,a1,a2,ax,a4,num,⟨ae,ad,aX⟩,fn,ck,t1,t2,t3⟩ sz (smpG L rk []).1 kd)
    (hR:finI (fun o=>runK ⟨op,a1,a2,ax,a4,num,⟨ae,ad,aX⟩,fn,ck,t1,t2,t3⟩ sz o kd) fr rk L (goI (fun o=>runK ⟨op,a1,a2,ax,a4,num,⟨ae,ad,aX⟩,fn,ck,t1,t2,t3⟩ sz o kd) (fun ix=>ownS ax rk L ix L.length) (inds fr n.toNat) [] false)=R):
    PC Tryz.prog 28 [insV ⟨op,a1,a2,ax,a4,num,⟨ae,ad,aX⟩,fn,ck,t1,t2,t3⟩,.sl false 1 (ints .i64 fr),.sl false 1 (ints .i64 sz),.sl false 3 (arrs L)] (a3V R):=by
  obtain ⟨j1,j2,j3,j4,j5,j6,j7⟩:=hJ
  have hfl:=(sizeS_ok hS).1
  have hX:indicesS fr=(inds fr n.toNat,0):=by unfold indicesS;rw [hS];simp
  have hri:∀ r∈rk,inI64 r:=fun r hx=>by have:=hr r hx;unfold inI64;omega
  have j2a:okA ⟨ae,ad,aX⟩:=j2
  have e00:((0:Int) !=0)=false:=rfl
  simp only [insV]
  generalize hI:inds fr n.toNat=ixs at hX hW hQ hR
  have hil:∀ x∈ixs,x.length≤1000000:=fun x hx=>by
    rw [←hI] at hx
    obtain ⟨k,_,rfl⟩:=List.mem_map.1 hx
    unfold idxS
    split
    ·simp
    ·split
     ·simp
     ·simp [digR_len];omega
  have hxl:ixs.length=n.toNat:=by rw [←hI,inds_len]
  have hxn:ixs.length≤4096:=by rw [hxl];have:=(sizeS_ok hS).2.2.2;omega
  generalize hg:goI (fun o=>runK ⟨op,a1,a2,ax,a4,num,⟨ae,ad,aX⟩,fn,ck,t1,t2,t3⟩ sz o kd) (fun ix=>ownS ax rk L ix L.length) ixs [] false=G at hR
  have hrO:∀ ix∈ixs,okA (runK ⟨op,a1,a2,ax,a4,num,⟨ae,ad,aX⟩,fn,ck,t1,t2,t3⟩ sz (ownS ax rk L ix L.length) kd).1:=fun ix hx=>okA_run (hQ ix hx).2.2.2.2.1 j2 j3
  refine pcR (Q1_ok kd) (kp28) Tryz.func28 [.cell 8 31,.tmp 9,.tmp 10] (h:=fun KF=>?_)
  unfold Q1
  repeat' (first
   |(with_reducible first|refine nx ?_|refine t_seq fun K=>?_|refine t_br (fun hc=>?_) fun hc=>?_|refine t_bx ?_|apply And.intro|intro vr)|exact kpd
   |((with_reducible first|refine ny ?_|refine t_kLF ?_ ?_|refine t_drawE (id:=20) (fun i=>i==5) [(0,1),(1,1),(2,1),(3,1),(4,1),(5,1),(6,1),(7,1),(8,1),(9,1),(10,0),(11,0),(12,1)] (by kernel_rfl) fun K=>?_|refine t_dwh (h:=fun K KL=>?_));intros;simp only [go_sem,kp28,geff,hk,fdV,kdV_gen,hrk,hf,hc,hX,e00,arrs_length,inV,ilsl_len,Bool.not_true,Bool.not_false]))
  all_goals try (first|exact j2a.1|exact j2a.2|exact hri _ (by assumption)|exact j5 _ (by assumption)|exact j6 _ (by assumption))
  all_goals try exact nd
  refine t_loopF (ι:=Jo (fun o=>runK ⟨op,a1,a2,ax,a4,num,⟨ae,ad,aX⟩,fn,ck,t1,t2,t3⟩ sz o kd) (fun ix=>ownS ax rk L ix L.length) ixs G) (fun i=>[(79,.lit (.int .i64 i.k)),(17,.arr 3 i.v),(9,.lit (.bool i.vi))]) (fun i=>[.box 56 [.lit (.string op),.sl false 1 a1,.sl false 2 a2,.sl false 1 (ils ax),.sl false 2 a4,.lit (.int .i64 num),.lit (.string ae),.sl false 1 (ints .i64 ad),.sl false 1 (ints .i64 aX),.sl false 3 (stps fn),.lit (.int .i64 ck),.lit (.string t1),.lit (.string t2),.sl false 2 t3],.box 31 [.lit (.string ByteArray.empty),.sl true 1 [],.sl true 1 []],.box 92 [.fn (.func (hasF kd)) [] (hasC kd),.fn (.func (rkF kd)) [] (rkC kd),.fn (.func (runF kd)) [] []],.arr 31 3 (arrs i.acc) i.v false]) (fun i=>ixs.length - i.k) ⟨0,0,[],false,by omega,rfl,by simp,hg⟩ ?_ ?_
  ·refine (le_nil 17 31 3 rfl).trans ?_
   exact lf
  rintro ⟨k,v,ac,vi,hkk,hac,hao,hF⟩ K0
  rcases Nat.lt_or_ge k ixs.length with hc1|hc1
  ·rw [drop_getD [] hc1,goI] at hF
   have g3:decide ((k:Int)<(ixs.length:Int))=true:=decide_eq_true (by omega)
   have hqW:=hW _ (getD_mem [] hc1)
   have hqQ:=hQ _ (getD_mem [] hc1)
   have hqO:=hrO _ (getD_mem [] hc1)
   have hq1:=hil _ (getD_mem [] hc1)
   generalize hix:ixs.getD k []=ix at hF hqW hqQ hqO hq1
   repeat' (first
    |(with_reducible first|refine nx ?_|refine t_seq fun K=>?_|refine t_br (fun hc=>?_) fun hc=>?_|refine t_bx ?_|apply And.intro|intro vr)|exact kpd
    |((with_reducible first|refine ny ?_|refine t_kLF ?_ ?_|refine t_drawE (id:=20) (fun i=>i==5) [(0,1),(1,1),(2,1),(3,1),(4,1),(5,1),(6,1),(7,1),(8,1),(9,1),(10,0),(11,0),(12,1)] (by kernel_rfl) fun K=>?_|refine t_dwh (h:=fun K KL=>?_));intros;simp only [go_sem,kp28,geff,g3,hix,ilsl_len,Int.toNat_natCast,arrs_length]))
   all_goals try exact nd
   refine t_loopF (ι:={p:Nat×Nat // p.1≤L.length}) (fun i=>[(85,.lit (.int .i64 i.1.1)),(20,.arr 4 i.1.2)]) (fun i=>[.box 56 [.lit (.string op),.sl false 1 a1,.sl false 2 a2,.sl false 1 (ils ax),.sl false 2 a4,.lit (.int .i64 num),.lit (.string ae),.sl false 1 (ints .i64 ad),.sl false 1 (ints .i64 aX),.sl false 3 (stps fn),.lit (.int .i64 ck),.lit (.string t1),.lit (.string t2),.sl false 2 t3],.box 31 [.lit (.string ByteArray.empty),.sl true 1 [],.sl true 1 []],.box 92 [.fn (.func (hasF kd)) [] (hasC kd),.fn (.func (rkF kd)) [] (rkC kd),.fn (.func (runF kd)) [] []],.arr 31 3 (arrs ac) v false,.arr 31 3 (arrs (ownS ax rk L ix i.1.1)) i.1.2 false]) (fun i=>L.length - i.1.1) ⟨(0,0),by simp⟩ ?_ ?_
   ·refine (le_nil 20 31 3 rfl).trans ?_
    exact lf
   rintro ⟨⟨j,w⟩,hj⟩ K1
   simp only at hj
   have how:=ownS_len (ax:=ax) (rk:=rk) (L:=L) (ix:=ix) (n:=j)
   rcases Nat.lt_or_ge j L.length with hc2|hc2
   ·have g4:decide ((j:Int)<(L.length:Int))=true:=decide_eq_true (by omega)
    have hja:=j5 _ (getD_mem nilA hc2)
    have hjx:=j6 _ (getD_mem ([]:List Int) (show j<ax.length by omega))
    have hjr:=hri _ (getD_mem (0:Int) (show j<rk.length by omega))
    obtain ⟨y,hy⟩:=hqW j hc2
    have hyl:y.length≤1000000:=by
      unfold pickS at hy
      split at hy
      ·cases hy
       show (pickM ix (ax.getD j [])).length≤1000000
       unfold pickM
       rw [List.length_map];omega
      ·cases hy
    have hsu:=ownS_succ (ax:=ax) (rk:=rk) (L:=L) (ix:=ix) (n:=j)
    have hoc:ownC ax rk L ix j=(cellS (L.getD j nilA) (rk.getD j 0) y).1:=by unfold ownC;rw [hy];rfl
    rw [hoc] at hsu
    generalize hCe:cellS (L.getD j nilA) (rk.getD j 0) y=ce at hsu
    obtain ⟨⟨ce1,cd1,cx1⟩,cee⟩:=ce
    have hCe':cellS ⟨(L.getD j nilA).e,(L.getD j nilA).d,(L.getD j nilA).x⟩ (rk.getD j 0) y=(⟨ce1,cd1,cx1⟩,cee):=hCe
    simp only at hsu
    have hja':okA ⟨(L.getD j nilA).e,(L.getD j nilA).d,(L.getD j nilA).x⟩:=hja
    repeat' (first
     |(with_reducible first|refine nx ?_|refine t_seq fun K=>?_|refine t_br (fun hc=>?_) fun hc=>?_|refine t_bx ?_|apply And.intro|intro vr)|exact kpd
     |((with_reducible first|refine ny ?_|refine t_kLF ?_ ?_|refine t_drawE (id:=20) (fun i=>i==5) [(0,1),(1,1),(2,1),(3,1),(4,1),(5,1),(6,1),(7,1),(8,1),(9,1),(10,0),(11,0),(12,1)] (by kernel_rfl) fun K=>?_|refine t_dwh (h:=fun K KL=>?_));intros;simp only [go_sem,kp28,geff,g4,hy,optV_some,hCe',arrV,arrs_app',←hsu,Int.toNat_natCast,arrs_length,ilsl_len,aeV_def]))
    all_goals try (first|exact hja'.1|exact hja'.2|exact hjr)
    all_goals try exact nd
    refine ⟨⟨(j+1,w+1),by omega⟩,by show L.length - (j+1)<L.length - j;omega,?_⟩
    simp only [updL_nil,updL_cons,delF_top,delF_upd,Nat.reduceEqDiff,reduceIte]
    refine le_two (σ:=[.box 56 [.lit (.string op),.sl false 1 a1,.sl false 2 a2,.sl false 1 (ils ax),.sl false 2 a4,.lit (.int .i64 num),.lit (.string ae),.sl false 1 (ints .i64 ad),.sl false 1 (ints .i64 aX),.sl false 3 (stps fn),.lit (.int .i64 ck),.lit (.string t1),.lit (.string t2),.sl false 2 t3],.box 31 [.lit (.string ByteArray.empty),.sl true 1 [],.sl true 1 []],.box 92 [.fn (.func (hasF kd)) [] (hasC kd),.fn (.func (rkF kd)) [] (rkC kd),.fn (.func (runF kd)) [] []],.arr 31 3 (arrs ac) v false,.arr 31 3 (arrs (ownS ax rk L ix (j+1))) (w+1) false,.box 31 [.lit (.string (L.getD j nilA).e),.sl false 1 (ints .i64 (L.getD j nilA).d),.sl false 1 (ints .i64 (L.getD j nilA).x)],.box 31 [.lit (.string ce1),.sl false 1 (ints .i64 cd1),.sl false 1 (ints .i64 cx1)]]) (l:=[.box 56 [.lit (.string op),.sl false 1 a1,.sl false 2 a2,.sl false 1 (ils ax),.sl false 2 a4,.lit (.int .i64 num),.lit (.string ae),.sl false 1 (ints .i64 ad),.sl false 1 (ints .i64 aX),.sl false 3 (stps fn),.lit (.int .i64 ck),.lit (.string t1),.lit (.string t2),.sl false 2 t3],.box 31 [.lit (.string ByteArray.empty),.sl true 1 [],.sl true 1 []],.box 92 [.fn (.func (hasF kd)) [] (hasC kd),.fn (.func (rkF kd)) [] (rkC kd),.fn (.func (runF kd)) [] []],.arr 31 3 (arrs ac) v false,.arr 31 3 (arrs (ownS ax rk L ix (j+1))) (w+1) false]) (a:= .box 31 [.lit (.string (L.getD j nilA).e),.sl false 1 (ints .i64 (L.getD j nilA).d),.sl false 1 (ints .i64 (L.getD j nilA).x)]) (b:= .box 31 [.lit (.string ce1),.sl false 1 (ints .i64 cd1),.sl false 1 (ints .i64 cx1)]) rfl (Nat.zero_le _) (fun m=>by simp [lowO,low1,low0,rkC_low,hasC_low]) (fun m=>rfl) ?_ ?_
    ·intro m hm
     repeat' (first|exact low_top|(refine low_upd ?_ ?_))
     all_goals (first|rfl|(simp only [low_arr,low_ref,decide_eq_true_eq];simp at hm;omega))
    repeat' (first|exact leF_top _|exact (fun _=>LeR.refl _)|(with_reducible refine leF_sl ?_ ?_)|(refine leF_upd ?_ ?_))
    all_goals (first|exact LeR.top _|exact LeR.refl _|(refine LeR.of_eq ?_;(try simp only [go_sem]);try rfl)|((try simp only [go_sem]);try rfl))
   ·have g4:decide ((j:Int)<(L.length:Int))=false:=decide_eq_false (by omega)
    have ej:j=L.length:=by omega
    subst ej
    generalize hSc:runK ⟨op,a1,a2,ax,a4,num,⟨ae,ad,aX⟩,fn,ck,t1,t2,t3⟩ sz (ownS ax rk L ix L.length) kd=sc at hF hqO
    obtain ⟨⟨se,sd,sx⟩,sb,see⟩:=sc
    simp only at hF hqO
    by_cases he:see=0
    ·subst he
     rw [if_neg (by simp)] at hF
     repeat' (first
      |(with_reducible first|refine nx ?_|refine t_seq fun K=>?_|refine t_br (fun hc=>?_) fun hc=>?_|refine t_bx ?_|apply And.intro|intro vr)|exact kpd
      |((with_reducible first|refine ny ?_|refine t_kLF ?_ ?_|refine t_drawE (id:=20) (fun i=>i==5) [(0,1),(1,1),(2,1),(3,1),(4,1),(5,1),(6,1),(7,1),(8,1),(9,1),(10,0),(11,0),(12,1)] (by kernel_rfl) fun K=>?_|refine t_dwh (h:=fun K KL=>?_));intros;simp only [go_sem,kp28,geff,g4,hSc,e00,arrs_app',arrV,Int.toNat_natCast,arrs_length]))
     all_goals try exact hqQ
     all_goals try exact nd
     refine ⟨⟨k+1,v+1,ac++[⟨se,sd,sx⟩],vi||sb,by omega,by simp;omega,fun a ha=>by rcases List.mem_append.1 ha with ha|ha;exact hao a ha;rw [List.mem_singleton.1 ha];exact hqO,hF⟩,by show ixs.length - (k+1)<ixs.length - k;omega,?_⟩
     simp only [updL_nil,updL_cons,delF_top,delF_upd,Nat.reduceEqDiff,reduceIte]
     refine le_two (σ:=[.box 56 [.lit (.string op),.sl false 1 a1,.sl false 2 a2,.sl false 1 (ils ax),.sl false 2 a4,.lit (.int .i64 num),.lit (.string ae),.sl false 1 (ints .i64 ad),.sl false 1 (ints .i64 aX),.sl false 3 (stps fn),.lit (.int .i64 ck),.lit (.string t1),.lit (.string t2),.sl false 2 t3],.box 31 [.lit (.string ByteArray.empty),.sl true 1 [],.sl true 1 []],.box 92 [.fn (.func (hasF kd)) [] (hasC kd),.fn (.func (rkF kd)) [] (rkC kd),.fn (.func (runF kd)) [] []],.arr 31 3 (arrs (ac++[⟨se,sd,sx⟩])) (v+1) false,.arr 31 3 (arrs (ownS ax rk L ix L.length)) w true,.box 31 [.lit (.string se),.sl false 1 (ints .i64 sd),.sl false 1 (ints .i64 sx)]]) (l:=[.box 56 [.lit (.string op),.sl false 1 a1,.sl false 2 a2,.sl false 1 (ils ax),.sl false 2 a4,.lit (.int .i64 num),.lit (.string ae),.sl false 1 (ints .i64 ad),.sl false 1 (ints .i64 aX),.sl false 3 (stps fn),.lit (.int .i64 ck),.lit (.string t1),.lit (.string t2),.sl false 2 t3],.box 31 [.lit (.string ByteArray.empty),.sl true 1 [],.sl true 1 []],.box 92 [.fn (.func (hasF kd)) [] (hasC kd),.fn (.func (rkF kd)) [] (rkC kd),.fn (.func (runF kd)) [] []],.arr 31 3 (arrs (ac++[⟨se,sd,sx⟩])) (v+1) false]) (a:= .arr 31 3 (arrs (ownS ax rk L ix L.length)) w true) (b:= .box 31 [.lit (.string se),.sl false 1 (ints .i64 sd),.sl false 1 (ints .i64 sx)]) rfl (Nat.zero_le _) (fun m=>by simp [lowO,low1,low0,rkC_low,hasC_low]) (fun m=>rfl) ?_ ?_
     ·intro m hm
      repeat' (first|exact low_top|(refine low_upd ?_ ?_))
      all_goals (first|rfl|(simp only [low_arr,low_ref,decide_eq_true_eq];simp at hm;omega))
     repeat' (first|exact leF_top _|exact (fun _=>LeR.refl _)|(with_reducible refine leF_sl ?_ ?_)|(refine leF_upd ?_ ?_))
     all_goals (first|exact LeR.top _|exact LeR.refl _|(refine LeR.of_eq ?_;(try simp only [go_sem]);try rfl)|((try simp only [go_sem]);try rfl))
    ·rw [if_pos he] at hF
     have he':(see !=0)=true:=bne_iff_ne.2 he
     subst hF
     unfold finI at hR
     rw [if_pos he] at hR
     repeat' (first
      |(with_reducible first|refine nx ?_|refine t_seq fun K=>?_|refine t_br (fun hc=>?_) fun hc=>?_|refine t_bx ?_|apply And.intro|intro vr)|exact kpd
      |((with_reducible first|refine ny ?_|refine t_kLF ?_ ?_|refine t_drawE (id:=20) (fun i=>i==5) [(0,1),(1,1),(2,1),(3,1),(4,1),(5,1),(6,1),(7,1),(8,1),(9,1),(10,0),(11,0),(12,1)] (by kernel_rfl) fun K=>?_|refine t_dwh (h:=fun K KL=>?_));intros;simp only [go_sem,kp28,geff,g4,hSc,he',arrs_app',arrV,Int.toNat_natCast,arrs_length]))
     all_goals try exact hqQ
     all_goals try exact nd
     all_goals (refine nl ?_;simp only [go_sem])
     exact a3_nil hR.symm
  ·have g3:decide ((k:Int)<(ixs.length:Int))=false:=decide_eq_false (by omega)
   rw [List.drop_eq_nil_of_le hc1,goI] at hF
   subst hF
   unfold finI at hR
   rw [if_neg (by simp)] at hR
   simp only at hR
   rcases Nat.eq_zero_or_pos ac.length with hz|hz
   ·have g5:decide ((ac.length:Int)>0)=false:=decide_eq_false (by omega)
    rw [if_neg (by omega)] at hR
    have hn0:n=0:=by have:=(sizeS_ok hS).2.2.1;have:=sizeS_bd fr;rw [hS] at this;simp only at this;omega
    have hsp:L.length≤4096∧rk.length=L.length∧(∀ j,j<L.length→0≤rk.getD j 0∧rk.getD j 0≤((L.getD j nilA).d.length:Int)∧(L.getD j nilA).d.length≤1000000):=
      ⟨j4,o5,fun j hj=>⟨(hr _ (getD_mem (0:Int) (by omega))).1,hZ j hj,(j5 _ (getD_mem nilA hj)).1⟩⟩
    have hq0:=hQ0 hn0
    generalize hSm:smpG L rk []=sm at hR hq0
    obtain ⟨zs,sf⟩:=sm
    simp only at hR hq0
    by_cases hsf:sf=0
    ·subst hsf
     rw [if_neg (by simp)] at hR
     have hq1:=hq0 rfl
     have hqO:=okA_run (kd:=kd) (i:=⟨op,a1,a2,ax,a4,num,⟨ae,ad,aX⟩,fn,ck,t1,t2,t3⟩) (sz:=sz) hq1.2.2.2.2.1 j2 j3
     generalize hSc:runK ⟨op,a1,a2,ax,a4,num,⟨ae,ad,aX⟩,fn,ck,t1,t2,t3⟩ sz zs kd=sc at hR hqO
     obtain ⟨⟨se,sd,sx⟩,sb,see⟩:=sc
     simp only at hR hqO
     by_cases he:see=0
     ·subst he
      rw [if_neg (by simp)] at hR
      unfold endI at hR
      generalize hJn:joinS fr [] ⟨se,sd,sx⟩=jn at hR
      obtain ⟨⟨q1,q2,q3⟩,qe⟩:=jn
      simp only at hR
      by_cases hqe:qe=0
      ·subst hqe
       rw [if_neg (by simp)] at hR
       repeat' (first
        |(with_reducible first|refine nx ?_|refine t_seq fun K=>?_|refine t_br (fun hc=>?_) fun hc=>?_|refine t_bx ?_|apply And.intro|intro vr)|exact kpd
        |((with_reducible first|refine ny ?_|refine t_kLF ?_ ?_|refine t_drawE (id:=20) (fun i=>i==5) [(0,1),(1,1),(2,1),(3,1),(4,1),(5,1),(6,1),(7,1),(8,1),(9,1),(10,0),(11,0),(12,1)] (by kernel_rfl) fun K=>?_|refine t_dwh (h:=fun K KL=>?_));intros;simp only [go_sem,kp28,geff,g3,g5,hSm,hSc,hJn,e00,arrV,Int.toNat_natCast,arrs_length,arrsOf_nil]))
       all_goals try (first|exact hsp.1|exact hsp.2.1|exact (hsp.2.2 _ (by assumption)).1|exact (hsp.2.2 _ (by assumption)).2.1|exact (hsp.2.2 _ (by assumption)).2.2|exact (List.not_mem_nil (by assumption)).elim|exact hq1|exact hqO.1|exact hqO.2)
       all_goals try exact nd
       all_goals (refine nl ?_;simp only [go_sem])
       exact a3_of slK_sl slK_sl hR.symm
      ·rw [if_pos hqe] at hR
       have hqe':(qe !=0)=true:=bne_iff_ne.2 hqe
       repeat' (first
        |(with_reducible first|refine nx ?_|refine t_seq fun K=>?_|refine t_br (fun hc=>?_) fun hc=>?_|refine t_bx ?_|apply And.intro|intro vr)|exact kpd
        |((with_reducible first|refine ny ?_|refine t_kLF ?_ ?_|refine t_drawE (id:=20) (fun i=>i==5) [(0,1),(1,1),(2,1),(3,1),(4,1),(5,1),(6,1),(7,1),(8,1),(9,1),(10,0),(11,0),(12,1)] (by kernel_rfl) fun K=>?_|refine t_dwh (h:=fun K KL=>?_));intros;simp only [go_sem,kp28,geff,g3,g5,hSm,hSc,hJn,e00,hqe',arrV,Int.toNat_natCast,arrs_length,arrsOf_nil]))
       all_goals try (first|exact hsp.1|exact hsp.2.1|exact (hsp.2.2 _ (by assumption)).1|exact (hsp.2.2 _ (by assumption)).2.1|exact (hsp.2.2 _ (by assumption)).2.2|exact (List.not_mem_nil (by assumption)).elim|exact hq1|exact hqO.1|exact hqO.2)
       all_goals try exact nd
       all_goals (refine nl ?_;simp only [go_sem])
       exact a3_nil hR.symm
     ·rw [if_pos he] at hR
      have he':(see !=0)=true:=bne_iff_ne.2 he
      repeat' (first
       |(with_reducible first|refine nx ?_|refine t_seq fun K=>?_|refine t_br (fun hc=>?_) fun hc=>?_|refine t_bx ?_|apply And.intro|intro vr)|exact kpd
       |((with_reducible first|refine ny ?_|refine t_kLF ?_ ?_|refine t_drawE (id:=20) (fun i=>i==5) [(0,1),(1,1),(2,1),(3,1),(4,1),(5,1),(6,1),(7,1),(8,1),(9,1),(10,0),(11,0),(12,1)] (by kernel_rfl) fun K=>?_|refine t_dwh (h:=fun K KL=>?_));intros;simp only [go_sem,kp28,geff,g3,g5,hSm,hSc,e00,he',arrV,Int.toNat_natCast,arrs_length]))
      all_goals try (first|exact hsp.1|exact hsp.2.1|exact (hsp.2.2 _ (by assumption)).1|exact (hsp.2.2 _ (by assumption)).2.1|exact (hsp.2.2 _ (by assumption)).2.2|exact (List.not_mem_nil (by assumption)).elim|exact hq1)
      all_goals try exact nd
      all_goals (refine nl ?_;simp only [go_sem])
      exact a3_nil hR.symm
    ·rw [if_pos hsf] at hR
     have hsf':(sf !=0)=true:=bne_iff_ne.2 hsf
     repeat' (first
      |(with_reducible first|refine nx ?_|refine t_seq fun K=>?_|refine t_br (fun hc=>?_) fun hc=>?_|refine t_bx ?_|apply And.intro|intro vr)|exact kpd
      |((with_reducible first|refine ny ?_|refine t_kLF ?_ ?_|refine t_drawE (id:=20) (fun i=>i==5) [(0,1),(1,1),(2,1),(3,1),(4,1),(5,1),(6,1),(7,1),(8,1),(9,1),(10,0),(11,0),(12,1)] (by kernel_rfl) fun K=>?_|refine t_dwh (h:=fun K KL=>?_));intros;simp only [go_sem,kp28,geff,g3,g5,hSm,hsf',Int.toNat_natCast,arrs_length]))
     all_goals try (first|exact hsp.1|exact hsp.2.1|exact (hsp.2.2 _ (by assumption)).1|exact (hsp.2.2 _ (by assumption)).2.1|exact (hsp.2.2 _ (by assumption)).2.2|exact (List.not_mem_nil (by assumption)).elim)
     all_goals try exact nd
     all_goals (refine nl ?_;simp only [go_sem])
     exact a3_nil hR.symm
   ·have g5:decide ((ac.length:Int)>0)=true:=decide_eq_true (by omega)
    rw [if_pos hz] at hR
    have o80:okA ⟨(ac.getD 0 nilA).e,(ac.getD 0 nilA).d,(ac.getD 0 nilA).x⟩:=hao _ (getD_mem nilA (by omega))
    unfold endI at hR
    generalize hJn:joinS fr ac (ac.getD 0 nilA)=jn at hR
    have hJn':joinS fr ac ⟨(ac.getD 0 nilA).e,(ac.getD 0 nilA).d,(ac.getD 0 nilA).x⟩=jn:=hJn
    obtain ⟨⟨q1,q2,q3⟩,qe⟩:=jn
    simp only at hR
    by_cases hqe:qe=0
    ·subst hqe
     rw [if_neg (by simp)] at hR
     repeat' (first
      |(with_reducible first|refine nx ?_|refine t_seq fun K=>?_|refine t_br (fun hc=>?_) fun hc=>?_|refine t_bx ?_|apply And.intro|intro vr)|exact kpd
      |((with_reducible first|refine ny ?_|refine t_kLF ?_ ?_|refine t_drawE (id:=20) (fun i=>i==5) [(0,1),(1,1),(2,1),(3,1),(4,1),(5,1),(6,1),(7,1),(8,1),(9,1),(10,0),(11,0),(12,1)] (by kernel_rfl) fun K=>?_|refine t_dwh (h:=fun K KL=>?_));intros;simp only [go_sem,kp28,geff,g3,g5,hJn',e00,arrV,Int.toNat_natCast,arrs_length,yes]))
     all_goals try (first|exact hao _ (by assumption)|exact o80.1|exact o80.2)
     all_goals try exact nd
     all_goals (refine nl ?_;simp only [go_sem])
     exact a3_of slK_sl slK_sl hR.symm
    ·rw [if_pos hqe] at hR
     have hqe':(qe !=0)=true:=bne_iff_ne.2 hqe
     repeat' (first
      |(with_reducible first|refine nx ?_|refine t_seq fun K=>?_|refine t_br (fun hc=>?_) fun hc=>?_|refine t_bx ?_|apply And.intro|intro vr)|exact kpd
      |((with_reducible first|refine ny ?_|refine t_kLF ?_ ?_|refine t_drawE (id:=20) (fun i=>i==5) [(0,1),(1,1),(2,1),(3,1),(4,1),(5,1),(6,1),(7,1),(8,1),(9,1),(10,0),(11,0),(12,1)] (by kernel_rfl) fun K=>?_|refine t_dwh (h:=fun K KL=>?_));intros;simp only [go_sem,kp28,geff,g3,g5,hJn',hqe',arrV,Int.toNat_natCast,arrs_length,yes]))
     all_goals try (first|exact hao _ (by assumption)|exact o80.1|exact o80.2)
     all_goals try exact nd
     all_goals (refine nl ?_;simp only [go_sem])
     exact a3_nil hR.symm
end Go.Proofs.YtcpjahmajkhchaaGreat

namespace Go.Proofs.YtcpjahmajkhchaaGreat
open Go Go.Fw
set_option maxRecDepth 20000
theorem fix_inv {l rk:List Int} {n:Int} (h:fixS l n=(rk,true)):rk=l∧n=(l.length:Int):=by
  unfold fixS at h
  split at h
  ·rename_i e;cases h;exact ⟨rfl,e⟩
  ·cases h
theorem rks_len {op:ByteArray} {n:Int} {kd:Kd} {rk:List Int} (h:rksK op n kd=(rk,true)):(rk.length:Int)=n:=by
  cases kd
  ·obtain ⟨e1,e2⟩:=fix_inv h;rw [e1,e2]
  ·simp only [rksK,St.ranksI] at h
   split at h
   ·cases h
   ·rename_i hn
    have e:=congrArg Prod.fst h
    simp only at e
    rw [←e]
    exact Decidable.byContradiction fun q=>hn (.inr q)
  ·obtain ⟨e1,e2⟩:=fix_inv h;rw [e1,e2]
  ·obtain ⟨e1,e2⟩:=fix_inv h;rw [e1,e2]
  ·obtain ⟨e1,e2⟩:=fix_inv h;rw [e1,e2]
  ·obtain ⟨e1,e2⟩:=fix_inv h;rw [e1,e2]
theorem okA_val {a:Arr} (h:ofE a=0):okA a:=by
  have h1:=(ofE_inv h).2.1
  have h2:=sizeS_ok h1
  exact ⟨by omega,by omega⟩
theorem rank0 {a:Arr} (h:ofE a=0) (hd:(a.d.length:Int)=0):a.x.length=1:=one_datum h (by simpa using hd)
theorem inds_get {fr:List Int} {n:Int} (hS:sizeS fr=(n,0)):∀ ix∈inds fr n.toNat,ix.length=fr.length∧(∀ x∈fr,1≤x)∧∀ j,j<fr.length→0≤ix.getD j 0∧ix.getD j 0<fr.getD j 0:=by
  intro ix hx
  obtain ⟨k,hk,rfl⟩:=List.mem_map.1 hx
  have hk':=List.mem_range.1 hk
  obtain ⟨e,hp,hn⟩:=idx_ok hS (p:=(k:Int)) (by omega) (by omega)
  rw [e]
  exact ⟨digF_len _ _,hp,digF_in fr k hp (by omega) (by omega)⟩
theorem own_all {fr:List Int} {ax:List (List Int)} {rk:List Int} {L:List Arr} {n:Int} (hS:sizeS fr=(n,0)) (hc:∀ j,j<L.length→checkS fr (ax.getD j []) (rk.getD j 0) (L.getD j nilA)=0):
    ∀ ix∈inds fr n.toNat,∀ j,j<L.length→(∃ y,pickS ix (ax.getD j [])=some y∧cellS (L.getD j nilA) (rk.getD j 0) y=(ownC ax rk L ix j,0))∧ofE (ownC ax rk L ix j)=0∧((ownC ax rk L ix j).d.length:Int)=rk.getD j 0:=by
  intro ix hx j hj
  obtain ⟨i1,i2,i3⟩:=inds_get hS ix hx
  obtain ⟨y,b,q1,q2,q3,q4,q5,q6,q7⟩:=own_cell (hc j hj) i1 i2 i3
  have e:ownC ax rk L ix j=b:=by unfold ownC;rw [q1];simp only [Option.getD_some];rw [q2]
  rw [e]
  exact ⟨⟨y,q1,q2⟩,q3,q5⟩
theorem ownS_mem {ax:List (List Int)} {rk:List Int} {L:List Arr} {ix:List Int} {n:Nat} {a:Arr} (h:a∈ownS ax rk L ix n):∃ j,j<n∧a=ownC ax rk L ix j:=by
  obtain ⟨j,hj,rfl⟩:=List.mem_map.1 h
  exact ⟨j,List.mem_range.1 hj,rfl⟩
theorem kd_need {op:ByteArray} {n:Nat} {kd:Kd} {rk:List Int} (h:rksK op n kd=(rk,true)):(kd= .prim→∀ j,rk.getD j 0=0)∧(kd= .fold→n=2)∧(kd= .scan→n=1):=by
  refine ⟨fun e j=>?_,fun e=>?_,fun e=>?_⟩
  ·subst e
   obtain ⟨e1, -⟩:=fix_inv h
   rw [e1,List.getD_eq_getElem?_getD,List.getElem?_replicate];split<;>rfl
  ·subst e
   obtain ⟨-,e2⟩:=fix_inv h
   simp only [List.length_cons,List.length_nil] at e2;omega
  ·subst e
   obtain ⟨-,e2⟩:=fix_inv h
   simp only [List.length_cons,List.length_nil] at e2;omega
theorem run_ok {i:Ins} {fr sz:List Int} {L M:List Arr} {kd:Kd} {rk:List Int} (hJ:okJ i fr sz L) (hrk:rksK i.op L.length kd=(rk,true)) (hl:M.length=L.length)
    (hM:∀ j,j<M.length→ofE (M.getD j nilA)=0∧(rk.getD j 0=0→1≤(M.getD j nilA).x.length)):runQ i sz M kd:=by
  obtain ⟨k1,k2,k3⟩:=kd_need hrk
  have hmem:∀ a∈M,∃ j,j<M.length∧a=M.getD j nilA:=fun a ha=>by
    obtain ⟨j,hj,rfl⟩:=List.mem_iff_getElem.1 ha
    exact ⟨j,hj,by simp [List.getD,hj]⟩
  refine ⟨hJ.h1,hJ.h2,hJ.h3,by rw [hl];exact hJ.h4,fun a ha=>?_,fun e a ha=>?_,fun e=>by rw [hl];exact Nat.le_of_eq (k2 e).symm,fun e=>by rw [hl];exact Nat.le_of_eq (k3 e).symm⟩
  ·obtain ⟨j,hj,rfl⟩:=hmem a ha
   exact okA_val (hM j hj).1
  ·obtain ⟨j,hj,rfl⟩:=hmem a ha
   exact (hM j hj).2 (k1 e j)
theorem smpG_get:∀ (L:List Arr) (rk:List Int) (acc zs:List Arr),smpG L rk acc=(zs,0)→rk.length=L.length→zs.length=acc.length+L.length∧(∀ j,j<acc.length→zs.getD j nilA=acc.getD j nilA)∧
    ∀ j,j<L.length→smpZ (L.getD j nilA) (rk.getD j 0)=(zs.getD (acc.length+j) nilA,0)
  |[],rk,acc,zs,h,_=>by
   rw [smpG_nil] at h;cases h
   exact ⟨by simp,fun j _=>rfl,fun j hj=>by simp at hj⟩
  |_::_,[],_,_,_,h=>by simp at h
  |a::L,r::rk,acc,zs,h,hl=>by
   rw [smpG] at h
   split at h
   ·rename_i h0;exact absurd (congrArg Prod.snd h) h0
   ·rename_i h0
    obtain ⟨q1,q2,q3⟩:=smpG_get L rk _ zs h (by simpa using hl)
    refine ⟨by rw [q1];simp;omega,fun j hj=>?_,fun j hj=>?_⟩
    ·rw [q2 j (by simp;omega),List.getD_eq_getElem?_getD,List.getD_eq_getElem?_getD,List.getElem?_append_left hj]
    ·rcases j with _|j
     ·have:=q2 acc.length (by simp)
      rw [Nat.add_zero,this]
      simp only [List.getD_cons_zero]
      have h0':(smpZ a r).2=0:=by simpa using h0
      rw [List.getD_eq_getElem?_getD,List.getElem?_append_right (Nat.le_refl _)]
      simp only [Nat.sub_self,List.getElem?_cons_zero,Option.getD_some]
      exact Prod.ext rfl h0'
     ·have:=q3 j (by simpa using hj)
      simp only [List.getD_cons_succ]
      rw [this]
      simp only [List.length_append,List.length_cons,List.length_nil]
      rw [show acc.length+(0+1)+j=acc.length+(j+1) by omega]
theorem zerosS_ok {e:ByteArray} {d:List Int} {a:Arr} (h:zerosS e d=(a,0)):ofE a=0∧a.d=d:=by
  unfold zerosS at h
  split at h
  ·cases h
  split at h
  ·rename_i h1;exact absurd (congrArg Prod.snd h) h1
  ·unfold ofS at h
   split at h
   ·rename_i h2;cases h;exact ⟨h2,rfl⟩
   ·rename_i h2;exact absurd (congrArg Prod.snd h) h2
end Go.Proofs.YtcpjahmajkhchaaGreat

namespace Go.Proofs.YtcpjahmajkhchaaGreat
open Go Go.Fw
set_option maxRecDepth 20000
theorem smp_run {i:Ins} {fr sz:List Int} {L:List Arr} {kd:Kd} {rk:List Int} (hJ:okJ i fr sz L) (hrk:rksK i.op L.length kd=(rk,true)) (h:(smpG L rk []).2=0):runQ i sz (smpG L rk []).1 kd:=by
  generalize hz:smpG L rk []=z at h ⊢
  obtain ⟨zs,e⟩:=z
  simp only at h ⊢
  subst h
  have hl:rk.length=L.length:=by have:=rks_len hrk;omega
  obtain ⟨q1, -,q3⟩:=smpG_get L rk [] zs hz hl
  simp only [List.length_nil,Nat.zero_add] at q1 q3
  refine run_ok hJ hrk q1 fun j hj=>?_
  rw [q1] at hj
  obtain ⟨z1,z2⟩:=zerosS_ok (show zerosS _ _=(zs.getD j nilA,0) from q3 j hj)
  refine ⟨z1,fun h0=>?_⟩
  have hd:(zs.getD j nilA).d=[]:=by
    rw [z2,h0]
    exact List.drop_eq_nil_of_le (by omega)
  have:=rank0 z1 (by rw [hd];rfl)
  omega
set_option maxHeartbeats 8000000 in
theorem instr_pc {i:Ins} {fr sz:List Int} {L:List Arr} (hJ:okJ i fr sz L):PC Tryz.prog 28 [insV i,.sl false 1 (ints .i64 fr),.sl false 1 (ints .i64 sz),.sl false 3 (arrs L)] (a3V (instrS i fr sz L)):=by
  generalize hR:instrS i fr sz L=R
  unfold instrS at hR
  have hJ':=hJ
  obtain ⟨j1,j2,j3,j4,j5,j6,j7⟩:=hJ'
  cases hk:kindS i.op with
  |none=>
   rw [hk] at hR
   obtain ⟨op,a1,a2,ax,a4,num,⟨ae,ad,aX⟩,fn,ck,t1,t2,t3⟩:=i
   have hk':kindS op=none:=hk
   simp only [insV]
   refine pcR (Q1_ok .prim) (kp28) Tryz.func28 [.cell 8 31,.tmp 9,.tmp 10] (h:=fun KF=>?_)
   unfold Q1
   repeat' (first
    |(with_reducible first|refine nx ?_|refine t_seq fun K=>?_|refine t_br (fun hc=>?_) fun hc=>?_|refine t_bx ?_|apply And.intro|intro vr)
    |((with_reducible first|refine ny ?_|refine t_dwh (h:=fun K KL=>?_));intros;simp only [go_sem,kp28,geff,hk',fdV,Bool.not_false]))
   all_goals try exact nd
   all_goals (refine nl ?_;simp only [go_sem])
   exact a3_nil hR.symm
  |some kd=>
   rw [hk] at hR
   simp only at hR
   generalize hrk:rksK i.op L.length kd=rr at hR
   obtain ⟨rk,ok⟩:=rr
   simp only at hR
   cases ok with
   |false=>
    rw [if_pos (show (!false||(formedS i (sz.length:Int) !=0))=true from rfl)] at hR
    obtain ⟨op,a1,a2,ax,a4,num,⟨ae,ad,aX⟩,fn,ck,t1,t2,t3⟩:=i
    have hk':kindS op=some kd:=hk
    have hrk':rksK op L.length kd=(rk,false):=hrk
    simp only [insV]
    refine pcR (Q1_ok kd) (kp28) Tryz.func28 [.cell 8 31,.tmp 9,.tmp 10] (h:=fun KF=>?_)
    unfold Q1
    repeat' (first
     |(with_reducible first|refine nx ?_|refine t_seq fun K=>?_|refine t_br (fun hc=>?_) fun hc=>?_|refine t_bx ?_|apply And.intro|intro vr)
     |((with_reducible first|refine ny ?_|refine t_dwh (h:=fun K KL=>?_));intros;simp only [go_sem,kp28,geff,hk',hrk',fdV,kdV_gen,arrs_length,Bool.not_true,Bool.not_false]))
    all_goals try exact nd
    all_goals (refine nl ?_;simp only [go_sem])
    exact a3_nil hR.symm
   |true=>
    by_cases hf:formedS i sz.length=0
    rotate_left
    ·have hfb:(formedS i sz.length !=0)=true:=bne_iff_ne.2 hf
     rw [if_pos (by rw [hfb];rfl)] at hR
     obtain ⟨op,a1,a2,ax,a4,num,⟨ae,ad,aX⟩,fn,ck,t1,t2,t3⟩:=i
     have hk':kindS op=some kd:=hk
     have hrk':rksK op L.length kd=(rk,true):=hrk
     have j2a:okA ⟨ae,ad,aX⟩:=j2
     have hfb':(formedS ⟨op,a1,a2,ax,a4,num,⟨ae,ad,aX⟩,fn,ck,t1,t2,t3⟩ sz.length !=0)=true:=hfb
     simp only [insV]
     refine pcR (Q1_ok kd) (kp28) Tryz.func28 [.cell 8 31,.tmp 9,.tmp 10] (h:=fun KF=>?_)
     unfold Q1
     repeat' (first
      |(with_reducible first|refine nx ?_|refine t_seq fun K=>?_|refine t_br (fun hc=>?_) fun hc=>?_|refine t_bx ?_|apply And.intro|intro vr)
      |((with_reducible first|refine ny ?_|refine t_dwh (h:=fun K KL=>?_));intros;simp only [go_sem,kp28,geff,hk',hrk',hfb',fdV,kdV_gen,arrs_length,Bool.not_true,Bool.not_false]))
     all_goals try (first|exact j2a.1|exact j2a.2)
     all_goals try exact nd
     all_goals (refine nl ?_;simp only [go_sem])
     exact a3_nil hR.symm
    ·rw [if_neg (by rw [hf];decide)] at hR
     unfold instrK at hR
     have hri:∀ r∈rk,0≤r∧r≤2:=fun r hr=>rks_small (op:=i.op) (n:=L.length) (kd:=kd) r (by rw [hrk];exact hr)
     by_cases hc:chkS fr i.ax rk L=0
     ·rw [if_neg (by simpa using hc)] at hR
      obtain ⟨c1,c2,c3,c4⟩:=chkS_inv hc
      have hS:sizeS fr=((sizeS fr).1,0):=Prod.ext rfl c1
      have hX:(indicesS fr).1=inds fr (sizeS fr).1.toNat:=by unfold indicesS;rw [if_neg (by rw [c1];simp)]
      rw [hX] at hR
      have hown:=own_all hS c4
      have hQ:∀ ix∈inds fr (sizeS fr).1.toNat,runQ i sz (ownS i.ax rk L ix L.length) kd:=fun ix hx=>by
        refine run_ok hJ hrk ownS_len fun j hj=>?_
        rw [ownS_len] at hj
        have e:(ownS i.ax rk L ix L.length).getD j nilA=ownC i.ax rk L ix j:=by simp [ownS,List.getD,hj]
        obtain ⟨-,v1,v2⟩:=hown ix hx j hj
        rw [e]
        exact ⟨v1,fun h0=>Nat.le_of_eq (rank0 v1 (by rw [v2];exact h0)).symm⟩
      have hZ:∀ j,j<L.length→rk.getD j 0≤((L.getD j nilA).d.length:Int):=fun j hj=>by
        have:=c4 j hj
        unfold checkS at this
        split at this
        ·cases this
        ·split at this
         ·cases this
         ·split at this
          ·cases this
          ·rename_i h2;omega
      obtain ⟨op,a1,a2,ax,a4,num,⟨ae,ad,aX⟩,fn,ck,t1,t2,t3⟩:=i
      exact instr_core hk hrk hf hc hS hJ c3 c2 hri (fun ix hx j hj=>by obtain ⟨⟨y,hy, -⟩, -⟩:=hown ix hx j hj;exact ⟨y,hy⟩) hQ hZ (fun _ h=>smp_run hJ hrk h) hR
     ·rw [if_pos (by simpa using hc)] at hR
      have hcb:(chkS fr i.ax rk L !=0)=true:=bne_iff_ne.2 hc
      have hri':∀ r∈rk,inI64 r:=fun r hx=>by have:=hri r hx;unfold inI64;omega
      obtain ⟨op,a1,a2,ax,a4,num,⟨ae,ad,aX⟩,fn,ck,t1,t2,t3⟩:=i
      have hk':kindS op=some kd:=hk
      have hrk':rksK op L.length kd=(rk,true):=hrk
      have j2a:okA ⟨ae,ad,aX⟩:=j2
      have hf':formedS ⟨op,a1,a2,ax,a4,num,⟨ae,ad,aX⟩,fn,ck,t1,t2,t3⟩ sz.length=0:=hf
      have hcb':(chkS fr ax rk L !=0)=true:=hcb
      have e00:((0:Int) !=0)=false:=rfl
      simp only [insV]
      refine pcR (Q1_ok kd) (kp28) Tryz.func28 [.cell 8 31,.tmp 9,.tmp 10] (h:=fun KF=>?_)
      unfold Q1
      repeat' (first
       |(with_reducible first|refine nx ?_|refine t_seq fun K=>?_|refine t_br (fun hc=>?_) fun hc=>?_|refine t_bx ?_|apply And.intro|intro vr)
       |((with_reducible first|refine ny ?_|refine t_dwh (h:=fun K KL=>?_));intros;simp only [go_sem,kp28,geff,hk',hrk',hf',hcb',e00,fdV,kdV_gen,arrs_length,Bool.not_true,Bool.not_false]))
      all_goals try (first|exact j2a.1|exact j2a.2|exact hri' _ (by assumption)|exact j5 _ (by assumption)|exact j6 _ (by assumption))
      all_goals try exact nd
      all_goals (refine nl ?_;simp only [go_sem])
      exact a3_nil hR.symm
noncomputable def con28:PCon Tryz.prog where
  f:=28
  c:=fun
   |[xi,xfr,xsz,xL]=>match insOf xi,slK .i64 xfr,slK .i64 xsz,arrsOf xL with|some i,some fr,some sz,some L=>some (okJ i fr sz L,a3V (instrS i fr sz L))|_,_,_,_=>none
   |_=>none
  ok:=by
   intro args p r hc hp
   split at hc
   ·split at hc
    ·rename_i hi hfr hsz hL
     cases hc
     exact PC.weak (instr_pc hp) ⟨insOf_le hi,slK_le hfr,slK_le hsz,arrsOf_le hL,trivial⟩
    ·cases hc
   ·cases hc
  fk:=fk28
theorem con28_f:con28.f=28:=rfl
theorem con28_c {xi:AV} {xfr:AV} {xsz:AV} {xL:AV}:con28.c [xi,xfr,xsz,xL]=match insOf xi,slK .i64 xfr,slK .i64 xsz,arrsOf xL with|some i,some fr,some sz,some L=>some (okJ i fr sz L,a3V (instrS i fr sz L))|_,_,_,_=>none:=rfl
attribute [go_sem] con28_f con28_c
end Go.Proofs.YtcpjahmajkhchaaGreat

namespace Go.Proofs.YtcpjahmajkhchaaGreat
open Go Go.Fw
set_option maxRecDepth 20000
end Go.Proofs.YtcpjahmajkhchaaGreat

namespace Go.Proofs.YtcpjahmajkhchaaGreat
open Go Go.Fw
set_option maxRecDepth 20000
attribute [go_sem] con20_f con20_c con26_f con26_c
noncomputable def C1:Env:=envJ (P:=Tryz.prog) jkR zer (fun _=>false) (fun _=>false) [con22,con20] []
theorem C1_ok:EnvOk Tryz.prog C1:=envJOk zer_ok
def listA (l:List Int):Arr:=⟨sInt,[(l.length:Int)],l⟩
def scA (n:Int):Arr:=⟨sInt,[],[n]⟩
theorem arr_of {e:ByteArray} {x y:AV} {a:Arr} {d w:List Int} (hx:slK .i64 x=some d) (hy:slK .i64 y=some w) (h:a=⟨e,d,w⟩):LeA (.agg [.lit (.string e),x,y]) (arrV a):=by
  subst h;exact LeA.agg ⟨LeA.refl _,slK_le hx,slK_le hy,trivial⟩
theorem list_pc {l:List Int}:PC Tryz.prog 23 [.sl false 1 (ints .i64 l)] (arrV (listA l)):=by
  refine pcR C1_ok (kp23) Tryz.func23 [.cell 2 31] (h:=fun KF=>?_)
  unfold C1
  repeat' (first
   |(with_reducible first|refine nx ?_|refine t_seq fun K=>?_|refine t_br (fun hc=>?_) fun hc=>?_|refine t_bx ?_|apply And.intro|intro vr)
   |((with_reducible first|refine ny ?_|refine t_dwh (h:=fun K KL=>?_));intros;simp only [go_sem,kp23,geff]))
  all_goals try exact nd
  all_goals (refine nl ?_;simp only [go_sem])
  exact arr_of slK_one slK_sl rfl
noncomputable def con23:PCon Tryz.prog where
  f:=23
  c:=fun
   |[xl]=>match slK .i64 xl with|some l=>some (True,arrV (listA l))|_=>none
   |_=>none
  ok:=by
   intro args p r hc hp
   split at hc
   ·split at hc
    ·rename_i hl
     cases hc
     exact PC.weak list_pc ⟨slK_le hl,trivial⟩
    ·cases hc
   ·cases hc
  fk:=fk23
theorem con23_f:con23.f=23:=rfl
theorem con23_c {xl:AV}:con23.c [xl]=match slK .i64 xl with|some l=>some (True,arrV (listA l))|_=>none:=rfl
theorem scal_pc {n:Int}:PC Tryz.prog 24 [.lit (.int .i64 n)] (arrV (scA n)):=by
  refine pcR C1_ok (kp24) Tryz.func24 [.cell 2 31] (h:=fun KF=>?_)
  unfold C1
  repeat' (first
   |(with_reducible first|refine nx ?_|refine t_seq fun K=>?_|refine t_br (fun hc=>?_) fun hc=>?_|refine t_bx ?_|apply And.intro|intro vr)
   |((with_reducible first|refine ny ?_|refine t_dwh (h:=fun K KL=>?_));intros;simp only [go_sem,kp24,geff]))
  all_goals try exact nd
  all_goals (refine nl ?_;simp only [go_sem])
  exact arr_of rfl slK_one rfl
noncomputable def con24:PCon Tryz.prog where
  f:=24
  c:=fun
   |[.lit (.int .i64 n)]=>some (True,arrV (scA n))
   |_=>none
  ok:=by
   intro args p r hc hp
   split at hc
   ·cases hc;exact scal_pc
   ·cases hc
  fk:=fk24
theorem con24_f:con24.f=24:=rfl
theorem con24_c {n:Int}:con24.c [.lit (.int .i64 n)]=some (True,arrV (scA n)):=rfl
theorem samev_pc {a b:Arr} (ha:okA a):PC Tryz.prog 25 [arrV a,arrV b] (.lit (.bool (ofE a==0&&eqA a b))):=by
  obtain ⟨a1,a2⟩:=ha
  simp only [arrV]
  refine pcR C1_ok (kp25) Tryz.func25 [.tmp 4] (h:=fun KF=>?_)
  unfold C1
  repeat' (first
   |(with_reducible first|refine nx ?_|refine t_seq fun K=>?_|refine t_br (fun hc=>?_) fun hc=>?_|refine t_bx ?_|apply And.intro|intro vr)
   |((with_reducible first|refine ny ?_|refine t_dwh (h:=fun K KL=>?_));intros;simp only [go_sem,kp25,geff]))
  all_goals try exact nd
  all_goals try exact ⟨a1,a2⟩
  all_goals (refine nl ?_;simp only [go_sem])
  exact LeA.refl _
noncomputable def con25:PCon Tryz.prog where
  f:=25
  c:=fun
   |[xa,xb]=>match arrOf xa,arrOf xb with|some a,some b=>some (okA a,.lit (.bool (ofE a==0&&eqA a b)))|_,_=>none
   |_=>none
  ok:=by
   intro args p r hc hp
   split at hc
   ·split at hc
    ·rename_i ha hb
     cases hc
     exact PC.weak (samev_pc hp) ⟨arrOf_le ha,arrOf_le hb,trivial⟩
    ·cases hc
   ·cases hc
  fk:=fk25
theorem con25_f:con25.f=25:=rfl
theorem con25_c {xa:AV} {xb:AV}:con25.c [xa,xb]=match arrOf xa,arrOf xb with|some a,some b=>some (okA a,.lit (.bool (ofE a==0&&eqA a b)))|_,_=>none:=rfl
def fewS (s:Stp):Bool:= !(decide ((s.args.length:Int)>4)||decide ((s.op.size:Int)>20))
def fewC (c:List Stp):Bool:=c.all fewS&&decide ((c.length:Int)≤10)
theorem few_pc' {c:List Stp} (hm:c.length≤9223372036854775807):PC Tryz.prog 10 [.sl false 3 (stps c)] (.lit (.bool (fewC c))):=by
  generalize hR:fewC c=R
  unfold fewC at hR
  refine pcR C1_ok (kp10) Tryz.func10 [.tmp 2] (h:=fun KF=>?_)
  unfold C1
  repeat' (first
   |(with_reducible first|refine nx ?_|refine t_seq fun K=>?_|refine t_br (fun hc=>?_) fun hc=>?_|refine t_bx ?_|apply And.intro|intro vr)
   |((with_reducible first|refine ny ?_|refine t_dwh (h:=fun K KL=>?_));intros;simp only [go_sem,kp10,geff]))
  all_goals try exact nd
  refine t_loopF (ι:={i:Nat // i≤c.length∧(c.drop i).all fewS=c.all fewS}) (fun i=>[(3,.lit (.int .i64 i.1))]) (fun i=>[]) (fun i=>c.length - i.1) ⟨0,by omega,rfl⟩ ?_ ?_
  ·exact lf
  rintro ⟨i,hi,hF⟩ K0
  rcases Nat.lt_or_ge i c.length with hc|hc
  ·rw [drop_getD nilStp hc,List.all_cons] at hF
   have g3:decide ((i:Int)<(c.length:Int))=true:=decide_eq_true (by omega)
   generalize hs:c.getD i nilStp=s at hF
   cases h4:(decide ((s.args.length:Int)>4)||decide ((s.op.size:Int)>20)) with
   |true=>
    rw [show fewS s=false by unfold fewS;rw [h4];rfl,Bool.false_and] at hF
    repeat' (first
     |(with_reducible first|refine nx ?_|refine t_seq fun K=>?_|refine t_br (fun hc=>?_) fun hc=>?_|refine t_bx ?_|apply And.intro|intro vr)
     |((with_reducible first|refine ny ?_|refine t_dwh (h:=fun K KL=>?_));intros;simp only [go_sem,kp10,geff,g3,hs,h4,stpV,Int.toNat_natCast,stps_length]))
    all_goals try exact nd
    all_goals (refine nl ?_;simp only [go_sem])
    exact LeA.of_eq (by rw [←hR,←hF,Bool.false_and])
   |false=>
    rw [show fewS s=true by unfold fewS;rw [h4];rfl,Bool.true_and] at hF
    repeat' (first
     |(with_reducible first|refine nx ?_|refine t_seq fun K=>?_|refine t_br (fun hc=>?_) fun hc=>?_|refine t_bx ?_|apply And.intro|intro vr)
     |((with_reducible first|refine ny ?_|refine t_dwh (h:=fun K KL=>?_));intros;simp only [go_sem,kp10,geff,g3,hs,h4,stpV,Int.toNat_natCast,stps_length]))
    all_goals try exact nd
    exact ⟨⟨i+1,by omega,hF⟩,wf,lf⟩
  ·have g3:decide ((i:Int)<(c.length:Int))=false:=decide_eq_false (by omega)
   rw [List.drop_eq_nil_of_le hc,List.all_nil] at hF
   repeat' (first
    |(with_reducible first|refine nx ?_|refine t_seq fun K=>?_|refine t_br (fun hc=>?_) fun hc=>?_|refine t_bx ?_|apply And.intro|intro vr)
    |((with_reducible first|refine ny ?_|refine t_dwh (h:=fun K KL=>?_));intros;simp only [go_sem,kp10,geff,g3,Int.toNat_natCast,stps_length]))
   all_goals try exact nd
   all_goals (refine nl ?_;simp only [go_sem])
   exact LeA.of_eq (by rw [←hR,←hF,Bool.true_and])
noncomputable def con10:PCon Tryz.prog where
  f:=10
  c:=fun
   |[xc]=>match stpsOf xc with|some c=>some (c.length≤9223372036854775807,.lit (.bool (fewC c)))|_=>none
   |_=>none
  ok:=by
   intro args p r hc hp
   split at hc
   ·split at hc
    ·rename_i hc
     cases hc
     exact PC.weak (few_pc' hp) ⟨stpsOf_le hc,trivial⟩
    ·cases hc
   ·cases hc
  fk:=fk10
theorem con10_f:con10.f=10:=rfl
theorem con10_c {xc:AV}:con10.c [xc]=match stpsOf xc with|some c=>some (c.length≤9223372036854775807,.lit (.bool (fewC c)))|_=>none:=rfl
attribute [go_sem] con10_f con10_c con23_f con23_c con24_f con24_c con25_f con25_c
theorem few_okC {c:List Stp} (h:fewC c=true):okC c:=by
  simp only [fewC,Bool.and_eq_true,List.all_eq_true,decide_eq_true_eq] at h
  refine ⟨by omega,fun s hs=>?_⟩
  have:=h.1 s hs
  simp only [fewS,Bool.not_eq_true',Bool.or_eq_false_iff,decide_eq_false_iff_not] at this
  omega
end Go.Proofs.YtcpjahmajkhchaaGreat

namespace Go.Proofs.YtcpjahmajkhchaaGreat
open Go Go.Fw
set_option maxRecDepth 20000
def lifV (i:Ins) (fr sz:List Int):AV:= .agg [.lit (.string i.op),.sl false 1 i.a1,.sl false 2 i.a2,.sl false 1 (ils i.ax),.sl false 2 i.a4,.lit (.int .i64 i.num),.lit (.string i.arr.e),.sl false 1 (ints .i64 i.arr.d),.sl false 1 (ints .i64 i.arr.x),.sl false 3 (stps i.fn),.lit (.int .i64 i.ck),.lit (.string i.t1),.lit (.string i.t2),.sl false 2 i.t3,.sl false 1 (ints .i64 fr),.sl false 1 (ints .i64 sz)]
def big1 (i:Ins) (fr sz:List Int) (L:List Arr):Bool:=decide ((fr.length:Int)>8)||decide ((i.op.size:Int)>20)||decide ((i.ax.length:Int)>6)|| !fewC i.fn|| !fewA i.arr 60||decide ((sz.length:Int)>3)||decide ((L.length:Int)>4)
def big2 (sz:List Int):Bool:=decide ((sz.length:Int)>0)&&decide (sz.getD 0 0>60)&&decide (sz.getD 0 0≤4096)
def shortI (x:List Int):Bool:= !decide ((x.length:Int)>8)
def fewJ (i:Ins) (fr sz:List Int) (L:List Arr):Bool:=
  if big1 i fr sz L=true then false else if big2 sz=true then false else if i.ax.all shortI=false then false else if (L.all fun a=>fewA a 60)=false then false else (sizeS fr).2 !=0||decide ((sizeS fr).1≤60)
attribute [go_sem] con50_f con50_c con15_f con15_c
noncomputable def W1:Env:=envJ (P:=Tryz.prog) jkK zer (fun _=>false) (fun _=>false) [con10,con15,con50] []
theorem W1_ok:EnvOk Tryz.prog W1:=envJOk zer_ok
set_option maxHeartbeats 8000000 in
theorem fewj_pc {i:Ins} {fr sz:List Int} {L:List Arr} (hl:i.fn.length≤9223372036854775807) (hx:i.ax.length≤9223372036854775807) (hL:L.length≤9223372036854775807):PC Tryz.prog 27 [lifV i fr sz,.sl false 3 (arrs L)] (.lit (.bool (fewJ i fr sz L))):=by
  generalize hR:fewJ i fr sz L=R
  unfold fewJ at hR
  obtain ⟨op,a1,a2,ax,a4,num,⟨ae,ad,aX⟩,fn,ck,t1,t2,t3⟩:=i
  simp only [lifV]
  simp only at hR hl hx
  cases h1:big1 ⟨op,a1,a2,ax,a4,num,⟨ae,ad,aX⟩,fn,ck,t1,t2,t3⟩ fr sz L with
  |true=>
   rw [if_pos h1] at hR
   have h1':(decide ((fr.length:Int)>8)||decide ((op.size:Int)>20)||decide ((ax.length:Int)>6)|| !fewC fn|| !fewA ⟨ae,ad,aX⟩ 60||decide ((sz.length:Int)>3)||decide ((L.length:Int)>4))=true:=h1
   refine pcR W1_ok (kp27) Tryz.func27 [.tmp 4] (h:=fun KF=>?_)
   unfold W1
   repeat' (first
    |(with_reducible first|refine nx ?_|refine t_seq fun K=>?_|refine t_br (fun hc=>?_) fun hc=>?_|refine t_bx ?_|apply And.intro|intro vr)
    |((with_reducible first|refine ny ?_|refine t_dwh (h:=fun K KL=>?_));intros;simp only [go_sem,kp27,geff,h1',ilsl_len,arrs_length]))
   all_goals try exact nd
   all_goals (refine nl ?_;simp only [go_sem])
   exact LeA.of_eq (by rw [←hR])
  |false=>
  rw [if_neg (by rw [h1];decide)] at hR
  have h1':(decide ((fr.length:Int)>8)||decide ((op.size:Int)>20)||decide ((ax.length:Int)>6)|| !fewC fn|| !fewA ⟨ae,ad,aX⟩ 60||decide ((sz.length:Int)>3)||decide ((L.length:Int)>4))=false:=h1
  have hfr:fr.length≤1000000:=by
    simp only [Bool.or_eq_false_iff,decide_eq_false_iff_not] at h1';omega
  cases h2:big2 sz with
  |true=>
   rw [if_pos h2] at hR
   have h2':(decide ((sz.length:Int)>0)&&decide (sz.getD 0 0>60)&&decide (sz.getD 0 0≤4096))=true:=h2
   refine pcR W1_ok (kp27) Tryz.func27 [.tmp 4] (h:=fun KF=>?_)
   unfold W1
   repeat' (first
    |(with_reducible first|refine nx ?_|refine t_seq fun K=>?_|refine t_br (fun hc=>?_) fun hc=>?_|refine t_bx ?_|apply And.intro|intro vr)
    |((with_reducible first|refine ny ?_|refine t_dwh (h:=fun K KL=>?_));intros;simp only [go_sem,kp27,geff,h1',h2',ilsl_len,arrs_length,Int.toNat_natCast]))
   all_goals try exact nd
   all_goals (refine nl ?_;simp only [go_sem])
   exact LeA.of_eq (by rw [←hR])
  |false=>
  rw [if_neg (by rw [h2];decide)] at hR
  have h2':(decide ((sz.length:Int)>0)&&decide (sz.getD 0 0>60)&&decide (sz.getD 0 0≤4096))=false:=h2
  refine pcR W1_ok (kp27) Tryz.func27 [.tmp 4] (h:=fun KF=>?_)
  unfold W1
  repeat' (first
   |(with_reducible first|refine nx ?_|refine t_seq fun K=>?_|refine t_br (fun hc=>?_) fun hc=>?_|refine t_bx ?_|apply And.intro|intro vr)
   |((with_reducible first|refine ny ?_|refine t_dwh (h:=fun K KL=>?_));intros;simp only [go_sem,kp27,geff,h1',h2',ilsl_len,arrs_length,Int.toNat_natCast]))
  all_goals try exact nd
  refine t_loopF (ι:={i:Nat // i≤ax.length∧(ax.drop i).all shortI=ax.all shortI}) (fun i=>[(76,.lit (.int .i64 i.1))]) (fun i=>[.box 58 [.lit (.string op),.sl false 1 a1,.sl false 2 a2,.sl false 1 (ils ax),.sl false 2 a4,.lit (.int .i64 num),.lit (.string ae),.sl false 1 (ints .i64 ad),.sl false 1 (ints .i64 aX),.sl false 3 (stps fn),.lit (.int .i64 ck),.lit (.string t1),.lit (.string t2),.sl false 2 t3,.sl false 1 (ints .i64 fr),.sl false 1 (ints .i64 sz)]]) (fun i=>ax.length - i.1) ⟨0,by omega,rfl⟩ ?_ ?_
  ·exact lf
  rintro ⟨j,hj,hF⟩ K0
  rcases Nat.lt_or_ge j ax.length with hc|hc
  ·rw [drop_getD ([]:List Int) hc,List.all_cons] at hF
   have g3:decide ((j:Int)<(ax.length:Int))=true:=decide_eq_true (by omega)
   cases h4:decide (((ax.getD j []).length:Int)>8) with
   |true=>
    rw [show shortI (ax.getD j [])=false by unfold shortI;rw [h4];rfl,Bool.false_and] at hF
    rw [if_pos hF.symm] at hR
    repeat' (first
     |(with_reducible first|refine nx ?_|refine t_seq fun K=>?_|refine t_br (fun hc=>?_) fun hc=>?_|refine t_bx ?_|apply And.intro|intro vr)
     |((with_reducible first|refine ny ?_|refine t_dwh (h:=fun K KL=>?_));intros;simp only [go_sem,kp27,geff,g3,h4,ilsl_len,Int.toNat_natCast]))
    all_goals try exact nd
    all_goals (refine nl ?_;simp only [go_sem])
    exact LeA.of_eq (by rw [←hR])
   |false=>
    rw [show shortI (ax.getD j [])=true by unfold shortI;rw [h4];rfl,Bool.true_and] at hF
    repeat' (first
     |(with_reducible first|refine nx ?_|refine t_seq fun K=>?_|refine t_br (fun hc=>?_) fun hc=>?_|refine t_bx ?_|apply And.intro|intro vr)
     |((with_reducible first|refine ny ?_|refine t_dwh (h:=fun K KL=>?_));intros;simp only [go_sem,kp27,geff,g3,h4,ilsl_len,Int.toNat_natCast]))
    all_goals try exact nd
    exact ⟨⟨j+1,by omega,hF⟩,wf,lf⟩
  ·have g3:decide ((j:Int)<(ax.length:Int))=false:=decide_eq_false (by omega)
   rw [List.drop_eq_nil_of_le hc,List.all_nil] at hF
   rw [if_neg (by rw [←hF];decide)] at hR
   repeat' (first
    |(with_reducible first|refine nx ?_|refine t_seq fun K=>?_|refine t_br (fun hc=>?_) fun hc=>?_|refine t_bx ?_|apply And.intro|intro vr)
    |((with_reducible first|refine ny ?_|refine t_dwh (h:=fun K KL=>?_));intros;simp only [go_sem,kp27,geff,g3,ilsl_len,arrs_length,Int.toNat_natCast]))
   all_goals try exact nd
   refine t_loopF (ι:={i:Nat // i≤L.length∧((L.drop i).all fun a=>fewA a 60)=(L.all fun a=>fewA a 60)}) (fun i=>[(86,.lit (.int .i64 i.1))]) (fun i=>[.box 58 [.lit (.string op),.sl false 1 a1,.sl false 2 a2,.sl false 1 (ils ax),.sl false 2 a4,.lit (.int .i64 num),.lit (.string ae),.sl false 1 (ints .i64 ad),.sl false 1 (ints .i64 aX),.sl false 3 (stps fn),.lit (.int .i64 ck),.lit (.string t1),.lit (.string t2),.sl false 2 t3,.sl false 1 (ints .i64 fr),.sl false 1 (ints .i64 sz)]]) (fun i=>L.length - i.1) ⟨0,by omega,rfl⟩ ?_ ?_
   ·exact lf
   rintro ⟨k,hk,hF2⟩ K1
   rcases Nat.lt_or_ge k L.length with hc2|hc2
   ·rw [drop_getD nilA hc2,List.all_cons] at hF2
    have g4:decide ((k:Int)<(L.length:Int))=true:=decide_eq_true (by omega)
    cases h4:fewA (L.getD k nilA) 60 with
    |false=>
     rw [h4,Bool.false_and] at hF2
     rw [if_pos hF2.symm] at hR
     have h4':fewA ⟨(L.getD k nilA).e,(L.getD k nilA).d,(L.getD k nilA).x⟩ 60=false:=h4
     repeat' (first
      |(with_reducible first|refine nx ?_|refine t_seq fun K=>?_|refine t_br (fun hc=>?_) fun hc=>?_|refine t_bx ?_|apply And.intro|intro vr)
      |((with_reducible first|refine ny ?_|refine t_dwh (h:=fun K KL=>?_));intros;simp only [go_sem,kp27,geff,g4,h4',arrV,arrs_length,Int.toNat_natCast,Bool.not_false]))
     all_goals try exact nd
     all_goals (refine nl ?_;simp only [go_sem])
     exact LeA.of_eq (by rw [←hR])
    |true=>
     rw [h4,Bool.true_and] at hF2
     have h4':fewA ⟨(L.getD k nilA).e,(L.getD k nilA).d,(L.getD k nilA).x⟩ 60=true:=h4
     repeat' (first
      |(with_reducible first|refine nx ?_|refine t_seq fun K=>?_|refine t_br (fun hc=>?_) fun hc=>?_|refine t_bx ?_|apply And.intro|intro vr)
      |((with_reducible first|refine ny ?_|refine t_dwh (h:=fun K KL=>?_));intros;simp only [go_sem,kp27,geff,g4,h4',arrV,arrs_length,Int.toNat_natCast,Bool.not_true]))
     all_goals try exact nd
     refine ⟨⟨k+1,by omega,hF2⟩,by first|(simp only;omega)|omega,?_⟩
     simp only [updL_nil,updL_cons,delF_top,delF_upd,Nat.reduceEqDiff,reduceIte]
     refine le_backD (by first|rfl|(simp only [go_sem];try rfl)) (by first|exact Nat.zero_le _|simp) (by first|rfl|simp [lowO,low_lit,low_sl,low_ref,low_arr]) ?_ ?_
     ·repeat' (first|exact low_top|(refine low_upd rfl ?_))
     repeat' (first|exact leF_top _|exact (fun _=>LeR.refl _)|(with_reducible refine leF_sl ?_ ?_)|(refine leF_upd ?_ ?_))
     all_goals (first|exact LeR.top _|exact LeR.refl _|(refine LeR.of_eq ?_;(try simp only [go_sem]);try rfl)|((try simp only [go_sem]);try rfl))
   ·have g4:decide ((k:Int)<(L.length:Int))=false:=decide_eq_false (by omega)
    rw [List.drop_eq_nil_of_le hc2,List.all_nil] at hF2
    rw [if_neg (by rw [←hF2];decide)] at hR
    repeat' (first
     |(with_reducible first|refine nx ?_|refine t_seq fun K=>?_|refine t_br (fun hc=>?_) fun hc=>?_|refine t_bx ?_|apply And.intro|intro vr)
     |((with_reducible first|refine ny ?_|refine t_dwh (h:=fun K KL=>?_));intros;simp only [go_sem,kp27,geff,g4,arrs_length,Int.toNat_natCast]))
    all_goals try exact nd
    all_goals (refine nl ?_;simp only [go_sem])
    exact LeA.of_eq (by rw [←hR])
end Go.Proofs.YtcpjahmajkhchaaGreat

namespace Go.Proofs.YtcpjahmajkhchaaGreat
open Go Go.Fw
set_option maxRecDepth 20000
def cSub:List Stp:=[⟨⟨#[115,117,98]⟩,0,[0,1]⟩]
def cAdd:List Stp:=[⟨⟨#[97,100,100]⟩,0,[0,1]⟩]
def iAdd:Ins:=⟨⟨#[97,100,100]⟩,[],[],[[0],[1]],[],0,nilA,[],0,⟨#[]⟩,⟨#[]⟩,[]⟩
theorem aw1:primS ⟨#[115,117,98]⟩=(cSub,true):=by kernel_rfl
theorem aw2:primS ⟨#[97,100,100]⟩=(cAdd,true):=by kernel_rfl
theorem aw3:foldS cSub (scA 10) (listA [1,2,3])=(scA 4,0):=by kernel_rfl
theorem aw4:scanP cAdd (listA [1,2,3])=(listA [1,3,6],0):=by kernel_rfl
theorem aw6:validC cAdd 2=true:=by kernel_rfl
theorem aw9:(ofE (scA 4)==0&&eqA (scA 4) (scA 4))=true:=by kernel_rfl
theorem aw10:(ofE (listA [1,3,6])==0&&eqA (listA [1,3,6]) (listA [1,3,6]))=true:=by kernel_rfl
theorem arr_eta (a:Arr):(⟨a.e,a.d,a.x⟩:Arr)=a:=rfl
theorem okl (l:List Int) (h:l.length≤1000000):okA (listA l):=⟨by simp [listA],h⟩
theorem oks (n:Int):okA (scA n):=⟨by simp [scA],by simp [scA]⟩
theorem arrV_def' {a:Arr}:arrV a= .agg [.lit (.string a.e),.sl false 1 (ints .i64 a.d),.sl false 1 (ints .i64 a.x)]:=rfl
theorem ilsO2 {b b1 b2:Bool} {x y:Int}:ilsOf (.sl b 1 [.sl b1 1 [.lit (.int .i64 x)],.sl b2 1 [.lit (.int .i64 y)]])=some [[x],[y]]:=rfl
theorem stpsO0 {b:Bool}:stpsOf (.sl b 3 [])=some []:=rfl
theorem iA:(⟨⟨#[97,100,100]⟩,[],[],[[0],[1]],[],0,⟨ByteArray.empty,[],[]⟩,[],0,ByteArray.empty,ByteArray.empty,[]⟩:Ins)=iAdd:=rfl
theorem aw28:instrS iAdd [2,3] [] [listA [10,20],listA [1,2,3]]=(⟨sInt,[2,3],[11,12,13,21,22,23]⟩,false,0):=by kernel_rfl
theorem okAdd:okJ iAdd [2,3] [] [listA [10,20],listA [1,2,3]] where
  h1:=⟨by decide,by intro s hs;cases hs⟩
  h2:=⟨by decide,by decide⟩
  h3:=by decide
  h4:=by decide
  h5:=fun a ha=>by
   rcases List.mem_cons.1 ha with rfl|ha
   ·exact okl _ (by decide)
   ·rcases List.mem_cons.1 ha with rfl|ha
    ·exact okl _ (by decide)
    ·cases ha
  h6:=by decide
  h7:=by decide
noncomputable def N1:Env:=envJ (P:=Tryz.prog) jkK zer (fun _=>false) (fun _=>false) [con34,con16,con18,con23,con24,con28,con25,con26,con13] []
theorem N1_ok:EnvOk Tryz.prog N1:=envJOk zer_ok
set_option maxHeartbeats 8000000 in
theorem awake_pc:PC Tryz.prog 9 [] (.lit (.bool true)):=by
  have k1:=okl [1,2,3] (by simp)
  have k2:=oks 10
  have k3:=oks 4
  have k4:=okl [1,3,6] (by simp)
  have k5:okC cAdd:=⟨by decide,by decide⟩
  have k6:okC cSub:=⟨by decide,by decide⟩
  have h5:=okAdd
  refine pcR N1_ok (kp9) Tryz.func9 [.tmp 0] (h:=fun KF=>?_)
  unfold N1
  repeat' (first
   |(with_reducible first|refine nx ?_|refine t_seq fun K=>?_|refine t_br (fun hc=>?_) fun hc=>?_|refine t_bx ?_|apply And.intro|intro vr)|exact kpd
   |((with_reducible first|refine ny ?_|refine t_kLF ?_ ?_|refine t_drawE (id:=6) (fun _=>true) [(0,1),(1,1),(2,1),(3,1),(4,1),(5,1),(6,1),(7,1),(8,1),(9,1),(10,1),(11,1),(12,1),(13,1),(14,1),(15,1),(16,1),(17,1),(18,1),(19,1),(20,1),(21,1),(22,1),(23,1),(24,1),(25,1),(26,1),(27,1),(28,1),(29,1),(30,1),(31,1),(32,1),(33,1),(34,1),(35,1),(36,1),(37,1),(38,1),(39,1),(40,1),(41,1)] (by kernel_rfl) fun K=>?_|refine t_dwh (h:=fun K KL=>?_));intros;simp only [go_sem,kp9,geff,con34_f,con16_f,con18_f,con23_f,con24_f,con28_f,con25_f,con26_f,con13_f,con34_c,con16_c,con18_c,con23_c,con24_c,con28_c,con25_c,con26_c,con13_c,slK_sl,slK_cons,slK_emp,slK_nil,arrsOf_x,arrL_cons,arrL_nil,arrOf_agg,arrV_def',ilsO2,stpsO0,iA,aw1,aw2,aw3,aw4,aw28,aw6,aw9,aw10,Option.map_some,arr_eta,prV,yes]))
  all_goals try (first|exact h5|exact k1|exact k2|exact k3|exact k4|exact k5|exact k6|exact k1.1|exact k1.2|exact k2.1|exact k2.2)
  all_goals try exact nd
  all_goals (refine nl ?_;simp only [go_sem])
  exact LeA.refl _
noncomputable def con9:PCon Tryz.prog where
  f:=9
  c:=fun
   |[]=>some (True,.lit (.bool true))
   |_=>none
  ok:=by
   intro args p r hc hp
   split at hc
   ·cases hc;exact awake_pc
   ·cases hc
  fk:=fk9
theorem con9_f:con9.f=9:=rfl
theorem con9_c:con9.c []=some (True,.lit (.bool true)):=rfl
attribute [go_sem] con9_f con9_c
theorem ft78:fieldTs Tryz.prog 78=[9,3,23]:=by kernel_rfl
theorem shv_stp {x:AV} (h:ShV Tryz.prog 78 x):∃ a:Stp,x=stpV a:=by
  obtain ⟨c,rfl,hc⟩:=shv_agg ag78 h
  obtain ⟨p,q,r,rfl,hp,hq,hr⟩:=sh_three ft78 hc
  obtain ⟨s,rfl,hs⟩:=sh_str u9 hp
  obtain ⟨n,rfl,hn⟩:=sh_int u3 hq
  obtain ⟨w,rfl,hw,hw'⟩:=sh_ints u23 u3 sz3 hr
  exact ⟨⟨s,n,w⟩,rfl⟩
theorem list_stps:∀ {ys:List AV},(∀ y∈ys,∃ a,y=stpV a)→∃ l:List Stp,ys=stps l
  |[],_=>⟨[],rfl⟩
  |y::ys,h=>by
   obtain ⟨n,rfl⟩:=h y (by simp)
   obtain ⟨l,rfl⟩:=list_stps (ys:=ys) fun z hz=>h z (by simp [hz])
   exact ⟨n::l,rfl⟩
end Go.Proofs.YtcpjahmajkhchaaGreat

namespace Go.Proofs.YtcpjahmajkhchaaGreat
open Go Go.Fw
set_option maxRecDepth 20000
theorem goI_inv {run:List Arr→Arr×Bool×Int} {own:List Int→List Arr}:∀ (ixs:List (List Int)) (acc0 acc:List Arr) (v0 v:Bool),goI run own ixs acc0 v0=(acc,v,0)→
    acc=acc0++ixs.map (fun ix=>(run (own ix)).1)∧v=(v0||ixs.any fun ix=>(run (own ix)).2.1)∧∀ ix∈ixs,(run (own ix)).2.2=0
  |[],acc0,acc,v0,v,h=>by cases h;exact ⟨by simp,by simp,by simp⟩
  |ix::t,acc0,acc,v0,v,h=>by
   rw [goI] at h
   split at h
   ·rename_i h0;exact absurd (congrArg (fun p=>p.2.2) h) h0
   ·rename_i h0
    obtain ⟨q1,q2,q3⟩:=goI_inv t _ acc _ v h
    refine ⟨by rw [q1];simp,by rw [q2,List.any_cons,Bool.or_assoc],fun x hx=>?_⟩
    rcases List.mem_cons.1 hx with rfl|hx
    ·simpa using h0
    ·exact q3 x hx
def plainI (i:Ins) (n:Nat):Ins:={i with ax:=List.replicate n []}
theorem runK_plain {i:Ins} {n:Nat} {sz:List Int} {L:List Arr} {kd:Kd}:runK (plainI i n) sz L kd=runK i sz L kd:=by cases kd<;>rfl
theorem chk_plain {rk:List Int} {M:List Arr}:∀ (n:Nat) (rk:List Int) (M:List Arr),rk.length=n→M.length=n→(∀ j,j<n→ofE (M.getD j nilA)=0∧((M.getD j nilA).d.length:Int)=rk.getD j 0)→chkG [] (List.replicate n []) rk M=0
  |0,rk,M,_,_,_=>by simp [chkG]
  |n+1,[],M,h,_,_=>by simp at h
  |n+1,_::_,[],_,h,_=>by simp at h
  |n+1,r::rk,a::M,h1,h2,h=>by
   rw [List.replicate_succ,chkG]
   obtain ⟨v1,v2⟩:=h 0 (by omega)
   simp only [List.getD_cons_zero] at v1 v2
   have hc:checkS [] [] r a=0:=by
     have hp:pickS [] []=some []:=by decide
     unfold checkS
     rw [hp]
     simp only
     rw [if_neg (by simpa using v1),if_neg (by simp;omega),if_neg (by simp)]
   rw [if_neg (by simpa using hc)]
   exact chk_plain (rk:=rk) (M:=M) n rk M (by simpa using h1) (by simpa using h2) fun j hj=>by
     have:=h (j+1) (by omega)
     simpa using this
theorem cell_self {a:Arr} {r:Int} (h:ofE a=0) (hr:(a.d.length:Int)=r):cellS a r []=(a,0):=by
  have hs:=(ofE_inv h).2.1
  have hp:=(sizeS_ok hs).2.2.1
  have hS:splitS a r=([],a.d,0):=by
    unfold splitS
    rw [if_neg (by simpa using h),if_neg (by omega)]
    have e:a.d.length - r.toNat=0:=by omega
    rw [e];simp
  unfold cellS
  rw [hS]
  simp only
  rw [if_neg (by simp),if_neg (by simp)]
  simp only [atS,Int.zero_mul,Int.toNat_zero,List.drop_zero]
  have e:(prI a.d).toNat=a.x.length:=by omega
  rw [e,List.take_length]
theorem inds_one:indicesS []=([[]],0):=by decide
theorem own_self {rk:List Int} {M:List Arr} (h:∀ j,j<M.length→ofE (M.getD j nilA)=0∧((M.getD j nilA).d.length:Int)=rk.getD j 0):ownS (List.replicate M.length []) rk M [] M.length=M:=by
  apply List.ext_getElem
  ·simp [ownS]
  ·intro j h1 h2
   obtain ⟨v1,v2⟩:=h j h2
   have hp:pickS [] []=some []:=by decide
   have e:(List.replicate M.length ([]:List Int)).getD j []=[]:=by simp [List.getD,h2]
   have:ownC (List.replicate M.length []) rk M [] j=M.getD j nilA:=by
     unfold ownC
     rw [e,hp]
     simp only [Option.getD_some]
     rw [cell_self v1 v2]
   simp only [ownS,List.getElem_map,List.getElem_range,this]
   simp [List.getD,h2]
theorem join_one {x:Arr} (h:ofE x=0):joinS [] [x] x=(x,0):=by
  have hs:=(ofE_inv h).2.1
  have hi:[x].any invA=false:=by simp [invA,h]
  unfold joinS
  rw [if_neg (by rw [h,hi];decide),show sizeS []=(1,0) by decide]
  simp only
  have hj:jnG x [x] []=(x.x,0):=by
    simp only [jnG]
    rw [if_neg (by rw [eqS_refl];decide),if_neg (by simp)]
    simp
  rw [if_neg (by simp),if_neg (by simp),hj]
  simp only
  rw [if_neg (by simp),List.nil_append,hs]
  simp only
  rw [if_neg (by simp)]
theorem instr_plain {i:Ins} {sz:List Int} {M:List Arr} {kd:Kd} {rk:List Int} {x:Arr} {q:Bool} (hk:kindS i.op=some kd) (hrk:rksK i.op M.length kd=(rk,true)) (hf:formedS i sz.length=0)
    (hM:∀ j,j<M.length→ofE (M.getD j nilA)=0∧((M.getD j nilA).d.length:Int)=rk.getD j 0) (hr:runK i sz M kd=(x,q,0)) (hx:ofE x=0):instrS (plainI i M.length) [] sz M=(x,q,0):=by
  have hl:rk.length=M.length:=by have:=rks_len hrk;omega
  have hc:chkS [] (List.replicate M.length []) rk M=0:=by
    unfold chkS
    rw [show sizeS []=(1,0) by decide]
    simp only
    rw [if_neg (by simp [hl]),if_neg (by simp)]
    exact chk_plain (rk:=rk) (M:=M) _ _ _ hl rfl hM
  unfold instrS
  rw [show kindS (plainI i M.length).op=some kd from hk]
  simp only
  rw [show (plainI i M.length).op=i.op from rfl,hrk,show formedS (plainI i M.length) sz.length=formedS i sz.length from rfl,hf]
  rw [if_neg (by simp)]
  unfold instrK
  rw [show (plainI i M.length).ax=List.replicate M.length [] from rfl,hc,if_neg (by simp),inds_one]
  simp only [goI,runK_plain]
  rw [own_self hM,hr]
  simp only [ne_eq,not_true_eq_false,if_false,List.nil_append,Bool.false_or]
  unfold finI
  simp only [ne_eq,not_true_eq_false,if_false,List.length_cons,List.length_nil,List.getD_cons_zero]
  rw [if_pos (by omega),join_one hx]
  rfl
theorem lift_inv {i:Ins} {fr sz:List Int} {L:List Arr} {a:Arr} {p:Bool} (h:instrS i fr sz L=(a,p,0)):
    ∃ kd rk,kindS i.op=some kd∧rksK i.op L.length kd=(rk,true)∧formedS i sz.length=0∧chkS fr i.ax rk L=0∧(sizeS fr).2=0∧(∃ c,a.d=fr++c)∧ofE a=0∧
      p=((inds fr (sizeS fr).1.toNat).any fun ix=>(runK i sz (ownS i.ax rk L ix L.length) kd).2.1)∧
      (∀ k,k<(inds fr (sizeS fr).1.toNat).length→∃ x q,runK i sz (ownS i.ax rk L ((inds fr (sizeS fr).1.toNat).getD k []) L.length) kd=(x,q,0)∧ofE x=0∧cellS a ((a.d.length:Int) - fr.length) ((inds fr (sizeS fr).1.toNat).getD k [])=(x,0)):=by
  unfold instrS at h
  split at h
  ·cases h
  rename_i kd hk
  split at h
  ·cases h
  rename_i hb
  simp only [Bool.or_eq_true,not_or,Bool.not_eq_true',Bool.not_eq_false,bne_iff_ne,ne_eq,Decidable.not_not] at hb
  generalize hrr:rksK i.op L.length kd=rr at h hb
  obtain ⟨rk,ok⟩:=rr
  simp only at h hb
  obtain ⟨rfl,hf⟩:=hb
  unfold instrK at h
  split at h
  ·rename_i hc;exact absurd (congrArg (fun q=>q.2.2) h) hc
  rename_i hc
  have hc0:chkS fr i.ax rk L=0:=by simpa using hc
  obtain ⟨c1,c2,c3,c4⟩:=chkS_inv hc0
  have hS:sizeS fr=((sizeS fr).1,0):=Prod.ext rfl c1
  have hX:(indicesS fr).1=inds fr (sizeS fr).1.toNat:=by unfold indicesS;rw [if_neg (by rw [c1];simp)]
  rw [hX] at h
  generalize hI:inds fr (sizeS fr).1.toNat=ixs at h ⊢
  generalize hg:goI (fun o=>runK i sz o kd) (fun ix=>ownS i.ax rk L ix L.length) ixs [] false=g at h
  obtain ⟨acc,v,ge⟩:=g
  unfold finI at h
  simp only at h
  split at h
  ·rename_i h0;exact absurd (congrArg (fun q=>q.2.2) h) h0
  rename_i h0
  have hge:ge=0:=by simpa using h0
  subst hge
  obtain ⟨g1,g2,g3⟩:=goI_inv ixs [] acc false v hg
  rw [List.nil_append] at g1
  rw [Bool.false_or] at g2
  have hend:∀ (w:Arr×Int),endI w v=(a,p,0)→w=(a,0)∧p=v:=fun w hw=>by
    unfold endI at hw
    split at hw
    ·rename_i h1;exact absurd (congrArg (fun q=>q.2.2) hw) h1
    ·rename_i h1
     have e1:=congrArg Prod.fst hw
     have e2:=congrArg (fun q:Arr×Bool×Int=>q.2.1) hw
     simp only at e1 e2
     exact ⟨Prod.ext e1 (by simpa using h1),e2.symm⟩
  split at h
  ·rename_i hpos
   obtain ⟨hj,rfl⟩:=hend _ h
   obtain ⟨i1,i2,i3,i4,i5,i6⟩:=joinS_inv hj
   have had:a.d=fr++(acc.getD 0 nilA).d:=by rw [i5]
   have hal:acc.length=ixs.length:=by rw [g1,List.length_map]
   refine ⟨kd,rk,hk,hrr,hf,hc0,c1,⟨_,had⟩,i6,g2,fun k hkk=>?_⟩
   have hx:acc.getD k nilA=(runK i sz (ownS i.ax rk L (ixs.getD k []) L.length) kd).1:=by rw [g1];simp [List.getD,hkk]
   refine ⟨acc.getD k nilA,(runK i sz (ownS i.ax rk L (ixs.getD k []) L.length) kd).2.1,?_,i2 _ (getD_mem nilA (by omega)),?_⟩
   ·have:=g3 _ (getD_mem [] hkk)
    rw [hx]
    exact Prod.ext rfl (Prod.ext rfl this)
   ·have:=join_cell hj (k:=k) (by omega)
    have hix:ixs.getD k []=(idxS fr (k:Int)).1:=by
      rw [←hI] at hkk ⊢
      rw [inds_len] at hkk
      simp [inds,List.getD,hkk]
    rw [hix,had,List.length_append]
    rw [show ((fr.length+(acc.getD 0 nilA).d.length:Nat):Int) - fr.length=((acc.getD 0 nilA).d.length:Int) by omega]
    exact this
  ·rename_i hpos
   have hix0:ixs=[]:=by
     have:acc.length=ixs.length:=by rw [g1,List.length_map]
     exact List.eq_nil_of_length_eq_zero (by omega)
   split at h
   ·rename_i h1;exact absurd (congrArg (fun q=>q.2.2) h) h1
   split at h
   ·rename_i h1;exact absurd (congrArg (fun q=>q.2.2) h) h1
   obtain ⟨hj,rfl⟩:=hend _ h
   obtain ⟨i1,i2,i3,i4,i5,i6⟩:=joinS_inv hj
   refine ⟨kd,rk,hk,hrr,hf,hc0,c1,⟨(runK i sz (smpG L rk []).1 kd).1.d,by rw [i5]⟩,i6,g2,fun k hkk=>?_⟩
   rw [hix0] at hkk
   simp at hkk
end Go.Proofs.YtcpjahmajkhchaaGreat

namespace Go.Proofs.YtcpjahmajkhchaaGreat
open Go Go.Fw
set_option maxRecDepth 20000
def lifOf:AV→Option (Ins×List Int×List Int)
  |.agg [.lit (.string op),x1,x2,x3,x4,.lit (.int .i64 num),.lit (.string e),xd,xx,xf,.lit (.int .i64 ck),.lit (.string t1),.lit (.string t2),x13,y1,y2]=>
   match slA 1 x1,slA 2 x2,ilsOf x3,slA 2 x4,slK .i64 xd,slK .i64 xx,stpsOf xf,slA 2 x13,slK .i64 y1,slK .i64 y2 with
   |some a1,some a2,some ax,some a4,some d,some x,some f,some t3,some fr,some sz=>some (⟨op,a1,a2,ax,a4,num,⟨e,d,x⟩,f,ck,t1,t2,t3⟩,fr,sz)
   |_,_,_,_,_,_,_,_,_,_=>none
  |_=>none
theorem lifOf_agg {op e t1 t2:ByteArray} {x1 x2 x3 x4 xd xx xf x13 y1 y2:AV} {num ck:Int}:lifOf (.agg [.lit (.string op),x1,x2,x3,x4,.lit (.int .i64 num),.lit (.string e),xd,xx,xf,.lit (.int .i64 ck),.lit (.string t1),.lit (.string t2),x13,y1,y2])=
    match slA 1 x1,slA 2 x2,ilsOf x3,slA 2 x4,slK .i64 xd,slK .i64 xx,stpsOf xf,slA 2 x13,slK .i64 y1,slK .i64 y2 with
    |some a1,some a2,some ax,some a4,some d,some x,some f,some t3,some fr,some sz=>some (⟨op,a1,a2,ax,a4,num,⟨e,d,x⟩,f,ck,t1,t2,t3⟩,fr,sz)
    |_,_,_,_,_,_,_,_,_,_=>none:=rfl
theorem lifOf_le {x:AV} {p:Ins×List Int×List Int} (h:lifOf x=some p):LeA x (lifV p.1 p.2.1 p.2.2):=by
  unfold lifOf at h
  split at h
  ·split at h
   ·rename_i h1 h2 h3 h4 h5 h6 h7 h8 h9 h10
    cases h
    exact LeA.agg ⟨LeA.refl _,slA_le h1,slA_le h2,ilsOf_le h3,slA_le h4,LeA.refl _,LeA.refl _,slK_le h5,slK_le h6,stpsOf_le h7,LeA.refl _,LeA.refl _,LeA.refl _,slA_le h8,slK_le h9,slK_le h10,trivial⟩
   ·cases h
  ·cases h
noncomputable def con27:PCon Tryz.prog where
  f:=27
  c:=fun
   |[xi,xL]=>match lifOf xi,arrsOf xL with|some i,some L=>some (i.1.fn.length≤9223372036854775807∧i.1.ax.length≤9223372036854775807∧L.length≤9223372036854775807,.lit (.bool (fewJ i.1 i.2.1 i.2.2 L)))|_,_=>none
   |_=>none
  ok:=by
   intro args p r hc hp
   split at hc
   ·split at hc
    ·rename_i hi hL
     cases hc
     exact PC.weak ((fun hp:_∧_∧_=>fewj_pc hp.1 hp.2.1 hp.2.2) hp) ⟨lifOf_le hi,arrsOf_le hL,trivial⟩
    ·cases hc
   ·cases hc
  fk:=fk27
theorem con27_f:con27.f=27:=rfl
theorem con27_c {xi:AV} {xL:AV}:con27.c [xi,xL]=match lifOf xi,arrsOf xL with|some i,some L=>some (i.1.fn.length≤9223372036854775807∧i.1.ax.length≤9223372036854775807∧L.length≤9223372036854775807,.lit (.bool (fewJ i.1 i.2.1 i.2.2 L)))|_,_=>none:=rfl
attribute [go_sem] con27_f con27_c lifOf_agg con30_f con30_c con31_f con31_c con32_f con32_c con29_f con29_c
theorem okA_few' {a:Arr} {n:Int} (h:fewA a n=true) (hn:n≤1000000):okA a:=by
  simp only [fewA,Bool.and_eq_true,decide_eq_true_eq] at h
  exact ⟨by omega,by omega⟩
theorem few_okJ {i:Ins} {fr sz:List Int} {L:List Arr} (h:fewJ i fr sz L=true):okJ i fr sz L:=by
  unfold fewJ at h
  split at h
  ·cases h
  rename_i h1
  split at h
  ·cases h
  split at h
  ·cases h
  rename_i h3
  split at h
  ·cases h
  rename_i h4
  simp only [big1,Bool.or_eq_true,not_or,decide_eq_true_eq,Bool.not_eq_true',Bool.not_eq_false] at h1
  obtain ⟨⟨⟨⟨⟨⟨q1,q2⟩,q3⟩,q4⟩,q5⟩,q6⟩,q7⟩:=h1
  simp only [Bool.not_eq_false,List.all_eq_true] at h3 h4
  exact ⟨few_okC q4,okA_few' q5 (by decide),by omega,by omega,fun a ha=>okA_few' (h4 a ha) (by decide),fun x hx=>by
    have:=h3 x hx
    simp only [shortI,Bool.not_eq_true',decide_eq_false_iff_not] at this
    omega,by omega⟩
noncomputable def L7:Env:=envJ (P:=Tryz.prog) jkK zer (fun _=>false) (fun _=>false) [con9,con27,con28,con29,con30,con31,con32,con25,con26] []
theorem L7_ok:EnvOk Tryz.prog L7:=envJOk zer_ok
theorem ilsOf_rep {b:Bool} {n:Nat}:ilsOf (.sl b 1 (List.replicate n (.sl true 1 [])))=some (List.replicate n []):=by
  have h:∀ m:Nat,ilL (List.replicate m (.sl true 1 []))=some (List.replicate m []):=fun m=>by
    induction m with
    |zero=>rfl
    |succ m ih=>rw [List.replicate_succ,List.replicate_succ,ilL,ih];rfl
  unfold ilsOf slA
  simp only [if_true,Option.bind_some]
  exact h n
theorem le_three {n0:Nat} {f g:Nat→AV} {σ l:List AObj} {a b c:AObj} (e:σ=l++[a,b,c]) (hn:n0≤l.length) (h3:(l++[a,b]).all (lowO (l++[a,b]).length)=true) (h2:(l++[a]).all (lowO (l++[a]).length)=true) (h1:l.all (lowO l.length)=true)
    (hg:∀ m,l.length≤m→∀ j,low1 m (g j)=true) (h:∀ j,LeR (f j) (g j)):Le n0 ⟨f,σ⟩ ⟨g,l⟩:=by
  subst e
  exact (le_backD (σ:=l++[a,b,c]) (l:=l++[a,b]) (ob:=c) (by simp) (by simp;omega) h3 (hg _ (by simp)) h).trans
    ((le_backD (σ:=l++[a,b]) (l:=l++[a]) (ob:=b) (by simp) (by simp;omega) h2 (hg _ (by simp)) (fun j=>LeR.refl _)).trans (le_backD rfl hn h1 (hg _ (Nat.le_refl _)) fun j=>LeR.refl _))
theorem same_self' {a:Arr} (h:ofE a=0):(ofE a==0&&eqA a a)=true:=by rw [h,eqA_refl];rfl
structure Jl7 (run:List Int→Arr×Bool×Int) (ixs:List (List Int)) where
  k:Nat
  vi:Bool
  hk:k≤ixs.length
  hv:vi=(ixs.take k).any fun ix=>(run ix).2.1
set_option maxHeartbeats 16000000 in
theorem lifts_law_pc {i:Ins} {fr sz:List Int} {L:List Arr} (hl:i.fn.length≤9223372036854775807) (hx:i.ax.length≤9223372036854775807) (hL:L.length≤9223372036854775807):PC Tryz.prog 7 [lifV i fr sz,.sl false 3 (arrs L)] (.lit (.bool true)):=by
  cases hw:fewJ i fr sz L with
  |false=>
   obtain ⟨op,a1,a2,ax,a4,num,⟨ae,ad,aX⟩,fn,ck,t1,t2,t3⟩:=i
   simp only [lifV]
   refine pcR L7_ok (kp7) Tryz.func7 [.tmp 4] (h:=fun KF=>?_)
   unfold L7
   repeat' (first
    |(with_reducible first|refine nx ?_|refine t_seq fun K=>?_|refine t_br (fun hc=>?_) fun hc=>?_|refine t_bx ?_|apply And.intro|intro vr)|exact kpd
    |((with_reducible first|refine ny ?_|refine t_kLF ?_ ?_|refine t_drawE (id:=21) (fun i=>i==0) [(0,1),(1,1),(2,1),(3,1),(4,1),(5,1),(6,1),(7,1),(8,1),(9,1),(10,1),(11,1),(12,1),(13,0),(14,0),(15,1)] (by kernel_rfl) fun K=>?_|refine t_dwh (h:=fun K KL=>?_));intros;simp only [go_sem,kp7,geff,hw,Bool.not_false]))
   all_goals try (first|exact hl|exact hx|exact hL)
   all_goals try exact nd
   all_goals (refine nl ?_;simp only [go_sem])
   exact LeA.refl _
  |true=>
  have hJ:=few_okJ hw
  obtain ⟨j1,j2,j3,j4,j5,j6,j7⟩:=id hJ
  generalize hR:instrS i fr sz L=R
  obtain ⟨ra,rp,re⟩:=R
  by_cases h0:re=0
  rotate_left
  ·have h0':(re !=0)=true:=bne_iff_ne.2 h0
   obtain ⟨op,a1,a2,ax,a4,num,⟨ae,ad,aX⟩,fn,ck,t1,t2,t3⟩:=i
   obtain ⟨re1,rd,rx⟩:=ra
   simp only [lifV]
   refine pcR L7_ok (kp7) Tryz.func7 [.tmp 4] (h:=fun KF=>?_)
   unfold L7
   repeat' (first
    |(with_reducible first|refine nx ?_|refine t_seq fun K=>?_|refine t_br (fun hc=>?_) fun hc=>?_|refine t_bx ?_|apply And.intro|intro vr)|exact kpd
    |((with_reducible first|refine ny ?_|refine t_kLF ?_ ?_|refine t_drawE (id:=21) (fun i=>i==0) [(0,1),(1,1),(2,1),(3,1),(4,1),(5,1),(6,1),(7,1),(8,1),(9,1),(10,1),(11,1),(12,1),(13,0),(14,0),(15,1)] (by kernel_rfl) fun K=>?_|refine t_dwh (h:=fun K KL=>?_));intros;simp only [go_sem,kp7,geff,hw,hR,h0',arrs_length,arrV,inV,Bool.not_true]))
   all_goals try (first|exact hl|exact hx|exact hL|exact hJ)
   all_goals try exact nd
   all_goals (refine nl ?_;simp only [go_sem])
   exact LeA.refl _
  subst h0
  obtain ⟨kd,rk,hk,hrk,hf,hc,c1,⟨cd,had⟩,hav,hp,hcells⟩:=lift_inv hR
  obtain ⟨-,o6,o5,c4⟩:=chkS_inv hc
  have hS:sizeS fr=((sizeS fr).1,0):=Prod.ext rfl c1
  have hX:indicesS fr=(inds fr (sizeS fr).1.toNat,0):=by unfold indicesS;rw [if_neg (by rw [c1];simp)]
  have hown:=own_all hS c4
  have hri:∀ r∈rk,0≤r∧r≤2:=fun r hr=>rks_small (op:=i.op) (n:=L.length) (kd:=kd) r (by rw [hrk];exact hr)
  have hrr:rksR i.op (L.length:Int)=(rk,true):=by
    rw [ranks_same (by omega) (by omega)]
    unfold rksS
    rw [hk]
    exact hrk
  generalize hI:inds fr (sizeS fr).1.toNat=ixs at hX hown hp hcells
  have hil:∀ x∈ixs,x.length≤1000000:=fun x hx=>by
    rw [←hI] at hx
    have:=(inds_get hS x hx).1
    omega
  have hxn:ixs.length≤4096:=by rw [←hI,inds_len];have:=(sizeS_bd fr).2;omega
  have e00:((0:Int) !=0)=false:=rfl
  have hlift:∀ k,k<ixs.length→∃ x q,runK i sz (ownS i.ax rk L (ixs.getD k []) L.length) kd=(x,q,0)∧ofE x=0∧cellS ra ((ra.d.length:Int) - fr.length) (ixs.getD k [])=(x,0)∧instrS (plainI i L.length) [] sz (ownS i.ax rk L (ixs.getD k []) L.length)=(x,q,0)∧okJ (plainI i L.length) [] sz (ownS i.ax rk L (ixs.getD k []) L.length):=fun k hk'=>by
    obtain ⟨x,q,q1,q2,q3⟩:=hcells k hk'
    have hm:=hown _ (getD_mem [] hk')
    have hM:∀ j,j<(ownS i.ax rk L (ixs.getD k []) L.length).length→ofE ((ownS i.ax rk L (ixs.getD k []) L.length).getD j nilA)=0∧(((ownS i.ax rk L (ixs.getD k []) L.length).getD j nilA).d.length:Int)=rk.getD j 0:=fun j hj=>by
      rw [ownS_len] at hj
      have e:(ownS i.ax rk L (ixs.getD k []) L.length).getD j nilA=ownC i.ax rk L (ixs.getD k []) j:=by simp [ownS,List.getD,hj]
      obtain ⟨-,v1,v2⟩:=hm j hj
      rw [e];exact ⟨v1,v2⟩
    have hpl:=instr_plain (M:=ownS i.ax rk L (ixs.getD k []) L.length) hk (by rw [ownS_len];exact hrk) hf hM q1 q2
    rw [ownS_len] at hpl
    refine ⟨x,q,q1,q2,q3,hpl,⟨j1,j2,j3,by rw [ownS_len];exact j4,fun a ha=>?_,fun y hy=>?_,by simp⟩⟩
    ·obtain ⟨j,hj,rfl⟩:=ownS_mem ha
     exact okA_val (hm j hj).2.1
    ·rw [List.eq_of_mem_replicate (show y∈List.replicate L.length [] from hy)];simp
  have hokA:=okA_val hav
  obtain ⟨op,a1,a2,ax,a4,num,⟨ae,ad,aX⟩,fn,ck,t1,t2,t3⟩:=i
  obtain ⟨re,rd,rx⟩:=ra
  simp only [lifV]
  refine pcR L7_ok (kp7) Tryz.func7 [.tmp 4] (h:=fun KF=>?_)
  unfold L7
  repeat' (first
   |(with_reducible first|refine nx ?_|refine t_seq fun K=>?_|refine t_br (fun hc=>?_) fun hc=>?_|refine t_bx ?_|apply And.intro|intro vr)|exact kpd
   |((with_reducible first|refine ny ?_|refine t_kLF ?_ ?_|refine t_drawE (id:=21) (fun i=>i==0) [(0,1),(1,1),(2,1),(3,1),(4,1),(5,1),(6,1),(7,1),(8,1),(9,1),(10,1),(11,1),(12,1),(13,0),(14,0),(15,1)] (by kernel_rfl) fun K=>?_|refine t_dwh (h:=fun K KL=>?_));intros;simp only [go_sem,kp7,geff,hw,hR,hrr,hX,e00,arrs_length,arrV,inV,rkV,ilsl_len,Bool.not_true]))
  all_goals try (first|exact hl|exact hx|exact hL|exact hJ)
  all_goals try exact nd
  refine t_loopF (ι:=Jl7 (fun ix=>runK ⟨op,a1,a2,ax,a4,num,⟨ae,ad,aX⟩,fn,ck,t1,t2,t3⟩ sz (ownS ax rk L ix L.length) kd) ixs) (fun i=>[(80,.lit (.int .i64 i.k)),(12,.lit (.bool i.vi))]) (fun _=>[.box 58 [.lit (.string op),.sl false 1 a1,.sl false 2 a2,.sl false 1 (ils ax),.sl false 2 a4,.lit (.int .i64 num),.lit (.string ae),.sl false 1 (ints .i64 ad),.sl false 1 (ints .i64 aX),.sl false 3 (stps fn),.lit (.int .i64 ck),.lit (.string t1),.lit (.string t2),.sl false 2 t3,.sl false 1 (ints .i64 fr),.sl false 1 (ints .i64 sz)],.box 31 [.lit (.string re),.sl false 1 (ints .i64 rd),.sl false 1 (ints .i64 rx)],.box 56 [.lit (.string op),.sl false 1 a1,.sl false 2 a2,.arr 3 0,.sl false 2 a4,.lit (.int .i64 num),.lit (.string ae),.sl false 1 (ints .i64 ad),.sl false 1 (ints .i64 aX),.sl false 3 (stps fn),.lit (.int .i64 ck),.lit (.string t1),.lit (.string t2),.sl false 2 t3],.arr 23 1 (List.replicate L.length (.sl true 1 [])) 0 true]) (fun i=>ixs.length - i.k) ⟨0,false,by omega,rfl⟩ ?_ ?_
  ·refine (le_frz (o:=3) rfl).trans ?_
   simp only [updL_nil,updL_cons,delF_top,delF_upd,Nat.reduceEqDiff,reduceIte,List.set_cons_zero,List.set_cons_succ]
   refine Le.frameS (by first|rfl|(simp only [go_sem];try rfl)) ?_
   repeat' (first|exact leF_top _|exact (fun _=>LeR.refl _)|(with_reducible refine leF_sl ?_ ?_)|(refine leF_upd ?_ ?_))
   all_goals (first|exact LeR.top _|exact LeR.refl _|(refine LeR.of_eq ?_;(try simp only [go_sem]);try rfl)|((try simp only [go_sem]);try rfl))
  rintro ⟨k,vi,hkk,hv⟩ K0
  rcases Nat.lt_or_ge k ixs.length with hc1|hc1
  ·have g3:decide ((k:Int)<(ixs.length:Int))=true:=decide_eq_true (by omega)
   obtain ⟨x,q,q1,q2,q3,q4,q5⟩:=hlift k hc1
   have hm:=hown _ (getD_mem [] hc1)
   have hq1:=hil _ (getD_mem [] hc1)
   have hvs:(vi||q)=(ixs.take (k+1)).any fun ix=>(runK ⟨op,a1,a2,ax,a4,num,⟨ae,ad,aX⟩,fn,ck,t1,t2,t3⟩ sz (ownS ax rk L ix L.length) kd).2.1:=by
     rw [hv,List.take_add_one,List.any_append,List.getElem?_eq_getElem hc1]
     simp only [Option.toList_some,List.any_cons,List.any_nil,Bool.or_false]
     rw [show ixs[k]=ixs.getD k [] by simp [List.getD,hc1],q1]
   generalize hix:ixs.getD k []=ix at q1 q3 q4 q5 hm hq1
   obtain ⟨xe,xd,xx⟩:=x
   have hsx:=same_self' q2
   have hdi:inI64 ((rd.length:Int) - (fr.length:Int)):=by
     have e1:rd.length≤1000000:=hokA.1
     have e2:fr.length≤1000000:=j7
     unfold inI64;omega
   have hokx:=okA_val q2
   have q3':cellS ⟨re,rd,rx⟩ ((rd.length:Int) - (fr.length:Int)) ix=(⟨xe,xd,xx⟩,0):=q3
   have q4':instrS ⟨op,a1,a2,List.replicate L.length [],a4,num,⟨ae,ad,aX⟩,fn,ck,t1,t2,t3⟩ [] sz (ownS ax rk L ix L.length)=(⟨xe,xd,xx⟩,q,0):=q4
   have q5':okJ ⟨op,a1,a2,List.replicate L.length [],a4,num,⟨ae,ad,aX⟩,fn,ck,t1,t2,t3⟩ [] sz (ownS ax rk L ix L.length):=q5
   repeat' (first
    |(with_reducible first|refine nx ?_|refine t_seq fun K=>?_|refine t_br (fun hc=>?_) fun hc=>?_|refine t_bx ?_|apply And.intro|intro vr)|exact kpd
    |((with_reducible first|refine ny ?_|refine t_kLF ?_ ?_|refine t_drawE (id:=21) (fun i=>i==0) [(0,1),(1,1),(2,1),(3,1),(4,1),(5,1),(6,1),(7,1),(8,1),(9,1),(10,1),(11,1),(12,1),(13,0),(14,0),(15,1)] (by kernel_rfl) fun K=>?_|refine t_dwh (h:=fun K KL=>?_));intros;simp only [go_sem,kp7,geff,g3,hix,ilsl_len,Int.toNat_natCast,arrs_length]))
   all_goals try exact nd
   refine t_loopF (ι:={p:Nat×Nat // p.1≤L.length}) (fun i=>[(86,.lit (.int .i64 i.1.1)),(16,.arr 4 i.1.2)]) (fun i=>[.box 58 [.lit (.string op),.sl false 1 a1,.sl false 2 a2,.sl false 1 (ils ax),.sl false 2 a4,.lit (.int .i64 num),.lit (.string ae),.sl false 1 (ints .i64 ad),.sl false 1 (ints .i64 aX),.sl false 3 (stps fn),.lit (.int .i64 ck),.lit (.string t1),.lit (.string t2),.sl false 2 t3,.sl false 1 (ints .i64 fr),.sl false 1 (ints .i64 sz)],.box 31 [.lit (.string re),.sl false 1 (ints .i64 rd),.sl false 1 (ints .i64 rx)],.box 56 [.lit (.string op),.sl false 1 a1,.sl false 2 a2,.arr 3 0,.sl false 2 a4,.lit (.int .i64 num),.lit (.string ae),.sl false 1 (ints .i64 ad),.sl false 1 (ints .i64 aX),.sl false 3 (stps fn),.lit (.int .i64 ck),.lit (.string t1),.lit (.string t2),.sl false 2 t3],.arr 23 1 (List.replicate L.length (.sl true 1 [])) 0 true,.arr 31 3 (arrs (ownS ax rk L ix i.1.1)) i.1.2 false]) (fun i=>L.length - i.1.1) ⟨(0,0),by simp⟩ ?_ ?_
   ·refine (le_nil 16 31 3 rfl).trans ?_
    exact lf
   rintro ⟨⟨j,w⟩,hj⟩ K1
   simp only at hj
   have how:=ownS_len (ax:=ax) (rk:=rk) (L:=L) (ix:=ix) (n:=j)
   rcases Nat.lt_or_ge j L.length with hc2|hc2
   ·have g4:decide ((j:Int)<(L.length:Int))=true:=decide_eq_true (by omega)
    have hja':okA ⟨(L.getD j nilA).e,(L.getD j nilA).d,(L.getD j nilA).x⟩:=j5 _ (getD_mem nilA hc2)
    have hjx:=j6 _ (getD_mem ([]:List Int) (show j<ax.length by have:ax.length=L.length:=o6;omega))
    have hjr:inI64 (rk.getD j 0):=by have:=hri _ (getD_mem (0:Int) (show j<rk.length by omega));unfold inI64;omega
    obtain ⟨⟨y,hy,hCe⟩,hv1,hv2⟩:=hm j hc2
    have hyl:y.length≤1000000:=by
      unfold pickS at hy
      split at hy
      ·cases hy
       show (pickM ix (ax.getD j [])).length≤1000000
       unfold pickM
       rw [List.length_map];exact hjx
      ·cases hy
    have hsu:=ownS_succ (ax:=ax) (rk:=rk) (L:=L) (ix:=ix) (n:=j)
    have hy':pickS ix (ax.getD j [])=some y:=hy
    have hCe1:cellS ⟨(L.getD j nilA).e,(L.getD j nilA).d,(L.getD j nilA).x⟩ (rk.getD j 0) y=(ownC ax rk L ix j,0):=hCe
    generalize ownC ax rk L ix j=ce at hCe1 hsu
    obtain ⟨ce1,cd1,cx1⟩:=ce
    repeat' (first
     |(with_reducible first|refine nx ?_|refine t_seq fun K=>?_|refine t_br (fun hc=>?_) fun hc=>?_|refine t_bx ?_|apply And.intro|intro vr)|exact kpd
     |((with_reducible first|refine ny ?_|refine t_kLF ?_ ?_|refine t_drawE (id:=21) (fun i=>i==0) [(0,1),(1,1),(2,1),(3,1),(4,1),(5,1),(6,1),(7,1),(8,1),(9,1),(10,1),(11,1),(12,1),(13,0),(14,0),(15,1)] (by kernel_rfl) fun K=>?_|refine t_dwh (h:=fun K KL=>?_));intros;simp only [go_sem,kp7,geff,g4,hy',optV_some,hCe1,arrV,arrs_app',←hsu,Int.toNat_natCast,arrs_length,ilsl_len,aeV_def]))
    all_goals try (first|exact hja'.1|exact hja'.2|exact hjr|exact hyl|exact hq1|exact hjx)
    all_goals try exact nd
    refine ⟨⟨(j+1,w+1),by omega⟩,by first|(simp only;omega)|omega,?_⟩
    simp only [updL_nil,updL_cons,delF_top,delF_upd,Nat.reduceEqDiff,reduceIte]
    refine le_backD (by first|rfl|(simp only [go_sem];try rfl)) (by first|exact Nat.zero_le _|simp) (by first|rfl|simp [lowO,low_lit,low_sl,low_ref,low_arr]) ?_ ?_
    ·repeat' (first|exact low_top|(refine low_upd rfl ?_))
    repeat' (first|exact leF_top _|exact (fun _=>LeR.refl _)|(with_reducible refine leF_sl ?_ ?_)|(refine leF_upd ?_ ?_))
    all_goals (first|exact LeR.top _|exact LeR.refl _|(refine LeR.of_eq ?_;(try simp only [go_sem]);try rfl)|((try simp only [go_sem]);try rfl))
   ·have g4:decide ((j:Int)<(L.length:Int))=false:=decide_eq_false (by omega)
    have ej:j=L.length:=by omega
    subst ej
    repeat' (first
     |(with_reducible first|refine nx ?_|refine t_seq fun K=>?_|refine t_br (fun hc=>?_) fun hc=>?_|refine t_bx ?_|apply And.intro|intro vr)|exact kpd
     |((with_reducible first|refine ny ?_|refine t_kLF ?_ ?_|refine t_drawE (id:=21) (fun i=>i==0) [(0,1),(1,1),(2,1),(3,1),(4,1),(5,1),(6,1),(7,1),(8,1),(9,1),(10,1),(11,1),(12,1),(13,0),(14,0),(15,1)] (by kernel_rfl) fun K=>?_|refine t_dwh (h:=fun K KL=>?_));intros;simp only [go_sem,kp7,geff,g4,q3',q4',hsx,e00,arrV,Int.toNat_natCast,arrs_length,ilsOf_rep,slK_nil,slK_emp,aeV_def,arrsOf_sl,Bool.not_true]))
    all_goals try (first|exact q5'|exact hdi|exact hokA.1|exact hokA.2|exact hokx.1|exact hokx.2|exact hq1)
    all_goals try exact nd
    refine ⟨⟨k+1,vi||q,by omega,hvs⟩,by show ixs.length - (k+1)<ixs.length - k;omega,?_⟩
    simp only [updL_nil,updL_cons,delF_top,delF_upd,Nat.reduceEqDiff,reduceIte]
    refine le_three (l:=[.box 58 [.lit (.string op),.sl false 1 a1,.sl false 2 a2,.sl false 1 (ils ax),.sl false 2 a4,.lit (.int .i64 num),.lit (.string ae),.sl false 1 (ints .i64 ad),.sl false 1 (ints .i64 aX),.sl false 3 (stps fn),.lit (.int .i64 ck),.lit (.string t1),.lit (.string t2),.sl false 2 t3,.sl false 1 (ints .i64 fr),.sl false 1 (ints .i64 sz)],.box 31 [.lit (.string re),.sl false 1 (ints .i64 rd),.sl false 1 (ints .i64 rx)],.box 56 [.lit (.string op),.sl false 1 a1,.sl false 2 a2,.arr 3 0,.sl false 2 a4,.lit (.int .i64 num),.lit (.string ae),.sl false 1 (ints .i64 ad),.sl false 1 (ints .i64 aX),.sl false 3 (stps fn),.lit (.int .i64 ck),.lit (.string t1),.lit (.string t2),.sl false 2 t3],.arr 23 1 (List.replicate L.length (.sl true 1 [])) 0 true]) (a:= .arr 31 3 (arrs (ownS ax rk L ix L.length)) w true) (b:= .box 31 [.lit (.string xe),.sl false 1 (ints .i64 xd),.sl false 1 (ints .i64 xx)]) (c:= .box 31 [.lit (.string xe),.sl false 1 (ints .i64 xd),.sl false 1 (ints .i64 xx)]) rfl (Nat.zero_le _) (by simp [lowO,low1,low0]) (by simp [lowO,low1,low0]) (by simp [lowO,low1,low0]) ?_ ?_
    ·intro m hm'
     repeat' (first|exact low_top|(refine low_upd ?_ ?_))
     all_goals (first|rfl|(simp only [low_arr,low_ref,decide_eq_true_eq];simp at hm';omega))
    repeat' (first|exact leF_top _|exact (fun _=>LeR.refl _)|(with_reducible refine leF_sl ?_ ?_)|(refine leF_upd ?_ ?_))
    all_goals (first|exact LeR.top _|exact LeR.refl _|(refine LeR.of_eq ?_;(try simp only [go_sem]);try rfl)|((try simp only [go_sem]);try rfl))
  ·have g3:decide ((k:Int)<(ixs.length:Int))=false:=decide_eq_false (by omega)
   have hvp:vi=rp:=by rw [hv,List.take_of_length_le hc1];exact hp.symm
   have hge:decide ((rd.length:Int)≥(fr.length:Int))=true:=by
     have:rd=fr++cd:=had
     rw [this,List.length_append];exact decide_eq_true (by omega)
   have hta:List.take fr.length rd=fr:=by
     have:rd=fr++cd:=had
     rw [this,List.take_left]
   have hds:=dself fr
   repeat' (first
    |(with_reducible first|refine nx ?_|refine t_seq fun K=>?_|refine t_br (fun hc=>?_) fun hc=>?_|refine t_bx ?_|apply And.intro|intro vr)|exact kpd
    |((with_reducible first|refine ny ?_|refine t_kLF ?_ ?_|refine t_drawE (id:=21) (fun i=>i==0) [(0,1),(1,1),(2,1),(3,1),(4,1),(5,1),(6,1),(7,1),(8,1),(9,1),(10,1),(11,1),(12,1),(13,0),(14,0),(15,1)] (by kernel_rfl) fun K=>?_|refine t_dwh (h:=fun K KL=>?_));intros;simp only [go_sem,kp7,geff,g3,hvp,hge,hta,hds,Int.toNat_natCast,List.drop_zero,beq_self_eq_true,ilsl_len,yes]))
   all_goals try exact nd
   all_goals (refine nl ?_;simp only [go_sem])
   exact LeA.refl _
theorem ft58:fieldTs Tryz.prog 58=[56,23,23]:=by kernel_rfl
end Go.Proofs.YtcpjahmajkhchaaGreat

namespace Go.Proofs.YtcpjahmajkhchaaGreat
open Go Go.Fw
set_option maxRecDepth 20000
theorem ft56:fieldTs Tryz.prog 56=[9,23,49,50,49,3,31,22,3,54]:=by kernel_rfl
theorem ft54:fieldTs Tryz.prog 54=[9,52]:=by kernel_rfl
theorem ft52:fieldTs Tryz.prog 52=[9,49]:=by kernel_rfl
theorem szq:szT Tryz.prog 177=2:=by kernel_rfl
theorem sh_any {t e:TypeId} {n:Nat} {xs:List AV} (ht:Tryz.prog.underlying t=some (.slice e)) (hz:szT Tryz.prog e=n) (h:Sh Tryz.prog t xs):∃ ys,xs=[.sl false n ys]:=by
  obtain ⟨ys,rfl, -, -⟩:=sh_slice ht h
  exact ⟨ys,by rw [hz]⟩
theorem sh_ilsJ {xs:List AV} (h:Sh Tryz.prog 50 xs):∃ l:List (List Int),xs=[.sl false 1 (ils l)]∧l.length≤maxLen:=by
  obtain ⟨ys,rfl,hl,hy⟩:=sh_slice u50 h
  obtain ⟨l,rfl⟩:=list_ils fun y hm=>by
    obtain ⟨a,rfl, -, -⟩:=shv_ints u23 u3 sz3 (hy y hm)
    exact ⟨a,rfl⟩
  exact ⟨l,by rw [show szT Tryz.prog 23=1 by kernel_rfl],by simpa [ils] using hl⟩
theorem sh_arrJ {xs:List AV} (h:Sh Tryz.prog 31 xs):∃ a:Arr,xs=[.lit (.string a.e),.sl false 1 (ints .i64 a.d),.sl false 1 (ints .i64 a.x)]:=by
  obtain ⟨p,q,r,rfl,hp,hq,hr⟩:=sh_three ft31 h
  obtain ⟨s,rfl, -⟩:=sh_str u9 hp
  obtain ⟨d,rfl, -, -⟩:=sh_ints u23 u3 sz3 hq
  obtain ⟨w,rfl, -, -⟩:=sh_ints u23 u3 sz3 hr
  exact ⟨⟨s,d,w⟩,rfl⟩
theorem sh_stpsJ {xs:List AV} (h:Sh Tryz.prog 22 xs):∃ l:List Stp,xs=[.sl false 3 (stps l)]∧l.length≤maxLen:=by
  obtain ⟨ys,rfl,hl,hy⟩:=sh_slice u22 h
  obtain ⟨l,rfl⟩:=list_stps fun y hm=>shv_stp (hy y hm)
  exact ⟨l,by rw [sz78],by simpa [stps_length] using hl⟩
theorem sh_typ {xs:List AV} (h:Sh Tryz.prog 54 xs):∃ (t1 t2:ByteArray) (t3:List AV),xs=[.lit (.string t1),.lit (.string t2),.sl false 2 t3]:=by
  obtain ⟨p,q,rfl,hp,hq⟩:=sh_two ft54 h
  obtain ⟨t1,rfl, -⟩:=sh_str u9 hp
  obtain ⟨r,s,rfl,hr,hs⟩:=sh_two ft52 hq
  obtain ⟨t2,rfl, -⟩:=sh_str u9 hr
  obtain ⟨t3,rfl⟩:=sh_any u49 szq hs
  exact ⟨t1,t2,t3,rfl⟩
theorem sh_ins {xs:List AV} (h:Sh Tryz.prog 56 xs):∃ i:Ins,AV.agg xs=insV i∧i.fn.length≤maxLen∧i.ax.length≤maxLen:=by
  obtain ⟨xss,rfl,hl,hx⟩:=sh_fields (by simp) ft56 h
  match xss,hl,hx with
  |[x0,x1,x2,x3,x4,x5,x6,x7,x8,x9],_,hx=>
   obtain ⟨op,rfl, -⟩:=sh_str u9 (hx 0 9 x0 rfl rfl)
   obtain ⟨a1,rfl⟩:=sh_any u23 sz3 (hx 1 23 x1 rfl rfl)
   obtain ⟨a2,rfl⟩:=sh_any u49 szq (hx 2 49 x2 rfl rfl)
   obtain ⟨ax,rfl,hax⟩:=sh_ilsJ (hx 3 50 x3 rfl rfl)
   obtain ⟨a4,rfl⟩:=sh_any u49 szq (hx 4 49 x4 rfl rfl)
   obtain ⟨num,rfl, -⟩:=sh_int u3 (hx 5 3 x5 rfl rfl)
   obtain ⟨ar,rfl⟩:=sh_arrJ (hx 6 31 x6 rfl rfl)
   obtain ⟨fn,rfl,hfn⟩:=sh_stpsJ (hx 7 22 x7 rfl rfl)
   obtain ⟨ck,rfl, -⟩:=sh_int u3 (hx 8 3 x8 rfl rfl)
   obtain ⟨t1,t2,t3,rfl⟩:=sh_typ (hx 9 54 x9 rfl rfl)
   exact ⟨⟨op,a1,a2,ax,a4,num,ar,fn,ck,t1,t2,t3⟩,rfl,hfn,hax⟩
theorem shv_lif {x:AV} (h:ShV Tryz.prog 58 x):∃ (i:Ins) (fr sz:List Int),x=lifV i fr sz∧i.fn.length≤maxLen∧i.ax.length≤maxLen:=by
  obtain ⟨c,rfl,hc⟩:=shv_agg ag58 h
  obtain ⟨p,q,r,rfl,hp,hq,hr⟩:=sh_three ft58 hc
  obtain ⟨i,hi,h1,h2⟩:=sh_ins hp
  obtain ⟨fr,rfl, -, -⟩:=sh_ints u23 u3 sz3 hq
  obtain ⟨sz,rfl, -, -⟩:=sh_ints u23 u3 sz3 hr
  refine ⟨i,fr,sz,?_,h1,h2⟩
  have e:p=[.lit (.string i.op),.sl false 1 i.a1,.sl false 2 i.a2,.sl false 1 (ils i.ax),.sl false 2 i.a4,.lit (.int .i64 i.num),.lit (.string i.arr.e),.sl false 1 (ints .i64 i.arr.d),.sl false 1 (ints .i64 i.arr.x),.sl false 3 (stps i.fn),.lit (.int .i64 i.ck),.lit (.string i.t1),.lit (.string i.t2),.sl false 2 i.t3]:=AV.agg.inj hi
  rw [e];rfl
theorem lifts_law:∀ xs,ShL Tryz.prog Tryz.f7.params.toList xs→PC Tryz.prog 7 xs (.lit (.bool true))
  |[x,y],h=>by
   obtain ⟨i,fr,sz,rfl,h1,h2⟩:=shv_lif h.1
   obtain ⟨L,rfl,hL, -⟩:=shv_arrs h.2.1
   exact lifts_law_pc h1 h2 hL
  |[],h=>h.elim
  |[_],h=>h.2.elim
  |_::_::_::_,h=>h.2.2.elim
end Go.Proofs.YtcpjahmajkhchaaGreat
