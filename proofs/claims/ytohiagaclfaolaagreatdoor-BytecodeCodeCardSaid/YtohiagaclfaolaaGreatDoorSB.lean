import Derived.Test.YtohiagaclfaolaaGreatDoorSA
import Derived.Lib.AppendZeros
import Derived.Lib.Walk
import Derived.Lib.Slices
import Derived.Lib.Bytealg

set_option linter.all false

namespace Go.Proofs.YtohiagaclfaolaaGreatDoor
open Go Go.Fw Bm
set_option maxRecDepth 20000
def kA (j:Nat):List Int:=0::List.replicate j 0
def rB (j:Nat):List Int:=(List.range j).map fun i:Nat=>(i:Int)+1
theorem kA_length (j:Nat):(ints .i64 (kA j)).length=j+1:=by simp [kA,ints]
theorem rB_length (j:Nat):(ints .i64 (rB j)).length=j:=by simp [rB,ints]
theorem kA_app (j:Nat):ints .i64 (kA j)++[.lit (.int .i64 0)]=ints .i64 (kA (j+1)):=by
  rw [ints_append1,kA,kA,List.replicate_succ',List.cons_append]
theorem rB_app (j:Nat):ints .i64 (rB j)++[.lit (.int .i64 ((j:Int)+1))]=ints .i64 (rB (j+1)):=by
  rw [ints_append1,rB,rB,List.range_succ,List.map_append];rfl
theorem kndS_5 {a b c d:Int} {p:ByteArray}:kndS ⟨5,p,a,b,c,d⟩=match El.typesS p with
  |some r=>kA r.ps.length
  |none=>[0]:=rfl
theorem redS_5 {a b c d:Int} {p:ByteArray}:redS ⟨5,p,a,b,c,d⟩=match El.typesS p with
  |some r=>rB r.ps.length
  |none=>[]:=rfl
theorem shpV_5 {a b c d:Int} {p:ByteArray} {r:El.Rw} (h:El.typesS p=some r):shpV ⟨5,p,a,b,c,d⟩= .tup [.agg [.lit (.string ⟨#[112,114,105,109]⟩),.sl false 1 (ints .i64 (kA r.ps.length)),.lit (.bool true),.sl false 1 (ints .i64 (rB r.ps.length))],.lit (.bool true)]:=by
  simp only [shpV,kndS_5,redS_5,shpOk,h];rfl
theorem shpV_5n {a b c d:Int} {p:ByteArray} (h:El.typesS p=none):shpV ⟨5,p,a,b,c,d⟩= .tup [.agg [.lit (.string ⟨#[112,114,105,109]⟩),.sl false 1 [.lit (.int .i64 0)],.lit (.bool true),.sl false 1 []],.lit (.bool false)]:=by
  simp only [shpV,kndS_5,redS_5,shpOk,h];rfl
noncomputable def V6:Env:=envJ (P:=Tryz.prog) jkV zer (fun _=>false) (fun _=>false) [con100,El.con101] []
theorem V6_ok:EnvOk Tryz.prog V6:=envJOk zer_ok
set_option maxHeartbeats 8000000 in
theorem shape_pc {x:Ins}:PC Tryz.prog 76 [opV x] (shpV x):=by
  obtain ⟨k,p,a,b,c,d⟩:=x
  simp only [opV]
  rcases (show k<1∨k>15∨k=5∨k=1∨k=2∨k=3∨k=4∨k=6∨k=7∨k=8∨k=9∨k=10∨k=11∨k=12∨k=13∨k=14∨k=15 by omega) with h|h|rfl|rfl|rfl|rfl|rfl|rfl|rfl|rfl|rfl|rfl|rfl|rfl|rfl|rfl|rfl
  ·rw [shpV_of (by omega),if_pos (.inl h)]
   have g1:decide (k<1)=true:=decide_eq_true h
   have e1:kndL k=[]:=by unfold kndL;repeat (rw [if_neg (by omega)])
   have e2:redL k=[]:=by unfold redL;repeat (rw [if_neg (by omega)])
   have e3:namL k=ByteArray.empty:=by unfold namL;(repeat rw [if_neg (by omega)]);rfl
   have e4:wrtB k=false:=by simp only [wrtB];simp;omega
   rw [e1,e2,e3,e4]
   refine pcR V6_ok (kp76) Tryz.func76 [.cell 2 111,.tmp 3] (h:=fun KF=>?_)
   unfold V6
   repeat' first|(with_reducible first|(refine nx ?_;intros)|refine t_br (fun hc=>?_) fun hc=>?_|apply And.intro|intro vr)|exact kpd|((with_reducible refine t_drawG (id:=3) (fun i=>i==0) 4 [(1,1),(2,1),(0,1),(3,1),(4,3),(5,0)] (by kernel_rfl) (by kernel_rfl) (by kernel_rfl) fun K=>?_);simp only [noA,List.filter_cons,List.filter_nil,Nat.reduceBEq,Bool.not_false,Bool.not_true,reduceIte,if_true,Bool.false_eq_true];simp only [pickO,List.getElem?_toArray,List.getElem?_cons_zero,List.getElem?_cons_succ,Nat.reduceAdd,Nat.reduceSub,fo_some];refine nh ?_;intro KL;simp only [go_sem,kp76,geff,g1])|((with_reducible first|refine ny ?_|refine t_kLF ?_ ?_|refine t_drawX (id:=10) (fun i=>i==0) [(0,1),(2,1),(4,1),(6,1),(7,1),(8,1),(1,3),(5,3),(3,0),(10,1),(9,0),(11,0),(12,1),(13,0)] (by kernel_rfl) fun K=>?_);intros;simp only [go_sem,kp76,geff,g1])
   all_goals try exact nd
   all_goals (refine nl ?_;simp only [go_sem])
   exact LeA.tup ⟨LeA.agg ⟨LeA.refl _,LeA.slx rfl,LeA.refl _,LeA.slx rfl,trivial⟩,LeA.refl _,trivial⟩
  ·rw [shpV_of (by omega),if_pos (.inr h)]
   have g1:decide (k<1)=false:=decide_eq_false (by omega)
   have g2:decide (k>15)=true:=decide_eq_true h
   have e1:kndL k=[]:=by unfold kndL;repeat (rw [if_neg (by omega)])
   have e2:redL k=[]:=by unfold redL;repeat (rw [if_neg (by omega)])
   have e3:namL k=ByteArray.empty:=by unfold namL;(repeat rw [if_neg (by omega)]);rfl
   have e4:wrtB k=false:=by simp only [wrtB];simp;omega
   rw [e1,e2,e3,e4]
   refine pcR V6_ok (kp76) Tryz.func76 [.cell 2 111,.tmp 3] (h:=fun KF=>?_)
   unfold V6
   repeat' first|(with_reducible first|(refine nx ?_;intros)|refine t_br (fun hc=>?_) fun hc=>?_|apply And.intro|intro vr)|exact kpd|((with_reducible refine t_drawG (id:=3) (fun i=>i==0) 4 [(1,1),(2,1),(0,1),(3,1),(4,3),(5,0)] (by kernel_rfl) (by kernel_rfl) (by kernel_rfl) fun K=>?_);simp only [noA,List.filter_cons,List.filter_nil,Nat.reduceBEq,Bool.not_false,Bool.not_true,reduceIte,if_true,Bool.false_eq_true];simp only [pickO,List.getElem?_toArray,List.getElem?_cons_zero,List.getElem?_cons_succ,Nat.reduceAdd,Nat.reduceSub,fo_some];refine nh ?_;intro KL;simp only [go_sem,kp76,geff,g1,g2])|((with_reducible first|refine ny ?_|refine t_kLF ?_ ?_|refine t_drawX (id:=10) (fun i=>i==0) [(0,1),(2,1),(4,1),(6,1),(7,1),(8,1),(1,3),(5,3),(3,0),(10,1),(9,0),(11,0),(12,1),(13,0)] (by kernel_rfl) fun K=>?_);intros;simp only [go_sem,kp76,geff,g1,g2])
   all_goals try exact nd
   all_goals (refine nl ?_;simp only [go_sem])
   exact LeA.tup ⟨LeA.agg ⟨LeA.refl _,LeA.slx rfl,LeA.refl _,LeA.slx rfl,trivial⟩,LeA.refl _,trivial⟩
  ·cases hT:El.typesS p with
   |none=>
    rw [shpV_5n hT]
    refine pcR V6_ok (kp76) Tryz.func76 [.cell 2 111,.tmp 3] (h:=fun KF=>?_)
    unfold V6
    repeat' first|(with_reducible first|(refine nx ?_;intros)|refine t_br (fun hc=>?_) fun hc=>?_|apply And.intro|intro vr)|exact kpd|((with_reducible refine t_drawG (id:=3) (fun i=>i==0) 4 [(1,1),(2,1),(0,1),(3,1),(4,3),(5,0)] (by kernel_rfl) (by kernel_rfl) (by kernel_rfl) fun K=>?_);simp only [noA,List.filter_cons,List.filter_nil,Nat.reduceBEq,Bool.not_false,Bool.not_true,reduceIte,if_true,Bool.false_eq_true];simp only [pickO,List.getElem?_toArray,List.getElem?_cons_zero,List.getElem?_cons_succ,Nat.reduceAdd,Nat.reduceSub,fo_some];refine nh ?_;intro KL;simp only [go_sem,kp76,geff,hT,yes])|((with_reducible first|refine ny ?_|refine t_kLF ?_ ?_|refine t_drawX (id:=10) (fun i=>i==0) [(0,1),(2,1),(4,1),(6,1),(7,1),(8,1),(1,3),(5,3),(3,0),(10,1),(9,0),(11,0),(12,1),(13,0)] (by kernel_rfl) fun K=>?_);intros;simp only [go_sem,kp76,geff,hT,yes])
    all_goals try exact nd
    refine t_loopF (ι:=Unit) (fun i=>[(35,.lit (.int .i64 0))]) (fun i=>[.box 50 [.lit (.int .i64 5),.lit (.string p),.lit (.int .i64 a),.lit (.int .i64 b),.lit (.int .i64 c),.lit (.int .i64 d)],.box 111 [.lit (.string ByteArray.empty),.sl true 1 [],.lit (.bool false),.sl true 1 []],.box 111 [.lit (.string ⟨#[112,114,105,109]⟩),.sl true 1 [.lit (.int .i64 0)],.lit (.bool true),.lit (.slice none 0 0)]]) (fun i=>0) () ?_ ?_
    ·exact lf
    rintro ⟨⟩ K0
    repeat' first|(with_reducible first|(refine nx ?_;intros)|refine t_br (fun hc=>?_) fun hc=>?_|apply And.intro|intro vr)|exact kpd|((with_reducible refine t_drawG (id:=3) (fun i=>i==0) 4 [(1,1),(2,1),(0,1),(3,1),(4,3),(5,0)] (by kernel_rfl) (by kernel_rfl) (by kernel_rfl) fun K=>?_);simp only [noA,List.filter_cons,List.filter_nil,Nat.reduceBEq,Bool.not_false,Bool.not_true,reduceIte,if_true,Bool.false_eq_true];simp only [pickO,List.getElem?_toArray,List.getElem?_cons_zero,List.getElem?_cons_succ,Nat.reduceAdd,Nat.reduceSub,fo_some];refine nh ?_;intro KL;simp only [go_sem,kp76,geff,hT,yes])|((with_reducible first|refine ny ?_|refine t_kLF ?_ ?_|refine t_drawX (id:=10) (fun i=>i==0) [(0,1),(2,1),(4,1),(6,1),(7,1),(8,1),(1,3),(5,3),(3,0),(10,1),(9,0),(11,0),(12,1),(13,0)] (by kernel_rfl) fun K=>?_);intros;simp only [go_sem,kp76,geff,hT,yes])
    all_goals try exact nd
    all_goals (refine nl ?_;simp only [go_sem])
    exact LeA.tup ⟨LeA.agg ⟨LeA.refl _,LeA.slx rfl,LeA.refl _,LeA.nil _ _,trivial⟩,LeA.refl _,trivial⟩
   |some r=>
    rw [shpV_5 hT]
    have hl3:r.ps.length≤3:=by rcases typesS_len hT with h|h|h<;>omega
    generalize hn:r.ps.length=n at hl3
    have hs:(strs r.ps).length=n:=by rw [strs_length,hn]
    refine pcR V6_ok (kp76) Tryz.func76 [.cell 2 111,.tmp 3] (h:=fun KF=>?_)
    unfold V6
    repeat' first|(with_reducible first|(refine nx ?_;intros)|refine t_br (fun hc=>?_) fun hc=>?_|apply And.intro|intro vr)|exact kpd|((with_reducible refine t_drawG (id:=3) (fun i=>i==0) 4 [(1,1),(2,1),(0,1),(3,1),(4,3),(5,0)] (by kernel_rfl) (by kernel_rfl) (by kernel_rfl) fun K=>?_);simp only [noA,List.filter_cons,List.filter_nil,Nat.reduceBEq,Bool.not_false,Bool.not_true,reduceIte,if_true,Bool.false_eq_true];simp only [pickO,List.getElem?_toArray,List.getElem?_cons_zero,List.getElem?_cons_succ,Nat.reduceAdd,Nat.reduceSub,fo_some];refine nh ?_;intro KL;simp only [go_sem,kp76,geff,hT,hs,yes])|((with_reducible first|refine ny ?_|refine t_kLF ?_ ?_|refine t_drawX (id:=10) (fun i=>i==0) [(0,1),(2,1),(4,1),(6,1),(7,1),(8,1),(1,3),(5,3),(3,0),(10,1),(9,0),(11,0),(12,1),(13,0)] (by kernel_rfl) fun K=>?_);intros;simp only [go_sem,kp76,geff,hT,hs,yes])
    all_goals try exact nd
    refine t_loopF (ι:={i:Nat // i≤n}) (fun x=>[(35,.lit (.int .i64 x.1))]) (fun x=>match x.1 with
      |0=>[.box 50 [.lit (.int .i64 5),.lit (.string p),.lit (.int .i64 a),.lit (.int .i64 b),.lit (.int .i64 c),.lit (.int .i64 d)],.box 111 [.lit (.string ByteArray.empty),.sl true 1 [],.lit (.bool false),.sl true 1 []],.box 111 [.lit (.string ⟨#[112,114,105,109]⟩),.sl true 1 [.lit (.int .i64 0)],.lit (.bool true),.lit (.slice none 0 0)]]
      |j+1=>[.box 50 [.lit (.int .i64 5),.lit (.string p),.lit (.int .i64 a),.lit (.int .i64 b),.lit (.int .i64 c),.lit (.int .i64 d)],.box 111 [.lit (.string ByteArray.empty),.sl true 1 [],.lit (.bool false),.sl true 1 []],.box 111 [.lit (.string ⟨#[112,114,105,109]⟩),.arr 3 j,.lit (.bool true),.arr 4 j],
       .arr 3 1 (ints .i64 (kA (j+1))) j false,.arr 3 1 (ints .i64 (rB (j+1))) j false]) (fun x=>n - x.1) ⟨0,by omega⟩ ?_ ?_
    ·skip
     refine Le.frameS (by first|rfl|(simp only [go_sem];try rfl)) ?_
     exact lq
    rintro ⟨i,hi⟩ K0
    cases i with
    |zero=>
     rcases Nat.lt_or_ge 0 n with hc|hc
     ·have g3:decide (((0:Nat):Int)<(n:Int))=true:=decide_eq_true (by omega)
      repeat' first|(with_reducible first|(refine nx ?_;intros)|refine t_br (fun hc=>?_) fun hc=>?_|apply And.intro|intro vr)|exact kpd|((with_reducible refine t_drawG (id:=3) (fun i=>i==0) 4 [(1,1),(2,1),(0,1),(3,1),(4,3),(5,0)] (by kernel_rfl) (by kernel_rfl) (by kernel_rfl) fun K=>?_);simp only [noA,List.filter_cons,List.filter_nil,Nat.reduceBEq,Bool.not_false,Bool.not_true,reduceIte,if_true,Bool.false_eq_true];simp only [pickO,List.getElem?_toArray,List.getElem?_cons_zero,List.getElem?_cons_succ,Nat.reduceAdd,Nat.reduceSub,fo_some];refine nh ?_;intro KL;simp only [go_sem,kp76,geff,g3,yes])|((with_reducible first|refine ny ?_|refine t_kLF ?_ ?_|refine t_drawX (id:=10) (fun i=>i==0) [(0,1),(2,1),(4,1),(6,1),(7,1),(8,1),(1,3),(5,3),(3,0),(10,1),(9,0),(11,0),(12,1),(13,0)] (by kernel_rfl) fun K=>?_);intros;simp only [go_sem,kp76,geff,g3,yes])
      all_goals try exact nd
      exact ⟨⟨1,by omega⟩,wf,lf⟩
     ·have g3:decide (((0:Nat):Int)<(n:Int))=false:=decide_eq_false (by omega)
      have h0:n=0:=by omega
      subst h0
      repeat' first|(with_reducible first|(refine nx ?_;intros)|refine t_br (fun hc=>?_) fun hc=>?_|apply And.intro|intro vr)|exact kpd|((with_reducible refine t_drawG (id:=3) (fun i=>i==0) 4 [(1,1),(2,1),(0,1),(3,1),(4,3),(5,0)] (by kernel_rfl) (by kernel_rfl) (by kernel_rfl) fun K=>?_);simp only [noA,List.filter_cons,List.filter_nil,Nat.reduceBEq,Bool.not_false,Bool.not_true,reduceIte,if_true,Bool.false_eq_true];simp only [pickO,List.getElem?_toArray,List.getElem?_cons_zero,List.getElem?_cons_succ,Nat.reduceAdd,Nat.reduceSub,fo_some];refine nh ?_;intro KL;simp only [go_sem,kp76,geff,g3,yes])|((with_reducible first|refine ny ?_|refine t_kLF ?_ ?_|refine t_drawX (id:=10) (fun i=>i==0) [(0,1),(2,1),(4,1),(6,1),(7,1),(8,1),(1,3),(5,3),(3,0),(10,1),(9,0),(11,0),(12,1),(13,0)] (by kernel_rfl) fun K=>?_);intros;simp only [go_sem,kp76,geff,g3,yes])
      all_goals try exact nd
      all_goals (refine nl ?_;simp only [go_sem])
      exact LeA.tup ⟨LeA.agg ⟨LeA.refl _,LeA.slx rfl,LeA.refl _,LeA.nil _ _,trivial⟩,LeA.refl _,trivial⟩
    |succ j=>
     rcases Nat.lt_or_ge (j+1) n with hc|hc
     ·have g3:decide (((j+1:Nat):Int)<(n:Int))=true:=decide_eq_true (by omega)
      repeat' first|(with_reducible first|(refine nx ?_;intros)|refine t_br (fun hc=>?_) fun hc=>?_|apply And.intro|intro vr)|exact kpd|((with_reducible refine t_drawG (id:=3) (fun i=>i==0) 4 [(1,1),(2,1),(0,1),(3,1),(4,3),(5,0)] (by kernel_rfl) (by kernel_rfl) (by kernel_rfl) fun K=>?_);simp only [noA,List.filter_cons,List.filter_nil,Nat.reduceBEq,Bool.not_false,Bool.not_true,reduceIte,if_true,Bool.false_eq_true];simp only [pickO,List.getElem?_toArray,List.getElem?_cons_zero,List.getElem?_cons_succ,Nat.reduceAdd,Nat.reduceSub,fo_some];refine nh ?_;intro KL;simp only [go_sem,kp76,geff,g3,yes,kA_app,rB_app,kA_length,rB_length])|((with_reducible first|refine ny ?_|refine t_kLF ?_ ?_|refine t_drawX (id:=10) (fun i=>i==0) [(0,1),(2,1),(4,1),(6,1),(7,1),(8,1),(1,3),(5,3),(3,0),(10,1),(9,0),(11,0),(12,1),(13,0)] (by kernel_rfl) fun K=>?_);intros;simp only [go_sem,kp76,geff,g3,yes,kA_app,rB_app,kA_length,rB_length])
      all_goals try exact nd
      exact ⟨⟨j+2,by omega⟩,wf,lf⟩
     ·have g3:decide (((j+1:Nat):Int)<(n:Int))=false:=decide_eq_false (by omega)
      have h0:n=j+1:=by omega
      subst h0
      repeat' first|(with_reducible first|(refine nx ?_;intros)|refine t_br (fun hc=>?_) fun hc=>?_|apply And.intro|intro vr)|exact kpd|((with_reducible refine t_drawG (id:=3) (fun i=>i==0) 4 [(1,1),(2,1),(0,1),(3,1),(4,3),(5,0)] (by kernel_rfl) (by kernel_rfl) (by kernel_rfl) fun K=>?_);simp only [noA,List.filter_cons,List.filter_nil,Nat.reduceBEq,Bool.not_false,Bool.not_true,reduceIte,if_true,Bool.false_eq_true];simp only [pickO,List.getElem?_toArray,List.getElem?_cons_zero,List.getElem?_cons_succ,Nat.reduceAdd,Nat.reduceSub,fo_some];refine nh ?_;intro KL;simp only [go_sem,kp76,geff,g3,yes])|((with_reducible first|refine ny ?_|refine t_kLF ?_ ?_|refine t_drawX (id:=10) (fun i=>i==0) [(0,1),(2,1),(4,1),(6,1),(7,1),(8,1),(1,3),(5,3),(3,0),(10,1),(9,0),(11,0),(12,1),(13,0)] (by kernel_rfl) fun K=>?_);intros;simp only [go_sem,kp76,geff,g3,yes])
      all_goals try exact nd
      all_goals (refine nl ?_;simp only [go_sem])
      exact LeA.refl _
  all_goals
    rw [shpV_of (by decide),if_neg (by decide)]
    refine pcR V6_ok (kp76) Tryz.func76 [.cell 2 111,.tmp 3] (h:=fun KF=>?_)
    unfold V6
    repeat' first|(with_reducible first|(refine nx ?_;intros)|refine t_br (fun hc=>?_) fun hc=>?_|apply And.intro|intro vr)|exact kpd|((with_reducible refine t_drawG (id:=3) (fun i=>i==0) 4 [(1,1),(2,1),(0,1),(3,1),(4,3),(5,0)] (by kernel_rfl) (by kernel_rfl) (by kernel_rfl) fun K=>?_);simp only [noA,List.filter_cons,List.filter_nil,Nat.reduceBEq,Bool.not_false,Bool.not_true,reduceIte,if_true,Bool.false_eq_true];simp only [pickO,List.getElem?_toArray,List.getElem?_cons_zero,List.getElem?_cons_succ,Nat.reduceAdd,Nat.reduceSub,fo_some];refine nh ?_;intro KL;simp only [go_sem,kp76,geff,yes])|((with_reducible first|refine ny ?_|refine t_kLF ?_ ?_|refine t_drawX (id:=10) (fun i=>i==0) [(0,1),(2,1),(4,1),(6,1),(7,1),(8,1),(1,3),(5,3),(3,0),(10,1),(9,0),(11,0),(12,1),(13,0)] (by kernel_rfl) fun K=>?_);intros;simp only [go_sem,kp76,geff,yes])
    all_goals try exact nd
    all_goals (refine nl ?_;simp only [go_sem])
    exact LeA.tup ⟨LeA.agg ⟨LeA.refl _,(by first|exact LeA.slx rfl|exact LeA.nil _ _),LeA.refl _,(by first|exact LeA.slx rfl|exact LeA.nil _ _),trivial⟩,LeA.refl _,trivial⟩
noncomputable def con76:PCon Tryz.prog where
  f:=76
  c:=fun
   |[xx]=>match opOf xx with|some x=>some (True,shpV x)|_=>none
   |_=>none
  ok:=by
   intro args p r hc hp
   split at hc
   ·split at hc
    ·rename_i hx
     cases hc
     exact PC.weak shape_pc ⟨opOf_le hx,trivial⟩
    ·cases hc
   ·cases hc
  fk:=fk76
theorem con76_f:con76.f=76:=rfl
theorem con76_c {xx:AV}:con76.c [xx]=match opOf xx with|some x=>some (True,shpV x)|_=>none:=rfl
attribute [go_sem] con76_f con76_c
end Go.Proofs.YtohiagaclfaolaaGreatDoor

namespace Go.Proofs.YtohiagaclfaolaaGreatDoor
open Go Go.Fw Bm
set_option maxRecDepth 20000
def opk (l:List Int) (regs:Int) (i:Nat) (n:Int):Bool:=if i<l.length then kindOk (l.getD i 0) n regs else decide (n=0)
def rightK (x:Ins) (regs:Int):Bool:=(shpOk x&&(decide (x.code=5)||decide (x.prim.data.toList=[])))&&(opk (kndS x) regs 0 x.a&&opk (kndS x) regs 1 x.b&&opk (kndS x) regs 2 x.c&&opk (kndS x) regs 3 x.d)
theorem right_knd (x:Ins) (regs:Int):rightS x regs=rightK x regs:=by
  obtain ⟨k,p,a,b,c,d⟩:=x
  rcases (show k<1∨k>15∨k=5∨k=1∨k=2∨k=3∨k=4∨k=6∨k=7∨k=8∨k=9∨k=10∨k=11∨k=12∨k=13∨k=14∨k=15 by omega) with h|h|rfl|rfl|rfl|rfl|rfl|rfl|rfl|rfl|rfl|rfl|rfl|rfl|rfl|rfl|rfl
  ·have e1:formS ⟨k,p,a,b,c,d⟩=none:=by unfold formS;simp only;repeat rw [if_neg (by omega)]
   simp [rightS,rightK,e1,shpOk,h]
  ·have e1:formS ⟨k,p,a,b,c,d⟩=none:=by unfold formS;simp only;repeat rw [if_neg (by omega)]
   simp [rightS,rightK,e1,shpOk,h]
  ·cases hT:El.typesS p with
   |none=>
    have e1:formS ⟨5,p,a,b,c,d⟩=none:=by simp [formS,hT]
    simp [rightS,rightK,e1,shpOk,hT]
   |some r=>
    have e1:formS ⟨5,p,a,b,c,d⟩=some (List.replicate (1+r.ps.length) true):=by simp [formS,hT]
    have e2:kndS ⟨5,p,a,b,c,d⟩=kA r.ps.length:=by rw [kndS_5,hT]
    rcases typesS_len hT with h|h|h<;>rw [h] at e1 e2<;>rw [Bool.eq_iff_iff]<;>simp [rightS,rightK,e1,e2,shpOk,hT,oprOk,opk,kA,kindOk,restOk]
  all_goals (rw [Bool.eq_iff_iff];simp [rightS,formS,rightK,shpOk,oprOk,opk,kndS,kndL,kindOk,restOk])
  all_goals
    constructor
    ·rintro ⟨⟨h,h1⟩,h2⟩;exact ⟨h,by omega⟩
    ·rintro ⟨h,h1⟩;exact ⟨⟨h,by omega⟩,by omega⟩
noncomputable def V7:Env:=envJ (P:=Tryz.prog) jkV zer (fun _=>false) (fun _=>false) [con76,con77,con78] []
theorem V7_ok:EnvOk Tryz.prog V7:=envJOk zer_ok
set_option maxHeartbeats 8000000 in
theorem right_pc {x:Ins} {regs:Int}:PC Tryz.prog 45 [opV x,.lit (.int .i64 regs)] (.lit (.bool (rightS x regs))):=by
  obtain ⟨k,p,a,b,c,d⟩:=x
  rw [right_knd]
  simp only [opV]
  generalize hR:rightK ⟨k,p,a,b,c,d⟩ regs=R
  have hS:shpV ⟨k,p,a,b,c,d⟩= .tup [.agg [.lit (.string (namL k)),.sl false 1 (ints .i64 (kndS ⟨k,p,a,b,c,d⟩)),.lit (.bool (wrtB k)),.sl false 1 (ints .i64 (redS ⟨k,p,a,b,c,d⟩))],.lit (.bool (shpOk ⟨k,p,a,b,c,d⟩))]:=rfl
  simp only [rightK] at hR
  generalize kndS ⟨k,p,a,b,c,d⟩=L at hR hS
  generalize redS ⟨k,p,a,b,c,d⟩=M at hS
  generalize shpOk ⟨k,p,a,b,c,d⟩=ok at hR hS
  have hRR:=hR.symm
  have hLl:(ints .i64 L).length=L.length:=ints_length _ _
  cases ok with
  |false=>
   refine pcR V7_ok (kp45) Tryz.func45 [.tmp 4] (h:=fun KF=>?_)
   unfold V7
   with_reducible repeat' first|(refine nx ?_;intros)|refine t_br (fun hc=>?_) fun hc=>?_|apply And.intro|intro vr|(refine ny ?_;intros;simp only [go_sem,kp45,geff,hS,Bool.not_false])
   all_goals try exact nd
   all_goals (refine nl ?_;simp only [go_sem])
   exact LeA.of_eq (by rw [hRR];simp)
  |true=>
   refine pcR V7_ok (kp45) Tryz.func45 [.tmp 4] (h:=fun KF=>?_)
   unfold V7
   with_reducible repeat' first|(refine nx ?_;intros)|refine t_br (fun hc=>?_) fun hc=>?_|apply And.intro|intro vr|(refine ny ?_;intros;simp only [go_sem,kp45,geff,hS,Bool.not_true])
   all_goals try exact nd
   ·skip
    all_goals (refine nl ?_;simp only [go_sem])
    refine LeA.of_eq ?_
    rw [hRR]
    simp_all [eqS]
   have hpk:(decide (k=5)||decide (p.data.toList=[]))=true:=by
     have h1:=hc
     simp only [eqS,Bool.and_eq_false_iff,bne_eq_false_iff_eq,Bool.not_eq_false',beq_iff_eq] at h1
     rcases h1 with h1|h1
     ·simp [h1]
     ·rw [h1];simp
   refine t_loopF (ι:={i:Nat // i≤4∧∀ j,j<i→opk L regs j ([a,b,c,d].getD j 0)=true}) (fun i=>[(28,.lit (.int .i64 i.1))]) (fun i=>[.box 50 [.lit (.int .i64 k),.lit (.string p),.lit (.int .i64 a),.lit (.int .i64 b),.lit (.int .i64 c),.lit (.int .i64 d)],.box 111 [.lit (.string (namL k)),.sl false 1 (ints .i64 L),.lit (.bool (wrtB k)),.sl false 1 (ints .i64 M)]]) (fun i=>4 - i.1) ⟨0,by omega,by omega⟩ ?_ ?_
   ·exact lf
   rintro ⟨i,hi,hP⟩ K0
   rcases (show i=0∨i=1∨i=2∨i=3∨i=4 by omega) with rfl|rfl|rfl|rfl|rfl
   ·have h0:((((0:Nat):Int)):Int)=0:=rfl
    rcases Nat.lt_or_ge 0 L.length with hlt|hlt
    ·have g1:decide ((0:Int)<(L.length:Int))=true:=decide_eq_true (by omega)
     have g2:decide ((0:Int)≥(L.length:Int))=false:=decide_eq_false (by omega)
     cases hq:kindOk (L.getD 0 0) a regs with
     |true=>
      have hok:opk L regs 0 ([a,b,c,d].getD 0 0)=true:=by unfold opk;rw [if_pos hlt];exact hq
      with_reducible repeat' first|(refine nx ?_;intros)|refine t_br (fun hc=>?_) fun hc=>?_|apply And.intro|intro vr|(refine ny ?_;intros;simp only [go_sem,kp45,geff,h0,g1,g2,hq,yes])
      all_goals try exact nd
      exact ⟨⟨0+1,by omega,stepP hP hok⟩,wf,lf⟩
     |false=>
      have hno:opk L regs 0 a=false:=by unfold opk;rw [if_pos hlt];exact hq
      with_reducible repeat' first|(refine nx ?_;intros)|refine t_br (fun hc=>?_) fun hc=>?_|apply And.intro|intro vr|(refine ny ?_;intros;simp only [go_sem,kp45,geff,h0,g1,g2,hq,yes])
      all_goals try exact nd
      all_goals (refine nl ?_;simp only [go_sem])
      exact LeA.of_eq (by rw [hRR,hno];simp)
    ·have g1:decide ((0:Int)<(L.length:Int))=false:=decide_eq_false (by omega)
     have g2:decide ((0:Int)≥(L.length:Int))=true:=decide_eq_true (by omega)
     have hq:opk L regs 0 a=decide (a=0):=by unfold opk;rw [if_neg (by omega)]
     with_reducible repeat' first|(refine nx ?_;intros)|refine t_br (fun hc=>?_) fun hc=>?_|apply And.intro|intro vr|(refine ny ?_;intros;simp only [go_sem,kp45,geff,h0,g1,g2,yes])
     all_goals try exact nd
     ·skip
      all_goals (refine nl ?_;simp only [go_sem])
      have hno:opk L regs 0 a=false:=by rw [hq];exact decide_eq_false (by simpa using hc)
      exact LeA.of_eq (by rw [hRR,hno];simp)
     ·have hok:opk L regs 0 ([a,b,c,d].getD 0 0)=true:=by
        show opk L regs 0 a=true
        rw [hq];exact decide_eq_true (by simpa using hc)
      exact ⟨⟨0+1,by omega,stepP hP hok⟩,wf,lf⟩
   ·have h0:((((1:Nat):Int)):Int)=1:=rfl
    rcases Nat.lt_or_ge 1 L.length with hlt|hlt
    ·have g1:decide ((1:Int)<(L.length:Int))=true:=decide_eq_true (by omega)
     have g2:decide ((1:Int)≥(L.length:Int))=false:=decide_eq_false (by omega)
     cases hq:kindOk (L.getD 1 0) b regs with
     |true=>
      have hok:opk L regs 1 ([a,b,c,d].getD 1 0)=true:=by unfold opk;rw [if_pos hlt];exact hq
      with_reducible repeat' first|(refine nx ?_;intros)|refine t_br (fun hc=>?_) fun hc=>?_|apply And.intro|intro vr|(refine ny ?_;intros;simp only [go_sem,kp45,geff,h0,g1,g2,hq,yes])
      all_goals try exact nd
      exact ⟨⟨1+1,by omega,stepP hP hok⟩,wf,lf⟩
     |false=>
      have hno:opk L regs 1 b=false:=by unfold opk;rw [if_pos hlt];exact hq
      with_reducible repeat' first|(refine nx ?_;intros)|refine t_br (fun hc=>?_) fun hc=>?_|apply And.intro|intro vr|(refine ny ?_;intros;simp only [go_sem,kp45,geff,h0,g1,g2,hq,yes])
      all_goals try exact nd
      all_goals (refine nl ?_;simp only [go_sem])
      exact LeA.of_eq (by rw [hRR,hno];simp)
    ·have g1:decide ((1:Int)<(L.length:Int))=false:=decide_eq_false (by omega)
     have g2:decide ((1:Int)≥(L.length:Int))=true:=decide_eq_true (by omega)
     have hq:opk L regs 1 b=decide (b=0):=by unfold opk;rw [if_neg (by omega)]
     with_reducible repeat' first|(refine nx ?_;intros)|refine t_br (fun hc=>?_) fun hc=>?_|apply And.intro|intro vr|(refine ny ?_;intros;simp only [go_sem,kp45,geff,h0,g1,g2,yes])
     all_goals try exact nd
     ·skip
      all_goals (refine nl ?_;simp only [go_sem])
      have hno:opk L regs 1 b=false:=by rw [hq];exact decide_eq_false (by simpa using hc)
      exact LeA.of_eq (by rw [hRR,hno];simp)
     ·have hok:opk L regs 1 ([a,b,c,d].getD 1 0)=true:=by
        show opk L regs 1 b=true
        rw [hq];exact decide_eq_true (by simpa using hc)
      exact ⟨⟨1+1,by omega,stepP hP hok⟩,wf,lf⟩
   ·have h0:((((2:Nat):Int)):Int)=2:=rfl
    rcases Nat.lt_or_ge 2 L.length with hlt|hlt
    ·have g1:decide ((2:Int)<(L.length:Int))=true:=decide_eq_true (by omega)
     have g2:decide ((2:Int)≥(L.length:Int))=false:=decide_eq_false (by omega)
     cases hq:kindOk (L.getD 2 0) c regs with
     |true=>
      have hok:opk L regs 2 ([a,b,c,d].getD 2 0)=true:=by unfold opk;rw [if_pos hlt];exact hq
      with_reducible repeat' first|(refine nx ?_;intros)|refine t_br (fun hc=>?_) fun hc=>?_|apply And.intro|intro vr|(refine ny ?_;intros;simp only [go_sem,kp45,geff,h0,g1,g2,hq,yes])
      all_goals try exact nd
      exact ⟨⟨2+1,by omega,stepP hP hok⟩,wf,lf⟩
     |false=>
      have hno:opk L regs 2 c=false:=by unfold opk;rw [if_pos hlt];exact hq
      with_reducible repeat' first|(refine nx ?_;intros)|refine t_br (fun hc=>?_) fun hc=>?_|apply And.intro|intro vr|(refine ny ?_;intros;simp only [go_sem,kp45,geff,h0,g1,g2,hq,yes])
      all_goals try exact nd
      all_goals (refine nl ?_;simp only [go_sem])
      exact LeA.of_eq (by rw [hRR,hno];simp)
    ·have g1:decide ((2:Int)<(L.length:Int))=false:=decide_eq_false (by omega)
     have g2:decide ((2:Int)≥(L.length:Int))=true:=decide_eq_true (by omega)
     have hq:opk L regs 2 c=decide (c=0):=by unfold opk;rw [if_neg (by omega)]
     with_reducible repeat' first|(refine nx ?_;intros)|refine t_br (fun hc=>?_) fun hc=>?_|apply And.intro|intro vr|(refine ny ?_;intros;simp only [go_sem,kp45,geff,h0,g1,g2,yes])
     all_goals try exact nd
     ·skip
      all_goals (refine nl ?_;simp only [go_sem])
      have hno:opk L regs 2 c=false:=by rw [hq];exact decide_eq_false (by simpa using hc)
      exact LeA.of_eq (by rw [hRR,hno];simp)
     ·have hok:opk L regs 2 ([a,b,c,d].getD 2 0)=true:=by
        show opk L regs 2 c=true
        rw [hq];exact decide_eq_true (by simpa using hc)
      exact ⟨⟨2+1,by omega,stepP hP hok⟩,wf,lf⟩
   ·have h0:((((3:Nat):Int)):Int)=3:=rfl
    rcases Nat.lt_or_ge 3 L.length with hlt|hlt
    ·have g1:decide ((3:Int)<(L.length:Int))=true:=decide_eq_true (by omega)
     have g2:decide ((3:Int)≥(L.length:Int))=false:=decide_eq_false (by omega)
     cases hq:kindOk (L.getD 3 0) d regs with
     |true=>
      have hok:opk L regs 3 ([a,b,c,d].getD 3 0)=true:=by unfold opk;rw [if_pos hlt];exact hq
      with_reducible repeat' first|(refine nx ?_;intros)|refine t_br (fun hc=>?_) fun hc=>?_|apply And.intro|intro vr|(refine ny ?_;intros;simp only [go_sem,kp45,geff,h0,g1,g2,hq,yes])
      all_goals try exact nd
      exact ⟨⟨3+1,by omega,stepP hP hok⟩,wf,lf⟩
     |false=>
      have hno:opk L regs 3 d=false:=by unfold opk;rw [if_pos hlt];exact hq
      with_reducible repeat' first|(refine nx ?_;intros)|refine t_br (fun hc=>?_) fun hc=>?_|apply And.intro|intro vr|(refine ny ?_;intros;simp only [go_sem,kp45,geff,h0,g1,g2,hq,yes])
      all_goals try exact nd
      all_goals (refine nl ?_;simp only [go_sem])
      exact LeA.of_eq (by rw [hRR,hno];simp)
    ·have g1:decide ((3:Int)<(L.length:Int))=false:=decide_eq_false (by omega)
     have g2:decide ((3:Int)≥(L.length:Int))=true:=decide_eq_true (by omega)
     have hq:opk L regs 3 d=decide (d=0):=by unfold opk;rw [if_neg (by omega)]
     with_reducible repeat' first|(refine nx ?_;intros)|refine t_br (fun hc=>?_) fun hc=>?_|apply And.intro|intro vr|(refine ny ?_;intros;simp only [go_sem,kp45,geff,h0,g1,g2,yes])
     all_goals try exact nd
     ·skip
      all_goals (refine nl ?_;simp only [go_sem])
      have hno:opk L regs 3 d=false:=by rw [hq];exact decide_eq_false (by simpa using hc)
      exact LeA.of_eq (by rw [hRR,hno];simp)
     ·have hok:opk L regs 3 ([a,b,c,d].getD 3 0)=true:=by
        show opk L regs 3 d=true
        rw [hq];exact decide_eq_true (by simpa using hc)
      exact ⟨⟨3+1,by omega,stepP hP hok⟩,wf,lf⟩
   ·have hR4:R=true:=by
      rw [hRR,show opk L regs 0 a=true from hP 0 (by omega),show opk L regs 1 b=true from hP 1 (by omega),show opk L regs 2 c=true from hP 2 (by omega),show opk L regs 3 d=true from hP 3 (by omega),hpk]
      rfl
    have h0:((((4:Nat):Int)):Int)=4:=rfl
    with_reducible repeat' first|(refine nx ?_;intros)|refine t_br (fun hc=>?_) fun hc=>?_|apply And.intro|intro vr|(refine ny ?_;intros;simp only [go_sem,kp45,geff,h0])
    all_goals try exact nd
    all_goals (refine nl ?_;simp only [go_sem])
    exact LeA.of_eq (by rw [hR4])
noncomputable def con45:PCon Tryz.prog where
  f:=45
  c:=fun
   |[xx,.lit (.int .i64 r)]=>match opOf xx with|some x=>some (True,.lit (.bool (rightS x r)))|_=>none
   |_=>none
  ok:=by
   intro args p r hc hp
   split at hc
   ·split at hc
    ·rename_i hx
     cases hc
     exact PC.weak right_pc ⟨opOf_le hx,LeA.refl _,trivial⟩
    ·cases hc
   ·cases hc
  fk:=fk45
theorem con45_f:con45.f=45:=rfl
theorem con45_c {xx:AV} {r:Int}:con45.c [xx,.lit (.int .i64 r)]=match opOf xx with|some x=>some (True,.lit (.bool (rightS x r)))|_=>none:=rfl
attribute [go_sem] con45_f con45_c
end Go.Proofs.YtohiagaclfaolaaGreatDoor

namespace Go.Proofs.YtohiagaclfaolaaGreatDoor
open Go Go.Fw Bm
set_option maxRecDepth 20000
end Go.Proofs.YtohiagaclfaolaaGreatDoor

namespace Go.Proofs.YtohiagaclfaolaaGreatDoor
open Go Go.Fw Bm
set_option maxRecDepth 20000
theorem opV_mk {k a b c d:Int} {p:ByteArray}:opV ⟨k,p,a,b,c,d⟩= .agg [.lit (.int .i64 k),.lit (.string p),.lit (.int .i64 a),.lit (.int .i64 b),.lit (.int .i64 c),.lit (.int .i64 d)]:=rfl
attribute [go_sem] opV_mk
def stI (st:List Nat):List Int:=st.reverse.map fun n:Nat=>(n:Int)
theorem stI_cons (j:Nat) (st:List Nat):stI (j::st)=stI st++[(j:Int)]:=by simp [stI]
theorem stI_length (st:List Nat):(stI st).length=st.length:=by simp [stI]
def matchV (ops:List Ins):AV:=match matchS ops with
  |some mt=> .tup [.sl false 1 (ints .i64 mt),.lit (.bool true)]
  |none=> .tup [.sl false 1 [],.lit (.bool false)]
def mtV (r:Option (List Int)):AV:=match r with
  |some mt=> .tup [.sl false 1 (ints .i64 mt),.lit (.bool true)]
  |none=> .tup [.sl false 1 [],.lit (.bool false)]
theorem drop_getI {l:List Ins} {i:Nat} (h:i<l.length):l.drop i=l.getD i nilI::l.drop (i+1):=by
  rw [List.drop_eq_getElem_cons h,List.getD_eq_getElem?_getD,List.getElem?_eq_getElem h];rfl
theorem mt_none {r:Option (List Int)} (h:r=none):LeA (.tup [.lit (.slice none 0 0),.lit (.bool false)]) (mtV r):=by
  subst h;exact LeA.tup ⟨LeA.nil _ _,LeA.refl _,trivial⟩
theorem mt_some {r:Option (List Int)} {l:List Int} (h:r=some l):LeA (.tup [.sl false 1 (ints .i64 l),.lit (.bool true)]) (mtV r):=by
  subst h;exact LeA.refl _
theorem stP {i:Nat} {st:List Nat} (hs:∀ j∈st,j<i):∀ j∈i::st,j<i+1:=fun j hj=>(List.mem_cons.1 hj).elim (fun h=>by omega) (fun h=>by have:=hs j h;omega)
theorem stQ {i j:Nat} {st:List Nat} (hs:∀ k∈j::st,k<i):∀ k∈st,k<i:=fun k hk=>hs k (List.mem_cons_of_mem _ hk)
theorem stW {i:Nat} {st:List Nat} (hs:∀ j∈st,j<i):∀ j∈st,j<i+1:=fun j hj=>by have:=hs j hj;omega
theorem stI_last (j:Nat) (st:List Nat):(stI (j::st)).getD st.length 0=(j:Int):=by
  rw [stI_cons,getD_app_right _ _ _ (by rw [stI_length];exact Nat.le_refl _),stI_length,Nat.sub_self];rfl
theorem stI_take (j:Nat) (st:List Nat):(ints .i64 (stI (j::st))).take st.length=ints .i64 (stI st):=by
  rw [stI_cons]
  simp only [ints,List.map_append]
  rw [List.take_append_of_le_length (by simp [stI_length]),List.take_of_length_le (by simp [stI_length])]
theorem stI_tk (j:Nat) (st:List Nat):(stI (j::st)).take (0+st.length)=stI st:=by
  rw [Nat.zero_add,stI_cons,List.take_append_of_le_length (by simp [stI_length]),List.take_of_length_le (by simp [stI_length])]
theorem stI_n0:((stI []).length:Int) - 1= -1:=rfl
theorem stI_n1 (j:Nat) (st:List Nat):((stI (j::st)).length:Int) - 1=(st.length:Int):=by rw [stI_length,List.length_cons];omega
noncomputable def V9:Env:=envJ (P:=Tryz.prog) jkV zer (fun _=>false) (fun _=>false) [] []
theorem V9_ok:EnvOk Tryz.prog V9:=envJOk zer_ok
structure Mt (ops:List Ins) (R:Option (List Int)) where
  i:Nat
  u:Nat
  v:Nat
  out:List Int
  st:List Nat
  hi:i≤ops.length
  ho:out.length=i
  hs:∀ j∈st,j<i
  h4:st.length≤40
  hF:matchG ops (ops.drop i) i out st=R
set_option maxHeartbeats 8000000 in
theorem match_pc {ops:List Ins} (hl:ops.length≤1000000):PC Tryz.prog 22 [.sl false 6 (opsV ops)] (matchV ops):=by
  show PC _ _ _ (mtV (matchS ops))
  generalize hR:matchS ops=R
  unfold matchS at hR
  by_cases hn:ops.length>5000
  ·rw [if_pos hn] at hR
   have g1:decide ((ops.length:Int)>5000)=true:=decide_eq_true (by omega)
   refine pcR V9_ok (kp22) Tryz.func22 [.tmp 2,.tmp 3] (h:=fun KF=>?_)
   unfold V9
   with_reducible repeat' first|(refine nx ?_;intros)|refine t_br (fun hc=>?_) fun hc=>?_|apply And.intro|intro vr|(refine ny ?_;intros;simp only [go_sem,kp22,geff,g1])
   all_goals try exact nd
   all_goals (refine nl ?_;simp only [go_sem])
   exact mt_none hR.symm
  ·rw [if_neg hn] at hR
   have g1:decide ((ops.length:Int)>5000)=false:=decide_eq_false (by omega)
   refine pcR V9_ok (kp22) Tryz.func22 [.tmp 2,.tmp 3] (h:=fun KF=>?_)
   unfold V9
   with_reducible repeat' first|(refine nx ?_;intros)|refine t_br (fun hc=>?_) fun hc=>?_|apply And.intro|intro vr|(refine ny ?_;intros;simp only [go_sem,kp22,geff,g1])
   all_goals try exact nd
   refine t_loopF (ι:=Mt ops R) (fun i=>[(14,.lit (.int .i64 i.i)),(4,.arr 0 i.u),(5,.arr 1 i.v)]) (fun i=>[.arr 3 1 (ints .i64 i.out) i.u false,.arr 3 1 (ints .i64 (stI i.st)) i.v false]) (fun i=>ops.length - i.i) ⟨0,0,0,[],[],by omega,rfl,by simp,by simp,by simpa using hR⟩ ?_ ?_
   ·refine (le_nil 4 3 1 rfl).trans ?_
    refine (le_nil 5 3 1 rfl).trans ?_
    exact lf
   rintro ⟨i,u,v,out,st,hi,ho,hs,h4,hF⟩ K0
   have hol:(ints .i64 out).length=i:=by rw [ints_length,ho]
   have hsl:(ints .i64 (stI st)).length=st.length:=by rw [ints_length,stI_length]
   rcases Nat.lt_or_ge i ops.length with hc|hc
   ·have g3:decide ((i:Int)<(ops.length:Int))=true:=decide_eq_true (by omega)
    have hap:∀ n:Int,ints .i64 out++[.lit (.int .i64 n)]=ints .i64 (out++[n]):=fun n=>ints_append1 _ _ _
    have has:∀ n:Int,ints .i64 (stI st)++[.lit (.int .i64 n)]=ints .i64 (stI st++[n]):=fun n=>ints_append1 _ _ _
    rw [drop_getI hc] at hF
    generalize hx:ops.getD i nilI=x at hF
    obtain ⟨k,p,a,b,c,d⟩:=x
    simp only [matchG] at hF
    rcases (show k=10∨k=11∨k=12∨k=13∨(k≠10∧k≠11∧k≠12∧k≠13) by omega) with rfl|rfl|rfl|rfl|hk
    ·rw [if_pos (by omega)] at hF
     have hnx:stI st++[(i:Int)]=stI (i::st):=(stI_cons i st).symm
     by_cases h40:st.length≥40
     ·rw [if_pos h40] at hF
      have k5:decide ((st.length:Int)+1>40)=true:=decide_eq_true (by omega)
      with_reducible repeat' first|(refine nx ?_;intros)|refine t_br (fun hc=>?_) fun hc=>?_|apply And.intro|intro vr|(refine ny ?_;intros;simp only [go_sem,kp22,geff,g3,hx,k5,hap,has,hol,hnx,stI_length,List.length_cons,Int.natCast_add,Int.natCast_one,Int.toNat_natCast,yes])
      all_goals try exact nd
      all_goals (refine nl ?_;simp only [go_sem])
      exact mt_none hF.symm
     ·rw [if_neg h40] at hF
      have k5:decide ((st.length:Int)+1>40)=false:=decide_eq_false (by omega)
      with_reducible repeat' first|(refine nx ?_;intros)|refine t_br (fun hc=>?_) fun hc=>?_|apply And.intro|intro vr|(refine ny ?_;intros;simp only [go_sem,kp22,geff,g3,hx,k5,hap,has,hol,hnx,stI_length,List.length_cons,Int.natCast_add,Int.natCast_one,Int.toNat_natCast,yes])
      all_goals try exact nd
      refine ⟨⟨i+1,u+1,v+1,out++[(i:Int)],i::st,by omega,by simp [ho],stP hs,by simp only [List.length_cons];omega,hF⟩,by first|(simp only;omega)|omega,?_⟩
      try simp only [updL_nil,updL_cons,delF_top,delF_upd,Nat.reduceEqDiff,reduceIte]
      refine le_backD (by first|rfl|(simp only [go_sem];try rfl)) (by first|exact Nat.zero_le _|simp) (by first|rfl|simp [lowO,low_lit,low_sl,low_ref,low_arr,low_sub,low_mp]) ?_ ?_
      ·repeat' (first|exact low_top|(refine low_upd rfl ?_))
      exact lq
    ·rw [if_pos (by omega)] at hF
     have hnx:stI st++[(i:Int)]=stI (i::st):=(stI_cons i st).symm
     by_cases h40:st.length≥40
     ·rw [if_pos h40] at hF
      have k5:decide ((st.length:Int)+1>40)=true:=decide_eq_true (by omega)
      with_reducible repeat' first|(refine nx ?_;intros)|refine t_br (fun hc=>?_) fun hc=>?_|apply And.intro|intro vr|(refine ny ?_;intros;simp only [go_sem,kp22,geff,g3,hx,k5,hap,has,hol,hnx,stI_length,List.length_cons,Int.natCast_add,Int.natCast_one,Int.toNat_natCast,yes])
      all_goals try exact nd
      all_goals (refine nl ?_;simp only [go_sem])
      exact mt_none hF.symm
     ·rw [if_neg h40] at hF
      have k5:decide ((st.length:Int)+1>40)=false:=decide_eq_false (by omega)
      with_reducible repeat' first|(refine nx ?_;intros)|refine t_br (fun hc=>?_) fun hc=>?_|apply And.intro|intro vr|(refine ny ?_;intros;simp only [go_sem,kp22,geff,g3,hx,k5,hap,has,hol,hnx,stI_length,List.length_cons,Int.natCast_add,Int.natCast_one,Int.toNat_natCast,yes])
      all_goals try exact nd
      refine ⟨⟨i+1,u+1,v+1,out++[(i:Int)],i::st,by omega,by simp [ho],stP hs,by simp only [List.length_cons];omega,hF⟩,by first|(simp only;omega)|omega,?_⟩
      try simp only [updL_nil,updL_cons,delF_top,delF_upd,Nat.reduceEqDiff,reduceIte]
      refine le_backD (by first|rfl|(simp only [go_sem];try rfl)) (by first|exact Nat.zero_le _|simp) (by first|rfl|simp [lowO,low_lit,low_sl,low_ref,low_arr,low_sub,low_mp]) ?_ ?_
      ·repeat' (first|exact low_top|(refine low_upd rfl ?_))
      exact lq
    ·rw [if_neg (by omega),if_pos rfl] at hF
     cases st with
     |nil=>
      have k6:decide ((-1:Int)<0)=true:=by decide
      with_reducible repeat' first|(refine nx ?_;intros)|refine t_br (fun hc=>?_) fun hc=>?_|apply And.intro|intro vr|(refine ny ?_;intros;simp only [go_sem,kp22,geff,g3,hx,hap,hol,stI_n0,k6,Int.toNat_natCast,yes])
      all_goals try exact nd
      all_goals (refine nl ?_;simp only [go_sem])
      exact mt_none hF.symm
     |cons j st=>
      have hj:=hs j (List.mem_cons_self ..)
      have h4s:st.length≤39:=by simp only [List.length_cons] at h4;omega
      have hL:=stI_length st
      have hLj:(stI (j::st)).length=st.length+1:=stI_length (j::st)
      have k6:decide ((st.length:Int)<0)=false:=decide_eq_false (by omega)
      have hso:∀ n:Int,(ints .i64 (out++[(i:Int)])).set j (.lit (.int .i64 n))=ints .i64 ((out++[(i:Int)]).set j n):=fun n=>ints_set _ _ _ _
      simp only at hF
      generalize hy:ops.getD j nilI=y at hF
      obtain ⟨k',p',a',b',c',d'⟩:=y
      simp only at hF
      by_cases h11:k'=11
      ·rw [if_pos h11] at hF
       have k7:(k' !=11)=false:=by simp [h11]
       have hnx:ints .i64 (stI st)++[.lit (.int .i64 (i:Int))]=ints .i64 (stI (i::st)):=by rw [stI_cons];exact ints_append1 _ _ _
       with_reducible repeat' first|(refine nx ?_;intros)|refine t_br (fun hc=>?_) fun hc=>?_|apply And.intro|intro vr|(refine ny ?_;intros;simp only [go_sem,kp22,geff,g3,hx,hy,hap,hol,hso,stI_n1,stI_last,stI_take,stI_tk,hnx,k6,k7,Int.toNat_natCast,yes])
       all_goals try exact nd
       refine ⟨⟨i+1,u+1,v+2,(out++[(i:Int)]).set j (i:Int),i::st,by omega,by simp [ho],stP (stQ hs),h4,hF⟩,by first|(simp only;omega)|omega,?_⟩
       try simp only [updL_nil,updL_cons,delF_top,delF_upd,Nat.reduceEqDiff,reduceIte]
       refine le_backD (by first|rfl|(simp only [go_sem];try rfl)) (by first|exact Nat.zero_le _|simp) (by first|rfl|simp [lowO,low_lit,low_sl,low_ref,low_arr,low_sub,low_mp]) ?_ ?_
       ·repeat' (first|exact low_top|(refine low_upd rfl ?_))
       exact lq
      ·rw [if_neg h11] at hF
       have k7:(k' !=11)=true:=by simp [h11]
       with_reducible repeat' first|(refine nx ?_;intros)|refine t_br (fun hc=>?_) fun hc=>?_|apply And.intro|intro vr|(refine ny ?_;intros;simp only [go_sem,kp22,geff,g3,hx,hy,hap,hol,hso,stI_n1,stI_last,stI_take,stI_tk,k6,k7,Int.toNat_natCast,yes])
       all_goals try exact nd
       all_goals (refine nl ?_;simp only [go_sem])
       exact mt_none hF.symm
    ·rw [if_neg (by omega),if_neg (by omega),if_pos rfl] at hF
     cases st with
     |nil=>
      have k6:decide ((-1:Int)<0)=true:=by decide
      with_reducible repeat' first|(refine nx ?_;intros)|refine t_br (fun hc=>?_) fun hc=>?_|apply And.intro|intro vr|(refine ny ?_;intros;simp only [go_sem,kp22,geff,g3,hx,hap,hol,stI_n0,k6,Int.toNat_natCast,yes])
      all_goals try exact nd
      all_goals (refine nl ?_;simp only [go_sem])
      exact mt_none hF.symm
     |cons j st=>
      have hj:=hs j (List.mem_cons_self ..)
      have h4s:st.length≤39:=by simp only [List.length_cons] at h4;omega
      have hL:=stI_length st
      have hLj:(stI (j::st)).length=st.length+1:=stI_length (j::st)
      have k6:decide ((st.length:Int)<0)=false:=decide_eq_false (by omega)
      have hso:∀ n:Int,(ints .i64 (out++[(i:Int)])).set j (.lit (.int .i64 n))=ints .i64 ((out++[(i:Int)]).set j n):=fun n=>ints_set _ _ _ _
      simp only at hF
      with_reducible repeat' first|(refine nx ?_;intros)|refine t_br (fun hc=>?_) fun hc=>?_|apply And.intro|intro vr|(refine ny ?_;intros;simp only [go_sem,kp22,geff,g3,hx,hap,hol,hso,stI_n1,stI_last,stI_take,stI_tk,k6,Int.toNat_natCast,yes])
      all_goals try exact nd
      refine ⟨⟨i+1,u+1,v+1,(out++[(i:Int)]).set j (i:Int),st,by omega,by simp [ho],stW (stQ hs),by simp only [List.length_cons] at h4;omega,hF⟩,by simp only;omega,?_⟩
      refine (le_cut 5 (by simp only [go_sem];rfl) rfl).trans ?_
      try simp only [go_sem,stI_take,stI_tk]
      try simp only [updL_nil,updL_cons,delF_top,delF_upd,Nat.reduceEqDiff,reduceIte]
      refine le_backD (by first|rfl|(simp only [go_sem];try rfl)) (by first|exact Nat.zero_le _|simp) (by first|rfl|simp [lowO,low_lit,low_sl,low_ref,low_arr,low_sub,low_mp]) ?_ ?_
      ·repeat' (first|exact low_top|(refine low_upd rfl ?_))
      exact lq
    ·rw [if_neg (by omega),if_neg (by omega),if_neg (by omega)] at hF
     have k1:(k==10)=false:=by simpa using hk.1
     have k2:(k==11)=false:=by simpa using hk.2.1
     have k3:(k==12)=false:=by simpa using hk.2.2.1
     have k4:(k==13)=false:=by simpa using hk.2.2.2
     with_reducible repeat' first|(refine nx ?_;intros)|refine t_br (fun hc=>?_) fun hc=>?_|apply And.intro|intro vr|(refine ny ?_;intros;simp only [go_sem,kp22,geff,g3,hx,k1,k2,k3,k4,hap,hol,stI_length,Int.toNat_natCast,yes])
     all_goals try exact nd
     refine ⟨⟨i+1,u+1,v,out++[(i:Int)],st,by omega,by simp [ho],fun j hj=>by have:=hs j hj;omega,h4,hF⟩,by first|(simp only;omega)|omega,?_⟩
     try simp only [updL_nil,updL_cons,delF_top,delF_upd,Nat.reduceEqDiff,reduceIte]
     refine le_backD (by first|rfl|(simp only [go_sem];try rfl)) (by first|exact Nat.zero_le _|simp) (by first|rfl|simp [lowO,low_lit,low_sl,low_ref,low_arr,low_sub,low_mp]) ?_ ?_
     ·repeat' (first|exact low_top|(refine low_upd rfl ?_))
     exact lq
   ·have g3:decide ((i:Int)<(ops.length:Int))=false:=decide_eq_false (by omega)
    rw [List.drop_eq_nil_of_le hc] at hF
    cases st with
    |nil=>
     with_reducible repeat' first|(refine nx ?_;intros)|refine t_br (fun hc=>?_) fun hc=>?_|apply And.intro|intro vr|(refine ny ?_;intros;simp only [go_sem,kp22,geff,g3,stI_length,List.length_nil,yes])
     all_goals try exact nd
     all_goals (refine nl ?_;simp only [go_sem])
     exact mt_some (by rw [←hF];rfl)
    |cons j st=>
     have k5:decide (((j::st).length:Int)>0)=true:=decide_eq_true (by simp only [List.length_cons];omega)
     with_reducible repeat' first|(refine nx ?_;intros)|refine t_br (fun hc=>?_) fun hc=>?_|apply And.intro|intro vr|(refine ny ?_;intros;simp only [go_sem,kp22,geff,g3,stI_length,k5,yes])
     all_goals try exact nd
     all_goals (refine nl ?_;simp only [go_sem])
     exact mt_none (by rw [←hF];rfl)
end Go.Proofs.YtohiagaclfaolaaGreatDoor

namespace Go.Proofs.YtohiagaclfaolaaGreatDoor
open Go Go.Fw Bm
set_option maxRecDepth 20000
def zs (n:Nat):List Int:=List.replicate n 0
theorem zs_ints (n:Nat):List.replicate n (AV.lit (.int .i64 0))=ints .i64 (zs n):=by simp [ints,zs]
theorem zs_length (n:Nat):(zs n).length=n:=by simp [zs]
theorem zs_set {out:List Int} {i n:Nat} (x:Int) (ho:out.length=i) (hi:i<n):(out++zs (n - i)).set i x=(out++[x])++zs (n - (i+1)):=by
  rw [List.set_append_right _ _ (by omega),ho,Nat.sub_self,show n - i=(n - (i+1))+1 by omega,zs,List.replicate_succ]
  simp [zs]
theorem zs_put {l z:List Int} {j:Nat} (x:Int) (h:j<l.length):(l++z).set j x=l.set j x++z:=List.set_append_left _ _ h
theorem stI_put (i j:Nat) (st:List Nat):(stI (j::st)).set st.length (i:Int)=stI (i::st):=by
  rw [stI_cons,List.set_append_right _ _ (by rw [stI_length];exact Nat.le_refl _),stI_length,Nat.sub_self,stI_cons];rfl
theorem stI_e0:(((stI []).length:Int)==0)=true:=rfl
theorem stI_e1 (j:Nat) (st:List Nat):(((stI (j::st)).length:Int)==0)=false:=by rw [stI_length,List.length_cons];simp;omega
structure Mr (ops:List Ins) (R:Option (List Int)) where
  i:Nat
  u:Nat
  v:Nat
  out:List Int
  st:List Nat
  hi:i≤ops.length
  ho:out.length=i
  hs:∀ j∈st,j<i
  h4:st.length≤40
  hF:matchG ops (ops.drop i) i out st=R
noncomputable def V10:Env:=envJ (P:=Tryz.prog) jkV zer (fun _=>false) (fun _=>false) [] []
theorem V10_ok:EnvOk Tryz.prog V10:=envJOk zer_ok
set_option maxHeartbeats 8000000 in
theorem rmatch_pc {ops:List Ins} (hl:ops.length≤1000000):PC Tryz.prog 79 [.sl false 6 (opsV ops)] (matchV ops):=by
  show PC _ _ _ (mtV (matchS ops))
  generalize hR:matchS ops=R
  unfold matchS at hR
  by_cases hn:ops.length>5000
  ·rw [if_pos hn] at hR
   have g1:decide ((ops.length:Int)>5000)=true:=decide_eq_true (by omega)
   refine pcR V10_ok (kp79) Tryz.func79 [.tmp 2,.tmp 3] (h:=fun KF=>?_)
   unfold V10
   with_reducible repeat' first|(refine nx ?_;intros)|refine t_br (fun hc=>?_) fun hc=>?_|apply And.intro|intro vr|(refine ny ?_;intros;simp only [go_sem,kp79,geff,g1])
   all_goals try exact nd
   all_goals (refine nl ?_;simp only [go_sem])
   exact mt_none hR.symm
  ·rw [if_neg hn] at hR
   have g1:decide ((ops.length:Int)>5000)=false:=decide_eq_false (by omega)
   refine pcR V10_ok (kp79) Tryz.func79 [.tmp 2,.tmp 3] (h:=fun KF=>?_)
   unfold V10
   with_reducible repeat' first|(refine nx ?_;intros)|refine t_br (fun hc=>?_) fun hc=>?_|apply And.intro|intro vr|(refine ny ?_;intros;simp only [go_sem,kp79,geff,g1,zs_ints,Int.toNat_natCast])
   all_goals try exact nd
   refine t_loopF (ι:=Mr ops R) (fun i=>[(6,.lit (.int .i64 i.i)),(4,.arr 0 i.u),(5,.arr 1 i.v)]) (fun i=>[.arr 3 1 (ints .i64 (i.out++zs (ops.length - i.i))) i.u false,.arr 3 1 (ints .i64 (stI i.st)) i.v false]) (fun i=>ops.length - i.i) ⟨0,0,0,[],[],by omega,rfl,by simp,by simp,by simpa using hR⟩ ?_ ?_
   ·refine (le_nil 5 3 1 rfl).trans ?_
    exact lf
   rintro ⟨i,u,v,out,st,hi,ho,hs,h4,hF⟩ K0
   have hsl:(ints .i64 (stI st)).length=st.length:=by rw [ints_length,stI_length]
   have hol:(ints .i64 (out++zs (ops.length - i))).length=ops.length:=by rw [ints_length,List.length_append,zs_length,ho];omega
   rcases Nat.lt_or_ge i ops.length with hc|hc
   ·have g3:decide ((i:Int)<(ops.length:Int))=true:=decide_eq_true (by omega)
    have hst:=zs_set (i:Int) ho hc
    have hol2:(ints .i64 ((out++[(i:Int)])++zs (ops.length - (i+1)))).length=ops.length:=by rw [ints_length,List.length_append,List.length_append,zs_length,ho,List.length_singleton];omega
    have hput:∀ j:Nat,j<i→∀ x:Int,((out++[(i:Int)])++zs (ops.length - (i+1))).set j x=(out++[(i:Int)]).set j x++zs (ops.length - (i+1)):=fun j hj x=>zs_put x (by rw [List.length_append,List.length_singleton];omega)
    rw [drop_getI hc] at hF
    generalize hx:ops.getD i nilI=x at hF
    obtain ⟨k,p,a,b,c,d⟩:=x
    simp only [matchG] at hF
    have has:ints .i64 (stI st)++[.lit (.int .i64 (i:Int))]=ints .i64 (stI (i::st)):=by rw [stI_cons];exact ints_append1 _ _ _
    rcases (show k=10∨k=11∨k=12∨k=13∨(k≠10∧k≠11∧k≠12∧k≠13) by omega) with rfl|rfl|rfl|rfl|hk
    ·rw [if_pos (by omega)] at hF
     by_cases h40:st.length≥40
     ·rw [if_pos h40] at hF
      have k5:((st.length:Int)==40)=true:=by simp;omega
      with_reducible repeat' first|(refine nx ?_;intros)|refine t_br (fun hc=>?_) fun hc=>?_|apply And.intro|intro vr|(refine ny ?_;intros;simp only [go_sem,kp79,geff,g3,hx,k5,hst,has,hol,stI_length,Int.toNat_natCast,yes])
      all_goals try exact nd
      all_goals (refine nl ?_;simp only [go_sem])
      exact mt_none hF.symm
     ·rw [if_neg h40] at hF
      have k5:((st.length:Int)==40)=false:=by simp;omega
      with_reducible repeat' first|(refine nx ?_;intros)|refine t_br (fun hc=>?_) fun hc=>?_|apply And.intro|intro vr|(refine ny ?_;intros;simp only [go_sem,kp79,geff,g3,hx,k5,hst,has,hol,hsl,stI_length,Int.toNat_natCast,yes])
      all_goals try exact nd
      exact ⟨⟨i+1,u,v+1,out++[(i:Int)],i::st,by omega,by simp [ho],stP hs,by simp only [List.length_cons];omega,hF⟩,wf,lf⟩
    ·rw [if_pos (by omega)] at hF
     by_cases h40:st.length≥40
     ·rw [if_pos h40] at hF
      have k5:((st.length:Int)==40)=true:=by simp;omega
      with_reducible repeat' first|(refine nx ?_;intros)|refine t_br (fun hc=>?_) fun hc=>?_|apply And.intro|intro vr|(refine ny ?_;intros;simp only [go_sem,kp79,geff,g3,hx,k5,hst,has,hol,stI_length,Int.toNat_natCast,yes])
      all_goals try exact nd
      all_goals (refine nl ?_;simp only [go_sem])
      exact mt_none hF.symm
     ·rw [if_neg h40] at hF
      have k5:((st.length:Int)==40)=false:=by simp;omega
      with_reducible repeat' first|(refine nx ?_;intros)|refine t_br (fun hc=>?_) fun hc=>?_|apply And.intro|intro vr|(refine ny ?_;intros;simp only [go_sem,kp79,geff,g3,hx,k5,hst,has,hol,hsl,stI_length,Int.toNat_natCast,yes])
      all_goals try exact nd
      exact ⟨⟨i+1,u,v+1,out++[(i:Int)],i::st,by omega,by simp [ho],stP hs,by simp only [List.length_cons];omega,hF⟩,wf,lf⟩
    ·rw [if_neg (by omega),if_pos rfl] at hF
     cases st with
     |nil=>
      with_reducible repeat' first|(refine nx ?_;intros)|refine t_br (fun hc=>?_) fun hc=>?_|apply And.intro|intro vr|(refine ny ?_;intros;simp only [go_sem,kp79,geff,g3,hx,hst,hol,stI_e0,Int.toNat_natCast,yes])
      all_goals try exact nd
      all_goals (refine nl ?_;simp only [go_sem])
      exact mt_none hF.symm
     |cons j st=>
      have hj:=hs j (List.mem_cons_self ..)
      have h4s:st.length≤39:=by simp only [List.length_cons] at h4;omega
      have hL:=stI_length st
      have hLj:(stI (j::st)).length=st.length+1:=stI_length (j::st)
      have hp:=hput j hj (i:Int)
      simp only at hF
      generalize hy:ops.getD j nilI=y at hF
      obtain ⟨k',p',a',b',c',d'⟩:=y
      simp only at hF
      by_cases h11:k'=11
      ·rw [if_pos h11] at hF
       have k7:(k' !=11)=false:=by simp [h11]
       with_reducible repeat' first|(refine nx ?_;intros)|refine t_br (fun hc=>?_) fun hc=>?_|apply And.intro|intro vr|(refine ny ?_;intros;simp only [go_sem,kp79,geff,g3,hx,hy,hst,hp,hol,hol2,stI_e1,stI_n1,stI_last,stI_put,k7,Int.toNat_natCast,yes])
       all_goals try exact nd
       exact ⟨⟨i+1,u,v,(out++[(i:Int)]).set j (i:Int),i::st,by omega,by simp [ho],stP (stQ hs),h4,hF⟩,wf,lf⟩
      ·rw [if_neg h11] at hF
       have k7:(k' !=11)=true:=by simp [h11]
       with_reducible repeat' first|(refine nx ?_;intros)|refine t_br (fun hc=>?_) fun hc=>?_|apply And.intro|intro vr|(refine ny ?_;intros;simp only [go_sem,kp79,geff,g3,hx,hy,hst,hp,hol,hol2,stI_e1,stI_n1,stI_last,stI_put,k7,Int.toNat_natCast,yes])
       all_goals try exact nd
       all_goals (refine nl ?_;simp only [go_sem])
       exact mt_none hF.symm
    ·rw [if_neg (by omega),if_neg (by omega),if_pos rfl] at hF
     cases st with
     |nil=>
      with_reducible repeat' first|(refine nx ?_;intros)|refine t_br (fun hc=>?_) fun hc=>?_|apply And.intro|intro vr|(refine ny ?_;intros;simp only [go_sem,kp79,geff,g3,hx,hst,hol,stI_e0,Int.toNat_natCast,yes])
      all_goals try exact nd
      all_goals (refine nl ?_;simp only [go_sem])
      exact mt_none hF.symm
     |cons j st=>
      have hj:=hs j (List.mem_cons_self ..)
      have h4s:st.length≤39:=by simp only [List.length_cons] at h4;omega
      have hL:=stI_length st
      have hLj:(stI (j::st)).length=st.length+1:=stI_length (j::st)
      have hp:=hput j hj (i:Int)
      simp only at hF
      with_reducible repeat' first|(refine nx ?_;intros)|refine t_br (fun hc=>?_) fun hc=>?_|apply And.intro|intro vr|(refine ny ?_;intros;simp only [go_sem,kp79,geff,g3,hx,hst,hp,hol,hol2,stI_e1,stI_n1,stI_last,Int.toNat_natCast,yes])
      all_goals try exact nd
      refine ⟨⟨i+1,u,v+1,(out++[(i:Int)]).set j (i:Int),st,by omega,by simp [ho],stW (stQ hs),by simp only [List.length_cons] at h4;omega,hF⟩,by simp only;omega,?_⟩
      refine (le_cut 5 (by simp only [go_sem];rfl) rfl).trans ?_
      try simp only [go_sem,stI_take,stI_tk]
      first|exact lf|(refine Le.frameS (by first|rfl|(simp only [go_sem];try rfl)) ?_;repeat' (first|exact leF_top _|exact (fun _=>LeR.refl _)|(with_reducible refine leF_sl ?_ ?_)|(refine leF_upd ?_ ?_)))<;>(first|exact LeR.top _|exact LeR.refl _|(refine LeR.of_eq ?_;(try simp only [go_sem]);try rfl)|((try simp only [go_sem]);try rfl))
    ·rw [if_neg (by omega),if_neg (by omega),if_neg (by omega)] at hF
     have k1:(k==10)=false:=by simpa using hk.1
     have k2:(k==11)=false:=by simpa using hk.2.1
     have k3:(k==12)=false:=by simpa using hk.2.2.1
     have k4:(k==13)=false:=by simpa using hk.2.2.2
     with_reducible repeat' first|(refine nx ?_;intros)|refine t_br (fun hc=>?_) fun hc=>?_|apply And.intro|intro vr|(refine ny ?_;intros;simp only [go_sem,kp79,geff,g3,hx,k1,k2,k3,k4,hst,hol,Int.toNat_natCast,yes])
     all_goals try exact nd
     exact ⟨⟨i+1,u,v,out++[(i:Int)],st,by omega,by simp [ho],fun j hj=>by have:=hs j hj;omega,h4,hF⟩,wf,lf⟩
   ·have g3:decide ((i:Int)<(ops.length:Int))=false:=decide_eq_false (by omega)
    rw [List.drop_eq_nil_of_le hc] at hF
    have hz:out++zs (ops.length - i)=out:=by rw [show ops.length - i=0 by omega];simp [zs]
    cases st with
    |nil=>
     with_reducible repeat' first|(refine nx ?_;intros)|refine t_br (fun hc=>?_) fun hc=>?_|apply And.intro|intro vr|(refine ny ?_;intros;simp only [go_sem,kp79,geff,g3,hz,stI_length,List.length_nil,yes])
     all_goals try exact nd
     all_goals (refine nl ?_;simp only [go_sem])
     exact mt_some (by rw [←hF];rfl)
    |cons j st=>
     have k5:decide (((j::st).length:Int)>0)=true:=decide_eq_true (by simp only [List.length_cons];omega)
     with_reducible repeat' first|(refine nx ?_;intros)|refine t_br (fun hc=>?_) fun hc=>?_|apply And.intro|intro vr|(refine ny ?_;intros;simp only [go_sem,kp79,geff,g3,hz,stI_length,k5,yes])
     all_goals try exact nd
     all_goals (refine nl ?_;simp only [go_sem])
     exact mt_none (by rw [←hF];rfl)
noncomputable def con79:PCon Tryz.prog where
  f:=79
  c:=fun
   |[xx]=>match opsOf xx with|some x=>some ((x.length≤1000000),matchV x)|_=>none
   |_=>none
  ok:=by
   intro args p r hc hp
   split at hc
   ·split at hc
    ·rename_i hx
     cases hc
     exact PC.weak (rmatch_pc hp) ⟨opsOf_le hx,trivial⟩
    ·cases hc
   ·cases hc
  fk:=fk79
theorem con79_f:con79.f=79:=rfl
theorem con79_c {xx:AV}:con79.c [xx]=match opsOf xx with|some x=>some ((x.length≤1000000),matchV x)|_=>none:=rfl
attribute [go_sem] con79_f con79_c
end Go.Proofs.YtohiagaclfaolaaGreatDoor

namespace Go.Proofs.YtohiagaclfaolaaGreatDoor
open Go Go.Fw
set_option maxRecDepth 20000
theorem le_nil {n0:Nat} {f:Nat→AV} {σ:List AObj} (i e sz:Nat) (h:f i= .lit (.slice none 0 0)):Le n0 ⟨f,σ⟩ ⟨upd f i (.arr σ.length 0),σ++[.arr e sz [] 0 false]⟩:=by
  intro cx G w N a _ hr hf
  obtain ⟨G',h1,h2,h3⟩:=Rel.newEmpty hr e sz none
  refine ⟨G',h2,hf.size,hf.defers,fun j=>?_⟩
  have hj:R G' (f j) (a.tmps.getD j undef):=(hf.rel j).mono h1
  simp only [upd]
  split
  ·rename_i e;subst e;rw [h] at hj;rw [hj.lit_inv];exact h3
  ·exact hj
theorem getD_mem {α:Type} {l:List α} {i:Nat} (z:α) (h:i<l.length):l.getD i z∈l:=by
  rw [List.getD_eq_getElem?_getD,List.getElem?_eq_getElem h];exact List.getElem_mem _
end Go.Proofs.YtohiagaclfaolaaGreatDoor

namespace Go.Proofs.YtohiagaclfaolaaGreatDoor
open Go Go.Fw
set_option maxRecDepth 20000
theorem dself {α:Type} [DecidableEq α] (a:α):decide (a=a)=true:=decide_eq_true rfl
end Go.Proofs.YtohiagaclfaolaaGreatDoor

namespace Go.Proofs.YtohiagaclfaolaaGreatDoor
open Go Go.Fw
set_option maxRecDepth 20000
end Go.Proofs.YtohiagaclfaolaaGreatDoor

namespace Go.Proofs.YtohiagaclfaolaaGreatDoor
open Go Go.Fw
set_option maxRecDepth 20000
def eqA (a b:Arr):Bool:=eqS a.e b.e&&(decide (a.d=b.d)&&decide (a.x=b.x))
theorem eqA_refl (a:Arr):eqA a a=true:=by unfold eqA;rw [eqS_refl,dself,dself];rfl
noncomputable def E21:Env:=envOf (P:=Tryz.prog) zer (fun _=>false) (fun _=>false) [con23] []
theorem E21_ok:EnvOk Tryz.prog E21:=envOk zer_ok
set_option maxRecDepth 20000 in
set_option maxHeartbeats 1000000 in
theorem eqa_pc {a b:Arr} (ha:okA a):PC Tryz.prog 72 [arrV a,arrV b] (.lit (.bool (eqA a b))):=by
  have ha1:=ha.1
  have ha2:=ha.2
  unfold eqA
  by_cases h1:eqS a.e b.e=true
  ·by_cases h2:a.d=b.d
   ·have d2:decide (a.d=b.d)=true:=decide_eq_true h2
    rw [h1,d2]
    refine pcO E21_ok (fun _=>[2,3,4]) Tryz.func72 (h:=fun KF=>?_)
    unfold E21
    with_reducible repeat' first|(refine nx ?_;intros)|apply And.intro|intro vr|(refine ny ?_;intros;simp only [go_sem,geff,con23_f,con23_c,arrV_def,slK_sl,h1,d2])
    all_goals try exact om
    refine end_ret rfl ?_
    simp only [fin,go_sem]
    exact LeA.refl _
   ·have d2:decide (a.d=b.d)=false:=decide_eq_false h2
    rw [h1,d2]
    refine pcO E21_ok (fun _=>[2,3,4]) Tryz.func72 (h:=fun KF=>?_)
    unfold E21
    with_reducible repeat' first|(refine nx ?_;intros)|apply And.intro|intro vr|(refine ny ?_;intros;simp only [go_sem,geff,con23_f,con23_c,arrV_def,slK_sl,h1,d2])
    all_goals try exact om
    refine end_ret rfl ?_
    simp only [fin,go_sem]
    exact LeA.refl _
  ·have h1':eqS a.e b.e=false:=by simpa using h1
   rw [h1']
   refine pcO E21_ok (fun _=>[2,3,4]) Tryz.func72 (h:=fun KF=>?_)
   unfold E21
   with_reducible repeat' first|(refine nx ?_;intros)|apply And.intro|intro vr|(refine ny ?_;intros;simp only [go_sem,geff,con23_f,con23_c,arrV_def,slK_sl,h1'])
   all_goals try exact om
   refine end_ret rfl ?_
   simp only [fin,go_sem]
   exact LeA.refl _
noncomputable def con72:PCon Tryz.prog where
  f:=72
  c:=fun
   |[xa,xb]=>match arrOf xa,arrOf xb with|some a,some b=>some (okA a,.lit (.bool (eqA a b)))|_,_=>none
   |_=>none
  ok:=by
   intro args p r hc hp
   split at hc
   ·split at hc
    ·rename_i ha hb
     cases hc
     exact PC.weak (eqa_pc hp) ⟨arrOf_le ha,arrOf_le hb,trivial⟩
    ·cases hc
   ·cases hc
  fk:=fk72
theorem con72_f:con72.f=72:=rfl
theorem con72_c {xa:AV} {xb:AV}:con72.c [xa,xb]=match arrOf xa,arrOf xb with|some a,some b=>some (okA a,.lit (.bool (eqA a b)))|_,_=>none:=rfl
end Go.Proofs.YtohiagaclfaolaaGreatDoor

namespace Go.Proofs.YtohiagaclfaolaaGreatDoor
open Go Go.Fw Bm
set_option maxRecDepth 20000
abbrev oVa11_0:List (Nat×Nat):=[(0,1),(1,1),(2,1),(4,1),(5,1),(3,0),(6,0),(7,1)]
attribute [go_sem] oVa11_0
def bcV (B:Prg):AV:= .agg [.lit (.int .i64 B.regs),.lit (.int .i64 B.arena),.sl false 6 (opsV B.ops),.sl false 2 (plsV B.ins),.sl false 2 (plsV B.outs),.sl false 3 (arrs B.types)]
theorem bcV_mk {r a:Int} {o:List Ins} {i u:List (Int×Int)} {t:List Arr}:bcV ⟨r,a,o,i,u,t⟩= .agg [.lit (.int .i64 r),.lit (.int .i64 a),.sl false 6 (opsV o),.sl false 2 (plsV i),.sl false 2 (plsV u),.sl false 3 (arrs t)]:=rfl
def bcOf:AV→Option Prg
  |.agg [.lit (.int .i64 r),.lit (.int .i64 a),o,i,u,t]=>match opsOf o,plsOf i,plsOf u,arrsOf t with
   |some o,some i,some u,some t=>some ⟨r,a,o,i,u,t⟩
   |_,_,_,_=>none
  |_=>none
theorem bcOf_agg {r a:Int} {o i u t:AV}:bcOf (.agg [.lit (.int .i64 r),.lit (.int .i64 a),o,i,u,t])=match opsOf o,plsOf i,plsOf u,arrsOf t with
    |some o,some i,some u,some t=>some ⟨r,a,o,i,u,t⟩
    |_,_,_,_=>none:=rfl
theorem bcOf_le {x:AV} {B:Prg} (h:bcOf x=some B):LeA x (bcV B):=by
  unfold bcOf at h
  split at h
  ·split at h
   ·rename_i h1 h2 h3 h4
    cases h
    exact LeA.agg ⟨LeA.refl _,LeA.refl _,opsOf_le h1,plsOf_le h2,plsOf_le h3,arrsOf_le h4,trivial⟩
   ·cases h
  ·cases h
structure OkB (B:Prg):Prop where
  ops:B.ops.length≤1000000
  ins:B.ins.length≤1000000
  outs:B.outs.length≤1000000
  types:B.types.length≤1000000
  dims:∀ t∈B.types,okA t
noncomputable def V11:Env:=envJ (P:=Tryz.prog) jkV zer (fun _=>false) (fun _=>false) [con79,con50,con71,con41] []
theorem V11_ok:EnvOk Tryz.prog V11:=envJOk zer_ok
attribute [go_sem] con79_f con79_c con71_f con71_c con41_f con41_c opsOf_sl plsOf_sl arrsOf_sl slK_sl szV_def arrOf_agg
def typdB (t:Arr):Bool:=((sizeS t.d).2==0)&&(eqS t.e sInt||eqS t.e sBool)&&((t.x.length:Int)==0)
theorem typeOk_eq (arena:Int) (t:Arr) (p:Int×Int):typeOk arena t p=(typdB t&&(p.2==(sizeS t.d).1)&& !decide (p.1<0)&& !decide (p.1>arena - (sizeS t.d).1)):=by
  rw [Bool.eq_iff_iff];simp [typeOk,typdB]
  intros;exact and_comm
set_option maxHeartbeats 4000000 in
theorem typed_pc {t:Arr} (h:okA t):PC Tryz.prog 35 [arrV t] (.tup [.lit (.int .i64 (sizeS t.d).1),.lit (.bool (typdB t))]):=by
  obtain ⟨h1,h2⟩:=h
  simp only [arrV]
  refine pcR V11_ok (kp35) Tryz.func35 [.tmp 2,.tmp 3] (h:=fun KF=>?_)
  unfold V11
  with_reducible repeat' first|(refine nx ?_;intros)|apply And.intro|intro vr|((first|refine ny ?_|refine t_dwh (h:=fun K KL=>?_));intros;simp only [go_sem,kp35,geff])
  all_goals try exact nd
  all_goals (refine nl ?_;simp only [go_sem])
  refine LeA.of_eq ?_
  simp only [typdB,sInt,sBool]
  try rfl
noncomputable def con35:PCon Tryz.prog where
  f:=35
  c:=fun
   |[xt]=>match arrOf xt with|some t=>some (okA t,.tup [.lit (.int .i64 (sizeS t.d).1),.lit (.bool (typdB t))])|_=>none
   |_=>none
  ok:=by
   intro args p r hc hp
   split at hc
   ·split at hc
    ·rename_i ht
     cases hc
     exact PC.weak (typed_pc hp) ⟨arrOf_le ht,trivial⟩
    ·cases hc
   ·cases hc
  fk:=fk35
theorem con35_f:con35.f=35:=rfl
theorem con35_c {xt:AV}:con35.c [xt]=match arrOf xt with|some t=>some (okA t,.tup [.lit (.int .i64 (sizeS t.d).1),.lit (.bool (typdB t))])|_=>none:=rfl
def formedB (ops:List Ins) (regs:Int):Bool:=ops.all (fun x=>rightS x regs)&&(matchS ops).isSome
theorem matchV_eq (ops:List Ins):∃ l,matchV ops= .tup [.sl false 1 (ints .i64 l),.lit (.bool (matchS ops).isSome)]:=by
  unfold matchV
  cases matchS ops with
  |none=>exact ⟨[],rfl⟩
  |some l=>exact ⟨l,rfl⟩
theorem all_dropI {p:Ins→Bool} {l:List Ins} {i:Nat} (h:i<l.length):(l.drop i).all p=(p (l.getD i nilI)&&(l.drop (i+1)).all p):=by rw [drop_getI h];rfl
set_option maxHeartbeats 4000000 in
theorem formed_pc {ops:List Ins} {regs:Int} (h:ops.length≤1000000):PC Tryz.prog 46 [.sl false 6 (opsV ops),.lit (.int .i64 regs)] (.lit (.bool (formedB ops regs))):=by
  generalize hR:formedB ops regs=R
  unfold formedB at hR
  obtain ⟨ml,hm⟩:=matchV_eq ops
  refine pcR V11_ok (kp46) Tryz.func46 [.tmp 4] (h:=fun KF=>?_)
  unfold V11
  with_reducible repeat' first|(refine nx ?_;intros)|apply And.intro|intro vr|(refine ny ?_;intros;simp only [go_sem,kp46,geff])
  all_goals try exact nd
  refine t_loopF (ι:={i:Nat // i≤ops.length∧((ops.drop i).all (fun x=>rightS x regs)&&(matchS ops).isSome)=R}) (fun i=>[(5,.lit (.int .i64 i.1))]) (fun i=>[]) (fun i=>ops.length - i.1) ⟨0,by omega,hR⟩ ?_ ?_
  ·exact lf
  rintro ⟨i,hi,hF⟩ K0
  rcases Nat.lt_or_ge i ops.length with hc|hc
  ·have g3:decide ((i:Int)<(ops.length:Int))=true:=decide_eq_true (by omega)
   rw [all_dropI hc] at hF
   generalize hx:ops.getD i nilI=x at hF
   cases hr:rightS x regs with
   |true=>
    rw [hr,Bool.true_and] at hF
    obtain ⟨k,p,a,b,c,d⟩:=x
    with_reducible repeat' first|(refine nx ?_;intros)|apply And.intro|intro vr|(refine ny ?_;intros;simp only [go_sem,kp46,geff,g3,hx,hr,Int.toNat_natCast,yes,Bool.not_true])
    all_goals try exact nd
    exact ⟨⟨i+1,by omega,hF⟩,wf,lf⟩
   |false=>
    rw [hr,Bool.false_and,Bool.false_and] at hF
    obtain ⟨k,p,a,b,c,d⟩:=x
    with_reducible repeat' first|(refine nx ?_;intros)|apply And.intro|intro vr|(refine ny ?_;intros;simp only [go_sem,kp46,geff,g3,hx,hr,Int.toNat_natCast,yes,Bool.not_false])
    all_goals try exact nd
    all_goals (refine nl ?_;simp only [go_sem])
    exact LeA.of_eq (by rw [←hF])
  ·have g3:decide ((i:Int)<(ops.length:Int))=false:=decide_eq_false (by omega)
   rw [List.drop_eq_nil_of_le hc] at hF
   with_reducible repeat' first|(refine nx ?_;intros)|apply And.intro|intro vr|(refine ny ?_;intros;simp only [go_sem,kp46,geff,g3,hm])
   all_goals try exact nd
   all_goals (refine nl ?_;simp only [go_sem])
   exact LeA.of_eq (by rw [←hF];rfl)
noncomputable def con46:PCon Tryz.prog where
  f:=46
  c:=fun
   |[xo,.lit (.int .i64 r)]=>match opsOf xo with|some o=>some (o.length≤1000000,.lit (.bool (formedB o r)))|_=>none
   |_=>none
  ok:=by
   intro args p r hc hp
   split at hc
   ·split at hc
    ·rename_i ho
     cases hc
     exact PC.weak (formed_pc hp) ⟨opsOf_le ho,LeA.refl _,trivial⟩
    ·cases hc
   ·cases hc
  fk:=fk46
theorem con46_f:con46.f=46:=rfl
theorem con46_c {xo:AV} {r:Int}:con46.c [xo,.lit (.int .i64 r)]=match opsOf xo with|some o=>some (o.length≤1000000,.lit (.bool (formedB o r)))|_=>none:=rfl
attribute [go_sem] con35_f con35_c con46_f con46_c
theorem plsV_app (a b:List (Int×Int)):plsV a++plsV b=plsV (a++b):=by simp [plsV]
set_option maxHeartbeats 4000000 in
theorem places_pc {B:Prg} (h:OkB B):PC Tryz.prog 30 [bcV B] (.sl false 2 (plsV (B.ins++B.outs))):=by
  obtain ⟨r,a,o,i,u,t⟩:=B
  have h1:=h.ins
  have h2:=h.outs
  simp only at h1 h2
  simp only [bcV_mk]
  refine pcR V11_ok (kp30) Tryz.func30 [.tmp 2] (h:=fun KF=>?_)
  unfold V11
  repeat' first|(with_reducible first|(refine nx ?_;intros)|apply And.intro|intro vr)|exact kpd|((with_reducible first|refine ny ?_|refine t_kLF ?_ ?_|refine t_dO 1 (fun i=>i==0) oVa11_0 fun K=>?_);intros;simp only [go_sem,kp30,geff,plsV_app])
  all_goals try exact nd
  all_goals (refine nl ?_;simp only [go_sem])
  exact LeA.refl _
end Go.Proofs.YtohiagaclfaolaaGreatDoor

namespace Go.Proofs.YtohiagaclfaolaaGreatDoor
open Go Go.Fw Bm
set_option maxRecDepth 20000
noncomputable def con30:PCon Tryz.prog where
  f:=30
  c:=fun
   |[xB]=>match bcOf xB with|some B=>some (OkB B,.sl false 2 (plsV (B.ins++B.outs)))|_=>none
   |_=>none
  ok:=by
   intro args p r hc hp
   split at hc
   ·split at hc
    ·rename_i hB
     cases hc
     exact PC.weak (places_pc hp) ⟨bcOf_le hB,trivial⟩
    ·cases hc
   ·cases hc
  fk:=fk30
theorem con30_f:con30.f=30:=rfl
theorem con30_c {xB:AV}:con30.c [xB]=match bcOf xB with|some B=>some (OkB B,.sl false 2 (plsV (B.ins++B.outs)))|_=>none:=rfl
theorem bcOf_mk {r a:Int} {o:List Ins} {i u:List (Int×Int)} {t:List Arr}:bcOf (.agg [.lit (.int .i64 r),.lit (.int .i64 a),.sl false 6 (opsV o),.sl false 2 (plsV i),.sl false 2 (plsV u),.sl false 3 (arrs t)])=some ⟨r,a,o,i,u,t⟩:=by
  rw [bcOf_agg,opsOf_sl,plsOf_sl,plsOf_sl,arrsOf_sl]
attribute [go_sem] arrs_length con30_f con30_c bcOf_mk
noncomputable def V12:Env:=envJ (P:=Tryz.prog) jkV zer (fun _=>false) (fun _=>false) [con46,con30,con41] []
theorem V12_ok:EnvOk Tryz.prog V12:=envJOk zer_ok
def headB (B:Prg):Bool:=decide (B.regs<0)||decide (B.regs>200)||decide (B.arena<0)||decide (B.arena>1048576)|| !formedB B.ops B.regs||((B.types.length:Int) !=(B.ins.length:Int)+(B.outs.length:Int))
theorem valid_eq (B:Prg):validS B=(!headB B&&typesOk B.arena B.types (B.ins++B.outs)):=by
  rw [Bool.eq_iff_iff];simp only [validS,headB,formedB,maxA,Bool.and_eq_true,Bool.not_eq_true',Bool.or_eq_false_iff,decide_eq_true_eq,decide_eq_false_iff_not,bne_eq_false_iff_eq,Bool.not_eq_false']
  constructor
  ·rintro ⟨⟨⟨⟨⟨h1,h2⟩,h3⟩,h4⟩,h5⟩,h6⟩;have h2:=of_decide_eq_true h2;exact ⟨⟨⟨⟨⟨⟨by omega,by omega⟩,by omega⟩,by omega⟩,h4,h5⟩,by omega⟩,h6⟩
  ·rintro ⟨⟨⟨⟨⟨⟨h1,h2⟩,h3⟩,h3'⟩,h4,h5⟩,h⟩,h6⟩;exact ⟨⟨⟨⟨⟨by omega,decide_eq_true (by omega)⟩,by omega⟩,h4⟩,h5⟩,h6⟩
theorem drop_getP {l:List (Int×Int)} {i:Nat} (h:i<l.length):l.drop i=l.getD i (0,0)::l.drop (i+1):=drop_getD _ h
theorem rtypedB {t:Arr}:(!eqS t.e ⟨#[105,110,116]⟩&& !eqS t.e ⟨#[98,111,111,108]⟩||((sizeS t.d).2 !=0)||((t.x.length:Int) !=0))= !typdB t:=by
  simp only [typdB,sInt,sBool,bne]
  cases eqS t.e ⟨#[105,110,116]⟩<;>cases eqS t.e ⟨#[98,111,111,108]⟩<;>cases ((sizeS t.d).2==0)<;>cases ((t.x.length:Int)==0)<;>rfl
set_option maxHeartbeats 8000000 in
theorem rvalid_pc {B:Prg} (h:OkB B):PC Tryz.prog 15 [bcV B] (.lit (.bool (validS B))):=by
  rw [valid_eq]
  have hT:=h.types;have hD:=h.dims;have hI:=h.ins;have hU:=h.outs;have hO:=h.ops
  obtain ⟨r,a,o,ii,u,t⟩:=B
  simp only at hT hD hI hU hO
  generalize hR:(!headB ⟨r,a,o,ii,u,t⟩&&typesOk a t (ii++u))=R
  simp only [headB] at hR
  simp only [bcV_mk]
  refine pcR V12_ok (kp15) Tryz.func15 [.tmp 2] (h:=fun KF=>?_)
  unfold V12
  with_reducible repeat' first|(refine nx ?_;intros)|refine t_br (fun hc=>?_) fun hc=>?_|apply And.intro|intro vr|(refine ny ?_;intros;simp only [go_sem,kp15,geff])
  all_goals try exact nd
  ·skip
   all_goals (refine nl ?_;simp only [go_sem])
   refine LeA.of_eq ?_
   rw [←hR]
   simp_all
   intro k1 k2 k3 k4 k5 k6
   exfalso
   rw [k5] at hc
   simp only [Bool.true_eq_false,or_false] at hc
   omega
  have hH:headB ⟨r,a,o,ii,u,t⟩=false:=by simp only [headB];simp_all
  have hRT:typesOk a t (ii++u)=R:=by rw [←hR];simp only [headB] at hH;rw [hH];rfl
  have hla:0≤a∧a≤1048576:=by simp only [headB,Bool.or_eq_false_iff,decide_eq_false_iff_not] at hH;omega
  have hlt:t.length=ii.length+u.length:=by simp only [headB,Bool.or_eq_false_iff,bne_eq_false_iff_eq] at hH;omega
  clear hR hH hc
  refine t_loopF (ι:={j:Nat // j≤t.length∧typesOk a (t.drop j) ((ii++u).drop j)=R}) (fun i=>[(3,.lit (.int .i64 i.1))]) (fun i=>[.box 26 [.lit (.int .i64 r),.lit (.int .i64 a),.sl false 6 (opsV o),.sl false 2 (plsV ii),.sl false 2 (plsV u),.sl false 3 (arrs t)]]) (fun i=>t.length - i.1) ⟨0,by omega,hRT⟩ ?_ ?_
  ·exact lf
  rintro ⟨j,hj,hF⟩ K0
  rcases Nat.lt_or_ge j t.length with hc|hc
  ·have g3:decide ((j:Int)<(t.length:Int))=true:=decide_eq_true (by omega)
   have hpl:j<(ii++u).length:=by rw [List.length_append];omega
   rw [drop_getD nilA hc,drop_getP hpl,typesOk,typeOk_eq] at hF
   have hm:okA (t.getD j nilA):=hD _ (getD_mem nilA hc)
   generalize hp:(ii++u).getD j (0,0)=p at hF
   generalize hy:t.getD j nilA=y at hF hm
   obtain ⟨po,ps⟩:=p
   have hbd:=sizeS_bd y.d
   have hdl:=hm.1
   obtain ⟨e,d,x⟩:=y
   have hrt:=rtypedB (t:=⟨e,d,x⟩)
   simp only at hF hbd hdl hrt
   have hpy:arrV ⟨e,d,x⟩= .agg [.lit (.string e),.sl false 1 (ints .i64 d),.sl false 1 (ints .i64 x)]:=rfl
   have hpp:plV (po,ps)= .agg [.lit (.int .i64 po),.lit (.int .i64 ps)]:=rfl
   with_reducible repeat' first|(refine nx ?_;intros)|refine t_br (fun hc=>?_) fun hc=>?_|apply And.intro|intro vr|(refine ny ?_;intros;simp only [go_sem,kp15,geff,g3,hy,hpy,hp,hpp,hrt,Int.toNat_natCast,yes])
   all_goals try exact nd
   ·skip
    all_goals (refine nl ?_;simp only [go_sem])
    refine LeA.of_eq ?_
    rw [←hF]
    simp only [Bool.not_eq_true'] at hc
    rw [hc];rfl
   ·skip
    all_goals (refine nl ?_;simp only [go_sem])
    refine LeA.of_eq ?_
    rw [←hF]
    simp_all
    try (intros;exfalso;omega)
   ·skip
    have hF':typesOk a (t.drop (j+1)) ((ii++u).drop (j+1))=R:=by rw [←hF];simp_all
    refine ⟨⟨j+1,by omega,hF'⟩,by first|(simp only;omega)|omega,?_⟩
    try simp only [updL_nil,updL_cons,delF_top,delF_upd,Nat.reduceEqDiff,reduceIte]
    refine le_backM (by first|rfl|(simp only [go_sem];try rfl)) (by first|exact Nat.zero_le _|simp) (by first|rfl|simp [lowO,low_lit,low_sl,low_ref,low_arr,low_sub,low_mp]) ?_ ?_
    ·repeat' (first|exact low_top|(refine low_upd rfl ?_))
    exact lq
  ·have g3:decide ((j:Int)<(t.length:Int))=false:=decide_eq_false (by omega)
   rw [List.drop_eq_nil_of_le hc] at hF
   with_reducible repeat' first|(refine nx ?_;intros)|refine t_br (fun hc=>?_) fun hc=>?_|apply And.intro|intro vr|(refine ny ?_;intros;simp only [go_sem,kp15,geff,g3])
   all_goals try exact nd
   all_goals (refine nl ?_;simp only [go_sem])
   exact LeA.of_eq (by rw [←hF];rfl)
end Go.Proofs.YtohiagaclfaolaaGreatDoor

namespace Go.Proofs.YtohiagaclfaolaaGreatDoor
open Go Go.Fw Bm
set_option maxRecDepth 20000
noncomputable def V13:Env:=envJ (P:=Tryz.prog) jkV zer (fun _=>false) (fun _=>false) [con45] []
theorem V13_ok:EnvOk Tryz.prog V13:=envJOk zer_ok
theorem notr_ec {r:Int} {c1 c2 c3 c4 c5:AV} {x:Ins} {k:AV→List AObj→Prop} (hk:k (.lit (.bool (!rightS x r))) [.box 26 [.lit (.int .i64 r),c1,c2,c3,c4,c5]]):
    EC Tryz.prog 44 [opV x,.ref 0 0] [.box 26 [.lit (.int .i64 r),c1,c2,c3,c4,c5]] k:=by
  refine ec_fin fun hbd=>?_
  obtain ⟨q,p,a,b,c,d⟩:=x
  simp only [opV]
  refine ecR V13_ok (kp44) Tryz.func44 [.tmp 3] (h:=fun KF=>?_)
  unfold V13
  with_reducible repeat' first|(refine nx ?_;intros)|apply And.intro|intro vr|(refine ny ?_;intros;simp only [go_sem,kp44,geff,yes])
  all_goals try exact nd
  all_goals (refine nl ?_;simp only [go_sem,finE])
  exact ⟨_,_,rfl,LeA.refl _,hbd,hk⟩
noncomputable def ecn44:ECon Tryz.prog where
  f:=44
  c:=fun args σ k=>match args,σ with
   |[x,.ref 0 0],[.box 26 [.lit (.int .i64 r),c1,c2,c3,c4,c5]]=>match opOf x with
    |some x=>k (.lit (.bool (!rightS x r))) [.box 26 [.lit (.int .i64 r),c1,c2,c3,c4,c5]]
    |none=>False
   |_,_=>False
  ok:=by
   intro args σ k h
   split at h
   ·split at h
    ·rename_i hx
     rw [opOf_inv hx]
     exact notr_ec h
    ·exact h.elim
   ·exact h.elim
  fk:=fk44
theorem ecn44_f:ecn44.f=44:=rfl
theorem ecn44_c {x c1 c2 c3 c4 c5:AV} {r:Int} {k:AV→List AObj→Prop}:ecn44.c [x,.ref 0 0] [.box 26 [.lit (.int .i64 r),c1,c2,c3,c4,c5]] k=match opOf x with
      |some x=>k (.lit (.bool (!rightS x r))) [.box 26 [.lit (.int .i64 r),c1,c2,c3,c4,c5]]
      |none=>False:=rfl
attribute [go_sem] ecn44_f ecn44_c
noncomputable def W13:Env:=envJ (P:=Tryz.prog) jkV zer (fun _=>false) (fun _=>false) [] [ecn44]
theorem W13_ok:EnvOk Tryz.prog W13:=envJOk zer_ok
def idxI (p:Ins→Bool):List Ins→Int→Int
  |[],_=> -1
  |d::t,i=>if p d=true then i else idxI p t (i+1)
theorem idxI_any (p:Ins→Bool):∀ (l:List Ins) (i:Int),0≤i→decide (idxI p l i≥0)=l.any p
  |[],_,_=>rfl
  |d::t,i,hi=>by
   unfold idxI
   by_cases h:p d=true
   ·rw [if_pos h,List.any_cons,h,decide_eq_true hi];rfl
   ·rw [if_neg h,idxI_any p t (i+1) (by omega),List.any_cons]
    simp only [Bool.not_eq_true] at h
    rw [h];rfl
def notR (r:Int) (x:Ins):Bool:= !rightS x r
theorem idxi_ec {l:List Ins} {r:Int} {c1 c2 c3 c4 c5:AV} {k:AV→List AObj→Prop} (hl:l.length≤1000000)
    (hk:k (.lit (.int .i64 (idxI (notR r) l 0))) [.box 26 [.lit (.int .i64 r),c1,c2,c3,c4,c5]]):
    EC Tryz.prog 75 [.sl false 6 (opsV l),.fn (.func 44) [] [.ref 0 0]] [.box 26 [.lit (.int .i64 r),c1,c2,c3,c4,c5]] k:=by
  generalize hR:idxI (notR r) l 0=R at hk
  refine ecR W13_ok (kp75) Tryz.func75 [.tmp 4] (h:=fun KF=>?_)
  unfold W13
  with_reducible repeat' first|(refine nx ?_;intros)|apply And.intro|intro vr|(refine ny ?_;intros;simp only [go_sem,kp75,geff])
  all_goals try exact nd
  refine t_loopF (ι:={i:Nat // i≤l.length∧idxI (notR r) (l.drop i) i=R}) (fun i=>[(8,.lit (.int .i64 i.1))]) (fun i=>[.box 26 [.lit (.int .i64 r),c1,c2,c3,c4,c5]]) (fun i=>l.length - i.1) ⟨0,by omega,hR⟩ ?_ ?_
  ·exact lf
  rintro ⟨i,hi,hF⟩ K0
  rcases Nat.lt_or_ge i l.length with hc|hc
  ·rw [drop_getI hc,idxI] at hF
   have g3:decide ((i:Int)<(l.length:Int))=true:=decide_eq_true (by omega)
   generalize hx:l.getD i nilI=x at hF
   cases h4:rightS x r with
   |true=>
    rw [if_neg (by unfold notR;rw [h4];decide)] at hF
    obtain ⟨q,p,a,b,c,d⟩:=x
    with_reducible repeat' first|(refine nx ?_;intros)|apply And.intro|intro vr|(refine ny ?_;intros;simp only [go_sem,kp75,geff,g3,hx,h4,Int.toNat_natCast,Bool.not_true,yes])
    all_goals try exact nd
    exact ⟨⟨i+1,by omega,by rw [←hF];congr 1⟩,wf,lf⟩
   |false=>
    rw [if_pos (by unfold notR;rw [h4];decide)] at hF
    obtain ⟨q,p,a,b,c,d⟩:=x
    with_reducible repeat' first|(refine nx ?_;intros)|apply And.intro|intro vr|(refine ny ?_;intros;simp only [go_sem,kp75,geff,g3,hx,h4,Int.toNat_natCast,Bool.not_false,yes])
    all_goals try exact nd
    all_goals (refine nl ?_;simp only [go_sem])
    rw [hF];exact hk
  ·have g3:decide ((i:Int)<(l.length:Int))=false:=decide_eq_false (by omega)
   rw [List.drop_eq_nil_of_le (by omega),idxI] at hF
   with_reducible repeat' first|(refine nx ?_;intros)|apply And.intro|intro vr|(refine ny ?_;intros;simp only [go_sem,kp75,geff,g3,Int.toNat_natCast])
   all_goals try exact nd
   all_goals (refine nl ?_;simp only [go_sem])
   rw [hF];exact hk
noncomputable def ecn75:ECon Tryz.prog where
  f:=75
  c:=fun args σ k=>match args,σ with
   |[x,.fn (.func 44) [] [.ref 0 0]],[.box 26 [.lit (.int .i64 r),c1,c2,c3,c4,c5]]=>match opsOf x with
    |some x=>x.length≤1000000∧k (.lit (.int .i64 (idxI (notR r) x 0))) [.box 26 [.lit (.int .i64 r),c1,c2,c3,c4,c5]]
    |none=>False
   |_,_=>False
  ok:=by
   intro args σ k h
   split at h
   ·split at h
    ·rename_i hx
     exact EC.weak (idxi_ec h.1 h.2) (LeRL.cons (opsOf_leR hx) (LeRL.cons (LeR.refl _) LeRL.nil))
    ·exact h.elim
   ·exact h.elim
  fk:=fk75
theorem ecn75_f:ecn75.f=75:=rfl
theorem ecn75_c {x c1 c2 c3 c4 c5:AV} {r:Int} {k:AV→List AObj→Prop}:ecn75.c [x,.fn (.func 44) [] [.ref 0 0]] [.box 26 [.lit (.int .i64 r),c1,c2,c3,c4,c5]] k=match opsOf x with
      |some x=>x.length≤1000000∧k (.lit (.int .i64 (idxI (notR r) x 0))) [.box 26 [.lit (.int .i64 r),c1,c2,c3,c4,c5]]
      |none=>False:=rfl
attribute [go_sem] ecn75_f ecn75_c
noncomputable def X13:Env:=envJ (P:=Tryz.prog) jkV zer (fun _=>false) (fun _=>false) [] [ecn75]
theorem X13_ok:EnvOk Tryz.prog X13:=envJOk zer_ok
theorem anyi_ec {l:List Ins} {r:Int} {c1 c2 c3 c4 c5:AV} {k:AV→List AObj→Prop} (hl:l.length≤1000000)
    (hk:k (.lit (.bool (l.any (notR r)))) [.box 26 [.lit (.int .i64 r),c1,c2,c3,c4,c5]]):
    EC Tryz.prog 43 [.sl false 6 (opsV l),.fn (.func 44) [] [.ref 0 0]] [.box 26 [.lit (.int .i64 r),c1,c2,c3,c4,c5]] k:=by
  rw [←idxI_any (notR r) l 0 (by omega)] at hk
  refine ecR X13_ok (kp43) Tryz.func43 [.tmp 4] (h:=fun KF=>?_)
  unfold X13
  with_reducible repeat' first|(refine nx ?_;intros)|apply And.intro|intro vr|(refine ny ?_;intros;simp only [go_sem,kp43,geff])
  all_goals try exact nd
  all_goals (refine nl ?_;simp only [go_sem])
  exact hk
noncomputable def ecn43:ECon Tryz.prog where
  f:=43
  c:=fun args σ k=>match args,σ with
   |[x,.fn (.func 44) [] [.ref 0 0]],[.box 26 [.lit (.int .i64 r),c1,c2,c3,c4,c5]]=>match opsOf x with
    |some x=>x.length≤1000000∧k (.lit (.bool (x.any (notR r)))) [.box 26 [.lit (.int .i64 r),c1,c2,c3,c4,c5]]
    |none=>False
   |_,_=>False
  ok:=by
   intro args σ k h
   split at h
   ·split at h
    ·rename_i hx
     exact EC.weak (anyi_ec h.1 h.2) (LeRL.cons (opsOf_leR hx) (LeRL.cons (LeR.refl _) LeRL.nil))
    ·exact h.elim
   ·exact h.elim
  fk:=fk43
theorem ecn43_f:ecn43.f=43:=rfl
theorem ecn43_c {x c1 c2 c3 c4 c5:AV} {r:Int} {k:AV→List AObj→Prop}:ecn43.c [x,.fn (.func 44) [] [.ref 0 0]] [.box 26 [.lit (.int .i64 r),c1,c2,c3,c4,c5]] k=match opsOf x with
      |some x=>x.length≤1000000∧k (.lit (.bool (x.any (notR r)))) [.box 26 [.lit (.int .i64 r),c1,c2,c3,c4,c5]]
      |none=>False:=rfl
attribute [go_sem] ecn43_f ecn43_c
end Go.Proofs.YtohiagaclfaolaaGreatDoor

set_option linter.unusedVariables false
namespace Go.Proofs
open Go.RowKit
set_option maxHeartbeats 2000000 in
set_option maxRecDepth 100000 in
theorem Tryz.growP_run (n:Nat) (h0:0<n) (h63:n≤1000000) (w:World):
    Calls Tryz.prog 58 #[.slice none 0 0,.int .i64 n] w fun e w'=>e= .returned (.slice (some ⟨w.heap.size,0,none⟩) 0 (grownCap w n 0 58))∧∃ cur,cur.size=grownCap w n 0 58*2∧w'=w.drew.alloc (.cells cur 58):=by
  obtain ⟨i0,hi,hz0,hz1,hz2⟩:=info_parts (show (Tryz.prog.info? 58).map (fun i=>(i.zero,i.size,i.bytes))=some (some (.agg #[.int .i64 0,.int .i64 0]),2,16) from by kernel_rfl)
  have h:=Lib.run_append_nil_zeros (P:=Tryz.prog) w 23 3 23 58 i0 (.agg #[.int .i64 0,.int .i64 0]) .i64 .i64 Tryz.underlying23 Tryz.underlying3 hi hz0 n h0 (by omega) (by omega) (by rw [hz2];omega)
  go_enter Tryz.func58,Tryz.ntmps58
  go_wp2_with (at_builtin;refine Lib.wpList_append_run _ rfl _ _ _ _ rfl _ _ rfl rfl _ _ h ?_)
  go_ret
  exact ⟨rfl,_,by have:=grownCap_ge w n 0 58;simp [size_zeroCells];omega,rfl⟩
set_option maxHeartbeats 2000000 in
set_option maxRecDepth 100000 in
theorem Tryz.growP_zero (w:World):Calls Tryz.prog 58 #[.slice none 0 0,.int .i64 0] w fun e w'=>e= .returned (.slice none 0 0)∧w'=w:=by
  go_enter Tryz.func58,Tryz.ntmps58
  go_wp2
  go_ret
  exact ⟨rfl,rfl⟩
namespace YtohiagaclfaolaaGreatDoor
open Go.Fw
theorem growP_ec {n:Nat} (h0:0<n) (hn:n≤1000000) {σ:List AObj} {k:AV→List AObj→Prop} (hk:k (.arr σ.length 0) (σ++[.arr 58 2 [] 0 false])):EC Tryz.prog 58 [.lit (.slice none 0 0),.lit (.int .i64 n)] σ k:=by
  intro cx G w vs hr hl
  obtain ⟨h1,h2⟩:=hl
  match vs,h1 with
  |[a,b],_=>
   have ha:=(show R G (.lit (.slice none 0 0)) a from h2 0 (by simp)).lit_inv
   have hb:=(show R G (.lit (.int .i64 n)) b from h2 1 (by simp)).lit_inv
   subst ha;subst hb
   refine (Tryz.growP_run n h0 hn w).mono ?_
   rintro e w' ⟨rfl,cur,hc,rfl⟩
   have hge:=grownCap_ge w n 0 58
   obtain ⟨G',g1,g2,g3⟩:=(hr.more (More.drawn w (w.drawn+1))).newArr 58 2 (xs:=[]) (cur:=cur) (cap:=grownCap w n 0 58) (fz:=(0,0)) ⟨by simp,by simp,by simp⟩ (by omega) (by simp) (grownCap_le_maxLen w n 0 58 (by unfold maxLen;omega)) (by omega) ⟨Nat.le_refl _,fun off _ h=>by simp at h⟩
   exact ⟨_,G',_,_,rfl,g1,g2,g3,hk⟩
theorem growP_ec0 {σ:List AObj} {k:AV→List AObj→Prop} (hk:k (.lit (.slice none 0 0)) σ):EC Tryz.prog 58 [.lit (.slice none 0 0),.lit (.int .i64 0)] σ k:=by
  intro cx G w vs hr hl
  obtain ⟨h1,h2⟩:=hl
  match vs,h1 with
  |[a,b],_=>
   have ha:=(show R G (.lit (.slice none 0 0)) a from h2 0 (by simp)).lit_inv
   have hb:=(show R G (.lit (.int .i64 0)) b from h2 1 (by simp)).lit_inv
   subst ha;subst hb
   refine (Tryz.growP_zero w).mono ?_
   rintro e w' ⟨rfl,rfl⟩
   exact ⟨_,G,_,_,rfl,Gh.le.refl G,hr,.clo _ _ (.lit _),hk⟩
end YtohiagaclfaolaaGreatDoor
end Go.Proofs

namespace Go.Proofs.YtohiagaclfaolaaGreatDoor
open Go Go.Fw Bm
set_option maxRecDepth 20000
def pss (L:List (List (Int×Int))):List AV:=L.map fun l=> .sl false 2 (plsV l)
def jPs:AV:= .sl false 2 (plsV [])
def jkC:TypeId→AV:=fun t=>if t=23 then jPs else jkV t
theorem jkC_23:jkC 23=jPs:=rfl
theorem pss_length (L:List (List (Int×Int))):(pss L).length=L.length:=by simp [pss]
theorem pss_getJ (L:List (List (Int×Int))) (i:Nat):(pss L).getD i jPs= .sl false 2 (plsV (L.getD i [])):=by
  simp only [pss,jPs,List.getD_eq_getElem?_getD,List.getElem?_map];cases L[i]? <;>rfl
attribute [go_sem] jkC_23 pss_length pss_getJ
noncomputable def ecn58:ECon Tryz.prog where
  f:=58
  c:=fun args σ k=>match args with
   |[.lit (.slice none 0 0),.lit (.int .i64 n)]=>0≤n∧n≤1000000∧(n=0→k (.lit (.slice none 0 0)) σ)∧(n≠0→k (.arr σ.length 0) (σ++[.arr 58 2 [] 0 false]))
   |_=>False
  ok:=by
   intro args σ k h
   split at h
   ·rename_i n
    obtain ⟨m,rfl⟩:∃ m:Nat,n=m:=⟨n.toNat,by omega⟩
    rcases Nat.eq_zero_or_pos m with rfl|hm
    ·exact growP_ec0 (h.2.2.1 rfl)
    ·exact growP_ec hm (by omega) (h.2.2.2 (by omega))
   ·exact h.elim
  fk:=fk58
theorem ecn58_f:ecn58.f=58:=rfl
theorem ecn58_c {n:Int} {σ:List AObj} {k:AV→List AObj→Prop}:ecn58.c [.lit (.slice none 0 0),.lit (.int .i64 n)] σ k=(0≤n∧n≤1000000∧(n=0→k (.lit (.slice none 0 0)) σ)∧(n≠0→k (.arr σ.length 0) (σ++[.arr 58 2 [] 0 false]))):=rfl
attribute [go_sem] ecn58_f ecn58_c
noncomputable def V14:Env:=envJ (P:=Tryz.prog) jkC zer (fun _=>false) (fun _=>false) [] [ecn58]
theorem V14_ok:EnvOk Tryz.prog V14:=envJOk zer_ok
theorem flat_take {L:List (List (Int×Int))} {i:Nat} (h:i<L.length):(L.take (i+1)).flatten=(L.take i).flatten++L.getD i []:=by
  rw [List.take_add_one,List.getElem?_eq_getElem h,List.getD_eq_getElem?_getD,List.getElem?_eq_getElem h,List.flatten_append];simp
theorem flat_le (L:List (List (Int×Int))) (i:Nat):(L.take i).flatten.length≤L.flatten.length:=by
  have h:L.flatten=(L.take i).flatten++(L.drop i).flatten:=by rw [←List.flatten_append,List.take_append_drop]
  rw [h,List.length_append];omega
set_option maxHeartbeats 4000000 in
theorem concat_pc {L:List (List (Int×Int))} (hl:L.flatten.length≤1000000) (hL:L.length≤1000000):PC Tryz.prog 26 [.sl false 1 (pss L)] (.sl false 2 (plsV L.flatten)):=by
  refine pcR V14_ok (kp26) Tryz.func26 [.tmp 2] (h:=fun KF=>?_)
  unfold V14
  with_reducible repeat' first|(refine nx ?_;intros)|apply And.intro|intro vr|(refine ny ?_;intros;simp only [go_sem,kp26,geff])
  all_goals try exact nd
  refine t_loopF (ι:={i:Nat // i≤L.length}) (fun i=>[(11,.lit (.int .i64 i.1)),(3,.lit (.int .i64 (L.take i.1).flatten.length))]) (fun i=>[]) (fun i=>L.length - i.1) ⟨0,by omega⟩ ?_ ?_
  ·exact lf
  rintro ⟨i,hi⟩ K0
  rcases Nat.lt_or_ge i L.length with hc|hc
  ·have g3:decide ((i:Int)<(L.length:Int))=true:=decide_eq_true (by omega)
   have hf:=flat_take hc
   have hle:=flat_le L (i+1)
   have hlen:=congrArg List.length hf
   rw [List.length_append] at hlen
   have g8:((L.take i).flatten.length:Int)+((L.getD i []).length:Int)=((L.take (i+1)).flatten.length:Nat):=by omega
   have g9:decide ((((L.take (i+1)).flatten.length:Nat):Int)<0)=false:=decide_eq_false (by omega)
   with_reducible repeat' first|(refine nx ?_;intros)|apply And.intro|intro vr|(refine ny ?_;intros;simp only [go_sem,kp26,geff,updL_cons,updL_nil,Int.toNat_natCast,g3,g8,g9])
   all_goals try exact nd
   exact ⟨⟨i+1,by omega⟩,wf,lf⟩
  ·have g3:decide ((i:Int)<(L.length:Int))=false:=decide_eq_false (by omega)
   have e:L.take i=L:=List.take_of_length_le hc
   have z0:L.take 0=[]:=List.take_zero
   rcases Nat.eq_zero_or_pos L.flatten.length with ht|ht
   ·have g4:((L.flatten.length:Nat):Int)=0:=by omega
    with_reducible repeat' first|(refine nx ?_;intros)|apply And.intro|intro vr|(refine ny ?_;intros;simp only [go_sem,kp26,geff,updL_cons,updL_nil,Int.toNat_natCast,g3,e,g4,true_imp_iff,ne_eq,not_true_eq_false,false_imp_iff])
    all_goals try exact nd
    refine t_loopF (ι:={p:Nat×Nat // p.1≤L.length}) (fun i=>[(27,.lit (.int .i64 i.1.1)),(6,.arr 0 i.1.2)]) (fun i=>[.arr 58 2 (plsV (L.take i.1.1).flatten) i.1.2 false]) (fun i=>L.length - i.1.1) ⟨(0,0),by simp⟩ ?_ ?_
    ·refine (le_nil 6 58 2 rfl).trans ?_
     exact lf
    rintro ⟨⟨i,ver⟩,hi⟩ K1
    simp only at hi
    rcases Nat.lt_or_ge i L.length with hc|hc
    ·have g3:decide ((i:Int)<(L.length:Int))=true:=decide_eq_true (by omega)
     have hf:=flat_take hc
     have hle:=flat_le L (i+1)
     have hlen:=congrArg List.length hf
     rw [List.length_append] at hlen
     with_reducible repeat' first|(refine nx ?_;intros)|apply And.intro|intro vr|(refine ny ?_;intros;simp only [go_sem,kp26,geff,updL_cons,updL_nil,Int.toNat_natCast,g3,plsV_app,←hf])
     all_goals try (first|(with_reducible assumption)|(intros;(try simp only [Bool.and_eq_true,Bool.or_eq_true,Bool.or_eq_false_iff,Bool.not_eq_true',Bool.not_eq_false',decide_eq_true_eq,decide_eq_false_iff_not,beq_iff_eq,beq_eq_false_iff_ne,bne_iff_ne,bne_eq_false_iff_eq,ne_eq,inI64,plsV_length] at*)<;>omega)|(intros;(with_reducible first|refine impB_ofR ?_|refine and_ofB ?_ ?_)<;>with_reducible first|assumption|(refine impB_ofR ?_;assumption))|((try simp only [Bool.and_eq_true] at vr);simp only [impB,vr,Bool.or_true,Bool.true_or,Bool.and_self,Bool.not_true,Bool.not_false,Bool.and_true];done))
     exact ⟨⟨(i+1,ver+1),by simp only;omega⟩,wf,lf⟩
    ·have g3:decide ((i:Int)<(L.length:Int))=false:=decide_eq_false (by omega)
     have e:L.take i=L:=List.take_of_length_le hc
     with_reducible repeat' first|(refine nx ?_;intros)|apply And.intro|intro vr|(refine ny ?_;intros;simp only [go_sem,kp26,geff,updL_cons,updL_nil,Int.toNat_natCast,g3,e])
     all_goals try exact nd
     all_goals (refine nl ?_;simp only [go_sem])
     exact LeA.refl _
   ·have g4:(((L.flatten.length:Nat):Int)=0)=False:=eq_false (by omega)
    with_reducible repeat' first|(refine nx ?_;intros)|apply And.intro|intro vr|(refine ny ?_;intros;simp only [go_sem,kp26,geff,updL_cons,updL_nil,Int.toNat_natCast,g3,e,g4,true_imp_iff,ne_eq,not_false_eq_true,false_imp_iff])
    all_goals try exact nd
    refine t_loopF (ι:={p:Nat×Nat // p.1≤L.length}) (fun i=>[(27,.lit (.int .i64 i.1.1)),(6,.arr 0 i.1.2)]) (fun i=>[.arr 58 2 (plsV (L.take i.1.1).flatten) i.1.2 false]) (fun i=>L.length - i.1.1) ⟨(0,0),by simp⟩ ?_ ?_
    ·exact lf
    rintro ⟨⟨i,ver⟩,hi⟩ K1
    simp only at hi
    rcases Nat.lt_or_ge i L.length with hc|hc
    ·have g3:decide ((i:Int)<(L.length:Int))=true:=decide_eq_true (by omega)
     have hf:=flat_take hc
     have hle:=flat_le L (i+1)
     have hlen:=congrArg List.length hf
     rw [List.length_append] at hlen
     with_reducible repeat' first|(refine nx ?_;intros)|apply And.intro|intro vr|(refine ny ?_;intros;simp only [go_sem,kp26,geff,updL_cons,updL_nil,Int.toNat_natCast,g3,plsV_app,←hf])
     all_goals try (first|(with_reducible assumption)|(intros;(try simp only [Bool.and_eq_true,Bool.or_eq_true,Bool.or_eq_false_iff,Bool.not_eq_true',Bool.not_eq_false',decide_eq_true_eq,decide_eq_false_iff_not,beq_iff_eq,beq_eq_false_iff_ne,bne_iff_ne,bne_eq_false_iff_eq,ne_eq,inI64,plsV_length] at*)<;>omega)|(intros;(with_reducible first|refine impB_ofR ?_|refine and_ofB ?_ ?_)<;>with_reducible first|assumption|(refine impB_ofR ?_;assumption))|((try simp only [Bool.and_eq_true] at vr);simp only [impB,vr,Bool.or_true,Bool.true_or,Bool.and_self,Bool.not_true,Bool.not_false,Bool.and_true];done))
     exact ⟨⟨(i+1,ver+1),by simp only;omega⟩,wf,lf⟩
    ·have g3:decide ((i:Int)<(L.length:Int))=false:=decide_eq_false (by omega)
     have e:L.take i=L:=List.take_of_length_le hc
     with_reducible repeat' first|(refine nx ?_;intros)|apply And.intro|intro vr|(refine ny ?_;intros;simp only [go_sem,kp26,geff,updL_cons,updL_nil,Int.toNat_natCast,g3,e])
     all_goals try exact nd
     all_goals (refine nl ?_;simp only [go_sem])
     exact LeA.refl _
end Go.Proofs.YtohiagaclfaolaaGreatDoor

namespace Go.Proofs.YtohiagaclfaolaaGreatDoor
open Go Go.Fw Bm
set_option maxRecDepth 20000
noncomputable def con22:PCon Tryz.prog where
  f:=22
  c:=fun
   |[xx]=>match opsOf xx with|some x=>some ((x.length≤1000000),matchV x)|_=>none
   |_=>none
  ok:=by
   intro args p r hc hp
   split at hc
   ·split at hc
    ·rename_i hx
     cases hc
     exact PC.weak (match_pc hp) ⟨opsOf_le hx,trivial⟩
    ·cases hc
   ·cases hc
  fk:=fk22
theorem con22_f:con22.f=22:=rfl
theorem con22_c {xx:AV}:con22.c [xx]=match opsOf xx with|some x=>some ((x.length≤1000000),matchV x)|_=>none:=rfl
attribute [go_sem] con22_f con22_c
theorem concat2_pc {a b:List (Int×Int)} {b1 b2 b3:Bool} (h:a.length≤100000∧b.length≤100000):PC Tryz.prog 26 [.sl b1 1 [.sl b2 2 (plsV a),.sl b3 2 (plsV b)]] (.sl false 2 (plsV (a++b))):=by
  have:=concat_pc (L:=[a,b]) (by simp;omega) (by simp)
  rw [show [a,b].flatten=a++b by simp] at this
  refine PC.weak this ⟨LeA.sl rfl (by intro y hy;simp [pss] at hy;rcases hy with rfl|rfl<;>rfl) ⟨LeA.full _ _ _,LeA.full _ _ _,trivial⟩,trivial⟩
noncomputable def con26:PCon Tryz.prog where
  f:=26
  c:=fun
   |[.sl _ 1 [.sl _ 2 x,.sl _ 2 y]]=>match plL x,plL y with
    |some a,some b=>some (a.length≤100000∧b.length≤100000,.sl false 2 (plsV (a++b)))
    |_,_=>none
   |_=>none
  ok:=by
   intro args p r hc hp
   split at hc
   ·split at hc
    ·rename_i hx hy
     cases hc
     rw [plL_inv hx,plL_inv hy]
     exact concat2_pc hp
    ·cases hc
   ·cases hc
  fk:=fk26
theorem con26_f:con26.f=26:=rfl
theorem con26_c {b1 b2 b3:Bool} {x y:List AV}:con26.c [.sl b1 1 [.sl b2 2 x,.sl b3 2 y]]=match plL x,plL y with
      |some a,some b=>some (a.length≤100000∧b.length≤100000,.sl false 2 (plsV (a++b)))
      |_,_=>none:=rfl
attribute [go_sem] con26_f con26_c plL_pls
noncomputable def V15:Env:=envJ (P:=Tryz.prog) jkV zer (fun _=>false) (fun t=>t==52) [con22,con26,con35] [ecn43]
theorem V15_ok:EnvOk Tryz.prog V15:=envJOk zer_ok
theorem any_all {l:List Ins} {r:Int}:l.any (notR r)= !(l.all fun x=>rightS x r):=by
  induction l with
  |nil=>rfl
  |cons x l ih=>simp only [List.any_cons,List.all_cons,ih,notR,Bool.not_and]
set_option maxHeartbeats 8000000 in
theorem bvalid_pc {B:Prg} (h:OkB B) (hi:B.ins.length≤100000∧B.outs.length≤100000):PC Tryz.prog 14 [bcV B] (.lit (.bool (validS B))):=by
  rw [valid_eq]
  have hT:=h.types;have hD:=h.dims;have hO:=h.ops
  obtain ⟨r,a,o,ii,u,t⟩:=B
  simp only at hT hD hO hi
  obtain ⟨ml,hml⟩:=matchV_eq o
  generalize hR:(!headB ⟨r,a,o,ii,u,t⟩&&typesOk a t (ii++u))=R
  simp only [headB,formedB] at hR
  simp only [bcV_mk]
  refine pcR V15_ok (kp14) Tryz.func14 [.tmp 2] (h:=fun KF=>?_)
  unfold V15
  cases hm:(matchS o).isSome with
  |false=>
   rw [hm] at hR
   repeat' (first
    |(with_reducible first|refine nx ?_|refine t_seq fun K=>?_|refine t_bx ?_|apply And.intro|intro vr)
    |((with_reducible refine t_cond fun A B=>?_);simp only [go_sem,kp14,geff_true,geff_false,hml,any_all,hm];first|(with_reducible refine A.h ?_)|(with_reducible refine B.h ?_)|(refine And.intro (fun hc=>A.h ?_) (fun hc=>B.h ?_)))
    |((with_reducible first|refine ny ?_|refine t_dwh (h:=fun K KL=>?_));intros;simp only [go_sem,kp14,geff_true,geff_false,hml,any_all,hm])
    |((with_reducible refine t_geffS (fun hg=>?_) (fun hg=>?_))<;>((try simp only [Bool.not_eq_true',Bool.not_eq_false',Bool.and_eq_true,Bool.or_eq_false_iff] at hg);simp only [hg,go_sem,kp14,geff_true,geff_false,hml,any_all,hm])))
   all_goals try exact nd
   all_goals
     all_goals (refine nl ?_;simp only [go_sem])
     refine LeA.of_eq ?_
     rw [←hR]
     simp
  |true=>
  rw [hm] at hR
  cases hA:(o.all fun x=>rightS x r) with
  |false=>
   rw [hA] at hR
   repeat' (first
    |(with_reducible first|refine nx ?_|refine t_seq fun K=>?_|refine t_bx ?_|apply And.intro|intro vr)
    |((with_reducible refine t_cond fun A B=>?_);simp only [go_sem,kp14,geff_true,geff_false,hml,any_all,hm,hA];first|(with_reducible refine A.h ?_)|(with_reducible refine B.h ?_)|(refine And.intro (fun hc=>A.h ?_) (fun hc=>B.h ?_)))
    |((with_reducible first|refine ny ?_|refine t_dwh (h:=fun K KL=>?_));intros;simp only [go_sem,kp14,geff_true,geff_false,hml,any_all,hm,hA])
    |((with_reducible refine t_geffS (fun hg=>?_) (fun hg=>?_))<;>((try simp only [Bool.not_eq_true',Bool.not_eq_false',Bool.and_eq_true,Bool.or_eq_false_iff] at hg);simp only [hg,go_sem,kp14,geff_true,geff_false,hml,any_all,hm,hA])))
   all_goals try exact nd
   all_goals
     all_goals (refine nl ?_;simp only [go_sem])
     refine LeA.of_eq ?_
     rw [←hR]
     simp
  |true=>
  rw [hA] at hR
  repeat' (first
   |(with_reducible first|refine nx ?_|refine t_seq fun K=>?_|refine t_bx ?_|apply And.intro|intro vr)
   |((with_reducible refine t_cond fun A B=>?_);simp only [go_sem,kp14,geff_true,geff_false,hml,any_all,hm,hA];first|(with_reducible refine A.h ?_)|(with_reducible refine B.h ?_)|(refine And.intro (fun hc=>A.h ?_) (fun hc=>B.h ?_)))
   |((with_reducible first|refine ny ?_|refine t_dwh (h:=fun K KL=>?_));intros;simp only [go_sem,kp14,geff_true,geff_false,hml,any_all,hm,hA])
   |((with_reducible refine t_geffS (fun hg=>?_) (fun hg=>?_))<;>((try simp only [Bool.not_eq_true',Bool.not_eq_false',Bool.and_eq_true,Bool.or_eq_false_iff] at hg);simp only [hg,go_sem,kp14,geff_true,geff_false,hml,any_all,hm,hA])))
  all_goals try exact nd
  ·skip
   all_goals (refine nl ?_;simp only [go_sem])
   refine LeA.of_eq ?_
   rw [←hR]
   simp_all
   intro k1 k2 k3 k4 k5
   exfalso
   omega
  have hH:headB ⟨r,a,o,ii,u,t⟩=false:=by simp only [headB,formedB,hA,hm];simp_all
  have hRT:typesOk a t (ii++u)=R:=by rw [←hR];simp only [headB,formedB,hA,hm] at hH;rw [hH];rfl
  have hla:0≤a∧a≤1048576:=by simp only [headB,Bool.or_eq_false_iff,decide_eq_false_iff_not] at hH;omega
  have hlt:t.length=ii.length+u.length:=by simp only [headB,Bool.or_eq_false_iff,bne_eq_false_iff_eq] at hH;omega
  clear hR hH
  try clear hc
  refine t_loopF (ι:={j:Nat // j≤t.length∧typesOk a (t.drop j) ((ii++u).drop j)=R}) (fun i=>[(61,.lit (.int .i64 i.1))]) (fun i=>[.box 26 [.lit (.int .i64 r),.lit (.int .i64 a),.sl false 6 (opsV o),.sl false 2 (plsV ii),.sl false 2 (plsV u),.sl false 3 (arrs t)]]) (fun i=>t.length - i.1) ⟨0,by omega,hRT⟩ ?_ ?_
  ·exact lf
  rintro ⟨j,hj,hF⟩ K0
  have hcl:(ii++u).length=t.length:=by rw [List.length_append];omega
  rcases Nat.lt_or_ge j t.length with hc|hc
  ·have g3:decide ((j:Int)<(t.length:Int))=true:=decide_eq_true (by omega)
   have hpl:j<(ii++u).length:=by rw [List.length_append];omega
   rw [drop_getD nilA hc,drop_getP hpl,typesOk,typeOk_eq] at hF
   have hm:okA (t.getD j nilA):=hD _ (getD_mem nilA hc)
   generalize hp:(ii++u).getD j (0,0)=p at hF
   generalize hy:t.getD j nilA=y at hF hm
   obtain ⟨po,ps⟩:=p
   have hbd:=sizeS_bd y.d
   obtain ⟨e,d,x⟩:=y
   simp only at hF hbd
   have hpy:arrV ⟨e,d,x⟩= .agg [.lit (.string e),.sl false 1 (ints .i64 d),.sl false 1 (ints .i64 x)]:=rfl
   have hpp:plV (po,ps)= .agg [.lit (.int .i64 po),.lit (.int .i64 ps)]:=rfl
   with_reducible repeat' first|(refine nx ?_;intros)|refine t_br (fun hc=>?_) fun hc=>?_|apply And.intro|intro vr|(refine ny ?_;intros;simp only [go_sem,kp14,geff,g3,hcl,hy,hpy,hp,hpp,Int.toNat_natCast,yes])
   all_goals try exact nd
   ·skip
    all_goals (refine nl ?_;simp only [go_sem])
    refine LeA.of_eq ?_
    rw [←hF]
    revert hc
    simp only [bne]
    cases typdB ⟨e,d,x⟩<;>cases (ps==(sizeS d).1)<;>cases decide (po<0)<;>cases decide (po>a - (sizeS d).1)<;>simp
   ·skip
    have hF':typesOk a (t.drop (j+1)) ((ii++u).drop (j+1))=R:=by rw [←hF];simp_all
    refine ⟨⟨j+1,by omega,hF'⟩,by first|(simp only;omega)|omega,?_⟩
    try simp only [updL_nil,updL_cons,delF_top,delF_upd,Nat.reduceEqDiff,reduceIte]
    refine le_backM (by first|rfl|(simp only [go_sem];try rfl)) (by first|exact Nat.zero_le _|simp) (by first|rfl|simp [lowO,low_lit,low_sl,low_ref,low_arr,low_sub,low_mp]) ?_ ?_
    ·repeat' (first|exact low_top|(refine low_upd rfl ?_))
    exact lq
  ·have g3:decide ((j:Int)<(t.length:Int))=false:=decide_eq_false (by omega)
   rw [List.drop_eq_nil_of_le hc] at hF
   with_reducible repeat' first|(refine nx ?_;intros)|refine t_br (fun hc=>?_) fun hc=>?_|apply And.intro|intro vr|(refine ny ?_;intros;simp only [go_sem,kp14,geff,g3,hcl])
   all_goals try exact nd
   all_goals (refine nl ?_;simp only [go_sem])
   exact LeA.of_eq (by rw [←hF];rfl)
end Go.Proofs.YtohiagaclfaolaaGreatDoor

namespace Go.Proofs.YtohiagaclfaolaaGreatDoor.Wi
open Go.Proofs.YtohiagaclfaolaaGreatDoor
open Go Go.Fw
set_option maxRecDepth 20000
theorem le_nil {n0:Nat} {f:Nat→AV} {σ:List AObj} (i e sz:Nat) (h:f i= .lit (.slice none 0 0)):Le n0 ⟨f,σ⟩ ⟨upd f i (.arr σ.length 0),σ++[.arr e sz [] 0 false]⟩:=by
  intro cx G w N a _ hr hf
  obtain ⟨G',h1,h2,h3⟩:=Rel.newEmpty hr e sz none
  refine ⟨G',h2,hf.size,hf.defers,fun j=>?_⟩
  have hj:R G' (f j) (a.tmps.getD j undef):=(hf.rel j).mono h1
  simp only [upd]
  split
  ·rename_i e;subst e;rw [h] at hj;rw [hj.lit_inv];exact h3
  ·exact hj
noncomputable def E30:Env:=envOf (P:=Tryz.prog) zer (fun _=>false) (fun _=>false) [] [numCon,failCon]
theorem E30_ok:EnvOk Tryz.prog E30:=envOk zer_ok
set_option maxHeartbeats 400000 in
theorem word_ec {σ:List AObj} {o:Nat} {l:List Int} {most:Int} (ho:σ[o]? =some (src l 0)) (hl:okL l) {k:AV→List AObj→Prop}
    (hk:k (.lit (.string (wordS l 0 most).1)) (σ.set o (src (wordS l 0 most).2.1 (wordS l 0 most).2.2))):EC Tryz.prog 66 [.ref o 0,.lit (.int .i64 most)] σ k:=by
  have hf:∀ {p},srcAt σ o p=p σ l 0:=srcAt_src ho
  obtain ⟨h1,h2,h3⟩:=numS_ok (lo:=0) (hi:=most) (e:=3) hl (by decide)
  unfold wordS at hk
  generalize hN:numS l 0 0 most 3=a at hk h1 h2 h3
  obtain ⟨n,r,e⟩:=a
  simp only at hk h1 h2 h3
  have hlen:=okL_len h1
  by_cases he:e=0
  ·subst he
   obtain ⟨_,hn0,_,hn⟩:=h2 rfl
   rw [if_neg (by simp)] at hk
   have hf2:∀ {p},srcAt (σ.set o (.box 63 [.sl false 1 (ints .u8 r),.lit (.int .i64 0)])) o p=p (σ.set o (src r 0)) r 0:=srcAt_src (get_set ho _)
   by_cases hc:(r.length:Int)<n
   ·rw [if_pos hc] at hk
    have hc':decide (n>(r.length:Int))=true:=decide_eq_true hc
    refine ecO E30_ok (fun _=>[0,1,4,5,6,14,21]) Tryz.func66 (h:=fun KF=>?_)
    unfold E30
    with_reducible repeat' first|(refine nx ?_;intros)|apply And.intro|intro vr|(refine ny ?_;intros;simp only [go_sem,geff,numCon_f,numCon_c,hf,hl,hN,get_set ho,src,hc',failCon_f,failCon_c,hf2])
    exact end_ret rfl hk
   ·rw [if_neg hc] at hk
    have hc':decide (n>(r.length:Int))=false:=decide_eq_false hc
    refine ecO E30_ok (fun _=>[0,1,4,5,6,14,21]) Tryz.func66 (h:=fun KF=>?_)
    unfold E30
    with_reducible repeat' first|(refine nx ?_;intros)|apply And.intro|intro vr|(refine ny ?_;intros;simp only [go_sem,geff,numCon_f,numCon_c,hf,hl,hN,get_set ho,src,hc',failCon_f,List.take_length])
    all_goals try exact om
    exact end_ret rfl hk
  ·rw [if_pos he] at hk
   obtain ⟨rfl,rfl⟩:=h3 he
   have hz:(e !=0)=true:=by simpa using he
   refine ecO E30_ok (fun _=>[0,1,4,5,6,14,21]) Tryz.func66 (h:=fun KF=>?_)
   unfold E30
   with_reducible repeat' first|(refine nx ?_;intros)|apply And.intro|intro vr|(refine ny ?_;intros;simp only [go_sem,geff,numCon_f,numCon_c,hf,hl,hN,get_set ho,src,hz])
   exact end_ret rfl hk
noncomputable def wordCon:ECon Tryz.prog where
  f:=66
  c:=fun args σ k=>match args with
   |[.ref o 0,.lit (.int .i64 most)]=>srcAt σ o fun σ' l e0=>(e0=0∧okL l)∧k (.lit (.string (wordS l 0 most).1)) (σ'.set o (src (wordS l 0 most).2.1 (wordS l 0 most).2.2))
   |_=>False
  ok:=by
   intro args σ k h
   split at h
   ·obtain ⟨σ',l,e0,h1,h2,⟨rfl,h3⟩,h4⟩:=srcAt_inv h
    exact EC.clB h1 (word_ec h2 h3 h4)
   ·exact h.elim
  fk:=fk66
theorem wordCon_f:wordCon.f=66:=rfl
theorem wordCon_c {σ:List AObj} {k:AV→List AObj→Prop} {o:Nat} {most:Int}:wordCon.c [.ref o 0,.lit (.int .i64 most)] σ k=
  srcAt σ o fun σ' l e0=>(e0=0∧okL l)∧k (.lit (.string (wordS l 0 most).1)) (σ'.set o (src (wordS l 0 most).2.1 (wordS l 0 most).2.2)):=rfl
noncomputable def E31:Env:=envOf (P:=Tryz.prog) zer (fun _=>false) (fun _=>false) [] [numCon,wordCon]
theorem E31_ok:EnvOk Tryz.prog E31:=envOk zer_ok
structure Lp {α:Type} (one:List Int→Int→α×List Int×Int) (n:Nat) (F:List α×List Int×Int) where
  i:Nat
  out:List α
  r:List Int
  e:Int
  ver:Nat
  hF:iterS one (n - i) (out,r,e)=F
  hr:okL r
  hi:i=out.length
  hb:out.length+r.length≤900001
  hb0:e=0→out.length+r.length≤900000
theorem lk_o {σ:List AObj} {o:Nat} {ob:AObj} (ho:σ[o]? =some ob) (x:AObj) (m:List AObj):(σ.set o x++m)[o]? =some x:=get_app_of (get_set ho x) m
theorem lk_n {σ:List AObj} {o p:Nat} {ob:AObj} (hp:σ[p]? =some ob) (hne:o≠p) (x:AObj) (m:List AObj):(σ.set o x++m)[p]? =some ob:=get_app_of (by rw [List.getElem?_set_ne hne];exact hp) m
theorem lk_e {σ:List AObj} {o:Nat} (x:AObj) (m:List AObj):(σ.set o x++m)[σ.length]? =m[0]? :=getA0 (by simp)
theorem st_e {σ:List AObj} {o:Nat} (x y:AObj) (m:List AObj):(σ.set o x++m).set σ.length y=σ.set o x++m.set 0 y:=setA0 (by simp)
theorem st_o {σ:List AObj} {o:Nat} {ob:AObj} (ho:σ[o]? =some ob) (x y:AObj) (m:List AObj):(σ.set o x++m).set o y=σ.set o y++m:=by
  rw [set_app_of (get_set ho x),List.set_set]
theorem tk_e {σ:List AObj} {o:Nat} (x:AObj) (m:List AObj):(σ.set o x++m).take σ.length=σ.set o x:=takeA (by simp)
theorem oneI_ec {σ:List AObj} {o bp bx by':Nat} {l:List Int} {lo hi:Int} (ho:σ[o]? =some (src l 0)) (hp:σ[bp]? =some (.box 61 [.ref o 0])) (hbx:σ[bx]? =some (.box 3 [.lit (.int .i64 lo)])) (hby':σ[by']? =some (.box 3 [.lit (.int .i64 hi)])) (hl:okL l) {k:AV→List AObj→Prop}
    (hk:k (.lit (.int .i64 (numS l 0 lo hi 2).1)) (σ.set o (src (numS l 0 lo hi 2).2.1 (numS l 0 lo hi 2).2.2))):EC Tryz.prog 70 [.ref bp 0,.ref bx 0,.ref by' 0] σ k:=by
  have hf:∀ {p},srcAt σ o p=p σ l 0:=srcAt_src ho
  refine ecO E31_ok (fun _=>[0,1,2,3]) Tryz.func70 (h:=fun KF=>?_)
  unfold E31
  with_reducible repeat' first|(refine nx ?_;intros)|refine t_br (fun hc=>?_) fun hc=>?_|refine t_bx ?_|apply And.intro|intro vr|((first|refine ny ?_|refine t_dwh (h:=fun K KL=>?_));intros;simp only [go_sem,geff,hp,hbx,hby',numCon_f,numCon_c,wordCon_f,wordCon_c,hf,hl])
  exact end_ret rfl hk
noncomputable def oneICon:ECon Tryz.prog where
  f:=70
  c:=fun args σ k=>match args with
   |[.ref bp 0,.ref bx 0,.ref by' 0]=>match σ[bp]? with
    |some (.box 61 [.ref o 0])=>srcAt σ o fun σ' l e0=>match σ'[bp]?,σ'[bx]?,σ'[by']? with
     |some (.box 61 [.ref o' 0]),some (.box 3 [.lit (.int .i64 lo)]),some (.box 3 [.lit (.int .i64 hi)])=>(o'=o∧e0=0∧okL l)∧k (.lit (.int .i64 (numS l 0 lo hi 2).1)) (σ'.set o (src (numS l 0 lo hi 2).2.1 (numS l 0 lo hi 2).2.2))
     |_,_,_=>False
    |_=>False
   |_=>False
  ok:=by
   intro args σ k h
   split at h
   ·split at h
    ·obtain ⟨σ',l,e0,h1,h2,h3⟩:=srcAt_inv h
     split at h3
     ·rename_i hp hbx hby'
      obtain ⟨⟨rfl,rfl,hl⟩,h4⟩:=h3
      exact EC.clB h1 (oneI_ec h2 hp hbx hby' hl h4)
     ·exact h3.elim
    ·exact h.elim
   ·exact h.elim
  fk:=fk70
theorem oneICon_f:oneICon.f=70:=rfl
theorem oneICon_c {σ:List AObj} {k:AV→List AObj→Prop} {bp bx by':Nat}:oneICon.c [.ref bp 0,.ref bx 0,.ref by' 0] σ k=match σ[bp]? with
      |some (.box 61 [.ref o 0])=>srcAt σ o fun σ' l e0=>match σ'[bp]?,σ'[bx]?,σ'[by']? with
       |some (.box 61 [.ref o' 0]),some (.box 3 [.lit (.int .i64 lo)]),some (.box 3 [.lit (.int .i64 hi)])=>(o'=o∧e0=0∧okL l)∧k (.lit (.int .i64 (numS l 0 lo hi 2).1)) (σ'.set o (src (numS l 0 lo hi 2).2.1 (numS l 0 lo hi 2).2.2))
       |_,_,_=>False
      |_=>False:=rfl
noncomputable def FI:Env:=envOf (P:=Tryz.prog) zer (fun _=>false) (fun _=>false) [] [numCon,oneICon]
theorem FI_ok:EnvOk Tryz.prog FI:=envOk zer_ok
set_option maxHeartbeats 1000000 in
theorem manyI_ec {σ:List AObj} {o bp bx by':Nat} {l:List Int} {most lo hi:Int} (ho:σ[o]? =some (src l 0)) (hp:σ[bp]? =some (.box 61 [.ref o 0])) (hbx:σ[bx]? =some (.box 3 [.lit (.int .i64 lo)])) (hby':σ[by']? =some (.box 3 [.lit (.int .i64 hi)])) (hl:okL l) {k:AV→List AObj→Prop}
    (hk:k (.sl false 1 (ints .i64 (manyS (fun l e=>numS l e lo hi 2) l 0 most).1)) (σ.set o (src (manyS (fun l e=>numS l e lo hi 2) l 0 most).2.1 (manyS (fun l e=>numS l e lo hi 2) l 0 most).2.2))):
    EC Tryz.prog 69 [.ref o 0,.lit (.int .i64 most),.fn (.func 70) [] [.ref bp 0,.ref bx 0,.ref by' 0]] σ k:=by
  refine ec_fin fun hbd=>?_
  have hf:∀ {p},srcAt σ o p=p σ l 0:=srcAt_src ho
  obtain ⟨h1,h2,h3⟩:=numS_ok (lo:=0) (hi:=most) (e:=3) hl (by decide)
  have hR:Rd (fun l e=>numS l e lo hi 2):=(rd_num (by decide))
  unfold manyS at hk
  generalize hN:numS l 0 0 most 3=a at hk h1 h2 h3
  obtain ⟨n,r0,e0⟩:=a
  simp only at hk h1 h2 h3
  have hlen:=okL_len h1
  have np:o≠bp:=fun e=>by subst e;rw [ho] at hp;cases hp
  have nbx:o≠bx:=fun e=>by subst e;rw [ho] at hbx;cases hbx
  have nby':o≠by':=fun e=>by subst e;rw [ho] at hby';cases hby'
  have hsr:∀ {r e m p},srcAt (σ.set o (.box 63 [.sl false 1 (ints .u8 r),.lit (.int .i64 e)])++m) o p=p (σ.set o (src r e)++m) r e:=srcAt_src (lk_o ho _ _)
  have hn9:inI64 n:=by
    by_cases he:e0=0
    ·exact (h2 he).2.2.2
    ·rw [(h3 he).1];exact ⟨by decide,by decide⟩
  unfold inI64 at hn9
  refine ecO FI_ok (fun _=>[0,1,2,6,7,8,9,22]) Tryz.func69 (h:=fun KF=>?_)
  unfold FI
  with_reducible repeat' first|(refine nx ?_;intros)|apply And.intro|intro vr|(refine ny ?_;intros;simp only [go_sem,geff,numCon_f,numCon_c,hf,hl,hN,src])
  refine t_loop (ι:=Lp (fun l e=>numS l e lo hi 2) n.toNat (iterS (fun l e=>numS l e lo hi 2) n.toNat ([],r0,e0))) (fun p=>⟨upd (upd (upd (upd (upd topF 9 (.lit (.int .i64 p.i))) 8 (.arr σ.length p.ver)) 7 (.lit (.int .i64 n))) 2 (.fn (.func 70) [] [.ref bp 0,.ref bx 0,.ref by' 0])) 0 (.ref o 0),
    σ.set o (src p.r p.e)++[.arr 3 1 (ints .i64 p.out) p.ver false]⟩) (fun p=>n.toNat - p.i) ⟨0,[],r0,e0,0,rfl,h1,rfl,by simp only [List.length_nil];omega,fun _=>by simp only [List.length_nil];omega⟩ ?_ ?_
  ·refine (le_nil 8 3 1 rfl).trans ?_
   (refine Le.frame ?_;repeat' (first|exact leF_top _|(with_reducible refine leF_sl ?_ ?_)|(refine leF_upd (LeR.of_eq ?_) ?_)))<;>(try (simp only [go_sem];try rfl))
  ·rintro ⟨i,out,r,e,ver,hF,hr,hil,hb,hb0⟩ K0
   have hend:decide ((i:Int)<n)=false∨e≠0→iterS (fun l e=>numS l e lo hi 2) n.toNat ([],r0,e0)=(out,r,e):=by
     rintro (h|h)
     ·rw [←hF,show n.toNat - i=0 by rw [decide_eq_false_iff_not] at h;omega];rfl
     ·rw [←hF];exact iterS_done h
   rcases Int.lt_or_le (i:Int) n with hc|hc
   ·have g1:decide ((i:Int)<n)=true:=decide_eq_true hc
    by_cases he:e=0
    ·subst he
     have hd:=hR r hr
     rw [show n.toNat - i=(n.toNat - (i+1))+1 by omega,iterS_step] at hF
     simp only at hF hd
     generalize hO:numS r 0 lo hi 2=z at hF hd
     obtain ⟨x,r',e'⟩:=z
     simp only at hF hd
     have hb0:=hb0 rfl
     with_reducible repeat' first|(refine nx ?_;intros)|apply And.intro|intro vr|(refine ny ?_;intros;simp only [go_sem,geff,g1,lk_o ho,lk_n hp np,lk_n hbx nbx,lk_n hby' nby',lk_e,st_e,st_o ho,hsr,src,oneICon_f,oneICon_c,hr,hO,numCon_f])
     all_goals try exact om
     refine ⟨⟨i+1,out++[x],r',e',ver+1,hF,hd.1,by simp only [List.length_append,List.length_singleton];omega,by simp only [List.length_append,List.length_singleton];omega,fun h=>by have:=hd.2.2 h;simp only [List.length_append,List.length_singleton];omega⟩,by simp only;omega,?_⟩
     (refine Le.frame ?_;repeat' (first|exact leF_top _|(with_reducible refine leF_sl ?_ ?_)|(refine leF_upd (LeR.of_eq ?_) ?_)))<;>(try (simp only [go_sem];try rfl))
    ·have hz:(e==0)=false:=by simpa using he
     rw [hend (.inr he)] at hk
     with_reducible repeat' first|(refine nx ?_;intros)|apply And.intro|intro vr|(refine ny ?_;intros;simp only [go_sem,geff,g1,lk_o ho,hz,src])
     refine end_ret rfl ?_
     simp only [finE,go_sem,lk_e,st_e,tk_e]
     exact ⟨_,_,rfl,LeA.refl _,bds_src hbd o _ _,hk⟩
   ·have g1:decide ((i:Int)<n)=false:=decide_eq_false (by omega)
    rw [hend (.inl g1)] at hk
    with_reducible repeat' first|(refine nx ?_;intros)|apply And.intro|intro vr|(refine ny ?_;intros;simp only [go_sem,geff,g1,lk_o ho,src])
    refine end_ret rfl ?_
    simp only [finE,go_sem,lk_e,st_e,tk_e]
    exact ⟨_,_,rfl,LeA.refl _,bds_src hbd o _ _,hk⟩
noncomputable def manyICon:ECon Tryz.prog where
  f:=69
  c:=fun args σ k=>match args with
   |[.ref o 0,.lit (.int .i64 most),.fn (.func 70) [] [.ref bp 0,.ref bx 0,.ref by' 0]]=>srcAt σ o fun σ' l e0=>match σ'[bp]?,σ'[bx]?,σ'[by']? with
      |some (.box 61 [.ref o' 0]),some (.box 3 [.lit (.int .i64 lo)]),some (.box 3 [.lit (.int .i64 hi)])=>(o'=o∧e0=0∧okL l)∧k (.sl false 1 (ints .i64 (manyS (fun l e=>numS l e lo hi 2) l 0 most).1)) (σ'.set o (src (manyS (fun l e=>numS l e lo hi 2) l 0 most).2.1 (manyS (fun l e=>numS l e lo hi 2) l 0 most).2.2))
      |_,_,_=>False
   |_=>False
  ok:=by
   intro args σ k h
   split at h
   ·obtain ⟨σ',l,e0,h1,h2,h3⟩:=srcAt_inv h
    split at h3
    ·rename_i hp hbx hby'
     obtain ⟨⟨rfl,rfl,hl⟩,h4⟩:=h3
     exact EC.clB h1 (manyI_ec h2 hp hbx hby' hl h4)
    ·exact h3.elim
   ·exact h.elim
  fk:=fk69
theorem manyICon_f:manyICon.f=69:=rfl
theorem manyICon_c {σ:List AObj} {k:AV→List AObj→Prop} {o bp bx by':Nat} {most:Int}:manyICon.c [.ref o 0,.lit (.int .i64 most),.fn (.func 70) [] [.ref bp 0,.ref bx 0,.ref by' 0]] σ k=srcAt σ o fun σ' l e0=>match σ'[bp]?,σ'[bx]?,σ'[by']? with
        |some (.box 61 [.ref o' 0]),some (.box 3 [.lit (.int .i64 lo)]),some (.box 3 [.lit (.int .i64 hi)])=>(o'=o∧e0=0∧okL l)∧k (.sl false 1 (ints .i64 (manyS (fun l e=>numS l e lo hi 2) l 0 most).1)) (σ'.set o (src (manyS (fun l e=>numS l e lo hi 2) l 0 most).2.1 (manyS (fun l e=>numS l e lo hi 2) l 0 most).2.2))
        |_,_,_=>False:=rfl
noncomputable def E32:Env:=envOf (P:=Tryz.prog) zer (fun _=>false) (fun _=>false) [] [numCon,wordCon,manyICon]
theorem E32_ok:EnvOk Tryz.prog E32:=envOk zer_ok
theorem cloI_ec {σ:List AObj} {o bm bx by':Nat} {l:List Int} {most lo hi:Int} (ho:σ[o]? =some (src l 0)) (hbm:σ[bm]? =some (.box 3 [.lit (.int .i64 most)])) (hbx:σ[bx]? =some (.box 3 [.lit (.int .i64 lo)])) (hby':σ[by']? =some (.box 3 [.lit (.int .i64 hi)])) (hl:okL l) {k:AV→List AObj→Prop}
    (hk:k (.sl false 1 (ints .i64 (manyS (fun l e=>numS l e lo hi 2) l 0 most).1)) (σ.set o (src (manyS (fun l e=>numS l e lo hi 2) l 0 most).2.1 (manyS (fun l e=>numS l e lo hi 2) l 0 most).2.2))):EC Tryz.prog 68 [.ref o 0,.ref bm 0,.ref bx 0,.ref by' 0] σ k:=by
  refine ec_fin fun hbd=>?_
  have hf:∀ {m p},srcAt (σ++m) o p=p (σ++m) l 0:=srcAt_src (get_app_of ho _)
  refine ecO E32_ok (fun _=>[1,2,3,4,5]) Tryz.func68 (h:=fun KF=>?_)
  unfold E32
  with_reducible repeat' first|(refine nx ?_;intros)|apply And.intro|intro vr|(refine ny ?_;intros;simp only [go_sem,geff,manyICon_f,manyICon_c,numCon_f,wordCon_f,hf,hl,set_app_of ho,getA0 rfl,get_app_of hbm,get_app_of hbx,get_app_of hby'])
  refine end_ret rfl ?_
  simp only [finE,go_sem]
  exact ⟨_,_,rfl,LeA.refl _,bds_src hbd o _ _,hk⟩
noncomputable def cloICon:ECon Tryz.prog where
  f:=68
  c:=fun args σ k=>match args with
   |[.ref o 0,.ref bm 0,.ref bx 0,.ref by' 0]=>srcAt σ o fun σ' l e0=>match σ'[bm]?,σ'[bx]?,σ'[by']? with
      |some (.box 3 [.lit (.int .i64 most)]),some (.box 3 [.lit (.int .i64 lo)]),some (.box 3 [.lit (.int .i64 hi)])=>(e0=0∧okL l)∧k (.sl false 1 (ints .i64 (manyS (fun l e=>numS l e lo hi 2) l 0 most).1)) (σ'.set o (src (manyS (fun l e=>numS l e lo hi 2) l 0 most).2.1 (manyS (fun l e=>numS l e lo hi 2) l 0 most).2.2))
      |_,_,_=>False
   |_=>False
  ok:=by
   intro args σ k h
   split at h
   ·obtain ⟨σ',l,e0,h1,h2,h3⟩:=srcAt_inv h
    split at h3
    ·rename_i hbm hbx hby'
     obtain ⟨⟨rfl,hl⟩,h4⟩:=h3
     exact EC.clB h1 (cloI_ec h2 hbm hbx hby' hl h4)
    ·exact h3.elim
   ·exact h.elim
  fk:=fk68
theorem cloICon_f:cloICon.f=68:=rfl
theorem cloICon_c {σ:List AObj} {k:AV→List AObj→Prop} {o bm bx by':Nat}:cloICon.c [.ref o 0,.ref bm 0,.ref bx 0,.ref by' 0] σ k=srcAt σ o fun σ' l e0=>match σ'[bm]?,σ'[bx]?,σ'[by']? with
        |some (.box 3 [.lit (.int .i64 most)]),some (.box 3 [.lit (.int .i64 lo)]),some (.box 3 [.lit (.int .i64 hi)])=>(e0=0∧okL l)∧k (.sl false 1 (ints .i64 (manyS (fun l e=>numS l e lo hi 2) l 0 most).1)) (σ'.set o (src (manyS (fun l e=>numS l e lo hi 2) l 0 most).2.1 (manyS (fun l e=>numS l e lo hi 2) l 0 most).2.2))
        |_,_,_=>False:=rfl
noncomputable def GI:Env:=envOf (P:=Tryz.prog) zer (fun _=>false) (fun _=>false) [] [cloICon]
theorem GI_ok:EnvOk Tryz.prog GI:=envOk zer_ok
set_option maxHeartbeats 800000 in
theorem runI_ec {σ:List AObj} {o bm bx by':Nat} {l:List Int} {e0:Int} {most lo hi:Int} (ho:σ[o]? =some (src l e0)) (hbm:σ[bm]? =some (.box 3 [.lit (.int .i64 most)])) (hbx:σ[bx]? =some (.box 3 [.lit (.int .i64 lo)])) (hby':σ[by']? =some (.box 3 [.lit (.int .i64 hi)])) (hl:okL l) {k:AV→List AObj→Prop}
    (hk:k (.sl false 1 (ints .i64 (runS [] l e0 (manyS (fun l e=>numS l e lo hi 2) l 0 most)).1)) (σ.set o (src (runS [] l e0 (manyS (fun l e=>numS l e lo hi 2) l 0 most)).2.1 (runS [] l e0 (manyS (fun l e=>numS l e lo hi 2) l 0 most)).2.2))):EC Tryz.prog 67 [.ref o 0,.fn (.func 68) [] [.ref bm 0,.ref bx 0,.ref by' 0]] σ k:=by
  refine ec_fin fun hbd=>?_
  have ho':=ho
  unfold src at ho'
  by_cases h0:e0=0
  ·subst h0
   have hf:∀ {p},srcAt (σ++[.box 63 [.sl false 1 (ints .u8 l),.lit (.int .i64 0)]]) σ.length p=p (σ++[.box 63 [.sl false 1 (ints .u8 l),.lit (.int .i64 0)]]) l 0:=srcAt_src (getA0 rfl)
   unfold runS at hk
   rw [if_neg (by omega)] at hk
   generalize hX:manyS (fun l e=>numS l e lo hi 2) l 0 most=z at hk
   obtain ⟨x,r,e⟩:=z
   simp only at hk
   by_cases he:e=0
   ·subst he
    rw [if_neg (by simp)] at hk
    refine ecO GI_ok (fun _=>[0,1,4,5,6,7,16,27]) Tryz.func67 (h:=fun KF=>?_)
    unfold GI
    with_reducible repeat' first|(refine nx ?_;intros)|apply And.intro|intro vr|(refine ny ?_;intros;simp only [go_sem,geff,ho',get_app_of ho',get_app_of hbm,get_app_of hbx,get_app_of hby',cloICon_f,cloICon_c,hf,hl,set_app_of ho',src,hX])
    refine end_ret rfl ?_
    simp only [finE,go_sem]
    exact ⟨_,_,rfl,LeA.refl _,bds_src hbd o _ _,hk⟩
   ·rw [if_pos he] at hk
    have hz:(e !=0)=true:=by simpa using he
    refine ecO GI_ok (fun _=>[0,1,4,5,6,7,16,27]) Tryz.func67 (h:=fun KF=>?_)
    unfold GI
    with_reducible repeat' first|(refine nx ?_;intros)|apply And.intro|intro vr|(refine ny ?_;intros;simp only [go_sem,geff,ho',get_app_of ho',get_app_of hbm,get_app_of hbx,get_app_of hby',cloICon_f,cloICon_c,hf,hl,set_app_of ho',src,hX,hz])
    refine end_ret rfl ?_
    simp only [finE,go_sem]
    exact ⟨_,_,rfl,LeA.nil false 1,bds_src hbd o _ _,hk⟩
  ·have hz:(e0 !=0)=true:=by simpa using h0
   unfold runS at hk
   rw [if_pos h0,set_same ho] at hk
   refine ecO GI_ok (fun _=>[0,1,4,5,6,7,16,27]) Tryz.func67 (h:=fun KF=>?_)
   unfold GI
   with_reducible repeat' first|(refine nx ?_;intros)|apply And.intro|intro vr|(refine ny ?_;intros;simp only [go_sem,geff,ho',get_set ho,hz])
   refine end_ret rfl ?_
   simp only [finE,go_sem]
   exact ⟨_,_,rfl,LeA.nil false 1,by simpa using hbd,by simpa [strs,ints] using hk⟩
noncomputable def runICon:ECon Tryz.prog where
  f:=67
  c:=fun args σ k=>match args with
   |[.ref o 0,.fn (.func 68) [] [.ref bm 0,.ref bx 0,.ref by' 0]]=>srcAt σ o fun σ' l e0=>match σ'[bm]?,σ'[bx]?,σ'[by']? with
      |some (.box 3 [.lit (.int .i64 most)]),some (.box 3 [.lit (.int .i64 lo)]),some (.box 3 [.lit (.int .i64 hi)])=>okL l∧k (.sl false 1 (ints .i64 (runS [] l e0 (manyS (fun l e=>numS l e lo hi 2) l 0 most)).1)) (σ'.set o (src (runS [] l e0 (manyS (fun l e=>numS l e lo hi 2) l 0 most)).2.1 (runS [] l e0 (manyS (fun l e=>numS l e lo hi 2) l 0 most)).2.2))
      |_,_,_=>False
   |_=>False
  ok:=by
   intro args σ k h
   split at h
   ·obtain ⟨σ',l,e0,h1,h2,h3⟩:=srcAt_inv h
    split at h3
    ·rename_i hbm hbx hby'
     obtain ⟨hl,h4⟩:=h3
     exact EC.clB h1 (runI_ec h2 hbm hbx hby' hl h4)
    ·exact h3.elim
   ·exact h.elim
  fk:=fk67
theorem runICon_f:runICon.f=67:=rfl
theorem runICon_c {σ:List AObj} {k:AV→List AObj→Prop} {o bm bx by':Nat}:runICon.c [.ref o 0,.fn (.func 68) [] [.ref bm 0,.ref bx 0,.ref by' 0]] σ k=srcAt σ o fun σ' l e0=>match σ'[bm]?,σ'[bx]?,σ'[by']? with
        |some (.box 3 [.lit (.int .i64 most)]),some (.box 3 [.lit (.int .i64 lo)]),some (.box 3 [.lit (.int .i64 hi)])=>okL l∧k (.sl false 1 (ints .i64 (runS [] l e0 (manyS (fun l e=>numS l e lo hi 2) l 0 most)).1)) (σ'.set o (src (runS [] l e0 (manyS (fun l e=>numS l e lo hi 2) l 0 most)).2.1 (runS [] l e0 (manyS (fun l e=>numS l e lo hi 2) l 0 most)).2.2))
        |_,_,_=>False:=rfl
noncomputable def HI:Env:=envOf (P:=Tryz.prog) zer (fun _=>false) (fun _=>false) [] [runICon]
theorem HI_ok:EnvOk Tryz.prog HI:=envOk zer_ok
theorem methI_ec {σ:List AObj} {o:Nat} {l:List Int} {e0:Int} {most lo hi:Int} (ho:σ[o]? =some (src l e0)) (hl:okL l) {k:AV→List AObj→Prop}
    (hk:k (.sl false 1 (ints .i64 (runS [] l e0 (manyS (fun l e=>numS l e lo hi 2) l 0 most)).1)) (σ.set o (src (runS [] l e0 (manyS (fun l e=>numS l e lo hi 2) l 0 most)).2.1 (runS [] l e0 (manyS (fun l e=>numS l e lo hi 2) l 0 most)).2.2))):EC Tryz.prog 34 [.ref o 0,.lit (.int .i64 most),.lit (.int .i64 lo),.lit (.int .i64 hi)] σ k:=by
  refine ec_fin fun hbd=>?_
  have hf:∀ {m p},srcAt (σ++m) o p=p (σ++m) l e0:=srcAt_src (get_app_of ho _)
  refine ecO HI_ok (fun _=>[0,5,6,7,8]) Tryz.func34 (h:=fun KF=>?_)
  unfold HI
  with_reducible repeat' first|(refine nx ?_;intros)|apply And.intro|intro vr|(refine ny ?_;intros;simp only [go_sem,geff,runICon_f,runICon_c,hf,hl,set_app_of ho])
  refine end_ret rfl ?_
  simp only [finE,go_sem]
  exact ⟨_,_,rfl,LeA.refl _,bds_src hbd o _ _,hk⟩
noncomputable def methICon:ECon Tryz.prog where
  f:=34
  c:=fun args σ k=>match args with
   |[.ref o 0,.lit (.int .i64 most),.lit (.int .i64 lo),.lit (.int .i64 hi)]=>srcAt σ o fun σ' l e0=>okL l∧k (.sl false 1 (ints .i64 (runS [] l e0 (manyS (fun l e=>numS l e lo hi 2) l 0 most)).1)) (σ'.set o (src (runS [] l e0 (manyS (fun l e=>numS l e lo hi 2) l 0 most)).2.1 (runS [] l e0 (manyS (fun l e=>numS l e lo hi 2) l 0 most)).2.2))
   |_=>False
  ok:=by
   intro args σ k h
   split at h
   ·obtain ⟨σ',l,e0,h1,h2,h3,h4⟩:=srcAt_inv h
    exact EC.clB h1 (methI_ec h2 h3 h4)
   ·exact h.elim
  fk:=fk34
theorem methICon_f:methICon.f=34:=rfl
theorem methICon_c {σ:List AObj} {k:AV→List AObj→Prop} {o:Nat} {most lo hi:Int}:methICon.c [.ref o 0,.lit (.int .i64 most),.lit (.int .i64 lo),.lit (.int .i64 hi)] σ k=srcAt σ o fun σ' l e0=>okL l∧k (.sl false 1 (ints .i64 (runS [] l e0 (manyS (fun l e=>numS l e lo hi 2) l 0 most)).1)) (σ'.set o (src (runS [] l e0 (manyS (fun l e=>numS l e lo hi 2) l 0 most)).2.1 (runS [] l e0 (manyS (fun l e=>numS l e lo hi 2) l 0 most)).2.2)):=rfl
theorem cloW_ec {σ:List AObj} {o bm:Nat} {l:List Int} {most:Int} (ho:σ[o]? =some (src l 0)) (hbm:σ[bm]? =some (.box 3 [.lit (.int .i64 most)])) (hl:okL l) {k:AV→List AObj→Prop}
    (hk:k (.lit (.string (wordS l 0 most).1)) (σ.set o (src (wordS l 0 most).2.1 (wordS l 0 most).2.2))):EC Tryz.prog 65 [.ref o 0,.ref bm 0] σ k:=by
  have hf:∀ {p},srcAt σ o p=p σ l 0:=srcAt_src ho
  refine ecO E32_ok (fun _=>[0,1,3]) Tryz.func65 (h:=fun KF=>?_)
  unfold E32
  with_reducible repeat' first|(refine nx ?_;intros)|refine t_br (fun hc=>?_) fun hc=>?_|refine t_bx ?_|apply And.intro|intro vr|((first|refine ny ?_|refine t_dwh (h:=fun K KL=>?_));intros;simp only [go_sem,geff,numCon_f,numCon_c,wordCon_f,wordCon_c,hf,hl,hbm])
  exact end_ret rfl hk
noncomputable def cloWCon:ECon Tryz.prog where
  f:=65
  c:=fun args σ k=>match args with
   |[.ref o 0,.ref bm 0]=>srcAt σ o fun σ' l e0=>match σ'[bm]? with
      |some (.box 3 [.lit (.int .i64 most)])=>(e0=0∧okL l)∧k (.lit (.string (wordS l 0 most).1)) (σ'.set o (src (wordS l 0 most).2.1 (wordS l 0 most).2.2))
      |_=>False
   |_=>False
  ok:=by
   intro args σ k h
   split at h
   ·obtain ⟨σ',l,e0,h1,h2,h3⟩:=srcAt_inv h
    split at h3
    ·rename_i hbm
     obtain ⟨⟨rfl,hl⟩,h4⟩:=h3
     exact EC.clB h1 (cloW_ec h2 hbm hl h4)
    ·exact h3.elim
   ·exact h.elim
  fk:=fk65
theorem cloWCon_f:cloWCon.f=65:=rfl
theorem cloWCon_c {σ:List AObj} {k:AV→List AObj→Prop} {o bm:Nat}:cloWCon.c [.ref o 0,.ref bm 0] σ k=srcAt σ o fun σ' l e0=>match σ'[bm]? with
        |some (.box 3 [.lit (.int .i64 most)])=>(e0=0∧okL l)∧k (.lit (.string (wordS l 0 most).1)) (σ'.set o (src (wordS l 0 most).2.1 (wordS l 0 most).2.2))
        |_=>False:=rfl
noncomputable def GW:Env:=envOf (P:=Tryz.prog) zer (fun _=>false) (fun _=>false) [] [cloWCon]
theorem GW_ok:EnvOk Tryz.prog GW:=envOk zer_ok
set_option maxHeartbeats 800000 in
theorem runW_ec {σ:List AObj} {o bm:Nat} {l:List Int} {e0:Int} {most:Int} (ho:σ[o]? =some (src l e0)) (hbm:σ[bm]? =some (.box 3 [.lit (.int .i64 most)])) (hl:okL l) {k:AV→List AObj→Prop}
    (hk:k (.lit (.string (runS (⟨#[]⟩:ByteArray) l e0 (wordS l 0 most)).1)) (σ.set o (src (runS (⟨#[]⟩:ByteArray) l e0 (wordS l 0 most)).2.1 (runS (⟨#[]⟩:ByteArray) l e0 (wordS l 0 most)).2.2))):EC Tryz.prog 64 [.ref o 0,.fn (.func 65) [] [.ref bm 0]] σ k:=by
  refine ec_fin fun hbd=>?_
  have ho':=ho
  unfold src at ho'
  by_cases h0:e0=0
  ·subst h0
   have hf:∀ {p},srcAt (σ++[.box 63 [.sl false 1 (ints .u8 l),.lit (.int .i64 0)]]) σ.length p=p (σ++[.box 63 [.sl false 1 (ints .u8 l),.lit (.int .i64 0)]]) l 0:=srcAt_src (getA0 rfl)
   unfold runS at hk
   rw [if_neg (by omega)] at hk
   generalize hX:wordS l 0 most=z at hk
   obtain ⟨x,r,e⟩:=z
   simp only at hk
   by_cases he:e=0
   ·subst he
    rw [if_neg (by simp)] at hk
    refine ecO GW_ok (fun _=>[0,1,4,5,6,7,16,27]) Tryz.func64 (h:=fun KF=>?_)
    unfold GW
    with_reducible repeat' first|(refine nx ?_;intros)|apply And.intro|intro vr|(refine ny ?_;intros;simp only [go_sem,geff,ho',get_app_of ho',get_app_of hbm,cloWCon_f,cloWCon_c,hf,hl,set_app_of ho',src,hX])
    refine end_ret rfl ?_
    simp only [finE,go_sem]
    exact ⟨_,_,rfl,LeA.refl _,bds_src hbd o _ _,hk⟩
   ·rw [if_pos he] at hk
    have hz:(e !=0)=true:=by simpa using he
    refine ecO GW_ok (fun _=>[0,1,4,5,6,7,16,27]) Tryz.func64 (h:=fun KF=>?_)
    unfold GW
    with_reducible repeat' first|(refine nx ?_;intros)|apply And.intro|intro vr|(refine ny ?_;intros;simp only [go_sem,geff,ho',get_app_of ho',get_app_of hbm,cloWCon_f,cloWCon_c,hf,hl,set_app_of ho',src,hX,hz])
    refine end_ret rfl ?_
    simp only [finE,go_sem]
    exact ⟨_,_,rfl,LeA.refl _,bds_src hbd o _ _,hk⟩
  ·have hz:(e0 !=0)=true:=by simpa using h0
   unfold runS at hk
   rw [if_pos h0,set_same ho] at hk
   refine ecO GW_ok (fun _=>[0,1,4,5,6,7,16,27]) Tryz.func64 (h:=fun KF=>?_)
   unfold GW
   with_reducible repeat' first|(refine nx ?_;intros)|apply And.intro|intro vr|(refine ny ?_;intros;simp only [go_sem,geff,ho',get_set ho,hz])
   refine end_ret rfl ?_
   simp only [finE,go_sem]
   exact ⟨_,_,rfl,LeA.refl _,by simpa using hbd,by simpa [strs,ints] using hk⟩
noncomputable def runWCon:ECon Tryz.prog where
  f:=64
  c:=fun args σ k=>match args with
   |[.ref o 0,.fn (.func 65) [] [.ref bm 0]]=>srcAt σ o fun σ' l e0=>match σ'[bm]? with
      |some (.box 3 [.lit (.int .i64 most)])=>okL l∧k (.lit (.string (runS (⟨#[]⟩:ByteArray) l e0 (wordS l 0 most)).1)) (σ'.set o (src (runS (⟨#[]⟩:ByteArray) l e0 (wordS l 0 most)).2.1 (runS (⟨#[]⟩:ByteArray) l e0 (wordS l 0 most)).2.2))
      |_=>False
   |_=>False
  ok:=by
   intro args σ k h
   split at h
   ·obtain ⟨σ',l,e0,h1,h2,h3⟩:=srcAt_inv h
    split at h3
    ·rename_i hbm
     obtain ⟨hl,h4⟩:=h3
     exact EC.clB h1 (runW_ec h2 hbm hl h4)
    ·exact h3.elim
   ·exact h.elim
  fk:=fk64
theorem runWCon_f:runWCon.f=64:=rfl
theorem runWCon_c {σ:List AObj} {k:AV→List AObj→Prop} {o bm:Nat}:runWCon.c [.ref o 0,.fn (.func 65) [] [.ref bm 0]] σ k=srcAt σ o fun σ' l e0=>match σ'[bm]? with
        |some (.box 3 [.lit (.int .i64 most)])=>okL l∧k (.lit (.string (runS (⟨#[]⟩:ByteArray) l e0 (wordS l 0 most)).1)) (σ'.set o (src (runS (⟨#[]⟩:ByteArray) l e0 (wordS l 0 most)).2.1 (runS (⟨#[]⟩:ByteArray) l e0 (wordS l 0 most)).2.2))
        |_=>False:=rfl
noncomputable def HW:Env:=envOf (P:=Tryz.prog) zer (fun _=>false) (fun _=>false) [] [runWCon]
theorem HW_ok:EnvOk Tryz.prog HW:=envOk zer_ok
theorem methW_ec {σ:List AObj} {o:Nat} {l:List Int} {e0:Int} {most:Int} (ho:σ[o]? =some (src l e0)) (hl:okL l) {k:AV→List AObj→Prop}
    (hk:k (.lit (.string (runS (⟨#[]⟩:ByteArray) l e0 (wordS l 0 most)).1)) (σ.set o (src (runS (⟨#[]⟩:ByteArray) l e0 (wordS l 0 most)).2.1 (runS (⟨#[]⟩:ByteArray) l e0 (wordS l 0 most)).2.2))):EC Tryz.prog 33 [.ref o 0,.lit (.int .i64 most)] σ k:=by
  refine ec_fin fun hbd=>?_
  have hf:∀ {m p},srcAt (σ++m) o p=p (σ++m) l e0:=srcAt_src (get_app_of ho _)
  refine ecO HW_ok (fun _=>[0,3,4]) Tryz.func33 (h:=fun KF=>?_)
  unfold HW
  with_reducible repeat' first|(refine nx ?_;intros)|apply And.intro|intro vr|(refine ny ?_;intros;simp only [go_sem,geff,runWCon_f,runWCon_c,hf,hl,set_app_of ho])
  refine end_ret rfl ?_
  simp only [finE,go_sem]
  exact ⟨_,_,rfl,LeA.refl _,bds_src hbd o _ _,hk⟩
noncomputable def methWCon:ECon Tryz.prog where
  f:=33
  c:=fun args σ k=>match args with
   |[.ref o 0,.lit (.int .i64 most)]=>srcAt σ o fun σ' l e0=>okL l∧k (.lit (.string (runS (⟨#[]⟩:ByteArray) l e0 (wordS l 0 most)).1)) (σ'.set o (src (runS (⟨#[]⟩:ByteArray) l e0 (wordS l 0 most)).2.1 (runS (⟨#[]⟩:ByteArray) l e0 (wordS l 0 most)).2.2))
   |_=>False
  ok:=by
   intro args σ k h
   split at h
   ·obtain ⟨σ',l,e0,h1,h2,h3,h4⟩:=srcAt_inv h
    exact EC.clB h1 (methW_ec h2 h3 h4)
   ·exact h.elim
  fk:=fk33
theorem methWCon_f:methWCon.f=33:=rfl
theorem methWCon_c {σ:List AObj} {k:AV→List AObj→Prop} {o:Nat} {most:Int}:methWCon.c [.ref o 0,.lit (.int .i64 most)] σ k=srcAt σ o fun σ' l e0=>okL l∧k (.lit (.string (runS (⟨#[]⟩:ByteArray) l e0 (wordS l 0 most)).1)) (σ'.set o (src (runS (⟨#[]⟩:ByteArray) l e0 (wordS l 0 most)).2.1 (runS (⟨#[]⟩:ByteArray) l e0 (wordS l 0 most)).2.2)):=rfl
end Go.Proofs.YtohiagaclfaolaaGreatDoor.Wi

namespace Go.Proofs.YtohiagaclfaolaaGreatDoor.Wi
open Go.Proofs.YtohiagaclfaolaaGreatDoor
open Go Go.Fw
set_option maxRecDepth 20000
theorem enc_hi_len {m:Int} (h:0≤m):(enc (m+120)).length=1+wid m:=by
  unfold enc
  rw [if_pos (by omega),List.length_cons,be_length,show m+120 - 120=m by omega];omega
theorem enc_lo_len {m:Int} (h:0≤m):(enc (-121 - m)).length=1+wid m:=by
  unfold enc
  rw [if_neg (by omega),if_pos (by omega),List.length_cons,List.length_map,be_length,show -(-121 - m+121)=m by omega];omega
theorem wid_zero {xs:List Int} {k:Nat} (h:byt xs) (hl:xs.length=k) (h8:k≤8) (h0:xs.head? =some 0) (hk:k>1):wid (valOf xs)≠k:=by
  cases xs with
  |nil=>simp at h0
  |cons x t=>
   simp only [List.head?_cons,Option.some.injEq] at h0
   subst h0
   rw [valOf_cons,Int.zero_mul,Int.zero_add]
   have hv:=valOf_bd t fun y hy=>h y (by simp [hy])
   have e:t.length=k - 1:=by simp at hl;omega
   rw [e] at hv
   have:=wid_le (valOf t) (k - 1) (by omega) (by omega) hv.2
   omega
theorem decB_eq {f:FuncId} {k:Nat} {t:List Int} (h1:1≤k) (h8:k≤8) (hkt:k≤t.length) (hb:byt ((t.take k).map (chg f))):decB f k t=
    if valOf ((t.take k).map (chg f))≤9223372036854775687∧wid (valOf ((t.take k).map (chg f)))=k then some (if f=95 then -121 - valOf ((t.take k).map (chg f)) else valOf ((t.take k).map (chg f))+120,t.drop k) else none:=by
  have hlen:((t.take k).map (chg f)).length=k:=by rw [List.length_map,List.length_take];omega
  unfold decB
  rw [if_neg (by omega)]
  by_cases h0:((t.take k).map (chg f)).head? =some 0∧k>1
  ·rw [if_pos h0,if_neg]
   intro hc
   exact wid_zero hb hlen h8 h0.1 h0.2 hc.2
  ·rw [if_neg h0]
   have:=val_wid hb hlen h1 h8 h0
   by_cases hv:valOf ((t.take k).map (chg f))≤9223372036854775687
   ·rw [if_pos hv];exact (if_pos ⟨hv,this⟩).symm
   ·rw [if_neg hv];exact (if_neg (fun hc=>hv hc.1)).symm
noncomputable def E40:Env:=envOf (P:=Tryz.prog) zer (fun _=>false) (fun _=>false) [con28] []
theorem E40_ok:EnvOk Tryz.prog E40:=envOk zer_ok
theorem intg_nil {b:Bool}:PC Tryz.prog 99 [.sl b 1 (ints .u8 [])] (decV (dec [])):=by
  refine pcO E40_ok (fun _=>[0,2,3,4,5,6,7,8,9,10,11,14,24,32,39,42,50,59,61,66,76]) Tryz.func99 (h:=fun KF=>?_)
  unfold E40
  with_reducible repeat' first|(refine nx ?_;intros)|refine t_br (fun hc=>?_) fun hc=>?_|refine t_bx ?_|apply And.intro|intro vr|((first|refine ny ?_|refine t_dwh (h:=fun K KL=>?_));intros;simp only [go_sem,geff])
  all_goals try exact om
  refine end_ret rfl ?_
  simp only [fin,go_sem]
  exact LeA.refl _
theorem intg_mid {b:Bool} {c:Int} {t:List Int} (h1: ¬ c≥248) (h2: ¬ c≤7) (hc:0≤c∧c<256) (hl:t.length≤900000):PC Tryz.prog 99 [.sl b 1 (ints .u8 (c::t))] (decV (dec (c::t))):=by
  have hg:(ints .u8 (c::t)).getD 0 .top= .lit (.int .u8 c):=rfl
  have hz:(((t.length+1:Nat):Int)==0)=false:=by simp;omega
  have hw:IntKind.i64.wrap c=c:=wrap_i64 (by unfold inI64;omega)
  have e1:decide (c≥8)=true:=decide_eq_true (by omega)
  have e2:decide (c≤247)=true:=decide_eq_true (by omega)
  rw [dec,if_neg h1,if_neg h2]
  refine pcO E40_ok (fun _=>[0,2,3,4,5,6,7,8,9,10,11,14,24,32,39,42,50,59,61,66,76]) Tryz.func99 (h:=fun KF=>?_)
  unfold E40
  with_reducible repeat' first|(refine nx ?_;intros)|apply And.intro|intro vr|((first|refine ny ?_|refine t_dwh (h:=fun K KL=>?_));intros;simp only [go_sem,geff,hg,hz,hw,e1,e2])
  all_goals try exact om
  refine end_ret rfl ?_
  simp only [fin,go_sem]
  refine LeA.tup ⟨LeA.refl _,LeA.slx ?_,LeA.refl _,trivial⟩
  rw [List.take_length]
set_option maxHeartbeats 2000000 in
theorem intg_hi {b:Bool} {k:Nat} (hk1:1≤k) (hk8:k≤8) {t:List Int} (hl:t.length≤900000) (hb:byt t):PC Tryz.prog 99 [.sl b 1 (ints .u8 ((247+(k:Int))::t))] (decV (dec ((247+(k:Int))::t))):=by
  have hg:(ints .u8 ((247+(k:Int))::t)).getD 0 .top= .lit (.int .u8 (247+(k:Int))):=rfl
  have hz:(((t.length+1:Nat):Int)==0)=false:=by simp;omega
  have hw:IntKind.i64.wrap (247+(k:Int))=247+(k:Int):=wrap_i64 (by unfold inI64;omega)
  have e1:decide (247+(k:Int)≥8)=true:=decide_eq_true (by omega)
  have e2:decide (247+(k:Int)≤247)=false:=decide_eq_false (by omega)
  have e3:decide (247+(k:Int)<8)=false:=decide_eq_false (by omega)
  have e4:247+(k:Int) - 247=(k:Int):=by omega
  rw [dec,if_pos (by omega),show (247+(k:Int) - 247).toNat=k by omega]
  rcases Nat.lt_or_ge t.length k with hs|hkt
  ·have e5:decide (((t.length+1:Nat):Int)<1+(k:Int))=true:=decide_eq_true (by omega)
   have:decB 94 k t=none:=by unfold decB;rw [if_pos hs]
   rw [this]
   refine pcO E40_ok (fun _=>[0,2,3,4,5,6,7,8,9,10,11,14,24,32,39,42,50,59,61,66,76]) Tryz.func99 (h:=fun KF=>?_)
   unfold E40
   with_reducible repeat' first|(refine nx ?_;intros)|apply And.intro|intro vr|((first|refine ny ?_|refine t_dwh (h:=fun K KL=>?_));intros;simp only [go_sem,geff,hg,hz,hw,e1,e2,e3,e4,e5])
   all_goals try exact om
   refine end_ret rfl ?_
   simp only [fin,go_sem]
   exact LeA.refl _
  have e5:decide (((t.length+1:Nat):Int)<1+(k:Int))=false:=decide_eq_false (by omega)
  have hbd:byt ((t.take k).map (chg 94)):=by
    intro x hx
    obtain ⟨y,hy,rfl⟩:=List.mem_map.1 hx
    exact chg_bd y (hb y (List.mem_of_mem_take hy))
  rw [decB_eq hk1 hk8 hkt hbd]
  have hV:0≤valOf ((t.take k).map (chg 94))∧valOf ((t.take k).map (chg 94))<18446744073709551616:=by
    have:=valOf_bd _ hbd
    have hlen:((t.take k).map (chg 94)).length=k:=by rw [List.length_map,List.length_take];omega
    rw [hlen] at this
    have h8:(256:Int) ^ k≤18446744073709551616:=by
      have:k=1∨k=2∨k=3∨k=4∨k=5∨k=6∨k=7∨k=8:=by omega
      rcases this with rfl|rfl|rfl|rfl|rfl|rfl|rfl|rfl<;>simp
    omega
  generalize hVV:valOf ((t.take k).map (chg 94))=V at hV
  generalize hRR:(if V≤9223372036854775687∧wid V=k then some (if (94:FuncId)=95 then -121 - V else V+120,t.drop k) else none)=R
  refine pcO E40_ok (fun _=>[0,2,3,4,5,6,7,8,9,10,11,14,24,32,39,42,50,59,61,66,76]) Tryz.func99 (h:=fun KF=>?_)
  unfold E40
  with_reducible repeat' first|(refine nx ?_;intros)|apply And.intro|intro vr|((first|refine ny ?_|refine t_dwh (h:=fun K KL=>?_));intros;simp only [go_sem,geff,hg,hz,hw,e1,e2,e3,e4,e5])
  all_goals try exact om
  refine t_loop (ι:={j:Nat // j≤k}) (fun j=>⟨upd (upd (upd (upd (upd topF 8 (.lit (.int .i64 (1+(j.1:Int))))) 7 (.lit (.int .u64 (valOf ((t.take j.1).map (chg 94)))))) 6 (.lit (.int .i64 k))) 5 (.lit (.int .i64 (247+(k:Int))))) 0 (.sl b 1 (ints .u8 ((247+(k:Int))::t))),[]⟩) (fun j=>k - j.1) ⟨0,by omega⟩ ?_ ?_
  ·skip
   (refine Le.frame ?_;repeat' (first|exact leF_top _|(with_reducible refine leF_sl ?_ ?_)|(refine leF_upd (LeR.of_eq ?_) ?_)))<;>(try (simp only [go_sem];try rfl))
  ·rintro ⟨j,hj⟩ K0
   rcases Nat.lt_or_ge j k with hjk|hjk
   ·have g1:decide (1+(j:Int)≤(k:Int))=true:=decide_eq_true (by omega)
    have g2:(1+(j:Int)).toNat=j+1:=by omega
    have hx:=hb (t.getD j 0) (by rw [getD_elem _ _ (by omega)];exact List.getElem_mem _)
    have hel:(ints .u8 ((247+(k:Int))::t)).getD (j+1) .top= .lit (.int .u8 (t.getD j 0)):=by
      rw [ints_cons,List.getD_cons_succ,ints_getD _ _ _ (by omega)]
    have hbj:byt ((t.take j).map (chg 94)):=by
      intro x hx
      obtain ⟨y,hy,rfl⟩:=List.mem_map.1 hx
      exact chg_bd y (hb y (List.mem_of_mem_take hy))
    have hvj:=valOf_bd _ hbj
    have hlj:((t.take j).map (chg 94)).length=j:=by rw [List.length_map,List.length_take];omega
    rw [hlj] at hvj
    have hp:=pow_le7 (n:=j) (by omega)
    have hcx:=chg_bd (f:=94) (t.getD j 0) hx
    have hstep:valOf ((t.take (j+1)).map (chg 94))=valOf ((t.take j).map (chg 94))*256+chg 94 (t.getD j 0):=by
      rw [take_next t 0 (by omega),List.map_append,List.map_cons,List.map_nil,valOf_snoc]
    have hor:=or_byte hvj.1 (by omega) hcx.1 hcx.2
    have hw8:IntKind.u64.wrap (chg 94 (t.getD j 0))=chg 94 (t.getD j 0):=by rw [wrap_u64];omega
    have hch:t.getD j 0=chg 94 (t.getD j 0):=by simp [chg]
    with_reducible repeat' first|(refine nx ?_;intros)|apply And.intro|intro vr|((first|refine ny ?_|refine t_dwh (h:=fun K KL=>?_));intros;simp only [go_sem,geff,hg,g1,g2,hel,e3,Nat.reduceSub])
    all_goals try exact om
    refine ⟨⟨j+1,by omega⟩,by simp only;omega,?_⟩
    (refine Le.frame ?_;repeat' (first|exact leF_top _|(with_reducible refine leF_sl ?_ ?_)|(refine leF_upd (LeR.of_eq ?_) ?_)))<;>(try (simp only [go_sem];try rfl))
    ·rw [hch,hw8,hstep];exact hor
   ·have g1:decide (1+(j:Int)≤(k:Int))=false:=decide_eq_false (by omega)
    have hjk':j=k:=by omega
    subst hjk'
    by_cases hm:V>9223372036854775687
    ·have e6:decide (V>9223372036854775687)=true:=decide_eq_true hm
     rw [if_neg (by omega)] at hRR
     subst hRR
     with_reducible repeat' first|(refine nx ?_;intros)|apply And.intro|intro vr|((first|refine ny ?_|refine t_dwh (h:=fun K KL=>?_));intros;simp only [go_sem,geff,g1,e3,hVV,e6])
     all_goals try exact om
     refine end_ret rfl ?_
     simp only [fin,go_sem]
     exact LeA.refl _
    ·have e6:decide (V>9223372036854775687)=false:=decide_eq_false hm
     have hw2:IntKind.i64.wrap V=V:=wrap_i64 (by unfold inI64;omega)
     have hlen:=enc_hi_len hV.1
     have hin:inI64 (V+120):=by unfold inI64;omega
     by_cases hwd:wid V=j
     ·have e7:((1+wid V:Nat):Int)=1+(j:Int):=by omega
      have e8:(((1+wid V:Nat):Int) !=1+(j:Int))=false:=by rw [bne_eq_false_iff_eq];omega
      rw [if_pos ⟨by omega,hwd⟩] at hRR
      subst hRR
      with_reducible repeat' first|(refine nx ?_;intros)|apply And.intro|intro vr|((first|refine ny ?_|refine t_dwh (h:=fun K KL=>?_));intros;simp only [go_sem,geff,g1,e3,hVV,e6,hw2,con28_f,con28_c,slK_nil,hlen,e8,hin])
      all_goals try exact om
      refine end_ret rfl ?_
      simp only [fin,go_sem]
      refine LeA.tup ⟨LeA.refl _,LeA.slx ?_,LeA.refl _,trivial⟩
      rw [show (1+(j:Int)).toNat=j+1 by omega,List.take_length,List.drop_succ_cons]
     ·have e8:(((1+wid V:Nat):Int) !=1+(j:Int))=true:=by rw [bne_iff_ne];omega
      rw [if_neg (fun hc=>hwd hc.2)] at hRR
      subst hRR
      with_reducible repeat' first|(refine nx ?_;intros)|apply And.intro|intro vr|((first|refine ny ?_|refine t_dwh (h:=fun K KL=>?_));intros;simp only [go_sem,geff,g1,e3,hVV,e6,hw2,con28_f,con28_c,slK_nil,hlen,e8,hin])
      all_goals try exact om
      refine end_ret rfl ?_
      simp only [fin,go_sem]
      exact LeA.refl _
set_option maxHeartbeats 2000000 in
theorem intg_lo {b:Bool} {k:Nat} (hk1:1≤k) (hk8:k≤8) {t:List Int} (hl:t.length≤900000) (hb:byt t):PC Tryz.prog 99 [.sl b 1 (ints .u8 ((8 - (k:Int))::t))] (decV (dec ((8 - (k:Int))::t))):=by
  have hg:(ints .u8 ((8 - (k:Int))::t)).getD 0 .top= .lit (.int .u8 (8 - (k:Int))):=rfl
  have hz:(((t.length+1:Nat):Int)==0)=false:=by simp;omega
  have hw:IntKind.i64.wrap (8 - (k:Int))=8 - (k:Int):=wrap_i64 (by unfold inI64;omega)
  have e1:decide (8 - (k:Int)≥8)=false:=decide_eq_false (by omega)
  have e3:decide (8 - (k:Int)<8)=true:=decide_eq_true (by omega)
  have e4:8 - (8 - (k:Int))=(k:Int):=by omega
  rw [dec,if_neg (by omega),if_pos (by omega),show (8 - (8 - (k:Int))).toNat=k by omega]
  rcases Nat.lt_or_ge t.length k with hs|hkt
  ·have e5:decide (((t.length+1:Nat):Int)<1+(k:Int))=true:=decide_eq_true (by omega)
   have:decB 95 k t=none:=by unfold decB;rw [if_pos hs]
   rw [this]
   refine pcO E40_ok (fun _=>[0,2,3,4,5,6,7,8,9,10,11,14,24,32,39,42,50,59,61,66,76]) Tryz.func99 (h:=fun KF=>?_)
   unfold E40
   with_reducible repeat' first|(refine nx ?_;intros)|apply And.intro|intro vr|((first|refine ny ?_|refine t_dwh (h:=fun K KL=>?_));intros;simp only [go_sem,geff,hg,hz,hw,e1,e3,e4,e5])
   all_goals try exact om
   refine end_ret rfl ?_
   simp only [fin,go_sem]
   exact LeA.refl _
  have e5:decide (((t.length+1:Nat):Int)<1+(k:Int))=false:=decide_eq_false (by omega)
  have hbd:byt ((t.take k).map (chg 95)):=by
    intro x hx
    obtain ⟨y,hy,rfl⟩:=List.mem_map.1 hx
    exact chg_bd y (hb y (List.mem_of_mem_take hy))
  rw [decB_eq hk1 hk8 hkt hbd]
  have hV:0≤valOf ((t.take k).map (chg 95))∧valOf ((t.take k).map (chg 95))<18446744073709551616:=by
    have:=valOf_bd _ hbd
    have hlen:((t.take k).map (chg 95)).length=k:=by rw [List.length_map,List.length_take];omega
    rw [hlen] at this
    have h8:(256:Int) ^ k≤18446744073709551616:=by
      have:k=1∨k=2∨k=3∨k=4∨k=5∨k=6∨k=7∨k=8:=by omega
      rcases this with rfl|rfl|rfl|rfl|rfl|rfl|rfl|rfl<;>simp
    omega
  generalize hVV:valOf ((t.take k).map (chg 95))=V at hV
  generalize hRR:(if V≤9223372036854775687∧wid V=k then some (if (95:FuncId)=95 then -121 - V else V+120,t.drop k) else none)=R
  refine pcO E40_ok (fun _=>[0,2,3,4,5,6,7,8,9,10,11,14,24,32,39,42,50,59,61,66,76]) Tryz.func99 (h:=fun KF=>?_)
  unfold E40
  with_reducible repeat' first|(refine nx ?_;intros)|apply And.intro|intro vr|((first|refine ny ?_|refine t_dwh (h:=fun K KL=>?_));intros;simp only [go_sem,geff,hg,hz,hw,e1,e3,e4,e5])
  all_goals try exact om
  refine t_loop (ι:={j:Nat // j≤k}) (fun j=>⟨upd (upd (upd (upd (upd topF 8 (.lit (.int .i64 (1+(j.1:Int))))) 7 (.lit (.int .u64 (valOf ((t.take j.1).map (chg 95)))))) 6 (.lit (.int .i64 k))) 5 (.lit (.int .i64 (8 - (k:Int))))) 0 (.sl b 1 (ints .u8 ((8 - (k:Int))::t))),[]⟩) (fun j=>k - j.1) ⟨0,by omega⟩ ?_ ?_
  ·skip
   (refine Le.frame ?_;repeat' (first|exact leF_top _|(with_reducible refine leF_sl ?_ ?_)|(refine leF_upd (LeR.of_eq ?_) ?_)))<;>(try (simp only [go_sem];try rfl))
  ·rintro ⟨j,hj⟩ K0
   rcases Nat.lt_or_ge j k with hjk|hjk
   ·have g1:decide (1+(j:Int)≤(k:Int))=true:=decide_eq_true (by omega)
    have g2:(1+(j:Int)).toNat=j+1:=by omega
    have hx:=hb (t.getD j 0) (by rw [getD_elem _ _ (by omega)];exact List.getElem_mem _)
    have hel:(ints .u8 ((8 - (k:Int))::t)).getD (j+1) .top= .lit (.int .u8 (t.getD j 0)):=by
      rw [ints_cons,List.getD_cons_succ,ints_getD _ _ _ (by omega)]
    have hbj:byt ((t.take j).map (chg 95)):=by
      intro x hx
      obtain ⟨y,hy,rfl⟩:=List.mem_map.1 hx
      exact chg_bd y (hb y (List.mem_of_mem_take hy))
    have hvj:=valOf_bd _ hbj
    have hlj:((t.take j).map (chg 95)).length=j:=by rw [List.length_map,List.length_take];omega
    rw [hlj] at hvj
    have hp:=pow_le7 (n:=j) (by omega)
    have hcx:=chg_bd (f:=95) (t.getD j 0) hx
    have hstep:valOf ((t.take (j+1)).map (chg 95))=valOf ((t.take j).map (chg 95))*256+chg 95 (t.getD j 0):=by
      rw [take_next t 0 (by omega),List.map_append,List.map_cons,List.map_nil,valOf_snoc]
    have hor:=or_byte hvj.1 (by omega) hcx.1 hcx.2
    have hw8:IntKind.u64.wrap (chg 95 (t.getD j 0))=chg 95 (t.getD j 0):=by rw [wrap_u64];omega
    have hch:IntKind.u8.wrap (255 - t.getD j 0)=chg 95 (t.getD j 0):=by rfl
    with_reducible repeat' first|(refine nx ?_;intros)|apply And.intro|intro vr|((first|refine ny ?_|refine t_dwh (h:=fun K KL=>?_));intros;simp only [go_sem,geff,hg,g1,g2,hel,e3,Nat.reduceSub])
    all_goals try exact om
    refine ⟨⟨j+1,by omega⟩,by simp only;omega,?_⟩
    (refine Le.frame ?_;repeat' (first|exact leF_top _|(with_reducible refine leF_sl ?_ ?_)|(refine leF_upd (LeR.of_eq ?_) ?_)))<;>(try (simp only [go_sem];try rfl))
    ·rw [hch,hw8,hstep];exact hor
   ·have g1:decide (1+(j:Int)≤(k:Int))=false:=decide_eq_false (by omega)
    have hjk':j=k:=by omega
    subst hjk'
    by_cases hm:V>9223372036854775687
    ·have e6:decide (V>9223372036854775687)=true:=decide_eq_true hm
     rw [if_neg (by omega)] at hRR
     subst hRR
     with_reducible repeat' first|(refine nx ?_;intros)|apply And.intro|intro vr|((first|refine ny ?_|refine t_dwh (h:=fun K KL=>?_));intros;simp only [go_sem,geff,g1,e3,hVV,e6])
     all_goals try exact om
     refine end_ret rfl ?_
     simp only [fin,go_sem]
     exact LeA.refl _
    ·have e6:decide (V>9223372036854775687)=false:=decide_eq_false hm
     have hw2:IntKind.i64.wrap V=V:=wrap_i64 (by unfold inI64;omega)
     have hlen:=enc_lo_len hV.1
     have hin:inI64 (-121 - V):=by unfold inI64;omega
     by_cases hwd:wid V=j
     ·have e7:((1+wid V:Nat):Int)=1+(j:Int):=by omega
      have e8:(((1+wid V:Nat):Int) !=1+(j:Int))=false:=by rw [bne_eq_false_iff_eq];omega
      rw [if_pos ⟨by omega,hwd⟩] at hRR
      subst hRR
      with_reducible repeat' first|(refine nx ?_;intros)|apply And.intro|intro vr|((first|refine ny ?_|refine t_dwh (h:=fun K KL=>?_));intros;simp only [go_sem,geff,g1,e3,hVV,e6,hw2,con28_f,con28_c,slK_nil,hlen,e8,hin])
      all_goals try exact om
      refine end_ret rfl ?_
      simp only [fin,go_sem]
      refine LeA.tup ⟨LeA.refl _,LeA.slx ?_,LeA.refl _,trivial⟩
      rw [show (1+(j:Int)).toNat=j+1 by omega,List.take_length,List.drop_succ_cons]
     ·have e8:(((1+wid V:Nat):Int) !=1+(j:Int))=true:=by rw [bne_iff_ne];omega
      rw [if_neg (fun hc=>hwd hc.2)] at hRR
      subst hRR
      with_reducible repeat' first|(refine nx ?_;intros)|apply And.intro|intro vr|((first|refine ny ?_|refine t_dwh (h:=fun K KL=>?_));intros;simp only [go_sem,geff,g1,e3,hVV,e6,hw2,con28_f,con28_c,slK_nil,hlen,e8,hin])
      all_goals try exact om
      refine end_ret rfl ?_
      simp only [fin,go_sem]
      exact LeA.refl _
end Go.Proofs.YtohiagaclfaolaaGreatDoor.Wi

namespace Go.Proofs.YtohiagaclfaolaaGreatDoor.Wi
open Go.Proofs.YtohiagaclfaolaaGreatDoor
open Go Go.Fw
set_option maxRecDepth 20000
noncomputable def integerCon:PCon Tryz.prog where
  f:=99
  c:=fun
   |[x]=>(slK .u8 x).map fun l=>(okL l,decV (dec l))
   |_=>none
  ok:=by
   intro args p r hc hp
   split at hc
   ·rename_i x
    cases hx:slK .u8 x with
    |none=>rw [hx] at hc;cases hc
    |some l=>
     rw [hx] at hc
     cases hc
     refine PC.weak (bs:=[.sl false 1 (ints .u8 l)]) ?_ ⟨slK_le hx,trivial⟩
     cases l with
     |nil=>exact intg_nil
     |cons c t=>
      have h0:=hp.2 c (by simp)
      have hl:t.length≤900000:=by have:=hp.1;simp at this;omega
      have hb:byt t:=fun x hx=>hp.2 x (by simp [hx])
      by_cases h1:c≥248
      ·have e:c=247+((c - 247).toNat:Int):=by omega
       have:=intg_hi (b:=false) (k:=(c - 247).toNat) (by omega) (by omega) hl hb
       rwa [←e] at this
      ·by_cases h2:c≤7
       ·have e:c=8 - ((8 - c).toNat:Int):=by omega
        have:=intg_lo (b:=false) (k:=(8 - c).toNat) (by omega) (by omega) hl hb
        rwa [←e] at this
       ·exact intg_mid h1 h2 h0 hl
   ·cases hc
  fk:=fk99
theorem integerCon_f:integerCon.f=99:=rfl
theorem integerCon_c {x:AV}:integerCon.c [x]=(slK .u8 x).map fun l=>(okL l,decV (dec l)):=rfl
def rsrc (l:List Int) (e:Int):AObj:= .box 72 [.sl false 1 (ints .u8 l),.lit (.int .i64 e)]
def rsrcAt (σ:List AObj) (o:Nat) (p:List AObj→List Int→Int→Prop):Prop:=withB 72 σ o fun σ' cs=>match cs with
  |[.sl false 1 xs,.lit (.int .i64 e)]=>withK .u8 xs fun l=>p σ' l e
  |_=>False
theorem rsrcAt_inv {σ:List AObj} {o:Nat} {p:List AObj→List Int→Int→Prop} (h:rsrcAt σ o p):∃ σ' l e,Fw.clB σ o=some σ'∧σ'[o]? =some (rsrc l e)∧p σ' l e:=by
  obtain ⟨σ',cs,h1,h2,h3⟩:=withB_inv h
  split at h3
  ·obtain ⟨l,rfl,h4⟩:=withK_inv h3
   exact ⟨σ',l,_,h1,h2,h4⟩
  ·exact h3.elim
theorem clB_rsrc {σ:List AObj} {o:Nat} {l:List Int} {e:Int} (ho:σ[o]? =some (rsrc l e)):Fw.clB σ o=some σ:=by
  unfold Fw.clB
  rw [ho]
  have ho':=ho
  unfold rsrc at ho'
  simp only [rsrc,ids_src,freezeL,List.foldl_nil,closeL0,close0,List.map_cons,List.map_nil,wk]
  rw [set_same ho']
theorem rsrcAt_src {σ:List AObj} {o:Nat} {l:List Int} {e:Int} (ho:σ[o]? =some (rsrc l e)) {p:List AObj→List Int→Int→Prop}:rsrcAt σ o p=p σ l e:=by
  unfold rsrcAt withB
  rw [clB_rsrc ho]
  simp only [ho,rsrc,true_and,withK_ints]
theorem bds_rsrc {n:Nat} {σ:List AObj} (h:BdS n σ) (o:Nat) (l:List Int) (e:Int):BdS n (σ.set o (rsrc l e)):=h.set o 72 (BdL.cons (Bd.sl _ _ _ _) (BdL.cons (Bd.lit _ _) BdL.nil))
noncomputable def E50:Env:=envOf (P:=Tryz.prog) zer (fun _=>false) (fun _=>false) [integerCon] []
theorem E50_ok:EnvOk Tryz.prog E50:=envOk zer_ok
set_option maxHeartbeats 800000 in
theorem raw_ec {σ:List AObj} {o:Nat} {l:List Int} {e0 lo hi e:Int} (ho:σ[o]? =some (rsrc l e0)) (hl:okL l) {k:AV→List AObj→Prop}
    (hk:k (.lit (.int .i64 (numS l e0 lo hi e).1)) (σ.set o (rsrc (numS l e0 lo hi e).2.1 (numS l e0 lo hi e).2.2))):EC Tryz.prog 73 [.ref o 0,.lit (.int .i64 lo),.lit (.int .i64 hi),.lit (.int .i64 e)] σ k:=by
  unfold numS at hk
  have ho':=ho
  unfold rsrc at ho'
  by_cases h0:e0=0
  ·rw [if_neg (by omega)] at hk
   subst h0
   cases hd:dec l with
   |none=>
    simp only [hd] at hk
    refine ecO E50_ok (fun _=>[0,1,2,3,8,9,10,11,20,31,42]) Tryz.func73 (h:=fun KF=>?_)
    unfold E50
    with_reducible repeat' first|(refine nx ?_;intros)|refine t_br (fun hc=>?_) fun hc=>?_|refine t_bx ?_|apply And.intro|intro vr|((first|refine ny ?_|refine t_dwh (h:=fun K KL=>?_));intros;simp only [go_sem,geff,ho',get_set ho,integerCon_f,integerCon_c,slK_sl,hd,decV,hl])
    exact end_ret rfl hk
   |some nr=>
    obtain ⟨n,r⟩:=nr
    simp only [hd] at hk
    by_cases h1:n<lo
    ·have g1:decide (n<lo)=true:=decide_eq_true h1
     rw [if_pos (.inl h1)] at hk
     refine ecO E50_ok (fun _=>[0,1,2,3,8,9,10,11,20,31,42]) Tryz.func73 (h:=fun KF=>?_)
     unfold E50
     with_reducible repeat' first|(refine nx ?_;intros)|refine t_br (fun hc=>?_) fun hc=>?_|refine t_bx ?_|apply And.intro|intro vr|((first|refine ny ?_|refine t_dwh (h:=fun K KL=>?_));intros;simp only [go_sem,geff,ho',get_set ho,integerCon_f,integerCon_c,slK_sl,hd,decV,hl,g1])
     exact end_ret rfl hk
    have g1:decide (n<lo)=false:=decide_eq_false h1
    by_cases h2:n>hi
    ·have g2:decide (n>hi)=true:=decide_eq_true h2
     rw [if_pos (.inr h2)] at hk
     refine ecO E50_ok (fun _=>[0,1,2,3,8,9,10,11,20,31,42]) Tryz.func73 (h:=fun KF=>?_)
     unfold E50
     with_reducible repeat' first|(refine nx ?_;intros)|refine t_br (fun hc=>?_) fun hc=>?_|refine t_bx ?_|apply And.intro|intro vr|((first|refine ny ?_|refine t_dwh (h:=fun K KL=>?_));intros;simp only [go_sem,geff,ho',get_set ho,integerCon_f,integerCon_c,slK_sl,hd,decV,hl,g1,g2])
     exact end_ret rfl hk
    ·have g2:decide (n>hi)=false:=decide_eq_false h2
     rw [if_neg (by omega)] at hk
     refine ecO E50_ok (fun _=>[0,1,2,3,8,9,10,11,20,31,42]) Tryz.func73 (h:=fun KF=>?_)
     unfold E50
     with_reducible repeat' first|(refine nx ?_;intros)|refine t_br (fun hc=>?_) fun hc=>?_|refine t_bx ?_|apply And.intro|intro vr|((first|refine ny ?_|refine t_dwh (h:=fun K KL=>?_));intros;simp only [go_sem,geff,ho',get_set ho,integerCon_f,integerCon_c,slK_sl,hd,decV,hl,g1,g2])
     exact end_ret rfl hk
  ·rw [if_pos h0] at hk
   have hz:(e0 !=0)=true:=by simpa using h0
   refine ecO E50_ok (fun _=>[0,1,2,3,8,9,10,11,20,31,42]) Tryz.func73 (h:=fun KF=>?_)
   unfold E50
   with_reducible repeat' first|(refine nx ?_;intros)|refine t_br (fun hc=>?_) fun hc=>?_|refine t_bx ?_|apply And.intro|intro vr|((first|refine ny ?_|refine t_dwh (h:=fun K KL=>?_));intros;simp only [go_sem,geff,ho',get_set ho,hz])
   exact end_ret rfl (by rw [set_same ho] at hk;exact hk)
noncomputable def rawCon:ECon Tryz.prog where
  f:=73
  c:=fun args σ k=>match args with
   |[.ref o 0,.lit (.int .i64 lo),.lit (.int .i64 hi),.lit (.int .i64 e)]=>rsrcAt σ o fun σ' l e0=>okL l∧k (.lit (.int .i64 (numS l e0 lo hi e).1)) (σ'.set o (rsrc (numS l e0 lo hi e).2.1 (numS l e0 lo hi e).2.2))
   |_=>False
  ok:=by
   intro args σ k h
   split at h
   ·obtain ⟨σ',l,e0,h1,h2,h3,h4⟩:=rsrcAt_inv h
    exact EC.clB h1 (raw_ec h2 h3 h4)
   ·exact h.elim
  fk:=fk73
theorem rawCon_f:rawCon.f=73:=rfl
theorem rawCon_c {σ:List AObj} {k:AV→List AObj→Prop} {o:Nat} {lo hi e:Int}:rawCon.c [.ref o 0,.lit (.int .i64 lo),.lit (.int .i64 hi),.lit (.int .i64 e)] σ k=
  rsrcAt σ o fun σ' l e0=>okL l∧k (.lit (.int .i64 (numS l e0 lo hi e).1)) (σ'.set o (rsrc (numS l e0 lo hi e).2.1 (numS l e0 lo hi e).2.2)):=rfl
noncomputable def E51:Env:=envOf (P:=Tryz.prog) zer (fun _=>false) (fun _=>false) [] [rawCon]
theorem E51_ok:EnvOk Tryz.prog E51:=envOk zer_ok
theorem rint_ec {σ:List AObj} {o:Nat} {l:List Int} {e0 lo hi:Int} (ho:σ[o]? =some (rsrc l e0)) (hl:okL l) {k:AV→List AObj→Prop}
    (hk:k (.lit (.int .i64 (numS l e0 lo hi 2).1)) (σ.set o (rsrc (numS l e0 lo hi 2).2.1 (numS l e0 lo hi 2).2.2))):EC Tryz.prog 38 [.ref o 0,.lit (.int .i64 lo),.lit (.int .i64 hi)] σ k:=by
  have hf:∀ {p},rsrcAt σ o p=p σ l e0:=rsrcAt_src ho
  refine ecO E51_ok (fun _=>[0,1,2,6]) Tryz.func38 (h:=fun KF=>?_)
  unfold E51
  with_reducible repeat' first|(refine nx ?_;intros)|refine t_br (fun hc=>?_) fun hc=>?_|refine t_bx ?_|apply And.intro|intro vr|((first|refine ny ?_|refine t_dwh (h:=fun K KL=>?_));intros;simp only [go_sem,geff,rawCon_f,rawCon_c,hf,hl])
  exact end_ret rfl hk
theorem rfail_ec {σ:List AObj} {o:Nat} {l m:List Int} {e0 e:Int} (ho:σ[o]? =some (rsrc l e0)) {k:AV→List AObj→Prop} (hk:k (.tup []) (σ.set o (rsrc m e))):EC Tryz.prog 74 [.ref o 0,.sl false 1 (ints .u8 m),.lit (.int .i64 e)] σ k:=by
  have ho':=ho
  unfold rsrc at ho' hk
  refine ecO E51_ok (fun _=>[]) Tryz.func74 (h:=fun KF=>?_)
  unfold E51
  with_reducible repeat' first|(refine nx ?_;intros)|refine t_br (fun hc=>?_) fun hc=>?_|refine t_bx ?_|apply And.intro|intro vr|((first|refine ny ?_|refine t_dwh (h:=fun K KL=>?_));intros;simp only [go_sem,geff,ho',get_set ho])
  exact end_norm rfl hk
noncomputable def rfailCon:ECon Tryz.prog where
  f:=74
  c:=fun args σ k=>match args with
   |[.ref o 0,.sl false 1 xs,.lit (.int .i64 e)]=>withK .u8 xs fun m=>rsrcAt σ o fun σ' _ _=>k (.tup []) (σ'.set o (rsrc m e))
   |_=>False
  ok:=by
   intro args σ k h
   split at h
   ·obtain ⟨m,rfl,h'⟩:=withK_inv h
    obtain ⟨σ',l,e0,h1,h2,h3⟩:=rsrcAt_inv h'
    exact EC.clB h1 (rfail_ec h2 h3)
   ·exact h.elim
  fk:=fk74
theorem rfailCon_f:rfailCon.f=74:=rfl
theorem rfailCon_c {σ:List AObj} {k:AV→List AObj→Prop} {o:Nat} {xs:List AV} {e:Int}:rfailCon.c [.ref o 0,.sl false 1 xs,.lit (.int .i64 e)] σ k=withK .u8 xs fun m=>rsrcAt σ o fun σ' _ _=>k (.tup []) (σ'.set o (rsrc m e)):=rfl
noncomputable def E52:Env:=envOf (P:=Tryz.prog) zer (fun _=>false) (fun _=>false) [] [rawCon,rfailCon]
theorem E52_ok:EnvOk Tryz.prog E52:=envOk zer_ok
set_option maxHeartbeats 800000 in
theorem rtxt_ec {σ:List AObj} {o:Nat} {l:List Int} {e0 most:Int} (ho:σ[o]? =some (rsrc l e0)) (hl:okL l) {k:AV→List AObj→Prop}
    (hk:k (.lit (.string (runS (⟨#[]⟩:ByteArray) l e0 (wordS l 0 most)).1)) (σ.set o (rsrc (runS (⟨#[]⟩:ByteArray) l e0 (wordS l 0 most)).2.1 (runS (⟨#[]⟩:ByteArray) l e0 (wordS l 0 most)).2.2))):EC Tryz.prog 39 [.ref o 0,.lit (.int .i64 most)] σ k:=by
  have ho':=ho
  unfold rsrc at ho'
  have hf:∀ {p},rsrcAt σ o p=p σ l e0:=rsrcAt_src ho
  unfold runS at hk
  by_cases h0:e0=0
  ·subst h0
   rw [if_neg (by simp)] at hk
   obtain ⟨h1,h2,h3⟩:=numS_ok (lo:=0) (hi:=most) (e:=3) hl (by decide)
   unfold wordS at hk
   generalize hN:numS l 0 0 most 3=a at hk h1 h2 h3
   obtain ⟨n,r,e⟩:=a
   simp only at hk h1 h2 h3
   have hlen:=okL_len h1
   by_cases he:e=0
   ·subst he
    obtain ⟨_,hn0,_,hn⟩:=h2 rfl
    have hf2:∀ {p},rsrcAt (σ.set o (.box 72 [.sl false 1 (ints .u8 r),.lit (.int .i64 0)])) o p=p (σ.set o (rsrc r 0)) r 0:=rsrcAt_src (get_set ho _)
    simp only [ne_eq,not_true_eq_false,if_false] at hk
    by_cases hc:(r.length:Int)<n
    ·simp only [if_pos hc] at hk
     rw [if_pos (by decide)] at hk
     have hc':decide (n>(r.length:Int))=true:=decide_eq_true hc
     refine ecO E52_ok (fun _=>[0,1,4,5,6,7,16,28,35]) Tryz.func39 (h:=fun KF=>?_)
     unfold E52
     with_reducible repeat' first|(refine nx ?_;intros)|apply And.intro|intro vr|(refine ny ?_;intros;simp only [go_sem,geff,ho',rawCon_f,rawCon_c,hf,hl,hN,get_set ho,rsrc,hc',rfailCon_f,rfailCon_c,hf2,withK_ints])
     exact end_ret rfl hk
    ·simp only [if_neg hc] at hk
     rw [if_neg (by simp)] at hk
     have hc':decide (n>(r.length:Int))=false:=decide_eq_false hc
     refine ecO E52_ok (fun _=>[0,1,4,5,6,7,16,28,35]) Tryz.func39 (h:=fun KF=>?_)
     unfold E52
     with_reducible repeat' first|(refine nx ?_;intros)|apply And.intro|intro vr|(refine ny ?_;intros;simp only [go_sem,geff,ho',rawCon_f,rawCon_c,hf,hl,hN,get_set ho,rsrc,hc',rfailCon_f,List.take_length])
     all_goals try exact om
     exact end_ret rfl hk
   ·simp only [ne_eq,he,not_false_eq_true,if_true] at hk
    obtain ⟨rfl,rfl⟩:=h3 he
    have hz:(e !=0)=true:=by simpa using he
    refine ecO E52_ok (fun _=>[0,1,4,5,6,7,16,28,35]) Tryz.func39 (h:=fun KF=>?_)
    unfold E52
    with_reducible repeat' first|(refine nx ?_;intros)|apply And.intro|intro vr|(refine ny ?_;intros;simp only [go_sem,geff,ho',rawCon_f,rawCon_c,hf,hl,hN,get_set ho,rsrc,hz])
    exact end_ret rfl hk
  ·rw [if_pos h0,set_same ho] at hk
   have hz:(e0 !=0)=true:=by simpa using h0
   refine ecO E52_ok (fun _=>[0,1,4,5,6,7,16,28,35]) Tryz.func39 (h:=fun KF=>?_)
   unfold E52
   with_reducible repeat' first|(refine nx ?_;intros)|apply And.intro|intro vr|(refine ny ?_;intros;simp only [go_sem,geff,ho',get_set ho,hz])
   exact end_ret rfl hk
noncomputable def rtxtCon:ECon Tryz.prog where
  f:=39
  c:=fun args σ k=>match args with
   |[.ref o 0,.lit (.int .i64 most)]=>rsrcAt σ o fun σ' l e0=>okL l∧k (.lit (.string (runS (⟨#[]⟩:ByteArray) l e0 (wordS l 0 most)).1)) (σ'.set o (rsrc (runS (⟨#[]⟩:ByteArray) l e0 (wordS l 0 most)).2.1 (runS (⟨#[]⟩:ByteArray) l e0 (wordS l 0 most)).2.2))
   |_=>False
  ok:=by
   intro args σ k h
   split at h
   ·obtain ⟨σ',l,e0,h1,h2,h3,h4⟩:=rsrcAt_inv h
    exact EC.clB h1 (rtxt_ec h2 h3 h4)
   ·exact h.elim
  fk:=fk39
theorem rtxtCon_f:rtxtCon.f=39:=rfl
theorem rtxtCon_c {σ:List AObj} {k:AV→List AObj→Prop} {o:Nat} {most:Int}:rtxtCon.c [.ref o 0,.lit (.int .i64 most)] σ k=
  rsrcAt σ o fun σ' l e0=>okL l∧k (.lit (.string (runS (⟨#[]⟩:ByteArray) l e0 (wordS l 0 most)).1)) (σ'.set o (rsrc (runS (⟨#[]⟩:ByteArray) l e0 (wordS l 0 most)).2.1 (runS (⟨#[]⟩:ByteArray) l e0 (wordS l 0 most)).2.2)):=rfl
noncomputable def REI:Env:=envOf (P:=Tryz.prog) zer (fun _=>false) (fun _=>false) [] [rawCon,rtxtCon]
theorem REI_ok:EnvOk Tryz.prog REI:=envOk zer_ok
set_option maxHeartbeats 1000000 in
theorem rmanyI_ec {σ:List AObj} {o:Nat} {l:List Int} {e0 most lo hi:Int} (ho:σ[o]? =some (rsrc l e0)) (hl:okL l) {k:AV→List AObj→Prop}
    (hk:k (.sl false 1 (ints .i64 (runS ([]:List Int) l e0 (manyS (fun l e=>numS l e lo hi 2) l 0 most)).1)) (σ.set o (rsrc (runS ([]:List Int) l e0 (manyS (fun l e=>numS l e lo hi 2) l 0 most)).2.1 (runS ([]:List Int) l e0 (manyS (fun l e=>numS l e lo hi 2) l 0 most)).2.2))):
    EC Tryz.prog 40 [.ref o 0,.lit (.int .i64 most),.lit (.int .i64 lo),.lit (.int .i64 hi)] σ k:=by
  refine ec_fin fun hbd=>?_
  have ho':=ho
  unfold rsrc at ho'
  have hf:∀ {p},rsrcAt σ o p=p σ l e0:=rsrcAt_src ho
  by_cases h0:e0=0
  rotate_left
  ·unfold runS at hk
   rw [if_pos h0,set_same ho] at hk
   have hz:(e0 !=0)=true:=by simpa using h0
   refine ecO REI_ok (fun _=>[0,1,2,3,8,9,10,11,12,21,38,52]) Tryz.func40 (h:=fun KF=>?_)
   unfold REI
   with_reducible repeat' first|(refine nx ?_;intros)|apply And.intro|intro vr|(refine ny ?_;intros;simp only [go_sem,geff,ho',get_set ho,hz])
   refine end_ret rfl ?_
   simp only [finE,go_sem]
   exact ⟨_,_,rfl,LeA.nil false 1,by simpa using hbd,by simpa [strs,ints] using hk⟩
  subst h0
  obtain ⟨h1,h2,h3⟩:=numS_ok (lo:=0) (hi:=most) (e:=3) hl (by decide)
  have hR:Rd (fun l e=>numS l e lo hi 2):=(rd_num (by decide))
  unfold manyS at hk
  generalize hN:numS l 0 0 most 3=a at hk h1 h2 h3
  obtain ⟨n,r0,e0⟩:=a
  simp only at hk h1 h2 h3
  have hlen:=okL_len h1
  have hsr:∀ {r e m p},rsrcAt (σ.set o (.box 72 [.sl false 1 (ints .u8 r),.lit (.int .i64 e)])++m) o p=p (σ.set o (rsrc r e)++m) r e:=rsrcAt_src (lk_o ho _ _)
  have hn9:inI64 n:=by
    by_cases he:e0=0
    ·exact (h2 he).2.2.2
    ·rw [(h3 he).1];exact ⟨by decide,by decide⟩
  unfold inI64 at hn9
  refine ecO REI_ok (fun _=>[0,1,2,3,8,9,10,11,12,21,38,52]) Tryz.func40 (h:=fun KF=>?_)
  unfold REI
  with_reducible repeat' first|(refine nx ?_;intros)|apply And.intro|intro vr|(refine ny ?_;intros;simp only [go_sem,geff,ho',rawCon_f,rawCon_c,hf,hl,hN,rsrc,get_set ho])
  refine t_loop (ι:=Lp (fun l e=>numS l e lo hi 2) n.toNat (iterS (fun l e=>numS l e lo hi 2) n.toNat ([],r0,e0))) (fun p=>⟨upd (upd (upd (upd (upd (upd (upd topF 12 (.lit (.int .i64 p.i))) 11 (.arr σ.length p.ver)) 10 (.lit (.int .i64 n))) 9 (.sl false 1 (ints .u8 l))) 3 (.lit (.int .i64 hi))) 2 (.lit (.int .i64 lo))) 0 (.ref o 0),
    σ.set o (rsrc p.r p.e)++[.arr 3 1 (ints .i64 p.out) p.ver false]⟩) (fun p=>n.toNat - p.i) ⟨0,[],r0,e0,0,rfl,h1,rfl,by simp only [List.length_nil];omega,fun _=>by simp only [List.length_nil];omega⟩ ?_ ?_
  ·refine (le_nil 11 3 1 rfl).trans ?_
   (refine Le.frame ?_;repeat' (first|exact leF_top _|(with_reducible refine leF_sl ?_ ?_)|(refine leF_upd (LeR.of_eq ?_) ?_)))<;>(try (simp only [go_sem];try rfl))
  ·rintro ⟨i,out,r,e,ver,hF,hr,hil,hb,hb0⟩ K0
   have hend:decide ((i:Int)<n)=false∨e≠0→iterS (fun l e=>numS l e lo hi 2) n.toNat ([],r0,e0)=(out,r,e):=by
     rintro (h|h)
     ·rw [←hF,show n.toNat - i=0 by rw [decide_eq_false_iff_not] at h;omega];rfl
     ·rw [←hF];exact iterS_done h
   rcases Int.lt_or_le (i:Int) n with hc|hc
   ·have g1:decide ((i:Int)<n)=true:=decide_eq_true hc
    by_cases he:e=0
    ·subst he
     have hd:=hR r hr
     rw [show n.toNat - i=(n.toNat - (i+1))+1 by omega,iterS_step] at hF
     simp only at hF hd
     generalize hO:numS r 0 lo hi 2=z at hF hd
     obtain ⟨x,r',e'⟩:=z
     simp only at hF hd
     have hb0:=hb0 rfl
     with_reducible repeat' first|(refine nx ?_;intros)|apply And.intro|intro vr|(refine ny ?_;intros;simp only [go_sem,geff,g1,lk_o ho,lk_e,st_e,st_o ho,hsr,rsrc,rawCon_f,rawCon_c,rtxtCon_f,rtxtCon_c,hr,hO])
     all_goals try exact om
     refine ⟨⟨i+1,out++[x],r',e',ver+1,hF,hd.1,by simp only [List.length_append,List.length_singleton];omega,by simp only [List.length_append,List.length_singleton];omega,fun h=>by have:=hd.2.2 h;simp only [List.length_append,List.length_singleton];omega⟩,by simp only;omega,?_⟩
     (refine Le.frame ?_;repeat' (first|exact leF_top _|(with_reducible refine leF_sl ?_ ?_)|(refine leF_upd (LeR.of_eq ?_) ?_)))<;>(try (simp only [go_sem];try rfl))
    ·have hz:(e==0)=false:=by simpa using he
     have hz':(e !=0)=true:=by simpa using he
     rw [hend (.inr he)] at hk
     unfold runS at hk
     rw [if_neg (by simp),if_pos (by exact he)] at hk
     with_reducible repeat' first|(refine nx ?_;intros)|apply And.intro|intro vr|(refine ny ?_;intros;simp only [go_sem,geff,g1,lk_o ho,hz,hz',rsrc,st_o ho])
     refine end_ret rfl ?_
     simp only [finE,go_sem,lk_e,st_e,tk_e]
     exact ⟨_,_,rfl,LeA.nil false 1,bds_rsrc hbd o _ _,hk⟩
   ·have g1:decide ((i:Int)<n)=false:=decide_eq_false (by omega)
    rw [hend (.inl g1)] at hk
    unfold runS at hk
    rw [if_neg (by simp)] at hk
    by_cases he:e=0
    ·subst he
     rw [if_neg (by simp)] at hk
     with_reducible repeat' first|(refine nx ?_;intros)|apply And.intro|intro vr|(refine ny ?_;intros;simp only [go_sem,geff,g1,lk_o ho,rsrc])
     refine end_ret rfl ?_
     simp only [finE,go_sem,lk_e,st_e,tk_e]
     exact ⟨_,_,rfl,LeA.refl _,bds_rsrc hbd o _ _,hk⟩
    ·have hz':(e !=0)=true:=by simpa using he
     rw [if_pos (by exact he)] at hk
     with_reducible repeat' first|(refine nx ?_;intros)|apply And.intro|intro vr|(refine ny ?_;intros;simp only [go_sem,geff,g1,lk_o ho,hz',rsrc,st_o ho])
     refine end_ret rfl ?_
     simp only [finE,go_sem,lk_e,st_e,tk_e]
     exact ⟨_,_,rfl,LeA.nil false 1,bds_rsrc hbd o _ _,hk⟩
end Go.Proofs.YtohiagaclfaolaaGreatDoor.Wi

namespace Go.Proofs.YtohiagaclfaolaaGreatDoor
open Go Go.Fw Bm
set_option maxRecDepth 20000
theorem ft50:fieldTs Tryz.prog 50=[3,9,3,3,3,3]:=by kernel_rfl
theorem ft58:fieldTs Tryz.prog 58=[3,3]:=by kernel_rfl
theorem ft26:fieldTs Tryz.prog 26=[3,3,22,23,23,24]:=by kernel_rfl
theorem shv_op {x:AV} (h:ShV Tryz.prog 50 x):∃ o:Ins,x=opV o∧o.prim.size≤maxLen:=by
  obtain ⟨c,rfl,hc⟩:=shv_agg ag50 h
  obtain ⟨xss,h1,h2,h3⟩:=sh_fields (by simp) ft50 hc
  match xss,h2 with
  |[p,q,r,s,t,u],_=>
   obtain ⟨k,rfl,_⟩:=sh_int u3 (h3 0 3 p rfl rfl)
   obtain ⟨m,rfl,hm⟩:=sh_str u9 (h3 1 9 q rfl rfl)
   obtain ⟨a,rfl,_⟩:=sh_int u3 (h3 2 3 r rfl rfl)
   obtain ⟨b,rfl,_⟩:=sh_int u3 (h3 3 3 s rfl rfl)
   obtain ⟨c,rfl,_⟩:=sh_int u3 (h3 4 3 t rfl rfl)
   obtain ⟨d,rfl,_⟩:=sh_int u3 (h3 5 3 u rfl rfl)
   exact ⟨⟨k,m,a,b,c,d⟩,by rw [h1];rfl,hm⟩
theorem list_ops:∀ {ys:List AV},(∀ y∈ys,∃ o:Ins,y=opV o∧o.prim.size≤maxLen)→∃ l:List Ins,ys=opsV l∧∀ o∈l,o.prim.size≤maxLen
  |[],_=>⟨[],rfl,fun r h=>by cases h⟩
  |y::ys,h=>by
   obtain ⟨r,rfl,hr⟩:=h y (by simp)
   obtain ⟨l,rfl,hl⟩:=list_ops (ys:=ys) fun z hz=>h z (by simp [hz])
   exact ⟨r::l,rfl,fun q hq=>(List.mem_cons.1 hq).elim (fun e=>by rw [e];exact hr) (hl q)⟩
theorem shv_pl {x:AV} (h:ShV Tryz.prog 58 x):∃ o:Int×Int,x=plV o:=by
  obtain ⟨c,rfl,hc⟩:=shv_agg ag58 h
  obtain ⟨p,q,rfl,h1,h2⟩:=sh_two ft58 hc
  obtain ⟨a,rfl,_⟩:=sh_int u3 h1
  obtain ⟨b,rfl,_⟩:=sh_int u3 h2
  exact ⟨(a,b),rfl⟩
theorem list_pls:∀ {ys:List AV},(∀ y∈ys,∃ o:Int×Int,y=plV o)→∃ l:List (Int×Int),ys=plsV l
  |[],_=>⟨[],rfl⟩
  |y::ys,h=>by
   obtain ⟨r,rfl⟩:=h y (by simp)
   obtain ⟨l,rfl⟩:=list_pls (ys:=ys) fun z hz=>h z (by simp [hz])
   exact ⟨r::l,rfl⟩
structure ArgB (B:Prg):Prop where
  regs:inI64 B.regs
  arena:inI64 B.arena
  ops:B.ops.length≤maxLen
  prims:∀ o∈B.ops,o.prim.size≤maxLen
  ins:B.ins.length≤maxLen
  outs:B.outs.length≤maxLen
  types:B.types.length≤maxLen
  arr:∀ a∈B.types,okW a
theorem shv_bc {x:AV} (h:ShV Tryz.prog 26 x):∃ B:Prg,x=bcV B∧ArgB B:=by
  obtain ⟨c,rfl,hc⟩:=shv_agg ag26 h
  obtain ⟨xss,h1,h2,h3⟩:=sh_fields (by simp) ft26 hc
  have one:∀ {t:TypeId} {x:List AV},aggT Tryz.prog t=some false→Sh Tryz.prog t x→(∃ y,x=[y])→∃ y,x=[y]∧ShV Tryz.prog t y:=by
    rintro t x ha hs ⟨y,rfl⟩
    exact ⟨y,rfl,⟨[y],hs,by rw [mkV_one ha]⟩⟩
  match xss,h2 with
  |[p,q,r,s,t,u],_=>
   obtain ⟨k,rfl,wk⟩:=sh_int u3 (h3 0 3 p rfl rfl)
   obtain ⟨m,rfl,wm⟩:=sh_int u3 (h3 1 3 q rfl rfl)
   obtain ⟨os,rfl,ol,oy⟩:=sh_slice u22 (h3 2 22 r rfl rfl)
   obtain ⟨is,rfl,il,iy⟩:=sh_slice u23 (h3 3 23 s rfl rfl)
   obtain ⟨us,rfl,ul,uy⟩:=sh_slice u23 (h3 4 23 t rfl rfl)
   obtain ⟨ts,rfl,tl,ty⟩:=sh_slice u24 (h3 5 24 u rfl rfl)
   obtain ⟨o,rfl,ho⟩:=list_ops fun y hy=>shv_op (oy y hy)
   obtain ⟨i,rfl⟩:=list_pls fun y hy=>shv_pl (iy y hy)
   obtain ⟨v,rfl⟩:=list_pls fun y hy=>shv_pl (uy y hy)
   obtain ⟨w,rfl,hw⟩:=list_arrs fun y hy=>shv_arr (ty y hy)
   refine ⟨⟨k,m,o,i,v,w⟩,by rw [h1,sz50,sz58,sz53];rfl,wf_i64 wk,wf_i64 wm,?_,ho,?_,?_,?_,hw⟩
   ·simpa [opsV] using ol
   ·simpa [plsV] using il
   ·simpa [plsV] using ul
   ·simpa [arrs] using tl
def fewO (n:Int) (l:List Ins):Bool:=(l.all fun x=> !decide ((x.prim.size:Int)>20))&&decide ((l.length:Int)≤n)
def fewT (t:Arr):Bool:=decide ((t.d.length:Int)>8)||decide ((t.e.size:Int)>20)||decide ((t.x.length:Int)>20)
def smB (n:Int) (B:Prg):Bool:=(B.types.all fun t=> !fewT t)&&(fewO n B.ops&&decide ((B.ins.length:Int)≤6)&&decide ((B.outs.length:Int)≤6)&&decide ((B.types.length:Int)≤14))
noncomputable def H0:Env:=envJ (P:=Tryz.prog) jkV zer (fun _=>false) (fun _=>false) [] []
theorem H0_ok:EnvOk Tryz.prog H0:=envJOk zer_ok
set_option maxHeartbeats 4000000 in
theorem fewo_pc {l:List Ins} {n:Int} (hl:l.length≤maxLen) (hp:∀ o∈l,o.prim.size≤maxLen):PC Tryz.prog 16 [.sl false 6 (opsV l),.lit (.int .i64 n)] (.lit (.bool (fewO n l))):=by
  unfold maxLen at hl hp
  generalize hR:fewO n l=R
  unfold fewO at hR
  refine pcR H0_ok (kp16) Tryz.func16 [.tmp 4] (h:=fun KF=>?_)
  unfold H0
  with_reducible repeat' first|(refine nx ?_;intros)|apply And.intro|intro vr|(refine ny ?_;intros;simp only [go_sem,kp16,geff])
  all_goals try exact nd
  refine t_loopF (ι:={i:Nat // i≤l.length∧(((l.drop i).all fun x=> !decide ((x.prim.size:Int)>20))&&decide ((l.length:Int)≤n))=R}) (fun i=>[(5,.lit (.int .i64 i.1))]) (fun i=>[]) (fun i=>l.length - i.1) ⟨0,by omega,hR⟩ ?_ ?_
  ·exact lf
  rintro ⟨i,hi,hF⟩ K0
  rcases Nat.lt_or_ge i l.length with hc|hc
  ·have g3:decide ((i:Int)<(l.length:Int))=true:=decide_eq_true (by omega)
   rw [drop_getI hc,List.all_cons] at hF
   have hps:=hp _ (show l.getD i nilI∈l by rw [List.getD_eq_getElem?_getD,List.getElem?_eq_getElem hc];exact List.getElem_mem _)
   generalize hx:l.getD i nilI=x at hF hps
   obtain ⟨q,p,a,b,c,d⟩:=x
   simp only at hF hps
   cases hb:decide ((p.size:Int)>20) with
   |true=>
    rw [hb] at hF
    with_reducible repeat' first|(refine nx ?_;intros)|apply And.intro|intro vr|(refine ny ?_;intros;simp only [go_sem,kp16,geff,g3,hx,hb,Int.toNat_natCast,yes])
    all_goals try exact nd
    all_goals (refine nl ?_;simp only [go_sem])
    exact LeA.of_eq (by rw [←hF];rfl)
   |false=>
    rw [hb,Bool.not_false,Bool.true_and] at hF
    with_reducible repeat' first|(refine nx ?_;intros)|apply And.intro|intro vr|(refine ny ?_;intros;simp only [go_sem,kp16,geff,g3,hx,hb,Int.toNat_natCast,yes])
    all_goals try exact nd
    exact ⟨⟨i+1,by omega,hF⟩,wf,lf⟩
  ·have g3:decide ((i:Int)<(l.length:Int))=false:=decide_eq_false (by omega)
   rw [List.drop_eq_nil_of_le hc] at hF
   with_reducible repeat' first|(refine nx ?_;intros)|apply And.intro|intro vr|(refine ny ?_;intros;simp only [go_sem,kp16,geff,g3])
   all_goals try exact nd
   all_goals (refine nl ?_;simp only [go_sem])
   exact LeA.of_eq (by rw [←hF];rfl)
theorem fewo_pc2 {l:List Ins} {n:Int} (h:l.length≤maxLen∧∀ o∈l,o.prim.size≤maxLen):PC Tryz.prog 16 [.sl false 6 (opsV l),.lit (.int .i64 n)] (.lit (.bool (fewO n l))):=fewo_pc h.1 h.2
noncomputable def con16:PCon Tryz.prog where
  f:=16
  c:=fun
   |[xl,.lit (.int .i64 n)]=>match opsOf xl with|some l=>some ((l.length≤maxLen∧∀ o∈l,o.prim.size≤maxLen),.lit (.bool (fewO n l)))|_=>none
   |_=>none
  ok:=by
   intro args p r hc hp
   split at hc
   ·split at hc
    ·rename_i hl
     cases hc
     exact PC.weak (fewo_pc2 hp) ⟨opsOf_le hl,LeA.refl _,trivial⟩
    ·cases hc
   ·cases hc
  fk:=fk16
theorem con16_f:con16.f=16:=rfl
theorem con16_c {xl:AV} {n:Int}:con16.c [xl,.lit (.int .i64 n)]=match opsOf xl with|some l=>some ((l.length≤maxLen∧∀ o∈l,o.prim.size≤maxLen),.lit (.bool (fewO n l)))|_=>none:=rfl
attribute [go_sem] con16_f con16_c
noncomputable def H1:Env:=envJ (P:=Tryz.prog) jkV zer (fun _=>false) (fun _=>false) [con16] []
theorem H1_ok:EnvOk Tryz.prog H1:=envJOk zer_ok
set_option maxHeartbeats 4000000 in
theorem sm_pc {B:Prg} {n:Int} (h:ArgB B):PC Tryz.prog 7 [bcV B,.lit (.int .i64 n)] (.lit (.bool (smB n B))):=by
  obtain ⟨_,_,ho,hp,hi,hu,ht,ha⟩:=h
  have ht':=ht
  have hi':=hi
  have hu':=hu
  unfold maxLen at ht' hi' hu'
  generalize hR:smB n B=R
  unfold smB at hR
  simp only [bcV]
  refine pcR H1_ok (kp7) Tryz.func7 [.tmp 4] (h:=fun KF=>?_)
  unfold H1
  with_reducible repeat' first|(refine nx ?_;intros)|apply And.intro|intro vr|(refine ny ?_;intros;simp only [go_sem,kp7,geff])
  all_goals try exact nd
  refine t_loopF (ι:={i:Nat // i≤B.types.length∧(((B.types.drop i).all fun t=> !fewT t)&&(fewO n B.ops&&decide ((B.ins.length:Int)≤6)&&decide ((B.outs.length:Int)≤6)&&decide ((B.types.length:Int)≤14)))=R}) (fun i=>[(5,.lit (.int .i64 i.1))]) (fun i=>[.box 26 [.lit (.int .i64 B.regs),.lit (.int .i64 B.arena),.sl false 6 (opsV B.ops),.sl false 2 (plsV B.ins),.sl false 2 (plsV B.outs),.sl false 3 (arrs B.types)]]) (fun i=>B.types.length - i.1) ⟨0,by omega,hR⟩ ?_ ?_
  ·exact lf
  rintro ⟨i,hi2,hF⟩ K0
  rcases Nat.lt_or_ge i B.types.length with hc|hc
  ·have g3:decide ((i:Int)<(B.types.length:Int))=true:=decide_eq_true (by omega)
   rw [drop_getD nilA hc,List.all_cons] at hF
   generalize hx:B.types.getD i nilA=x at hF
   obtain ⟨e,d,x⟩:=x
   have hpy:arrV ⟨e,d,x⟩= .agg [.lit (.string e),.sl false 1 (ints .i64 d),.sl false 1 (ints .i64 x)]:=rfl
   have hfe:(decide ((d.length:Int)>8)||decide ((e.size:Int)>20)||decide ((x.length:Int)>20))=fewT ⟨e,d,x⟩:=rfl
   cases hb:fewT ⟨e,d,x⟩ with
   |true=>
    rw [hb] at hF hfe
    with_reducible repeat' first|(refine nx ?_;intros)|apply And.intro|intro vr|(refine ny ?_;intros;simp only [go_sem,kp7,geff,g3,hx,hpy,ints_length,hfe,Int.toNat_natCast,yes])
    all_goals try exact nd
    all_goals (refine nl ?_;simp only [go_sem])
    exact LeA.of_eq (by rw [←hF];rfl)
   |false=>
    rw [hb,Bool.not_false,Bool.true_and] at hF
    rw [hb] at hfe
    with_reducible repeat' first|(refine nx ?_;intros)|apply And.intro|intro vr|(refine ny ?_;intros;simp only [go_sem,kp7,geff,g3,hx,hpy,ints_length,hfe,Int.toNat_natCast,yes])
    all_goals try exact nd
    exact ⟨⟨i+1,by omega,hF⟩,wf,lf⟩
  ·have g3:decide ((i:Int)<(B.types.length:Int))=false:=decide_eq_false (by omega)
   rw [List.drop_eq_nil_of_le hc] at hF
   with_reducible repeat' first|(refine nx ?_;intros)|apply And.intro|intro vr|(refine ny ?_;intros;simp only [go_sem,kp7,geff,g3])
   all_goals try exact hp _ (by assumption)
   all_goals try exact nd
   all_goals (refine nl ?_;simp only [go_sem])
   exact LeA.of_eq (by rw [←hF];rfl)
noncomputable def con7:PCon Tryz.prog where
  f:=7
  c:=fun
   |[xB,.lit (.int .i64 n)]=>match bcOf xB with|some B=>some (ArgB B,.lit (.bool (smB n B)))|_=>none
   |_=>none
  ok:=by
   intro args p r hc hp
   split at hc
   ·split at hc
    ·rename_i hB
     cases hc
     exact PC.weak (sm_pc hp) ⟨bcOf_le hB,LeA.refl _,trivial⟩
    ·cases hc
   ·cases hc
  fk:=fk7
theorem con7_f:con7.f=7:=rfl
theorem con7_c {xB:AV} {n:Int}:con7.c [xB,.lit (.int .i64 n)]=match bcOf xB with|some B=>some (ArgB B,.lit (.bool (smB n B)))|_=>none:=rfl
attribute [go_sem] con7_f con7_c
theorem sm_inv {B:Prg} (h:smB 30 B=true):OkB B∧B.ins.length≤6∧B.outs.length≤6∧B.ops.length≤30∧(∀ o∈B.ops,(o.prim.size:Int)≤20)∧∀ t∈B.types,t.d.length≤8∧t.e.size≤20∧t.x.length≤20:=by
  simp only [smB,fewO,Bool.and_eq_true,decide_eq_true_eq] at h
  obtain ⟨h1,⟨⟨⟨h2,h3⟩,h4⟩,h5⟩,h6⟩:=h
  rw [List.all_eq_true] at h1 h2
  have hT:∀ t∈B.types,t.d.length≤8∧t.e.size≤20∧t.x.length≤20:=fun t ht=>by
    have:=h1 t ht
    simp only [fewT,Bool.not_eq_true',Bool.or_eq_false_iff,decide_eq_false_iff_not] at this
    omega
  refine ⟨⟨by omega,by omega,by omega,by omega,fun t ht=>?_⟩,by omega,by omega,by omega,fun o ho=>?_,hT⟩
  ·have:=hT t ht
   exact ⟨by omega,by omega⟩
  ·have:=h2 o ho
   simp only [Bool.not_eq_true',decide_eq_false_iff_not] at this
   omega
end Go.Proofs.YtohiagaclfaolaaGreatDoor

namespace Go.Proofs.YtohiagaclfaolaaGreatDoor.Tx
open Go.Proofs.YtohiagaclfaolaaGreatDoor
open Go Go.Fw
set_option maxRecDepth 20000
def bs (l:List UInt8):ByteArray:=⟨l.toArray⟩
theorem bs_data (s:ByteArray):bs s.data.toList=s:=by cases s;simp [bs]
theorem bs_ex (s:ByteArray):∃ l,s=bs l:=⟨_,(bs_data s).symm⟩
theorem data_bs (l:List UInt8):(bs l).data.toList=l:=by simp [bs]
theorem bs_size (l:List UInt8):(bs l).size=l.length:=by simp [bs,ByteArray.size]
theorem eqS_bs (a b:List UInt8):eqS (bs a) (bs b)=(a==b):=by unfold eqS;rw [data_bs,data_bs]
theorem bs_app (a b:List UInt8):bs a++bs b=bs (a++b):=by
  apply ByteArray.ext
  simp [bs,ByteArray.data_append]
theorem bs_ext (l:List UInt8) (a b:Nat):(bs l).extract a b=bs ((l.take b).drop a):=by
  apply ByteArray.ext
  simp [bs,ByteArray.data_extract,List.drop_take]
theorem bs_empty:ByteArray.empty=bs []:=rfl
def ul (s:ByteArray):List UInt8:=s.data.toList
theorem ul_bs (l:List UInt8):ul (bs l)=l:=data_bs l
def bt (l:List UInt8) (i:Nat):Int:=((l.getD i 0).toNat:Int)
theorem strAt_bt (l:List UInt8) (i:Nat):strAt (bs l) i=bt l i:=by unfold strAt;rw [data_bs];rfl
theorem take_all {α:Type} (l:List α):l.take l.length=l:=List.take_length
theorem drop_take0 {α:Type} (l:List α) (n:Nat):(l.take n).drop 0=l.take n:=rfl
theorem l32:(⟨#[32]⟩:ByteArray)=bs [32]:=rfl
theorem l10:(⟨#[10]⟩:ByteArray)=bs [10]:=rfl
theorem l0:(⟨#[]⟩:ByteArray)=bs []:=rfl
theorem l114:(⟨#[114]⟩:ByteArray)=bs [114]:=rfl
attribute [go_sem] eqS_bs bs_size bs_app bs_ext strAt_bt ul_bs take_all drop_take0 l32 l10 l0 l114 bs_empty
def txs (l:List (List UInt8)):List AV:=l.map fun w=> .lit (.string (bs w))
theorem txs_length (l:List (List UInt8)):(txs l).length=l.length:=by simp [txs]
theorem txs_getJ (l:List (List UInt8)) (i:Nat):(txs l).getD i (.lit (.string (bs [])))= .lit (.string (bs (l.getD i []))):=by
  simp only [txs,List.getD_eq_getElem?_getD,List.getElem?_map];cases l[i]? <;>rfl
theorem txs_set (l:List (List UInt8)) (i:Nat) (w:List UInt8):(txs l).set i (.lit (.string (bs w)))=txs (l.set i w):=by simp [txs,List.map_set]
theorem txs_rep (n:Nat):List.replicate n (.lit (.string (bs [])))=txs (List.replicate n []):=by simp [txs]
def jkT:TypeId→AV:=lookZ [(3,.lit (.int .i64 0)),(5,.lit (.int .u8 0)),(9,.lit (.string (bs [])))]
theorem jkT3:jkT 3= .lit (.int .i64 0):=rfl
theorem jkT5:jkT 5= .lit (.int .u8 0):=rfl
theorem jkT9:jkT 9= .lit (.string (bs [])):=rfl
attribute [go_sem] jkT3 jkT5 jkT9 txs_length txs_getJ txs_set txs_rep
def fam (f:FuncId) (args:List AV):VR:=match args with
  |[.lit (.string s),.lit (.int .u8 c)]=>if f=128 then some (True,.lit (.int .i64 (Lib.indexByte (ul s) c.toNat.toUInt8))) else if f=143 then some (True,.lit (.int .i64 (Lib.countByte (ul s) c.toNat.toUInt8))) else none
  |_=>none
theorem args2 {C:Nat→Nat→Option Value} {a b:Value} {vs:List Value} (h:RL C [.lit a,.lit b] vs):vs=[a,b]:=by
  obtain ⟨h1,h2⟩:=h
  match vs,h1 with
  |[x,y],_=>
   have e1:x=a:=by have h:=h2 0 (by simp);simp only [List.getD_cons_zero] at h;cases h;rfl
   have e2:y=b:=by have h:=h2 1 (by simp);simp only [List.getD_cons_succ,List.getD_cons_zero] at h;cases h;rfl
   rw [e1,e2]
theorem fam_ok:∀ f args p r,fam f args=some (p,r)→p→(fok Tryz.prog f=true∧PC Tryz.prog f args r)∨XC Tryz.prog f args r:=by
  intro f args p r h hp
  unfold fam at h
  split at h
  ·rename_i s c
   split at h
   ·rename_i hf;subst hf;cases h
    refine .inr fun C w vs hl=>⟨_,?_,.lit _⟩
    rw [args2 hl,run_callFunc_extern Tryz.func128 (by kernel_rfl) (by kernel_rfl) (by kernel_rfl) (e:=Extern.BytealgIndexByte.indexByte) (by kernel_rfl),Lib.run_indexByteString]
    rfl
   ·split at h
    ·rename_i hf;subst hf;cases h
     refine .inr fun C w vs hl=>⟨_,?_,.lit _⟩
     rw [args2 hl,run_callFunc_extern Tryz.func143 (by kernel_rfl) (by kernel_rfl) (by kernel_rfl) (e:=Extern.BytealgCount.count) (by kernel_rfl),Lib.run_countString]
     rfl
    ·cases h
  ·cases h
theorem fam128 {s:ByteArray} {c:Int}:fam 128 [.lit (.string s),.lit (.int .u8 c)]=some (True,.lit (.int .i64 (Lib.indexByte (ul s) c.toNat.toUInt8))):=rfl
theorem fam143 {s:ByteArray} {c:Int}:fam 143 [.lit (.string s),.lit (.int .u8 c)]=some (True,.lit (.int .i64 (Lib.countByte (ul s) c.toNat.toUInt8))):=rfl
noncomputable def X0:Env:=envM (P:=Tryz.prog) fam jkT zer (fun _=>false) (fun _=>false) [] []
theorem X0_ok:EnvOk Tryz.prog X0:=envMOk zer_ok fam_ok
theorem sib_pc {s:ByteArray} {c:Int}:PC Tryz.prog 116 [.lit (.string s),.lit (.int .u8 c)] (.lit (.int .i64 (Lib.indexByte (ul s) c.toNat.toUInt8))):=by
  refine pcR X0_ok (kp116) Tryz.func116 [.tmp 4] (h:=fun KF=>?_)
  unfold X0
  with_reducible repeat' first|(refine nx ?_;intros)|refine t_br (fun hc=>?_) fun hc=>?_|refine t_bx ?_|apply And.intro|intro vr|((first|refine ny ?_|refine t_dwh (h:=fun K KL=>?_));intros;simp only [go_sem,kp116,geff,fam128])
  all_goals try exact nd
  all_goals (refine nl ?_;simp only [go_sem])
  exact LeA.refl _
noncomputable def con116:PCon Tryz.prog where
  f:=116
  c:=fun
   |[.lit (.string s),.lit (.int .u8 c)]=>some (True,.lit (.int .i64 (Lib.indexByte (ul s) c.toNat.toUInt8)))
   |_=>none
  ok:=by
   intro args p r hc hp
   split at hc
   ·cases hc;exact sib_pc
   ·cases hc
  fk:=fk116
theorem con116_f:con116.f=116:=rfl
theorem con116_c {s:ByteArray} {c:Int}:con116.c [.lit (.string s),.lit (.int .u8 c)]=some (True,.lit (.int .i64 (Lib.indexByte (ul s) c.toNat.toUInt8))):=rfl
attribute [go_sem] con116_f con116_c
noncomputable def X1:Env:=envJ (P:=Tryz.prog) jkT zer (fun _=>false) (fun _=>false) [con116] []
theorem X1_ok:EnvOk Tryz.prog X1:=envJOk zer_ok
theorem idx_pc {l:List UInt8} {c:UInt8}:PC Tryz.prog 106 [.lit (.string (bs l)),.lit (.string (bs [c]))] (.lit (.int .i64 (Lib.indexByte l c))):=by
  have g1:((1:Int)==0)=false:=by decide
  have g2:((1:Int)==1)=true:=by decide
  refine pcR X1_ok (kp106) Tryz.func106 [.tmp 4] (h:=fun KF=>?_)
  unfold X1
  with_reducible repeat' first|(refine nx ?_;intros)|refine t_br (fun hc=>?_) fun hc=>?_|apply And.intro|intro vr|(refine ny ?_;intros;simp only [go_sem,kp106,geff,g1,g2,Int.toNat_natCast,bt,List.length_cons,List.length_nil,List.getD_cons_zero])
  all_goals try exact nd
  all_goals (refine nl ?_;simp only [go_sem])
  ·have e:l=[c]:=by
     simp only [beq_iff_eq] at hc
     exact hc.symm
   subst e
   exact LeA.of_eq (by simp [Lib.indexByte])
  ·exact LeA.of_eq (by simp)
noncomputable def con106:PCon Tryz.prog where
  f:=106
  c:=fun
   |[.lit (.string s),.lit (.string p)]=>match ul p with
    |[c]=>some (True,.lit (.int .i64 (Lib.indexByte (ul s) c)))
    |_=>none
   |_=>none
  ok:=by
   intro args p r hc hp
   split at hc
   ·rename_i s q
    obtain ⟨l,rfl⟩:=bs_ex s
    obtain ⟨m,rfl⟩:=bs_ex q
    rw [ul_bs,ul_bs] at hc
    split at hc
    ·cases hc;exact idx_pc
    ·cases hc
   ·cases hc
  fk:=fk106
theorem con106_f:con106.f=106:=rfl
theorem con106_c {l:List UInt8} {c:UInt8}:con106.c [.lit (.string (bs l)),.lit (.string (bs [c]))]=some (True,.lit (.int .i64 (Lib.indexByte l c))):=by
  show (match ul (bs [c]) with
    |[c]=>some (True,AV.lit (.int .i64 (Lib.indexByte (ul (bs l)) c)))
    |_=>none)=_
  rw [ul_bs,ul_bs]
attribute [go_sem] con106_f con106_c
def cutS (c:UInt8):List UInt8→Option (List UInt8×List UInt8)
  |[]=>none
  |b::l=>if b=c then some ([],l) else (cutS c l).map fun p=>(b::p.1,p.2)
theorem cutS_none {c:UInt8} {l:List UInt8} (h:cutS c l=none):Lib.indexByte l c= -1∧c ∉ l:=by
  induction l with
  |nil=>exact ⟨rfl,by simp⟩
  |cons b l ih=>
   simp only [cutS] at h
   split at h
   ·cases h
   ·rename_i hc
    simp only [Option.map_eq_none_iff] at h
    obtain ⟨h1,h2⟩:=ih h
    exact ⟨by simp [Lib.indexByte,hc,h1],by simp [h2,Ne.symm hc]⟩
theorem cutS_some {c:UInt8} {l a b:List UInt8} (h:cutS c l=some (a,b)):Lib.indexByte l c=a.length∧l=a++c::b∧c ∉ a:=by
  induction l generalizing a with
  |nil=>cases h
  |cons x l ih=>
   simp only [cutS] at h
   split at h
   ·rename_i hc;subst hc;cases h;simp [Lib.indexByte]
   ·rename_i hc
    simp only [Option.map_eq_some_iff] at h
    obtain ⟨⟨a',b'⟩,h1,h2⟩:=h
    simp only [Prod.mk.injEq] at h2
    obtain ⟨rfl,rfl⟩:=h2
    obtain ⟨i1,i2,i3⟩:=ih h1
    refine ⟨?_,by rw [i2];simp,by simp [i3,Ne.symm hc]⟩
    simp only [Lib.indexByte,i1]
    simp [hc]
def cutV (c:UInt8) (l:List UInt8):AV:=match cutS c l with
  |some (a,b)=> .tup [.lit (.string (bs a)),.lit (.string (bs b)),.lit (.bool true)]
  |none=> .tup [.lit (.string (bs l)),.lit (.string (bs [])),.lit (.bool false)]
noncomputable def X2:Env:=envJ (P:=Tryz.prog) jkT zer (fun _=>false) (fun _=>false) [con106] []
theorem X2_ok:EnvOk Tryz.prog X2:=envJOk zer_ok
theorem scut_pc {l:List UInt8} (hs:l.length≤1000000000):PC Tryz.prog 87 [.lit (.string (bs l)),.lit (.string (bs [10]))] (cutV 10 l):=by
  cases hq:cutS 10 l with
  |none=>
   obtain ⟨h1,_⟩:=cutS_none hq
   refine pcR X2_ok (kp87) Tryz.func87 [.tmp 4,.tmp 5,.tmp 6] (h:=fun KF=>?_)
   unfold X2
   with_reducible repeat' first|(refine nx ?_;intros)|apply And.intro|intro vr|((first|refine ny ?_|refine t_dwh (h:=fun K KL=>?_));intros;simp only [go_sem,kp87,geff,h1])
   all_goals try exact nd
   all_goals (refine nl ?_;simp only [go_sem])
   exact LeA.of_eq (by simp [cutV,hq])
  |some p=>
   obtain ⟨a,b⟩:=p
   obtain ⟨h1,h2,_⟩:=cutS_some hq
   have e1:l.take a.length=a:=by rw [h2];simp
   have e2:l.drop (a.length+1)=b:=by rw [h2];simp
   have hl:l.length=a.length+(b.length+1):=by rw [h2];simp
   have e3:((a.length:Int)+1).toNat=a.length+1:=by omega
   have g1:decide ((a.length:Int)≥0)=true:=decide_eq_true (by omega)
   refine pcR X2_ok (kp87) Tryz.func87 [.tmp 4,.tmp 5,.tmp 6] (h:=fun KF=>?_)
   unfold X2
   with_reducible repeat' first|(refine nx ?_;intros)|apply And.intro|intro vr|((first|refine ny ?_|refine t_dwh (h:=fun K KL=>?_));intros;simp only [go_sem,kp87,geff,h1,g1,e1,e2,e3,Int.toNat_natCast,List.length_cons,List.length_nil])
   all_goals try omega
   all_goals try exact nd
   all_goals (refine nl ?_;simp only [go_sem])
   exact LeA.of_eq (by simp [cutV,hq,e1,e2])
end Go.Proofs.YtohiagaclfaolaaGreatDoor.Tx

namespace Go.Proofs.YtohiagaclfaolaaGreatDoor.Tx
open Go.Proofs.YtohiagaclfaolaaGreatDoor
open Go Go.Fw
set_option maxRecDepth 20000
noncomputable def con87:PCon Tryz.prog where
  f:=87
  c:=fun
   |[.lit (.string s),.lit (.string p)]=>if p=bs [10] then some ((ul s).length≤1000000000,cutV 10 (ul s)) else none
   |_=>none
  ok:=by
   intro args p r hc hp
   split at hc
   ·rename_i s q
    obtain ⟨l,rfl⟩:=bs_ex s
    split at hc
    ·rename_i h;subst h;cases hc;rw [ul_bs] at*;exact scut_pc hp
    ·cases hc
   ·cases hc
  fk:=fk87
theorem con87_f:con87.f=87:=rfl
theorem con87_c {l:List UInt8}:con87.c [.lit (.string (bs l)),.lit (.string (bs [10]))]=some (l.length≤1000000000,cutV 10 l):=by
  show (if bs [10]=bs [10] then some ((ul (bs l)).length≤1000000000,cutV 10 (ul (bs l))) else none)=_
  rw [if_pos rfl,ul_bs]
theorem cutV_some {c:UInt8} {l a b:List UInt8} (h:cutS c l=some (a,b)):cutV c l= .tup [.lit (.string (bs a)),.lit (.string (bs b)),.lit (.bool true)]:=by unfold cutV;rw [h]
theorem cutV_none {c:UInt8} {l:List UInt8} (h:cutS c l=none):cutV c l= .tup [.lit (.string (bs l)),.lit (.string (bs [])),.lit (.bool false)]:=by unfold cutV;rw [h]
attribute [go_sem] con87_f con87_c
noncomputable def X3:Env:=envJ (P:=Tryz.prog) jkT zer (fun _=>false) (fun _=>false) [con87,con106] []
theorem X3_ok:EnvOk Tryz.prog X3:=envJOk zer_ok
theorem cut_pc {l:List UInt8} (hs:l.length≤1000000000):PC Tryz.prog 52 [.lit (.string (bs l)),.lit (.string (bs [10]))] (cutV 10 l):=by
  cases hq:cutS 10 l with
  |none=>
   rw [cutV_none hq]
   refine pcR X3_ok (kp52) Tryz.func52 [.tmp 4,.tmp 5,.tmp 6] (h:=fun KF=>?_)
   unfold X3
   with_reducible repeat' first|(refine nx ?_;intros)|apply And.intro|intro vr|(refine ny ?_;intros;simp only [go_sem,kp52,geff,cutV_none hq])
   all_goals try exact nd
   all_goals (refine nl ?_;simp only [go_sem])
   exact LeA.refl _
  |some p=>
   obtain ⟨a,b⟩:=p
   rw [cutV_some hq]
   refine pcR X3_ok (kp52) Tryz.func52 [.tmp 4,.tmp 5,.tmp 6] (h:=fun KF=>?_)
   unfold X3
   with_reducible repeat' first|(refine nx ?_;intros)|apply And.intro|intro vr|(refine ny ?_;intros;simp only [go_sem,kp52,geff,cutV_some hq])
   all_goals try exact nd
   all_goals (refine nl ?_;simp only [go_sem])
   exact LeA.refl _
noncomputable def con52:PCon Tryz.prog where
  f:=52
  c:=fun
   |[.lit (.string s),.lit (.string p)]=>if p=bs [10] then some ((ul s).length≤1000000000,cutV 10 (ul s)) else none
   |_=>none
  ok:=by
   intro args p r hc hp
   split at hc
   ·rename_i s q
    obtain ⟨l,rfl⟩:=bs_ex s
    split at hc
    ·rename_i h;subst h;cases hc;rw [ul_bs] at*;exact cut_pc hp
    ·cases hc
   ·cases hc
  fk:=fk52
theorem con52_f:con52.f=52:=rfl
theorem con52_c {l:List UInt8}:con52.c [.lit (.string (bs l)),.lit (.string (bs [10]))]=some (l.length≤1000000000,cutV 10 l):=by
  show (if bs [10]=bs [10] then some ((ul (bs l)).length≤1000000000,cutV 10 (ul (bs l))) else none)=_
  rw [if_pos rfl,ul_bs]
attribute [go_sem] con52_f con52_c
theorem index_pc {l:List UInt8} {c:UInt8}:PC Tryz.prog 132 [.lit (.string (bs l)),.lit (.string (bs [c]))] (.lit (.int .i64 (Lib.indexByte l c))):=by
  refine pcR X3_ok (kp132) Tryz.func132 [.tmp 4] (h:=fun KF=>?_)
  unfold X3
  with_reducible repeat' first|(refine nx ?_;intros)|refine t_br (fun hc=>?_) fun hc=>?_|refine t_bx ?_|apply And.intro|intro vr|((first|refine ny ?_|refine t_dwh (h:=fun K KL=>?_));intros;simp only [go_sem,kp132,geff])
  all_goals try exact nd
  all_goals (refine nl ?_;simp only [go_sem])
  exact LeA.refl _
noncomputable def con132:PCon Tryz.prog where
  f:=132
  c:=fun
   |[.lit (.string s),.lit (.string p)]=>match ul p with
    |[c]=>some (True,.lit (.int .i64 (Lib.indexByte (ul s) c)))
    |_=>none
   |_=>none
  ok:=by
   intro args p r hc hp
   split at hc
   ·rename_i s q
    obtain ⟨l,rfl⟩:=bs_ex s
    obtain ⟨m,rfl⟩:=bs_ex q
    rw [ul_bs,ul_bs] at hc
    split at hc
    ·cases hc;exact index_pc
    ·cases hc
   ·cases hc
  fk:=fk132
theorem con132_f:con132.f=132:=rfl
theorem con132_c {l:List UInt8} {c:UInt8}:con132.c [.lit (.string (bs l)),.lit (.string (bs [c]))]=some (True,.lit (.int .i64 (Lib.indexByte l c))):=by
  show (match ul (bs [c]) with
    |[c]=>some (True,AV.lit (.int .i64 (Lib.indexByte (ul (bs l)) c)))
    |_=>none)=_
  rw [ul_bs,ul_bs]
theorem count_pc {l:List UInt8} {c:UInt8}:PC Tryz.prog 131 [.lit (.string (bs l)),.lit (.string (bs [c]))] (.lit (.int .i64 (l.count c))):=by
  have g1:((1:Int)==0)=false:=by decide
  have g2:((1:Int)==1)=true:=by decide
  refine pcR X0_ok (kp131) Tryz.func131 [.tmp 4] (h:=fun KF=>?_)
  unfold X0
  with_reducible repeat' first|(refine nx ?_;intros)|refine t_br (fun hc=>?_) fun hc=>?_|refine t_bx ?_|apply And.intro|intro vr|((first|refine ny ?_|refine t_dwh (h:=fun K KL=>?_));intros;simp only [go_sem,kp131,geff,fam143,g1,g2,Int.toNat_natCast,bt,List.length_cons,List.length_nil,List.getD_cons_zero])
  all_goals try exact nd
  all_goals (refine nl ?_;simp only [go_sem])
  exact LeA.of_eq (by simp [Lib.countByte])
noncomputable def con131:PCon Tryz.prog where
  f:=131
  c:=fun
   |[.lit (.string s),.lit (.string p)]=>match ul p with
    |[c]=>some (True,.lit (.int .i64 ((ul s).count c)))
    |_=>none
   |_=>none
  ok:=by
   intro args p r hc hp
   split at hc
   ·rename_i s q
    obtain ⟨l,rfl⟩:=bs_ex s
    obtain ⟨m,rfl⟩:=bs_ex q
    rw [ul_bs,ul_bs] at hc
    split at hc
    ·cases hc;exact count_pc
    ·cases hc
   ·cases hc
  fk:=fk131
theorem con131_f:con131.f=131:=rfl
theorem con131_c {l:List UInt8} {c:UInt8}:con131.c [.lit (.string (bs l)),.lit (.string (bs [c]))]=some (True,.lit (.int .i64 (l.count c))):=by
  show (match ul (bs [c]) with
    |[c]=>some (True,AV.lit (.int .i64 ((ul (bs l)).count c)))
    |_=>none)=_
  rw [ul_bs,ul_bs]
attribute [go_sem] con132_f con132_c con131_f con131_c
def splitW (c:UInt8):List UInt8→List (List UInt8)
  |[]=>[[]]
  |b::l=>if b=c then []::splitW c l else match splitW c l with
   |[]=>[[b]]
   |w::ws=>(b::w)::ws
theorem splitW_ne (c:UInt8):∀ l,splitW c l≠[]
  |[]=>by simp [splitW]
  |b::l=>by
   simp only [splitW]
   split
   ·simp
   ·split<;>simp
theorem splitW_app {c:UInt8} {r:List UInt8}:∀ {a:List UInt8},c ∉ a→splitW c (a++c::r)=a::splitW c r
  |[],_=>by simp [splitW]
  |b::a,h=>by
   simp only [List.mem_cons,not_or] at h
   simp only [List.cons_append,splitW,if_neg (Ne.symm h.1),splitW_app h.2]
theorem splitW_one {c:UInt8}:∀ {a:List UInt8},c ∉ a→splitW c a=[a]
  |[],_=>rfl
  |b::a,h=>by
   simp only [List.mem_cons,not_or] at h
   simp only [splitW,if_neg (Ne.symm h.1),splitW_one h.2]
theorem splitW_len {c:UInt8}:∀ l:List UInt8,(splitW c l).length=l.count c+1
  |[]=>rfl
  |b::l=>by
   have ih:=splitW_len (c:=c) l
   simp only [splitW]
   split
   ·rename_i h;subst h;simp [ih]
   ·rename_i h
    split
    ·rename_i e;exact absurd e (splitW_ne c l)
    ·rename_i w ws e
     rw [e] at ih
     simp only [List.length_cons] at ih ⊢
     rw [List.count_cons_of_ne h];exact ih
structure Sp (l:List UInt8) where
  i:Nat
  done:List (List UInt8)
  rest:List UInt8
  hi:done.length=i
  hs:splitW 32 l=done++splitW 32 rest
  hr:rest.length≤l.length
theorem Sp.len {l:List UInt8} (h:Sp l):h.i+h.rest.count 32=l.count 32:=by
  have:=congrArg List.length h.hs
  rw [List.length_append,splitW_len,splitW_len,h.hi] at this
  omega
theorem set_appR {α:Type} (a:List α) (i n:Nat) (x z:α) (hi:a.length=i) (h:0<n):(a++List.replicate n z).set i x=(a++[x])++List.replicate (n - 1) z:=by
  obtain ⟨n,rfl⟩:∃ m,n=m+1:=⟨n - 1,by omega⟩
  subst hi
  rw [List.set_append_right _ _ (Nat.le_refl _),Nat.sub_self,List.replicate_succ,List.set_cons_zero]
  simp
noncomputable def X4:Env:=envJ (P:=Tryz.prog) jkT zer (fun _=>false) (fun _=>false) [con131,con132] []
theorem X4_ok:EnvOk Tryz.prog X4:=envJOk zer_ok
set_option maxHeartbeats 4000000 in
theorem gens_pc {l:List UInt8} (hl:l.length≤1000000):PC Tryz.prog 120 [.lit (.string (bs l)),.lit (.string (bs [32])),.lit (.int .i64 0),.lit (.int .i64 (-1))] (.sl false 1 (txs (splitW 32 l))):=by
  have hcl:l.count 32≤l.length:=List.count_le_length
  have hmin:minI ((l.count 32:Int)+1) ((l.length:Int)+1)=(l.count 32:Int)+1:=by unfold minI;split<;>omega
  have ht:((l.count 32:Int)+1).toNat=l.count 32+1:=by omega
  have hsub:(l.count 32:Int)+1 - 1=(l.count 32:Int):=by omega
  have g1:(([32]:List UInt8)==[])=false:=by decide
  have g2:((-1:Int)==0)=false:=by decide
  have g3:decide ((-1:Int)<0)=true:=by decide
  refine pcR X4_ok (kp120) Tryz.func120 [.tmp 8] (h:=fun KF=>?_)
  unfold X4
  with_reducible repeat' first|(refine nx ?_;intros)|apply And.intro|intro vr|(refine ny ?_;intros;simp only [go_sem,kp120,geff,hmin,ht,hsub,g1,g2,g3])
  all_goals try exact nd
  refine t_loopF (ι:=Sp l) (fun i=>[(10,.lit (.int .i64 i.i)),(0,.lit (.string (bs i.rest)))]) (fun i=>[.arr 9 1 (txs (i.done++List.replicate (l.count 32+1 - i.i) [])) 0 false]) (fun i=>i.rest.length) ⟨0,[],l,rfl,rfl,Nat.le_refl _⟩ ?_ ?_
  ·exact lf
  rintro ⟨i,done,rest,hi,hs,hr⟩ K0
  have hlen:=Sp.len (l:=l) ⟨i,done,rest,hi,hs,hr⟩
  simp only at hlen
  have htl:(done++List.replicate (l.count 32+1 - i) ([]:List UInt8)).length=l.count 32+1:=by rw [List.length_append,List.length_replicate];omega
  cases hq:cutS 32 rest with
  |none=>
   obtain ⟨_,hn⟩:=cutS_none hq
   have h0:rest.count 32=0:=List.count_eq_zero.2 hn
   have g4:decide ((i:Int)<(l.count 32:Int))=false:=decide_eq_false (by omega)
   have hset:=set_appR done i (l.count 32+1 - i) rest [] hi (by omega)
   have hz:l.count 32+1 - i - 1=0:=by omega
   rw [hz,List.replicate_zero,List.append_nil] at hset
   rw [splitW_one hn] at hs
   have ht2:((i:Int)+1).toNat=i+1:=by omega
   with_reducible repeat' first|(refine nx ?_;intros)|apply And.intro|intro vr|(refine ny ?_;intros;simp only [go_sem,kp120,geff,g4,htl,hset,ht2,Int.toNat_natCast])
   all_goals try omega
   all_goals try exact nd
   all_goals (refine nl ?_;simp only [go_sem])
   exact LeA.of_eq (by rw [hs,Nat.zero_add,List.take_of_length_le (by simp [txs];omega)])
  |some q=>
   obtain ⟨a,b⟩:=q
   obtain ⟨h1,h2,h3⟩:=cutS_some hq
   have e1:rest.take a.length=a:=by rw [h2];simp
   have e2:rest.drop (a.length+1)=b:=by rw [h2];simp
   have hl2:rest.length=a.length+(b.length+1):=by rw [h2];simp
   have hc2:rest.count 32=b.count 32+1:=by rw [h2,List.count_append,List.count_cons_self,List.count_eq_zero.2 h3];omega
   have g4:decide ((i:Int)<(l.count 32:Int))=true:=decide_eq_true (by omega)
   have g5:decide ((a.length:Int)<0)=false:=decide_eq_false (by omega)
   have hset:=set_appR done i (l.count 32+1 - i) a [] hi (by omega)
   have hz:l.count 32+1 - i - 1=l.count 32+1 - (i+1):=by omega
   rw [hz] at hset
   rw [h2,splitW_app h3] at hs
   have e3:((a.length:Int)+1).toNat=a.length+1:=by omega
   with_reducible repeat' first|(refine nx ?_;intros)|apply And.intro|intro vr|(refine ny ?_;intros;simp only [go_sem,kp120,geff,g4,g5,h1,htl,hset,e1,e2,e3,Int.add_zero,Int.toNat_natCast,List.length_cons,List.length_nil])
   all_goals try omega
   all_goals try exact nd
   refine ⟨⟨i+1,done++[a],b,by simp [hi],by rw [hs];simp,by omega⟩,by simp only;omega,?_⟩
   first|exact lf|(refine Le.frameS (by first|rfl|(simp only [go_sem];try rfl)) ?_;repeat' (first|exact leF_top _|exact (fun _=>LeR.refl _)|(with_reducible refine leF_sl ?_ ?_)|(refine leF_upd ?_ ?_)))<;>(first|exact LeR.top _|exact LeR.refl _|(refine LeR.of_eq ?_;(try simp only [go_sem]);try rfl)|((try simp only [go_sem]);try rfl))
noncomputable def con120:PCon Tryz.prog where
  f:=120
  c:=fun
   |[.lit (.string s),.lit (.string p),.lit (.int .i64 0),.lit (.int .i64 (-1))]=>if p=bs [32] then some ((ul s).length≤1000000,.sl false 1 (txs (splitW 32 (ul s)))) else none
   |_=>none
  ok:=by
   intro args p r hc hp
   split at hc
   ·rename_i s q
    obtain ⟨l,rfl⟩:=bs_ex s
    split at hc
    ·rename_i h;subst h;cases hc;rw [ul_bs] at*;exact gens_pc hp
    ·cases hc
   ·cases hc
  fk:=fk120
theorem con120_f:con120.f=120:=rfl
theorem con120_c {l:List UInt8}:con120.c [.lit (.string (bs l)),.lit (.string (bs [32])),.lit (.int .i64 0),.lit (.int .i64 (-1))]=some (l.length≤1000000,.sl false 1 (txs (splitW 32 l))):=by
  show (if bs [32]=bs [32] then some ((ul (bs l)).length≤1000000,AV.sl false 1 (txs (splitW 32 (ul (bs l))))) else none)=_
  rw [if_pos rfl,ul_bs]
attribute [go_sem] con120_f con120_c
noncomputable def X5:Env:=envJ (P:=Tryz.prog) jkT zer (fun _=>false) (fun _=>false) [con120] []
theorem X5_ok:EnvOk Tryz.prog X5:=envJOk zer_ok
theorem split_pc {l:List UInt8} (hl:l.length≤1000000):PC Tryz.prog 107 [.lit (.string (bs l)),.lit (.string (bs [32]))] (.sl false 1 (txs (splitW 32 l))):=by
  refine pcR X5_ok (kp107) Tryz.func107 [.tmp 4] (h:=fun KF=>?_)
  unfold X5
  with_reducible repeat' first|(refine nx ?_;intros)|apply And.intro|intro vr|(refine ny ?_;intros;simp only [go_sem,kp107,geff])
  all_goals try exact nd
  all_goals (refine nl ?_;simp only [go_sem])
  exact LeA.refl _
noncomputable def con107:PCon Tryz.prog where
  f:=107
  c:=fun
   |[.lit (.string s),.lit (.string p)]=>if p=bs [32] then some ((ul s).length≤1000000,.sl false 1 (txs (splitW 32 (ul s)))) else none
   |_=>none
  ok:=by
   intro args p r hc hp
   split at hc
   ·rename_i s q
    obtain ⟨l,rfl⟩:=bs_ex s
    split at hc
    ·rename_i h;subst h;cases hc;rw [ul_bs] at*;exact split_pc hp
    ·cases hc
   ·cases hc
  fk:=fk107
theorem con107_f:con107.f=107:=rfl
theorem con107_c {l:List UInt8}:con107.c [.lit (.string (bs l)),.lit (.string (bs [32]))]=some (l.length≤1000000,.sl false 1 (txs (splitW 32 l))):=by
  show (if bs [32]=bs [32] then some ((ul (bs l)).length≤1000000,AV.sl false 1 (txs (splitW 32 (ul (bs l))))) else none)=_
  rw [if_pos rfl,ul_bs]
attribute [go_sem] con107_f con107_c
noncomputable def X6:Env:=envJ (P:=Tryz.prog) jkT zer (fun _=>false) (fun _=>false) [] []
theorem X6_ok:EnvOk Tryz.prog X6:=envJOk zer_ok
theorem hasp_pc {l m:List UInt8}:PC Tryz.prog 149 [.lit (.string (bs l)),.lit (.string (bs m))] (.lit (.bool (m.isPrefixOf l))):=by
  have key:m.isPrefixOf l=(decide ((l.length:Int)≥(m.length:Int))&&(List.take m.length l==m)):=by
    rw [Bool.eq_iff_iff]
    simp only [List.isPrefixOf_iff_prefix,Bool.and_eq_true,decide_eq_true_eq,beq_iff_eq]
    constructor
    ·intro h
     exact ⟨by have:=h.length_le;omega,(List.prefix_iff_eq_take.1 h).symm⟩
    ·rintro ⟨_,h⟩
     exact List.prefix_iff_eq_take.2 h.symm
  refine pcR X6_ok (kp149) Tryz.func149 [.tmp 4] (h:=fun KF=>?_)
  unfold X6
  with_reducible repeat' first|(refine nx ?_;intros)|apply And.intro|intro vr|(refine ny ?_;intros;simp only [go_sem,kp149,geff])
  all_goals try exact nd
  all_goals (refine nl ?_;simp only [go_sem])
  exact LeA.of_eq (by rw [key])
noncomputable def con149:PCon Tryz.prog where
  f:=149
  c:=fun
   |[.lit (.string s),.lit (.string p)]=>some (True,.lit (.bool ((ul p).isPrefixOf (ul s))))
   |_=>none
  ok:=by
   intro args p r hc hp
   split at hc
   ·rename_i s q
    obtain ⟨l,rfl⟩:=bs_ex s
    obtain ⟨m,rfl⟩:=bs_ex q
    cases hc;rw [ul_bs,ul_bs];exact hasp_pc
   ·cases hc
  fk:=fk149
theorem con149_f:con149.f=149:=rfl
theorem con149_c {l m:List UInt8}:con149.c [.lit (.string (bs l)),.lit (.string (bs m))]=some (True,.lit (.bool (m.isPrefixOf l))):=by
  show some (True,AV.lit (.bool ((ul (bs m)).isPrefixOf (ul (bs l)))))=_
  rw [ul_bs,ul_bs]
attribute [go_sem] con149_f con149_c
noncomputable def X7:Env:=envJ (P:=Tryz.prog) jkT zer (fun _=>false) (fun _=>false) [con149] []
theorem X7_ok:EnvOk Tryz.prog X7:=envJOk zer_ok
def trimP (m l:List UInt8):List UInt8:=if m.isPrefixOf l=true then l.drop m.length else l
theorem strim_pc {l m:List UInt8} (h:m.length≤1000000):PC Tryz.prog 135 [.lit (.string (bs l)),.lit (.string (bs m))] (.lit (.string (bs (trimP m l)))):=by
  cases hq:m.isPrefixOf l with
  |true=>
   have hle:=(List.isPrefixOf_iff_prefix.1 hq).length_le
   refine pcR X7_ok (kp135) Tryz.func135 [.tmp 4] (h:=fun KF=>?_)
   unfold X7
   with_reducible repeat' first|(refine nx ?_;intros)|apply And.intro|intro vr|(refine ny ?_;intros;simp only [go_sem,kp135,geff,hq,Int.toNat_natCast])
   all_goals try omega
   all_goals try exact nd
   all_goals (refine nl ?_;simp only [go_sem])
   exact LeA.of_eq (by simp [trimP,hq])
  |false=>
   refine pcR X7_ok (kp135) Tryz.func135 [.tmp 4] (h:=fun KF=>?_)
   unfold X7
   with_reducible repeat' first|(refine nx ?_;intros)|apply And.intro|intro vr|(refine ny ?_;intros;simp only [go_sem,kp135,geff,hq])
   all_goals try exact nd
   all_goals (refine nl ?_;simp only [go_sem])
   exact LeA.of_eq (by simp [trimP,hq])
noncomputable def con135:PCon Tryz.prog where
  f:=135
  c:=fun
   |[.lit (.string s),.lit (.string p)]=>some ((ul p).length≤1000000,.lit (.string (bs (trimP (ul p) (ul s)))))
   |_=>none
  ok:=by
   intro args p r hc hp
   split at hc
   ·rename_i s q
    obtain ⟨l,rfl⟩:=bs_ex s
    obtain ⟨m,rfl⟩:=bs_ex q
    cases hc;rw [ul_bs] at*;rw [ul_bs];exact strim_pc hp
   ·cases hc
  fk:=fk135
theorem con135_f:con135.f=135:=rfl
theorem con135_c {l m:List UInt8}:con135.c [.lit (.string (bs l)),.lit (.string (bs m))]=some (m.length≤1000000,.lit (.string (bs (trimP m l)))):=by
  show some ((ul (bs m)).length≤1000000,AV.lit (.string (bs (trimP (ul (bs m)) (ul (bs l))))))=_
  rw [ul_bs,ul_bs]
attribute [go_sem] con135_f con135_c
noncomputable def X8:Env:=envJ (P:=Tryz.prog) jkT zer (fun _=>false) (fun _=>false) [con135] []
theorem X8_ok:EnvOk Tryz.prog X8:=envJOk zer_ok
theorem trim_pc {l m:List UInt8} (h:m.length≤1000000):PC Tryz.prog 122 [.lit (.string (bs l)),.lit (.string (bs m))] (.lit (.string (bs (trimP m l)))):=by
  refine pcR X8_ok (kp122) Tryz.func122 [.tmp 4] (h:=fun KF=>?_)
  unfold X8
  with_reducible repeat' first|(refine nx ?_;intros)|apply And.intro|intro vr|(refine ny ?_;intros;simp only [go_sem,kp122,geff])
  all_goals try exact nd
  all_goals (refine nl ?_;simp only [go_sem])
  exact LeA.refl _
end Go.Proofs.YtohiagaclfaolaaGreatDoor.Tx
