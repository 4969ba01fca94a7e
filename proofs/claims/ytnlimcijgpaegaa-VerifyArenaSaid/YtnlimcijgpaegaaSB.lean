import Derived.Test.YtnlimcijgpaegaaSA
import Derived.Test.YtnlimcijgpaegaaFwB

set_option linter.all false

namespace Go.Proofs.Ytnlimcijgpaegaa
open Go Go.Fw Bm
set_option maxRecDepth 20000
def kA (j:Nat):List Int:=0::List.replicate j 0
def rB (j:Nat):List Int:=(List.range j).map fun i:Nat=>(i:Int)+1
theorem kA_length (j:Nat):(ints .i64 (kA j)).length=j+1:=by simp [kA,ints]
theorem rB_length (j:Nat):(ints .i64 (rB j)).length=j:=by simp [rB,ints]
theorem kA_app (j:Nat):ints .i64 (kA j)++[.lit (.int .i64 0)]=ints .i64 (kA (j+1)):=by
  rw [ints_append1,kA,kA,List.replicate_succ',List.cons_append]
theorem rB_app (j:Nat):ints .i64 (rB j)++[.lit (.int .i64 ((j:Int)+1))]=ints .i64 (rB (j+1)):=by
  rw [ints_append1,rB,rB,List.range_succ,List.map_append];rfl
theorem kndS_5 {a b c d:Int} {p:ByteArray}:kndS ⟨5,p,a,b,c,d⟩=match El.typesS p with
  |some r=>kA r.ps.length
  |none=>[0]:=rfl
theorem redS_5 {a b c d:Int} {p:ByteArray}:redS ⟨5,p,a,b,c,d⟩=match El.typesS p with
  |some r=>rB r.ps.length
  |none=>[]:=rfl
theorem shpV_5 {a b c d:Int} {p:ByteArray} {r:El.Rw} (h:El.typesS p=some r):shpV ⟨5,p,a,b,c,d⟩= .tup [.agg [.lit (.string ⟨#[112,114,105,109]⟩),.sl false 1 (ints .i64 (kA r.ps.length)),.lit (.bool true),.sl false 1 (ints .i64 (rB r.ps.length))],.lit (.bool true)]:=by
  simp only [shpV,kndS_5,redS_5,shpOk,h];rfl
theorem shpV_5n {a b c d:Int} {p:ByteArray} (h:El.typesS p=none):shpV ⟨5,p,a,b,c,d⟩= .tup [.agg [.lit (.string ⟨#[112,114,105,109]⟩),.sl false 1 [.lit (.int .i64 0)],.lit (.bool true),.sl false 1 []],.lit (.bool false)]:=by
  simp only [shpV,kndS_5,redS_5,shpOk,h];rfl
noncomputable def V6:Env:=envJ (P:=Try.prog) jkV zer (fun _=>false) (fun _=>false) [con121,El.con59] []
theorem V6_ok:EnvOk Try.prog V6:=envJOk zer_ok
set_option maxHeartbeats 8000000 in
theorem shape_pc {x:Ins}:PC Try.prog 110 [opV x] (shpV x):=by
  obtain ⟨k,p,a,b,c,d⟩:=x
  simp only [opV]
  rcases (show k<1∨k>15∨k=5∨k=1∨k=2∨k=3∨k=4∨k=6∨k=7∨k=8∨k=9∨k=10∨k=11∨k=12∨k=13∨k=14∨k=15 by omega) with h|h|rfl|rfl|rfl|rfl|rfl|rfl|rfl|rfl|rfl|rfl|rfl|rfl|rfl|rfl|rfl
  ·rw [shpV_of (by omega),if_pos (.inl h)]
   have g1:decide (k<1)=true:=decide_eq_true h
   have e1:kndL k=[]:=by unfold kndL;repeat (rw [if_neg (by omega)])
   have e2:redL k=[]:=by unfold redL;repeat (rw [if_neg (by omega)])
   have e3:namL k=ByteArray.empty:=by unfold namL;(repeat rw [if_neg (by omega)]);rfl
   have e4:wrtB k=false:=by simp only [wrtB];simp;omega
   rw [e1,e2,e3,e4]
   refine pcR V6_ok (kp110) Try.func110 [.cell 2 164,.tmp 3] (h:=fun KF=>?_)
   unfold V6
   repeat' (first
    |(with_reducible first|refine nx ?_|refine t_seq fun K=>?_|refine t_br (fun hc=>?_) fun hc=>?_|refine t_bx ?_|apply And.intro|intro vr)|exact kpd
    |((with_reducible refine t_drawG (id:=3) (fun i=>i==0) 4 [(1,1),(2,1),(0,1),(3,1),(4,3),(5,0)] (by kernel_rfl) (by kernel_rfl) (by kernel_rfl) fun K=>?_);simp only [noA,List.filter_cons,List.filter_nil,Nat.reduceBEq,Bool.not_false,Bool.not_true,reduceIte,if_true,Bool.false_eq_true];simp only [pickO,List.getElem?_toArray,List.getElem?_cons_zero,List.getElem?_cons_succ,Nat.reduceAdd,Nat.reduceSub,fo_some];refine nh ?_;intro KL;simp only [go_sem,kp110,geff,g1])
    |((with_reducible first|refine ny ?_|refine t_kLF ?_ ?_|refine t_drawX (id:=10) (fun i=>i==0) [(0,1),(2,1),(4,1),(6,1),(7,1),(8,1),(1,3),(5,3),(3,0),(10,1),(9,0),(11,0),(12,1),(13,0)] (by kernel_rfl) fun K=>?_|refine t_dwh (h:=fun K KL=>?_));intros;simp only [go_sem,kp110,geff,g1]))
   all_goals try exact nd
   all_goals (refine nl ?_;simp only [go_sem])
   exact LeA.tup ⟨LeA.agg ⟨LeA.refl _,LeA.slx rfl,LeA.refl _,LeA.slx rfl,trivial⟩,LeA.refl _,trivial⟩
  ·rw [shpV_of (by omega),if_pos (.inr h)]
   have g1:decide (k<1)=false:=decide_eq_false (by omega)
   have g2:decide (k>15)=true:=decide_eq_true h
   have e1:kndL k=[]:=by unfold kndL;repeat (rw [if_neg (by omega)])
   have e2:redL k=[]:=by unfold redL;repeat (rw [if_neg (by omega)])
   have e3:namL k=ByteArray.empty:=by unfold namL;(repeat rw [if_neg (by omega)]);rfl
   have e4:wrtB k=false:=by simp only [wrtB];simp;omega
   rw [e1,e2,e3,e4]
   refine pcR V6_ok (kp110) Try.func110 [.cell 2 164,.tmp 3] (h:=fun KF=>?_)
   unfold V6
   repeat' (first
    |(with_reducible first|refine nx ?_|refine t_seq fun K=>?_|refine t_br (fun hc=>?_) fun hc=>?_|refine t_bx ?_|apply And.intro|intro vr)|exact kpd
    |((with_reducible refine t_drawG (id:=3) (fun i=>i==0) 4 [(1,1),(2,1),(0,1),(3,1),(4,3),(5,0)] (by kernel_rfl) (by kernel_rfl) (by kernel_rfl) fun K=>?_);simp only [noA,List.filter_cons,List.filter_nil,Nat.reduceBEq,Bool.not_false,Bool.not_true,reduceIte,if_true,Bool.false_eq_true];simp only [pickO,List.getElem?_toArray,List.getElem?_cons_zero,List.getElem?_cons_succ,Nat.reduceAdd,Nat.reduceSub,fo_some];refine nh ?_;intro KL;simp only [go_sem,kp110,geff,g1,g2])
    |((with_reducible first|refine ny ?_|refine t_kLF ?_ ?_|refine t_drawX (id:=10) (fun i=>i==0) [(0,1),(2,1),(4,1),(6,1),(7,1),(8,1),(1,3),(5,3),(3,0),(10,1),(9,0),(11,0),(12,1),(13,0)] (by kernel_rfl) fun K=>?_|refine t_dwh (h:=fun K KL=>?_));intros;simp only [go_sem,kp110,geff,g1,g2]))
   all_goals try exact nd
   all_goals (refine nl ?_;simp only [go_sem])
   exact LeA.tup ⟨LeA.agg ⟨LeA.refl _,LeA.slx rfl,LeA.refl _,LeA.slx rfl,trivial⟩,LeA.refl _,trivial⟩
  ·cases hT:El.typesS p with
   |none=>
    rw [shpV_5n hT]
    refine pcR V6_ok (kp110) Try.func110 [.cell 2 164,.tmp 3] (h:=fun KF=>?_)
    unfold V6
    repeat' (first
     |(with_reducible first|refine nx ?_|refine t_seq fun K=>?_|refine t_br (fun hc=>?_) fun hc=>?_|refine t_bx ?_|apply And.intro|intro vr)|exact kpd
     |((with_reducible refine t_drawG (id:=3) (fun i=>i==0) 4 [(1,1),(2,1),(0,1),(3,1),(4,3),(5,0)] (by kernel_rfl) (by kernel_rfl) (by kernel_rfl) fun K=>?_);simp only [noA,List.filter_cons,List.filter_nil,Nat.reduceBEq,Bool.not_false,Bool.not_true,reduceIte,if_true,Bool.false_eq_true];simp only [pickO,List.getElem?_toArray,List.getElem?_cons_zero,List.getElem?_cons_succ,Nat.reduceAdd,Nat.reduceSub,fo_some];refine nh ?_;intro KL;simp only [go_sem,kp110,geff,hT,yes])
     |((with_reducible first|refine ny ?_|refine t_kLF ?_ ?_|refine t_drawX (id:=10) (fun i=>i==0) [(0,1),(2,1),(4,1),(6,1),(7,1),(8,1),(1,3),(5,3),(3,0),(10,1),(9,0),(11,0),(12,1),(13,0)] (by kernel_rfl) fun K=>?_|refine t_dwh (h:=fun K KL=>?_));intros;simp only [go_sem,kp110,geff,hT,yes]))
    all_goals try exact nd
    refine t_loopF (ι:=Unit) (fun i=>[(35,.lit (.int .i64 0))]) (fun i=>[.box 73 [.lit (.int .i64 5),.lit (.string p),.lit (.int .i64 a),.lit (.int .i64 b),.lit (.int .i64 c),.lit (.int .i64 d)],.box 164 [.lit (.string ByteArray.empty),.sl true 1 [],.lit (.bool false),.sl true 1 []],.box 164 [.lit (.string ⟨#[112,114,105,109]⟩),.sl true 1 [.lit (.int .i64 0)],.lit (.bool true),.lit (.slice none 0 0)]]) (fun i=>0) () ?_ ?_
    ·exact lf
    rintro ⟨⟩ K0
    repeat' (first
     |(with_reducible first|refine nx ?_|refine t_seq fun K=>?_|refine t_br (fun hc=>?_) fun hc=>?_|refine t_bx ?_|apply And.intro|intro vr)|exact kpd
     |((with_reducible refine t_drawG (id:=3) (fun i=>i==0) 4 [(1,1),(2,1),(0,1),(3,1),(4,3),(5,0)] (by kernel_rfl) (by kernel_rfl) (by kernel_rfl) fun K=>?_);simp only [noA,List.filter_cons,List.filter_nil,Nat.reduceBEq,Bool.not_false,Bool.not_true,reduceIte,if_true,Bool.false_eq_true];simp only [pickO,List.getElem?_toArray,List.getElem?_cons_zero,List.getElem?_cons_succ,Nat.reduceAdd,Nat.reduceSub,fo_some];refine nh ?_;intro KL;simp only [go_sem,kp110,geff,hT,yes])
     |((with_reducible first|refine ny ?_|refine t_kLF ?_ ?_|refine t_drawX (id:=10) (fun i=>i==0) [(0,1),(2,1),(4,1),(6,1),(7,1),(8,1),(1,3),(5,3),(3,0),(10,1),(9,0),(11,0),(12,1),(13,0)] (by kernel_rfl) fun K=>?_|refine t_dwh (h:=fun K KL=>?_));intros;simp only [go_sem,kp110,geff,hT,yes]))
    all_goals try exact nd
    all_goals (refine nl ?_;simp only [go_sem])
    exact LeA.tup ⟨LeA.agg ⟨LeA.refl _,LeA.slx rfl,LeA.refl _,LeA.nil _ _,trivial⟩,LeA.refl _,trivial⟩
   |some r=>
    rw [shpV_5 hT]
    have hl3:r.ps.length≤3:=by rcases typesS_len hT with h|h|h<;>omega
    generalize hn:r.ps.length=n at hl3
    have hs:(strs r.ps).length=n:=by rw [strs_length,hn]
    refine pcR V6_ok (kp110) Try.func110 [.cell 2 164,.tmp 3] (h:=fun KF=>?_)
    unfold V6
    repeat' (first
     |(with_reducible first|refine nx ?_|refine t_seq fun K=>?_|refine t_br (fun hc=>?_) fun hc=>?_|refine t_bx ?_|apply And.intro|intro vr)|exact kpd
     |((with_reducible refine t_drawG (id:=3) (fun i=>i==0) 4 [(1,1),(2,1),(0,1),(3,1),(4,3),(5,0)] (by kernel_rfl) (by kernel_rfl) (by kernel_rfl) fun K=>?_);simp only [noA,List.filter_cons,List.filter_nil,Nat.reduceBEq,Bool.not_false,Bool.not_true,reduceIte,if_true,Bool.false_eq_true];simp only [pickO,List.getElem?_toArray,List.getElem?_cons_zero,List.getElem?_cons_succ,Nat.reduceAdd,Nat.reduceSub,fo_some];refine nh ?_;intro KL;simp only [go_sem,kp110,geff,hT,hs,yes])
     |((with_reducible first|refine ny ?_|refine t_kLF ?_ ?_|refine t_drawX (id:=10) (fun i=>i==0) [(0,1),(2,1),(4,1),(6,1),(7,1),(8,1),(1,3),(5,3),(3,0),(10,1),(9,0),(11,0),(12,1),(13,0)] (by kernel_rfl) fun K=>?_|refine t_dwh (h:=fun K KL=>?_));intros;simp only [go_sem,kp110,geff,hT,hs,yes]))
    all_goals try exact nd
    refine t_loopF (ι:={i:Nat // i≤n}) (fun x=>[(35,.lit (.int .i64 x.1))]) (fun x=>match x.1 with
      |0=>[.box 73 [.lit (.int .i64 5),.lit (.string p),.lit (.int .i64 a),.lit (.int .i64 b),.lit (.int .i64 c),.lit (.int .i64 d)],.box 164 [.lit (.string ByteArray.empty),.sl true 1 [],.lit (.bool false),.sl true 1 []],.box 164 [.lit (.string ⟨#[112,114,105,109]⟩),.sl true 1 [.lit (.int .i64 0)],.lit (.bool true),.lit (.slice none 0 0)]]
      |j+1=>[.box 73 [.lit (.int .i64 5),.lit (.string p),.lit (.int .i64 a),.lit (.int .i64 b),.lit (.int .i64 c),.lit (.int .i64 d)],.box 164 [.lit (.string ByteArray.empty),.sl true 1 [],.lit (.bool false),.sl true 1 []],.box 164 [.lit (.string ⟨#[112,114,105,109]⟩),.arr 3 j,.lit (.bool true),.arr 4 j],
       .arr 3 1 (ints .i64 (kA (j+1))) j false,.arr 3 1 (ints .i64 (rB (j+1))) j false]) (fun x=>n - x.1) ⟨0,by omega⟩ ?_ ?_
    ·skip
     refine Le.frameS (by first|rfl|(simp only [go_sem];try rfl)) ?_
     repeat' (first|exact leF_top _|exact (fun _=>LeR.refl _)|(with_reducible refine leF_sl ?_ ?_)|(refine leF_upd ?_ ?_))
     all_goals (first|exact LeR.top _|exact LeR.refl _|(refine LeR.of_eq ?_;(try simp only [go_sem]);try rfl)|((try simp only [go_sem]);try rfl))
    rintro ⟨i,hi⟩ K0
    cases i with
    |zero=>
     rcases Nat.lt_or_ge 0 n with hc|hc
     ·have g3:decide (((0:Nat):Int)<(n:Int))=true:=decide_eq_true (by omega)
      repeat' (first
       |(with_reducible first|refine nx ?_|refine t_seq fun K=>?_|refine t_br (fun hc=>?_) fun hc=>?_|refine t_bx ?_|apply And.intro|intro vr)|exact kpd
       |((with_reducible refine t_drawG (id:=3) (fun i=>i==0) 4 [(1,1),(2,1),(0,1),(3,1),(4,3),(5,0)] (by kernel_rfl) (by kernel_rfl) (by kernel_rfl) fun K=>?_);simp only [noA,List.filter_cons,List.filter_nil,Nat.reduceBEq,Bool.not_false,Bool.not_true,reduceIte,if_true,Bool.false_eq_true];simp only [pickO,List.getElem?_toArray,List.getElem?_cons_zero,List.getElem?_cons_succ,Nat.reduceAdd,Nat.reduceSub,fo_some];refine nh ?_;intro KL;simp only [go_sem,kp110,geff,g3,yes])
       |((with_reducible first|refine ny ?_|refine t_kLF ?_ ?_|refine t_drawX (id:=10) (fun i=>i==0) [(0,1),(2,1),(4,1),(6,1),(7,1),(8,1),(1,3),(5,3),(3,0),(10,1),(9,0),(11,0),(12,1),(13,0)] (by kernel_rfl) fun K=>?_|refine t_dwh (h:=fun K KL=>?_));intros;simp only [go_sem,kp110,geff,g3,yes]))
      all_goals try exact nd
      exact ⟨⟨1,by omega⟩,wf,lf⟩
     ·have g3:decide (((0:Nat):Int)<(n:Int))=false:=decide_eq_false (by omega)
      have h0:n=0:=by omega
      subst h0
      repeat' (first
       |(with_reducible first|refine nx ?_|refine t_seq fun K=>?_|refine t_br (fun hc=>?_) fun hc=>?_|refine t_bx ?_|apply And.intro|intro vr)|exact kpd
       |((with_reducible refine t_drawG (id:=3) (fun i=>i==0) 4 [(1,1),(2,1),(0,1),(3,1),(4,3),(5,0)] (by kernel_rfl) (by kernel_rfl) (by kernel_rfl) fun K=>?_);simp only [noA,List.filter_cons,List.filter_nil,Nat.reduceBEq,Bool.not_false,Bool.not_true,reduceIte,if_true,Bool.false_eq_true];simp only [pickO,List.getElem?_toArray,List.getElem?_cons_zero,List.getElem?_cons_succ,Nat.reduceAdd,Nat.reduceSub,fo_some];refine nh ?_;intro KL;simp only [go_sem,kp110,geff,g3,yes])
       |((with_reducible first|refine ny ?_|refine t_kLF ?_ ?_|refine t_drawX (id:=10) (fun i=>i==0) [(0,1),(2,1),(4,1),(6,1),(7,1),(8,1),(1,3),(5,3),(3,0),(10,1),(9,0),(11,0),(12,1),(13,0)] (by kernel_rfl) fun K=>?_|refine t_dwh (h:=fun K KL=>?_));intros;simp only [go_sem,kp110,geff,g3,yes]))
      all_goals try exact nd
      all_goals (refine nl ?_;simp only [go_sem])
      exact LeA.tup ⟨LeA.agg ⟨LeA.refl _,LeA.slx rfl,LeA.refl _,LeA.nil _ _,trivial⟩,LeA.refl _,trivial⟩
    |succ j=>
     rcases Nat.lt_or_ge (j+1) n with hc|hc
     ·have g3:decide (((j+1:Nat):Int)<(n:Int))=true:=decide_eq_true (by omega)
      repeat' (first
       |(with_reducible first|refine nx ?_|refine t_seq fun K=>?_|refine t_br (fun hc=>?_) fun hc=>?_|refine t_bx ?_|apply And.intro|intro vr)|exact kpd
       |((with_reducible refine t_drawG (id:=3) (fun i=>i==0) 4 [(1,1),(2,1),(0,1),(3,1),(4,3),(5,0)] (by kernel_rfl) (by kernel_rfl) (by kernel_rfl) fun K=>?_);simp only [noA,List.filter_cons,List.filter_nil,Nat.reduceBEq,Bool.not_false,Bool.not_true,reduceIte,if_true,Bool.false_eq_true];simp only [pickO,List.getElem?_toArray,List.getElem?_cons_zero,List.getElem?_cons_succ,Nat.reduceAdd,Nat.reduceSub,fo_some];refine nh ?_;intro KL;simp only [go_sem,kp110,geff,g3,yes,kA_app,rB_app,kA_length,rB_length])
       |((with_reducible first|refine ny ?_|refine t_kLF ?_ ?_|refine t_drawX (id:=10) (fun i=>i==0) [(0,1),(2,1),(4,1),(6,1),(7,1),(8,1),(1,3),(5,3),(3,0),(10,1),(9,0),(11,0),(12,1),(13,0)] (by kernel_rfl) fun K=>?_|refine t_dwh (h:=fun K KL=>?_));intros;simp only [go_sem,kp110,geff,g3,yes,kA_app,rB_app,kA_length,rB_length]))
      all_goals try exact nd
      exact ⟨⟨j+2,by omega⟩,wf,lf⟩
     ·have g3:decide (((j+1:Nat):Int)<(n:Int))=false:=decide_eq_false (by omega)
      have h0:n=j+1:=by omega
      subst h0
      repeat' (first
       |(with_reducible first|refine nx ?_|refine t_seq fun K=>?_|refine t_br (fun hc=>?_) fun hc=>?_|refine t_bx ?_|apply And.intro|intro vr)|exact kpd
       |((with_reducible refine t_drawG (id:=3) (fun i=>i==0) 4 [(1,1),(2,1),(0,1),(3,1),(4,3),(5,0)] (by kernel_rfl) (by kernel_rfl) (by kernel_rfl) fun K=>?_);simp only [noA,List.filter_cons,List.filter_nil,Nat.reduceBEq,Bool.not_false,Bool.not_true,reduceIte,if_true,Bool.false_eq_true];simp only [pickO,List.getElem?_toArray,List.getElem?_cons_zero,List.getElem?_cons_succ,Nat.reduceAdd,Nat.reduceSub,fo_some];refine nh ?_;intro KL;simp only [go_sem,kp110,geff,g3,yes])
       |((with_reducible first|refine ny ?_|refine t_kLF ?_ ?_|refine t_drawX (id:=10) (fun i=>i==0) [(0,1),(2,1),(4,1),(6,1),(7,1),(8,1),(1,3),(5,3),(3,0),(10,1),(9,0),(11,0),(12,1),(13,0)] (by kernel_rfl) fun K=>?_|refine t_dwh (h:=fun K KL=>?_));intros;simp only [go_sem,kp110,geff,g3,yes]))
      all_goals try exact nd
      all_goals (refine nl ?_;simp only [go_sem])
      exact LeA.refl _
  all_goals
    rw [shpV_of (by decide),if_neg (by decide)]
    refine pcR V6_ok (kp110) Try.func110 [.cell 2 164,.tmp 3] (h:=fun KF=>?_)
    unfold V6
    repeat' (first
     |(with_reducible first|refine nx ?_|refine t_seq fun K=>?_|refine t_br (fun hc=>?_) fun hc=>?_|refine t_bx ?_|apply And.intro|intro vr)|exact kpd
     |((with_reducible refine t_drawG (id:=3) (fun i=>i==0) 4 [(1,1),(2,1),(0,1),(3,1),(4,3),(5,0)] (by kernel_rfl) (by kernel_rfl) (by kernel_rfl) fun K=>?_);simp only [noA,List.filter_cons,List.filter_nil,Nat.reduceBEq,Bool.not_false,Bool.not_true,reduceIte,if_true,Bool.false_eq_true];simp only [pickO,List.getElem?_toArray,List.getElem?_cons_zero,List.getElem?_cons_succ,Nat.reduceAdd,Nat.reduceSub,fo_some];refine nh ?_;intro KL;simp only [go_sem,kp110,geff,yes])
     |((with_reducible first|refine ny ?_|refine t_kLF ?_ ?_|refine t_drawX (id:=10) (fun i=>i==0) [(0,1),(2,1),(4,1),(6,1),(7,1),(8,1),(1,3),(5,3),(3,0),(10,1),(9,0),(11,0),(12,1),(13,0)] (by kernel_rfl) fun K=>?_|refine t_dwh (h:=fun K KL=>?_));intros;simp only [go_sem,kp110,geff,yes]))
    all_goals try exact nd
    all_goals (refine nl ?_;simp only [go_sem])
    exact LeA.tup ⟨LeA.agg ⟨LeA.refl _,(by first|exact LeA.slx rfl|exact LeA.nil _ _),LeA.refl _,(by first|exact LeA.slx rfl|exact LeA.nil _ _),trivial⟩,LeA.refl _,trivial⟩
noncomputable def con110:PCon Try.prog where
  f:=110
  c:=fun
   |[xx]=>match opOf xx with|some x=>some (True,shpV x)|_=>none
   |_=>none
  ok:=by
   intro args p r hc hp
   split at hc
   ·split at hc
    ·rename_i hx
     cases hc
     exact PC.weak shape_pc ⟨opOf_le hx,trivial⟩
    ·cases hc
   ·cases hc
  fk:=fk110
theorem con110_f:con110.f=110:=rfl
theorem con110_c {xx:AV}:con110.c [xx]=match opOf xx with|some x=>some (True,shpV x)|_=>none:=rfl
attribute [go_sem] con110_f con110_c
end Go.Proofs.Ytnlimcijgpaegaa

namespace Go.Proofs.Ytnlimcijgpaegaa
open Go Go.Fw Bm
set_option maxRecDepth 20000
def opk (l:List Int) (regs:Int) (i:Nat) (n:Int):Bool:=if i<l.length then kindOk (l.getD i 0) n regs else decide (n=0)
def rightK (x:Ins) (regs:Int):Bool:=(shpOk x&&(decide (x.code=5)||decide (x.prim.data.toList=[])))&&(opk (kndS x) regs 0 x.a&&opk (kndS x) regs 1 x.b&&opk (kndS x) regs 2 x.c&&opk (kndS x) regs 3 x.d)
theorem right_knd (x:Ins) (regs:Int):rightS x regs=rightK x regs:=by
  obtain ⟨k,p,a,b,c,d⟩:=x
  rcases (show k<1∨k>15∨k=5∨k=1∨k=2∨k=3∨k=4∨k=6∨k=7∨k=8∨k=9∨k=10∨k=11∨k=12∨k=13∨k=14∨k=15 by omega) with h|h|rfl|rfl|rfl|rfl|rfl|rfl|rfl|rfl|rfl|rfl|rfl|rfl|rfl|rfl|rfl
  ·have e1:formS ⟨k,p,a,b,c,d⟩=none:=by unfold formS;simp only;repeat rw [if_neg (by omega)]
   simp [rightS,rightK,e1,shpOk,h]
  ·have e1:formS ⟨k,p,a,b,c,d⟩=none:=by unfold formS;simp only;repeat rw [if_neg (by omega)]
   simp [rightS,rightK,e1,shpOk,h]
  ·cases hT:El.typesS p with
   |none=>
    have e1:formS ⟨5,p,a,b,c,d⟩=none:=by simp [formS,hT]
    simp [rightS,rightK,e1,shpOk,hT]
   |some r=>
    have e1:formS ⟨5,p,a,b,c,d⟩=some (List.replicate (1+r.ps.length) true):=by simp [formS,hT]
    have e2:kndS ⟨5,p,a,b,c,d⟩=kA r.ps.length:=by rw [kndS_5,hT]
    rcases typesS_len hT with h|h|h<;>rw [h] at e1 e2<;>rw [Bool.eq_iff_iff]<;>simp [rightS,rightK,e1,e2,shpOk,hT,oprOk,opk,kA,kindOk,restOk]
  all_goals (rw [Bool.eq_iff_iff];simp [rightS,formS,rightK,shpOk,oprOk,opk,kndS,kndL,kindOk,restOk])
  all_goals
    constructor
    ·rintro ⟨⟨h,h1⟩,h2⟩;exact ⟨h,by omega⟩
    ·rintro ⟨h,h1⟩;exact ⟨⟨h,by omega⟩,by omega⟩
noncomputable def V7:Env:=envJ (P:=Try.prog) jkV zer (fun _=>false) (fun _=>false) [con110,con111,con112] []
theorem V7_ok:EnvOk Try.prog V7:=envJOk zer_ok
set_option maxHeartbeats 8000000 in
theorem right_pc {x:Ins} {regs:Int}:PC Try.prog 80 [opV x,.lit (.int .i64 regs)] (.lit (.bool (rightS x regs))):=by
  obtain ⟨k,p,a,b,c,d⟩:=x
  rw [right_knd]
  simp only [opV]
  generalize hR:rightK ⟨k,p,a,b,c,d⟩ regs=R
  have hS:shpV ⟨k,p,a,b,c,d⟩= .tup [.agg [.lit (.string (namL k)),.sl false 1 (ints .i64 (kndS ⟨k,p,a,b,c,d⟩)),.lit (.bool (wrtB k)),.sl false 1 (ints .i64 (redS ⟨k,p,a,b,c,d⟩))],.lit (.bool (shpOk ⟨k,p,a,b,c,d⟩))]:=rfl
  simp only [rightK] at hR
  generalize kndS ⟨k,p,a,b,c,d⟩=L at hR hS
  generalize redS ⟨k,p,a,b,c,d⟩=M at hS
  generalize shpOk ⟨k,p,a,b,c,d⟩=ok at hR hS
  have hRR:=hR.symm
  have hLl:(ints .i64 L).length=L.length:=ints_length _ _
  cases ok with
  |false=>
   refine pcR V7_ok (kp80) Try.func80 [.tmp 4] (h:=fun KF=>?_)
   unfold V7
   repeat' (first
    |(with_reducible first|refine nx ?_|refine t_seq fun K=>?_|refine t_br (fun hc=>?_) fun hc=>?_|refine t_bx ?_|apply And.intro|intro vr)
    |((with_reducible first|refine ny ?_|refine t_dwh (h:=fun K KL=>?_));intros;simp only [go_sem,kp80,geff,hS,Bool.not_false]))
   all_goals try exact nd
   all_goals (refine nl ?_;simp only [go_sem])
   exact LeA.of_eq (by rw [hRR];simp)
  |true=>
   refine pcR V7_ok (kp80) Try.func80 [.tmp 4] (h:=fun KF=>?_)
   unfold V7
   repeat' (first
    |(with_reducible first|refine nx ?_|refine t_seq fun K=>?_|refine t_br (fun hc=>?_) fun hc=>?_|refine t_bx ?_|apply And.intro|intro vr)
    |((with_reducible first|refine ny ?_|refine t_dwh (h:=fun K KL=>?_));intros;simp only [go_sem,kp80,geff,hS,Bool.not_true]))
   all_goals try exact nd
   ·skip
    all_goals (refine nl ?_;simp only [go_sem])
    refine LeA.of_eq ?_
    rw [hRR]
    simp_all [eqS]
   have hpk:(decide (k=5)||decide (p.data.toList=[]))=true:=by
     have h1:=hc
     simp only [eqS,Bool.and_eq_false_iff,bne_eq_false_iff_eq,Bool.not_eq_false',beq_iff_eq] at h1
     rcases h1 with h1|h1
     ·simp [h1]
     ·rw [h1];simp
   refine t_loopF (ι:={i:Nat // i≤4∧∀ j,j<i→opk L regs j ([a,b,c,d].getD j 0)=true}) (fun i=>[(28,.lit (.int .i64 i.1))]) (fun i=>[.box 73 [.lit (.int .i64 k),.lit (.string p),.lit (.int .i64 a),.lit (.int .i64 b),.lit (.int .i64 c),.lit (.int .i64 d)],.box 164 [.lit (.string (namL k)),.sl false 1 (ints .i64 L),.lit (.bool (wrtB k)),.sl false 1 (ints .i64 M)]]) (fun i=>4 - i.1) ⟨0,by omega,by omega⟩ ?_ ?_
   ·exact lf
   rintro ⟨i,hi,hP⟩ K0
   rcases (show i=0∨i=1∨i=2∨i=3∨i=4 by omega) with rfl|rfl|rfl|rfl|rfl
   ·have h0:((((0:Nat):Int)):Int)=0:=rfl
    rcases Nat.lt_or_ge 0 L.length with hlt|hlt
    ·have g1:decide ((0:Int)<(L.length:Int))=true:=decide_eq_true (by omega)
     have g2:decide ((0:Int)≥(L.length:Int))=false:=decide_eq_false (by omega)
     cases hq:kindOk (L.getD 0 0) a regs with
     |true=>
      have hok:opk L regs 0 ([a,b,c,d].getD 0 0)=true:=by unfold opk;rw [if_pos hlt];exact hq
      repeat' (first
       |(with_reducible first|refine nx ?_|refine t_seq fun K=>?_|refine t_br (fun hc=>?_) fun hc=>?_|refine t_bx ?_|apply And.intro|intro vr)
       |((with_reducible first|refine ny ?_|refine t_dwh (h:=fun K KL=>?_));intros;simp only [go_sem,kp80,geff,h0,g1,g2,hq,yes]))
      all_goals try exact nd
      exact ⟨⟨0+1,by omega,stepP hP hok⟩,wf,lf⟩
     |false=>
      have hno:opk L regs 0 a=false:=by unfold opk;rw [if_pos hlt];exact hq
      repeat' (first
       |(with_reducible first|refine nx ?_|refine t_seq fun K=>?_|refine t_br (fun hc=>?_) fun hc=>?_|refine t_bx ?_|apply And.intro|intro vr)
       |((with_reducible first|refine ny ?_|refine t_dwh (h:=fun K KL=>?_));intros;simp only [go_sem,kp80,geff,h0,g1,g2,hq,yes]))
      all_goals try exact nd
      all_goals (refine nl ?_;simp only [go_sem])
      exact LeA.of_eq (by rw [hRR,hno];simp)
    ·have g1:decide ((0:Int)<(L.length:Int))=false:=decide_eq_false (by omega)
     have g2:decide ((0:Int)≥(L.length:Int))=true:=decide_eq_true (by omega)
     have hq:opk L regs 0 a=decide (a=0):=by unfold opk;rw [if_neg (by omega)]
     repeat' (first
      |(with_reducible first|refine nx ?_|refine t_seq fun K=>?_|refine t_br (fun hc=>?_) fun hc=>?_|refine t_bx ?_|apply And.intro|intro vr)
      |((with_reducible first|refine ny ?_|refine t_dwh (h:=fun K KL=>?_));intros;simp only [go_sem,kp80,geff,h0,g1,g2,yes]))
     all_goals try exact nd
     ·skip
      all_goals (refine nl ?_;simp only [go_sem])
      have hno:opk L regs 0 a=false:=by rw [hq];exact decide_eq_false (by simpa using hc)
      exact LeA.of_eq (by rw [hRR,hno];simp)
     ·have hok:opk L regs 0 ([a,b,c,d].getD 0 0)=true:=by
        show opk L regs 0 a=true
        rw [hq];exact decide_eq_true (by simpa using hc)
      exact ⟨⟨0+1,by omega,stepP hP hok⟩,wf,lf⟩
   ·have h0:((((1:Nat):Int)):Int)=1:=rfl
    rcases Nat.lt_or_ge 1 L.length with hlt|hlt
    ·have g1:decide ((1:Int)<(L.length:Int))=true:=decide_eq_true (by omega)
     have g2:decide ((1:Int)≥(L.length:Int))=false:=decide_eq_false (by omega)
     cases hq:kindOk (L.getD 1 0) b regs with
     |true=>
      have hok:opk L regs 1 ([a,b,c,d].getD 1 0)=true:=by unfold opk;rw [if_pos hlt];exact hq
      repeat' (first
       |(with_reducible first|refine nx ?_|refine t_seq fun K=>?_|refine t_br (fun hc=>?_) fun hc=>?_|refine t_bx ?_|apply And.intro|intro vr)
       |((with_reducible first|refine ny ?_|refine t_dwh (h:=fun K KL=>?_));intros;simp only [go_sem,kp80,geff,h0,g1,g2,hq,yes]))
      all_goals try exact nd
      exact ⟨⟨1+1,by omega,stepP hP hok⟩,wf,lf⟩
     |false=>
      have hno:opk L regs 1 b=false:=by unfold opk;rw [if_pos hlt];exact hq
      repeat' (first
       |(with_reducible first|refine nx ?_|refine t_seq fun K=>?_|refine t_br (fun hc=>?_) fun hc=>?_|refine t_bx ?_|apply And.intro|intro vr)
       |((with_reducible first|refine ny ?_|refine t_dwh (h:=fun K KL=>?_));intros;simp only [go_sem,kp80,geff,h0,g1,g2,hq,yes]))
      all_goals try exact nd
      all_goals (refine nl ?_;simp only [go_sem])
      exact LeA.of_eq (by rw [hRR,hno];simp)
    ·have g1:decide ((1:Int)<(L.length:Int))=false:=decide_eq_false (by omega)
     have g2:decide ((1:Int)≥(L.length:Int))=true:=decide_eq_true (by omega)
     have hq:opk L regs 1 b=decide (b=0):=by unfold opk;rw [if_neg (by omega)]
     repeat' (first
      |(with_reducible first|refine nx ?_|refine t_seq fun K=>?_|refine t_br (fun hc=>?_) fun hc=>?_|refine t_bx ?_|apply And.intro|intro vr)
      |((with_reducible first|refine ny ?_|refine t_dwh (h:=fun K KL=>?_));intros;simp only [go_sem,kp80,geff,h0,g1,g2,yes]))
     all_goals try exact nd
     ·skip
      all_goals (refine nl ?_;simp only [go_sem])
      have hno:opk L regs 1 b=false:=by rw [hq];exact decide_eq_false (by simpa using hc)
      exact LeA.of_eq (by rw [hRR,hno];simp)
     ·have hok:opk L regs 1 ([a,b,c,d].getD 1 0)=true:=by
        show opk L regs 1 b=true
        rw [hq];exact decide_eq_true (by simpa using hc)
      exact ⟨⟨1+1,by omega,stepP hP hok⟩,wf,lf⟩
   ·have h0:((((2:Nat):Int)):Int)=2:=rfl
    rcases Nat.lt_or_ge 2 L.length with hlt|hlt
    ·have g1:decide ((2:Int)<(L.length:Int))=true:=decide_eq_true (by omega)
     have g2:decide ((2:Int)≥(L.length:Int))=false:=decide_eq_false (by omega)
     cases hq:kindOk (L.getD 2 0) c regs with
     |true=>
      have hok:opk L regs 2 ([a,b,c,d].getD 2 0)=true:=by unfold opk;rw [if_pos hlt];exact hq
      repeat' (first
       |(with_reducible first|refine nx ?_|refine t_seq fun K=>?_|refine t_br (fun hc=>?_) fun hc=>?_|refine t_bx ?_|apply And.intro|intro vr)
       |((with_reducible first|refine ny ?_|refine t_dwh (h:=fun K KL=>?_));intros;simp only [go_sem,kp80,geff,h0,g1,g2,hq,yes]))
      all_goals try exact nd
      exact ⟨⟨2+1,by omega,stepP hP hok⟩,wf,lf⟩
     |false=>
      have hno:opk L regs 2 c=false:=by unfold opk;rw [if_pos hlt];exact hq
      repeat' (first
       |(with_reducible first|refine nx ?_|refine t_seq fun K=>?_|refine t_br (fun hc=>?_) fun hc=>?_|refine t_bx ?_|apply And.intro|intro vr)
       |((with_reducible first|refine ny ?_|refine t_dwh (h:=fun K KL=>?_));intros;simp only [go_sem,kp80,geff,h0,g1,g2,hq,yes]))
      all_goals try exact nd
      all_goals (refine nl ?_;simp only [go_sem])
      exact LeA.of_eq (by rw [hRR,hno];simp)
    ·have g1:decide ((2:Int)<(L.length:Int))=false:=decide_eq_false (by omega)
     have g2:decide ((2:Int)≥(L.length:Int))=true:=decide_eq_true (by omega)
     have hq:opk L regs 2 c=decide (c=0):=by unfold opk;rw [if_neg (by omega)]
     repeat' (first
      |(with_reducible first|refine nx ?_|refine t_seq fun K=>?_|refine t_br (fun hc=>?_) fun hc=>?_|refine t_bx ?_|apply And.intro|intro vr)
      |((with_reducible first|refine ny ?_|refine t_dwh (h:=fun K KL=>?_));intros;simp only [go_sem,kp80,geff,h0,g1,g2,yes]))
     all_goals try exact nd
     ·skip
      all_goals (refine nl ?_;simp only [go_sem])
      have hno:opk L regs 2 c=false:=by rw [hq];exact decide_eq_false (by simpa using hc)
      exact LeA.of_eq (by rw [hRR,hno];simp)
     ·have hok:opk L regs 2 ([a,b,c,d].getD 2 0)=true:=by
        show opk L regs 2 c=true
        rw [hq];exact decide_eq_true (by simpa using hc)
      exact ⟨⟨2+1,by omega,stepP hP hok⟩,wf,lf⟩
   ·have h0:((((3:Nat):Int)):Int)=3:=rfl
    rcases Nat.lt_or_ge 3 L.length with hlt|hlt
    ·have g1:decide ((3:Int)<(L.length:Int))=true:=decide_eq_true (by omega)
     have g2:decide ((3:Int)≥(L.length:Int))=false:=decide_eq_false (by omega)
     cases hq:kindOk (L.getD 3 0) d regs with
     |true=>
      have hok:opk L regs 3 ([a,b,c,d].getD 3 0)=true:=by unfold opk;rw [if_pos hlt];exact hq
      repeat' (first
       |(with_reducible first|refine nx ?_|refine t_seq fun K=>?_|refine t_br (fun hc=>?_) fun hc=>?_|refine t_bx ?_|apply And.intro|intro vr)
       |((with_reducible first|refine ny ?_|refine t_dwh (h:=fun K KL=>?_));intros;simp only [go_sem,kp80,geff,h0,g1,g2,hq,yes]))
      all_goals try exact nd
      exact ⟨⟨3+1,by omega,stepP hP hok⟩,wf,lf⟩
     |false=>
      have hno:opk L regs 3 d=false:=by unfold opk;rw [if_pos hlt];exact hq
      repeat' (first
       |(with_reducible first|refine nx ?_|refine t_seq fun K=>?_|refine t_br (fun hc=>?_) fun hc=>?_|refine t_bx ?_|apply And.intro|intro vr)
       |((with_reducible first|refine ny ?_|refine t_dwh (h:=fun K KL=>?_));intros;simp only [go_sem,kp80,geff,h0,g1,g2,hq,yes]))
      all_goals try exact nd
      all_goals (refine nl ?_;simp only [go_sem])
      exact LeA.of_eq (by rw [hRR,hno];simp)
    ·have g1:decide ((3:Int)<(L.length:Int))=false:=decide_eq_false (by omega)
     have g2:decide ((3:Int)≥(L.length:Int))=true:=decide_eq_true (by omega)
     have hq:opk L regs 3 d=decide (d=0):=by unfold opk;rw [if_neg (by omega)]
     repeat' (first
      |(with_reducible first|refine nx ?_|refine t_seq fun K=>?_|refine t_br (fun hc=>?_) fun hc=>?_|refine t_bx ?_|apply And.intro|intro vr)
      |((with_reducible first|refine ny ?_|refine t_dwh (h:=fun K KL=>?_));intros;simp only [go_sem,kp80,geff,h0,g1,g2,yes]))
     all_goals try exact nd
     ·skip
      all_goals (refine nl ?_;simp only [go_sem])
      have hno:opk L regs 3 d=false:=by rw [hq];exact decide_eq_false (by simpa using hc)
      exact LeA.of_eq (by rw [hRR,hno];simp)
     ·have hok:opk L regs 3 ([a,b,c,d].getD 3 0)=true:=by
        show opk L regs 3 d=true
        rw [hq];exact decide_eq_true (by simpa using hc)
      exact ⟨⟨3+1,by omega,stepP hP hok⟩,wf,lf⟩
   ·have hR4:R=true:=by
      rw [hRR,show opk L regs 0 a=true from hP 0 (by omega),show opk L regs 1 b=true from hP 1 (by omega),show opk L regs 2 c=true from hP 2 (by omega),show opk L regs 3 d=true from hP 3 (by omega),hpk]
      rfl
    have h0:((((4:Nat):Int)):Int)=4:=rfl
    repeat' (first
     |(with_reducible first|refine nx ?_|refine t_seq fun K=>?_|refine t_br (fun hc=>?_) fun hc=>?_|refine t_bx ?_|apply And.intro|intro vr)
     |((with_reducible first|refine ny ?_|refine t_dwh (h:=fun K KL=>?_));intros;simp only [go_sem,kp80,geff,h0]))
    all_goals try exact nd
    all_goals (refine nl ?_;simp only [go_sem])
    exact LeA.of_eq (by rw [hR4])
noncomputable def con80:PCon Try.prog where
  f:=80
  c:=fun
   |[xx,.lit (.int .i64 r)]=>match opOf xx with|some x=>some (True,.lit (.bool (rightS x r)))|_=>none
   |_=>none
  ok:=by
   intro args p r hc hp
   split at hc
   ·split at hc
    ·rename_i hx
     cases hc
     exact PC.weak right_pc ⟨opOf_le hx,LeA.refl _,trivial⟩
    ·cases hc
   ·cases hc
  fk:=fk80
theorem con80_f:con80.f=80:=rfl
theorem con80_c {xx:AV} {r:Int}:con80.c [xx,.lit (.int .i64 r)]=match opOf xx with|some x=>some (True,.lit (.bool (rightS x r)))|_=>none:=rfl
attribute [go_sem] con80_f con80_c
end Go.Proofs.Ytnlimcijgpaegaa

namespace Go.Proofs.Ytnlimcijgpaegaa
open Go Go.Fw Bm
set_option maxRecDepth 20000
def opAt (a b c d m:Int):Int:=[a,b,c,d].getD m.toNat 0
theorem reads_red (k:Int) (p:ByteArray) (a b c d:Int):readsS ⟨k,p,a,b,c,d⟩=(redS ⟨k,p,a,b,c,d⟩).map (opAt a b c d):=by
  rcases (show k<1∨k>15∨k=5∨k=1∨k=2∨k=3∨k=4∨k=6∨k=7∨k=8∨k=9∨k=10∨k=11∨k=12∨k=13∨k=14∨k=15 by omega) with h|h|rfl|rfl|rfl|rfl|rfl|rfl|rfl|rfl|rfl|rfl|rfl|rfl|rfl|rfl|rfl
  ·have e1:formS ⟨k,p,a,b,c,d⟩=none:=by unfold formS;simp only;repeat rw [if_neg (by omega)]
   have e2:redS ⟨k,p,a,b,c,d⟩=[]:=by unfold redS redL;repeat rw [if_neg (by simp only;omega)]
   simp [readsS,e1,e2]
  ·have e1:formS ⟨k,p,a,b,c,d⟩=none:=by unfold formS;simp only;repeat rw [if_neg (by omega)]
   have e2:redS ⟨k,p,a,b,c,d⟩=[]:=by unfold redS redL;repeat rw [if_neg (by simp only;omega)]
   simp [readsS,e1,e2]
  ·cases hT:El.typesS p with
   |none=>
    have e1:formS ⟨5,p,a,b,c,d⟩=none:=by simp [formS,hT]
    simp [readsS,e1,redS_5,hT]
   |some r=>
    have e1:formS ⟨5,p,a,b,c,d⟩=some (List.replicate (1+r.ps.length) true):=by simp [formS,hT]
    have e2:redS ⟨5,p,a,b,c,d⟩=rB r.ps.length:=by rw [redS_5,hT]
    rcases typesS_len hT with h|h|h<;>rw [h] at e1 e2<;>simp only [readsS,e1,e2]<;>rfl
  all_goals rfl
theorem redS_lit {k a b c d:Int} {p:ByteArray} (h:k≠5):redS ⟨k,p,a,b,c,d⟩=redL k:=if_neg h
theorem mem_getD {l:List Int} {i:Nat} (h:i<l.length):l.getD i 0∈l:=by
  rw [List.getD_eq_getElem?_getD,List.getElem?_eq_getElem h];exact List.getElem_mem h
theorem redS_bd (x:Ins):(redS x).length≤3∧∀ m∈redS x,m=0∨m=1∨m=2∨m=3:=by
  obtain ⟨k,p,a,b,c,d⟩:=x
  rcases (show k<1∨k>15∨k=5∨k=1∨k=2∨k=3∨k=4∨k=6∨k=7∨k=8∨k=9∨k=10∨k=11∨k=12∨k=13∨k=14∨k=15 by omega) with h|h|rfl|rfl|rfl|rfl|rfl|rfl|rfl|rfl|rfl|rfl|rfl|rfl|rfl|rfl|rfl
  ·have e2:redS ⟨k,p,a,b,c,d⟩=[]:=by unfold redS redL;repeat rw [if_neg (by simp only;omega)]
   rw [e2];simp
  ·have e2:redS ⟨k,p,a,b,c,d⟩=[]:=by unfold redS redL;repeat rw [if_neg (by simp only;omega)]
   rw [e2];simp
  ·cases hT:El.typesS p with
   |none=>rw [redS_5,hT];simp
   |some r=>
    have e2:redS ⟨5,p,a,b,c,d⟩=rB r.ps.length:=by rw [redS_5,hT]
    rw [e2]
    rcases typesS_len hT with h|h|h<;>rw [h]<;>exact ⟨by decide,by decide⟩
  all_goals (rw [redS_lit (by decide)];exact ⟨by decide,by decide⟩)
noncomputable def V8:Env:=envJ (P:=Try.prog) jkV zer (fun _=>false) (fun _=>false) [con110,con111] []
theorem V8_ok:EnvOk Try.prog V8:=envJOk zer_ok
set_option maxHeartbeats 8000000 in
theorem reads_pc {x:Ins}:PC Try.prog 115 [opV x] (.sl false 1 (ints .i64 (readsS x))):=by
  obtain ⟨hM,hB⟩:=redS_bd x
  obtain ⟨k,p,a,b,c,d⟩:=x
  rw [reads_red]
  simp only [opV]
  have hS:shpV ⟨k,p,a,b,c,d⟩= .tup [.agg [.lit (.string (namL k)),.sl false 1 (ints .i64 (kndS ⟨k,p,a,b,c,d⟩)),.lit (.bool (wrtB k)),.sl false 1 (ints .i64 (redS ⟨k,p,a,b,c,d⟩))],.lit (.bool (shpOk ⟨k,p,a,b,c,d⟩))]:=rfl
  generalize kndS ⟨k,p,a,b,c,d⟩=L at hS
  generalize redS ⟨k,p,a,b,c,d⟩=M at hS hM hB
  generalize shpOk ⟨k,p,a,b,c,d⟩=ok at hS
  have hMl:(ints .i64 M).length=M.length:=ints_length _ _
  refine pcR V8_ok (kp115) Try.func115 [.tmp 2] (h:=fun KF=>?_)
  unfold V8
  repeat' (first
   |(with_reducible first|refine nx ?_|refine t_seq fun K=>?_|refine t_br (fun hc=>?_) fun hc=>?_|refine t_bx ?_|apply And.intro|intro vr)
   |((with_reducible first|refine ny ?_|refine t_dwh (h:=fun K KL=>?_));intros;simp only [go_sem,kp115,geff,hS]))
  all_goals try exact nd
  refine t_loopF (ι:={q:Nat×Nat // q.1≤M.length}) (fun i=>[(16,.lit (.int .i64 i.1.1)),(5,.arr 2 i.1.2)]) (fun i=>[.box 73 [.lit (.int .i64 k),.lit (.string p),.lit (.int .i64 a),.lit (.int .i64 b),.lit (.int .i64 c),.lit (.int .i64 d)],.box 164 [.lit (.string (namL k)),.sl false 1 (ints .i64 L),.lit (.bool (wrtB k)),.sl false 1 (ints .i64 M)],.arr 3 1 (ints .i64 ((M.take i.1.1).map (opAt a b c d))) i.1.2 false]) (fun i=>M.length - i.1.1) ⟨(0,0),by simp⟩ ?_ ?_
  ·refine (le_nil 5 3 1 rfl).trans ?_
   exact lf
  rintro ⟨⟨i,v⟩,hi⟩ K0
  simp only at hi
  rcases Nat.lt_or_ge i M.length with hc|hc
  ·have g3:decide ((i:Int)<(M.length:Int))=true:=decide_eq_true (by omega)
   have hn:((M.take i).map (opAt a b c d)).length=i:=by simp;omega
   have hap:∀ n:Int,ints .i64 ((M.take i).map (opAt a b c d))++[.lit (.int .i64 n)]=ints .i64 ((M.take i).map (opAt a b c d)++[n]):=fun n=>ints_append1 _ _ _
   have htk:∀ m,M.getD i 0=m→(M.take i).map (opAt a b c d)++[opAt a b c d m]=(M.take (i+1)).map (opAt a b c d):=fun m hm=>by
     rw [List.take_add_one,List.getElem?_eq_getElem hc,List.map_append]
     rw [List.getD_eq_getElem?_getD,List.getElem?_eq_getElem hc] at hm
     simp only [Option.getD_some] at hm
     rw [hm];rfl
   rcases hB _ (mem_getD hc) with hm|hm|hm|hm
   ·have hq:(M.take i).map (opAt a b c d)++[a]=(M.take (i+1)).map (opAt a b c d):=htk 0 hm
    repeat' (first
     |(with_reducible first|refine nx ?_|refine t_seq fun K=>?_|refine t_br (fun hc=>?_) fun hc=>?_|refine t_bx ?_|apply And.intro|intro vr)
     |((with_reducible first|refine ny ?_|refine t_dwh (h:=fun K KL=>?_));intros;simp only [go_sem,kp115,geff,g3,hm,hap,hq,Int.toNat_natCast,yes]))
    all_goals try exact nd
    exact ⟨⟨(i+1,v+1),by simp only;omega⟩,wf,lf⟩
   ·have hq:(M.take i).map (opAt a b c d)++[b]=(M.take (i+1)).map (opAt a b c d):=htk 1 hm
    repeat' (first
     |(with_reducible first|refine nx ?_|refine t_seq fun K=>?_|refine t_br (fun hc=>?_) fun hc=>?_|refine t_bx ?_|apply And.intro|intro vr)
     |((with_reducible first|refine ny ?_|refine t_dwh (h:=fun K KL=>?_));intros;simp only [go_sem,kp115,geff,g3,hm,hap,hq,Int.toNat_natCast,yes]))
    all_goals try exact nd
    exact ⟨⟨(i+1,v+1),by simp only;omega⟩,wf,lf⟩
   ·have hq:(M.take i).map (opAt a b c d)++[c]=(M.take (i+1)).map (opAt a b c d):=htk 2 hm
    repeat' (first
     |(with_reducible first|refine nx ?_|refine t_seq fun K=>?_|refine t_br (fun hc=>?_) fun hc=>?_|refine t_bx ?_|apply And.intro|intro vr)
     |((with_reducible first|refine ny ?_|refine t_dwh (h:=fun K KL=>?_));intros;simp only [go_sem,kp115,geff,g3,hm,hap,hq,Int.toNat_natCast,yes]))
    all_goals try exact nd
    exact ⟨⟨(i+1,v+1),by simp only;omega⟩,wf,lf⟩
   ·have hq:(M.take i).map (opAt a b c d)++[d]=(M.take (i+1)).map (opAt a b c d):=htk 3 hm
    repeat' (first
     |(with_reducible first|refine nx ?_|refine t_seq fun K=>?_|refine t_br (fun hc=>?_) fun hc=>?_|refine t_bx ?_|apply And.intro|intro vr)
     |((with_reducible first|refine ny ?_|refine t_dwh (h:=fun K KL=>?_));intros;simp only [go_sem,kp115,geff,g3,hm,hap,hq,Int.toNat_natCast,yes]))
    all_goals try exact nd
    exact ⟨⟨(i+1,v+1),by simp only;omega⟩,wf,lf⟩
  ·have g3:decide ((i:Int)<(M.length:Int))=false:=decide_eq_false (by omega)
   have e:M.take i=M:=List.take_of_length_le hc
   repeat' (first
    |(with_reducible first|refine nx ?_|refine t_seq fun K=>?_|refine t_br (fun hc=>?_) fun hc=>?_|refine t_bx ?_|apply And.intro|intro vr)
    |((with_reducible first|refine ny ?_|refine t_dwh (h:=fun K KL=>?_));intros;simp only [go_sem,kp115,geff,g3,e]))
   all_goals try exact nd
   all_goals (refine nl ?_;simp only [go_sem])
   exact LeA.slx rfl
noncomputable def con115:PCon Try.prog where
  f:=115
  c:=fun
   |[xx]=>match opOf xx with|some x=>some (True,.sl false 1 (ints .i64 (readsS x)))|_=>none
   |_=>none
  ok:=by
   intro args p r hc hp
   split at hc
   ·split at hc
    ·rename_i hx
     cases hc
     exact PC.weak reads_pc ⟨opOf_le hx,trivial⟩
    ·cases hc
   ·cases hc
  fk:=fk115
theorem con115_f:con115.f=115:=rfl
theorem con115_c {xx:AV}:con115.c [xx]=match opOf xx with|some x=>some (True,.sl false 1 (ints .i64 (readsS x)))|_=>none:=rfl
attribute [go_sem] con115_f con115_c
end Go.Proofs.Ytnlimcijgpaegaa

namespace Go.Proofs.Ytnlimcijgpaegaa
open Go Go.Fw Bm
set_option maxRecDepth 20000
theorem opV_mk {k a b c d:Int} {p:ByteArray}:opV ⟨k,p,a,b,c,d⟩= .agg [.lit (.int .i64 k),.lit (.string p),.lit (.int .i64 a),.lit (.int .i64 b),.lit (.int .i64 c),.lit (.int .i64 d)]:=rfl
attribute [go_sem] opV_mk
def stI (st:List Nat):List Int:=st.reverse.map fun n:Nat=>(n:Int)
theorem stI_cons (j:Nat) (st:List Nat):stI (j::st)=stI st++[(j:Int)]:=by simp [stI]
theorem stI_length (st:List Nat):(stI st).length=st.length:=by simp [stI]
def matchV (ops:List Ins):AV:=match matchS ops with
  |some mt=> .tup [.sl false 1 (ints .i64 mt),.lit (.bool true)]
  |none=> .tup [.sl false 1 [],.lit (.bool false)]
def mtV (r:Option (List Int)):AV:=match r with
  |some mt=> .tup [.sl false 1 (ints .i64 mt),.lit (.bool true)]
  |none=> .tup [.sl false 1 [],.lit (.bool false)]
theorem drop_getI {l:List Ins} {i:Nat} (h:i<l.length):l.drop i=l.getD i nilI::l.drop (i+1):=by
  rw [List.drop_eq_getElem_cons h,List.getD_eq_getElem?_getD,List.getElem?_eq_getElem h];rfl
theorem mt_none {r:Option (List Int)} (h:r=none):LeA (.tup [.lit (.slice none 0 0),.lit (.bool false)]) (mtV r):=by
  subst h;exact LeA.tup ⟨LeA.nil _ _,LeA.refl _,trivial⟩
theorem mt_some {r:Option (List Int)} {l:List Int} (h:r=some l):LeA (.tup [.sl false 1 (ints .i64 l),.lit (.bool true)]) (mtV r):=by
  subst h;exact LeA.refl _
theorem stP {i:Nat} {st:List Nat} (hs:∀ j∈st,j<i):∀ j∈i::st,j<i+1:=fun j hj=>(List.mem_cons.1 hj).elim (fun h=>by omega) (fun h=>by have:=hs j h;omega)
theorem stQ {i j:Nat} {st:List Nat} (hs:∀ k∈j::st,k<i):∀ k∈st,k<i:=fun k hk=>hs k (List.mem_cons_of_mem _ hk)
theorem stW {i:Nat} {st:List Nat} (hs:∀ j∈st,j<i):∀ j∈st,j<i+1:=fun j hj=>by have:=hs j hj;omega
theorem stI_last (j:Nat) (st:List Nat):(stI (j::st)).getD st.length 0=(j:Int):=by
  rw [stI_cons,getD_app_right _ _ _ (by rw [stI_length];exact Nat.le_refl _),stI_length,Nat.sub_self];rfl
theorem stI_take (j:Nat) (st:List Nat):(ints .i64 (stI (j::st))).take st.length=ints .i64 (stI st):=by
  rw [stI_cons]
  simp only [ints,List.map_append]
  rw [List.take_append_of_le_length (by simp [stI_length]),List.take_of_length_le (by simp [stI_length])]
theorem stI_tk (j:Nat) (st:List Nat):(stI (j::st)).take (0+st.length)=stI st:=by
  rw [Nat.zero_add,stI_cons,List.take_append_of_le_length (by simp [stI_length]),List.take_of_length_le (by simp [stI_length])]
theorem stI_n0:((stI []).length:Int) - 1= -1:=rfl
theorem stI_n1 (j:Nat) (st:List Nat):((stI (j::st)).length:Int) - 1=(st.length:Int):=by rw [stI_length,List.length_cons];omega
noncomputable def V9:Env:=envJ (P:=Try.prog) jkV zer (fun _=>false) (fun _=>false) [] []
theorem V9_ok:EnvOk Try.prog V9:=envJOk zer_ok
structure Mt (ops:List Ins) (R:Option (List Int)) where
  i:Nat
  u:Nat
  v:Nat
  out:List Int
  st:List Nat
  hi:i≤ops.length
  ho:out.length=i
  hs:∀ j∈st,j<i
  h4:st.length≤40
  hF:matchG ops (ops.drop i) i out st=R
set_option maxHeartbeats 8000000 in
theorem match_pc {ops:List Ins} (hl:ops.length≤1000000):PC Try.prog 45 [.sl false 6 (opsV ops)] (matchV ops):=by
  show PC _ _ _ (mtV (matchS ops))
  generalize hR:matchS ops=R
  unfold matchS at hR
  by_cases hn:ops.length>5000
  ·rw [if_pos hn] at hR
   have g1:decide ((ops.length:Int)>5000)=true:=decide_eq_true (by omega)
   refine pcR V9_ok (kp45) Try.func45 [.tmp 2,.tmp 3] (h:=fun KF=>?_)
   unfold V9
   repeat' (first
    |(with_reducible first|refine nx ?_|refine t_seq fun K=>?_|refine t_br (fun hc=>?_) fun hc=>?_|refine t_bx ?_|apply And.intro|intro vr)
    |((with_reducible first|refine ny ?_|refine t_dwh (h:=fun K KL=>?_));intros;simp only [go_sem,kp45,geff,g1]))
   all_goals try exact nd
   all_goals (refine nl ?_;simp only [go_sem])
   exact mt_none hR.symm
  ·rw [if_neg hn] at hR
   have g1:decide ((ops.length:Int)>5000)=false:=decide_eq_false (by omega)
   refine pcR V9_ok (kp45) Try.func45 [.tmp 2,.tmp 3] (h:=fun KF=>?_)
   unfold V9
   repeat' (first
    |(with_reducible first|refine nx ?_|refine t_seq fun K=>?_|refine t_br (fun hc=>?_) fun hc=>?_|refine t_bx ?_|apply And.intro|intro vr)
    |((with_reducible first|refine ny ?_|refine t_dwh (h:=fun K KL=>?_));intros;simp only [go_sem,kp45,geff,g1]))
   all_goals try exact nd
   refine t_loopF (ι:=Mt ops R) (fun i=>[(14,.lit (.int .i64 i.i)),(4,.arr 0 i.u),(5,.arr 1 i.v)]) (fun i=>[.arr 3 1 (ints .i64 i.out) i.u false,.arr 3 1 (ints .i64 (stI i.st)) i.v false]) (fun i=>ops.length - i.i) ⟨0,0,0,[],[],by omega,rfl,by simp,by simp,by simpa using hR⟩ ?_ ?_
   ·refine (le_nil 4 3 1 rfl).trans ?_
    refine (le_nil 5 3 1 rfl).trans ?_
    exact lf
   rintro ⟨i,u,v,out,st,hi,ho,hs,h4,hF⟩ K0
   have hol:(ints .i64 out).length=i:=by rw [ints_length,ho]
   have hsl:(ints .i64 (stI st)).length=st.length:=by rw [ints_length,stI_length]
   rcases Nat.lt_or_ge i ops.length with hc|hc
   ·have g3:decide ((i:Int)<(ops.length:Int))=true:=decide_eq_true (by omega)
    have hap:∀ n:Int,ints .i64 out++[.lit (.int .i64 n)]=ints .i64 (out++[n]):=fun n=>ints_append1 _ _ _
    have has:∀ n:Int,ints .i64 (stI st)++[.lit (.int .i64 n)]=ints .i64 (stI st++[n]):=fun n=>ints_append1 _ _ _
    rw [drop_getI hc] at hF
    generalize hx:ops.getD i nilI=x at hF
    obtain ⟨k,p,a,b,c,d⟩:=x
    simp only [matchG] at hF
    rcases (show k=10∨k=11∨k=12∨k=13∨(k≠10∧k≠11∧k≠12∧k≠13) by omega) with rfl|rfl|rfl|rfl|hk
    ·rw [if_pos (by omega)] at hF
     have hnx:stI st++[(i:Int)]=stI (i::st):=(stI_cons i st).symm
     by_cases h40:st.length≥40
     ·rw [if_pos h40] at hF
      have k5:decide ((st.length:Int)+1>40)=true:=decide_eq_true (by omega)
      repeat' (first
       |(with_reducible first|refine nx ?_|refine t_seq fun K=>?_|refine t_br (fun hc=>?_) fun hc=>?_|refine t_bx ?_|apply And.intro|intro vr)
       |((with_reducible first|refine ny ?_|refine t_dwh (h:=fun K KL=>?_));intros;simp only [go_sem,kp45,geff,g3,hx,k5,hap,has,hol,hnx,stI_length,List.length_cons,Int.natCast_add,Int.natCast_one,Int.toNat_natCast,yes]))
      all_goals try exact nd
      all_goals (refine nl ?_;simp only [go_sem])
      exact mt_none hF.symm
     ·rw [if_neg h40] at hF
      have k5:decide ((st.length:Int)+1>40)=false:=decide_eq_false (by omega)
      repeat' (first
       |(with_reducible first|refine nx ?_|refine t_seq fun K=>?_|refine t_br (fun hc=>?_) fun hc=>?_|refine t_bx ?_|apply And.intro|intro vr)
       |((with_reducible first|refine ny ?_|refine t_dwh (h:=fun K KL=>?_));intros;simp only [go_sem,kp45,geff,g3,hx,k5,hap,has,hol,hnx,stI_length,List.length_cons,Int.natCast_add,Int.natCast_one,Int.toNat_natCast,yes]))
      all_goals try exact nd
      refine ⟨⟨i+1,u+1,v+1,out++[(i:Int)],i::st,by omega,by simp [ho],stP hs,by simp only [List.length_cons];omega,hF⟩,by first|(simp only;omega)|omega,?_⟩
      try simp only [updL_nil,updL_cons,delF_top,delF_upd,Nat.reduceEqDiff,reduceIte]
      refine le_backD (by first|rfl|(simp only [go_sem];try rfl)) (by first|exact Nat.zero_le _|simp) (by first|rfl|simp [lowO,low_lit,low_sl,low_ref,low_arr,low_sub,low_mp]) ?_ ?_
      ·repeat' (first|exact low_top|(refine low_upd rfl ?_))
      repeat' (first|exact leF_top _|exact (fun _=>LeR.refl _)|(with_reducible refine leF_sl ?_ ?_)|(refine leF_upd ?_ ?_))
      all_goals (first|exact LeR.top _|exact LeR.refl _|(refine LeR.of_eq ?_;(try simp only [go_sem]);try rfl)|((try simp only [go_sem]);try rfl))
    ·rw [if_pos (by omega)] at hF
     have hnx:stI st++[(i:Int)]=stI (i::st):=(stI_cons i st).symm
     by_cases h40:st.length≥40
     ·rw [if_pos h40] at hF
      have k5:decide ((st.length:Int)+1>40)=true:=decide_eq_true (by omega)
      repeat' (first
       |(with_reducible first|refine nx ?_|refine t_seq fun K=>?_|refine t_br (fun hc=>?_) fun hc=>?_|refine t_bx ?_|apply And.intro|intro vr)
       |((with_reducible first|refine ny ?_|refine t_dwh (h:=fun K KL=>?_));intros;simp only [go_sem,kp45,geff,g3,hx,k5,hap,has,hol,hnx,stI_length,List.length_cons,Int.natCast_add,Int.natCast_one,Int.toNat_natCast,yes]))
      all_goals try exact nd
      all_goals (refine nl ?_;simp only [go_sem])
      exact mt_none hF.symm
     ·rw [if_neg h40] at hF
      have k5:decide ((st.length:Int)+1>40)=false:=decide_eq_false (by omega)
      repeat' (first
       |(with_reducible first|refine nx ?_|refine t_seq fun K=>?_|refine t_br (fun hc=>?_) fun hc=>?_|refine t_bx ?_|apply And.intro|intro vr)
       |((with_reducible first|refine ny ?_|refine t_dwh (h:=fun K KL=>?_));intros;simp only [go_sem,kp45,geff,g3,hx,k5,hap,has,hol,hnx,stI_length,List.length_cons,Int.natCast_add,Int.natCast_one,Int.toNat_natCast,yes]))
      all_goals try exact nd
      refine ⟨⟨i+1,u+1,v+1,out++[(i:Int)],i::st,by omega,by simp [ho],stP hs,by simp only [List.length_cons];omega,hF⟩,by first|(simp only;omega)|omega,?_⟩
      try simp only [updL_nil,updL_cons,delF_top,delF_upd,Nat.reduceEqDiff,reduceIte]
      refine le_backD (by first|rfl|(simp only [go_sem];try rfl)) (by first|exact Nat.zero_le _|simp) (by first|rfl|simp [lowO,low_lit,low_sl,low_ref,low_arr,low_sub,low_mp]) ?_ ?_
      ·repeat' (first|exact low_top|(refine low_upd rfl ?_))
      repeat' (first|exact leF_top _|exact (fun _=>LeR.refl _)|(with_reducible refine leF_sl ?_ ?_)|(refine leF_upd ?_ ?_))
      all_goals (first|exact LeR.top _|exact LeR.refl _|(refine LeR.of_eq ?_;(try simp only [go_sem]);try rfl)|((try simp only [go_sem]);try rfl))
    ·rw [if_neg (by omega),if_pos rfl] at hF
     cases st with
     |nil=>
      have k6:decide ((-1:Int)<0)=true:=by decide
      repeat' (first
       |(with_reducible first|refine nx ?_|refine t_seq fun K=>?_|refine t_br (fun hc=>?_) fun hc=>?_|refine t_bx ?_|apply And.intro|intro vr)
       |((with_reducible first|refine ny ?_|refine t_dwh (h:=fun K KL=>?_));intros;simp only [go_sem,kp45,geff,g3,hx,hap,hol,stI_n0,k6,Int.toNat_natCast,yes]))
      all_goals try exact nd
      all_goals (refine nl ?_;simp only [go_sem])
      exact mt_none hF.symm
     |cons j st=>
      have hj:=hs j (List.mem_cons_self ..)
      have h4s:st.length≤39:=by simp only [List.length_cons] at h4;omega
      have hL:=stI_length st
      have hLj:(stI (j::st)).length=st.length+1:=stI_length (j::st)
      have k6:decide ((st.length:Int)<0)=false:=decide_eq_false (by omega)
      have hso:∀ n:Int,(ints .i64 (out++[(i:Int)])).set j (.lit (.int .i64 n))=ints .i64 ((out++[(i:Int)]).set j n):=fun n=>ints_set _ _ _ _
      simp only at hF
      generalize hy:ops.getD j nilI=y at hF
      obtain ⟨k',p',a',b',c',d'⟩:=y
      simp only at hF
      by_cases h11:k'=11
      ·rw [if_pos h11] at hF
       have k7:(k' !=11)=false:=by simp [h11]
       have hnx:ints .i64 (stI st)++[.lit (.int .i64 (i:Int))]=ints .i64 (stI (i::st)):=by rw [stI_cons];exact ints_append1 _ _ _
       repeat' (first
        |(with_reducible first|refine nx ?_|refine t_seq fun K=>?_|refine t_br (fun hc=>?_) fun hc=>?_|refine t_bx ?_|apply And.intro|intro vr)
        |((with_reducible first|refine ny ?_|refine t_dwh (h:=fun K KL=>?_));intros;simp only [go_sem,kp45,geff,g3,hx,hy,hap,hol,hso,stI_n1,stI_last,stI_take,stI_tk,hnx,k6,k7,Int.toNat_natCast,yes]))
       all_goals try exact nd
       refine ⟨⟨i+1,u+1,v+2,(out++[(i:Int)]).set j (i:Int),i::st,by omega,by simp [ho],stP (stQ hs),h4,hF⟩,by first|(simp only;omega)|omega,?_⟩
       try simp only [updL_nil,updL_cons,delF_top,delF_upd,Nat.reduceEqDiff,reduceIte]
       refine le_backD (by first|rfl|(simp only [go_sem];try rfl)) (by first|exact Nat.zero_le _|simp) (by first|rfl|simp [lowO,low_lit,low_sl,low_ref,low_arr,low_sub,low_mp]) ?_ ?_
       ·repeat' (first|exact low_top|(refine low_upd rfl ?_))
       repeat' (first|exact leF_top _|exact (fun _=>LeR.refl _)|(with_reducible refine leF_sl ?_ ?_)|(refine leF_upd ?_ ?_))
       all_goals (first|exact LeR.top _|exact LeR.refl _|(refine LeR.of_eq ?_;(try simp only [go_sem]);try rfl)|((try simp only [go_sem]);try rfl))
      ·rw [if_neg h11] at hF
       have k7:(k' !=11)=true:=by simp [h11]
       repeat' (first
        |(with_reducible first|refine nx ?_|refine t_seq fun K=>?_|refine t_br (fun hc=>?_) fun hc=>?_|refine t_bx ?_|apply And.intro|intro vr)
        |((with_reducible first|refine ny ?_|refine t_dwh (h:=fun K KL=>?_));intros;simp only [go_sem,kp45,geff,g3,hx,hy,hap,hol,hso,stI_n1,stI_last,stI_take,stI_tk,k6,k7,Int.toNat_natCast,yes]))
       all_goals try exact nd
       all_goals (refine nl ?_;simp only [go_sem])
       exact mt_none hF.symm
    ·rw [if_neg (by omega),if_neg (by omega),if_pos rfl] at hF
     cases st with
     |nil=>
      have k6:decide ((-1:Int)<0)=true:=by decide
      repeat' (first
       |(with_reducible first|refine nx ?_|refine t_seq fun K=>?_|refine t_br (fun hc=>?_) fun hc=>?_|refine t_bx ?_|apply And.intro|intro vr)
       |((with_reducible first|refine ny ?_|refine t_dwh (h:=fun K KL=>?_));intros;simp only [go_sem,kp45,geff,g3,hx,hap,hol,stI_n0,k6,Int.toNat_natCast,yes]))
      all_goals try exact nd
      all_goals (refine nl ?_;simp only [go_sem])
      exact mt_none hF.symm
     |cons j st=>
      have hj:=hs j (List.mem_cons_self ..)
      have h4s:st.length≤39:=by simp only [List.length_cons] at h4;omega
      have hL:=stI_length st
      have hLj:(stI (j::st)).length=st.length+1:=stI_length (j::st)
      have k6:decide ((st.length:Int)<0)=false:=decide_eq_false (by omega)
      have hso:∀ n:Int,(ints .i64 (out++[(i:Int)])).set j (.lit (.int .i64 n))=ints .i64 ((out++[(i:Int)]).set j n):=fun n=>ints_set _ _ _ _
      simp only at hF
      repeat' (first
       |(with_reducible first|refine nx ?_|refine t_seq fun K=>?_|refine t_br (fun hc=>?_) fun hc=>?_|refine t_bx ?_|apply And.intro|intro vr)
       |((with_reducible first|refine ny ?_|refine t_dwh (h:=fun K KL=>?_));intros;simp only [go_sem,kp45,geff,g3,hx,hap,hol,hso,stI_n1,stI_last,stI_take,stI_tk,k6,Int.toNat_natCast,yes]))
      all_goals try exact nd
      refine ⟨⟨i+1,u+1,v+1,(out++[(i:Int)]).set j (i:Int),st,by omega,by simp [ho],stW (stQ hs),by simp only [List.length_cons] at h4;omega,hF⟩,by simp only;omega,?_⟩
      refine (le_cut 5 (by simp only [go_sem];rfl) rfl).trans ?_
      try simp only [go_sem,stI_take,stI_tk]
      try simp only [updL_nil,updL_cons,delF_top,delF_upd,Nat.reduceEqDiff,reduceIte]
      refine le_backD (by first|rfl|(simp only [go_sem];try rfl)) (by first|exact Nat.zero_le _|simp) (by first|rfl|simp [lowO,low_lit,low_sl,low_ref,low_arr,low_sub,low_mp]) ?_ ?_
      ·repeat' (first|exact low_top|(refine low_upd rfl ?_))
      repeat' (first|exact leF_top _|exact (fun _=>LeR.refl _)|(with_reducible refine leF_sl ?_ ?_)|(refine leF_upd ?_ ?_))
      all_goals (first|exact LeR.top _|exact LeR.refl _|(refine LeR.of_eq ?_;(try simp only [go_sem]);try rfl)|((try simp only [go_sem]);try rfl))
    ·rw [if_neg (by omega),if_neg (by omega),if_neg (by omega)] at hF
     have k1:(k==10)=false:=by simpa using hk.1
     have k2:(k==11)=false:=by simpa using hk.2.1
     have k3:(k==12)=false:=by simpa using hk.2.2.1
     have k4:(k==13)=false:=by simpa using hk.2.2.2
     repeat' (first
      |(with_reducible first|refine nx ?_|refine t_seq fun K=>?_|refine t_br (fun hc=>?_) fun hc=>?_|refine t_bx ?_|apply And.intro|intro vr)
      |((with_reducible first|refine ny ?_|refine t_dwh (h:=fun K KL=>?_));intros;simp only [go_sem,kp45,geff,g3,hx,k1,k2,k3,k4,hap,hol,stI_length,Int.toNat_natCast,yes]))
     all_goals try exact nd
     refine ⟨⟨i+1,u+1,v,out++[(i:Int)],st,by omega,by simp [ho],fun j hj=>by have:=hs j hj;omega,h4,hF⟩,by first|(simp only;omega)|omega,?_⟩
     try simp only [updL_nil,updL_cons,delF_top,delF_upd,Nat.reduceEqDiff,reduceIte]
     refine le_backD (by first|rfl|(simp only [go_sem];try rfl)) (by first|exact Nat.zero_le _|simp) (by first|rfl|simp [lowO,low_lit,low_sl,low_ref,low_arr,low_sub,low_mp]) ?_ ?_
     ·repeat' (first|exact low_top|(refine low_upd rfl ?_))
     repeat' (first|exact leF_top _|exact (fun _=>LeR.refl _)|(with_reducible refine leF_sl ?_ ?_)|(refine leF_upd ?_ ?_))
     all_goals (first|exact LeR.top _|exact LeR.refl _|(refine LeR.of_eq ?_;(try simp only [go_sem]);try rfl)|((try simp only [go_sem]);try rfl))
   ·have g3:decide ((i:Int)<(ops.length:Int))=false:=decide_eq_false (by omega)
    rw [List.drop_eq_nil_of_le hc] at hF
    cases st with
    |nil=>
     repeat' (first
      |(with_reducible first|refine nx ?_|refine t_seq fun K=>?_|refine t_br (fun hc=>?_) fun hc=>?_|refine t_bx ?_|apply And.intro|intro vr)
      |((with_reducible first|refine ny ?_|refine t_dwh (h:=fun K KL=>?_));intros;simp only [go_sem,kp45,geff,g3,stI_length,List.length_nil,yes]))
     all_goals try exact nd
     all_goals (refine nl ?_;simp only [go_sem])
     exact mt_some (by rw [←hF];rfl)
    |cons j st=>
     have k5:decide (((j::st).length:Int)>0)=true:=decide_eq_true (by simp only [List.length_cons];omega)
     repeat' (first
      |(with_reducible first|refine nx ?_|refine t_seq fun K=>?_|refine t_br (fun hc=>?_) fun hc=>?_|refine t_bx ?_|apply And.intro|intro vr)
      |((with_reducible first|refine ny ?_|refine t_dwh (h:=fun K KL=>?_));intros;simp only [go_sem,kp45,geff,g3,stI_length,k5,yes]))
     all_goals try exact nd
     all_goals (refine nl ?_;simp only [go_sem])
     exact mt_none (by rw [←hF];rfl)
end Go.Proofs.Ytnlimcijgpaegaa

namespace Go.Proofs.Ytnlimcijgpaegaa
open Go Go.Fw Bm
set_option maxRecDepth 20000
def zs (n:Nat):List Int:=List.replicate n 0
theorem zs_ints (n:Nat):List.replicate n (AV.lit (.int .i64 0))=ints .i64 (zs n):=by simp [ints,zs]
theorem zs_length (n:Nat):(zs n).length=n:=by simp [zs]
theorem zs_set {out:List Int} {i n:Nat} (x:Int) (ho:out.length=i) (hi:i<n):(out++zs (n - i)).set i x=(out++[x])++zs (n - (i+1)):=by
  rw [List.set_append_right _ _ (by omega),ho,Nat.sub_self,show n - i=(n - (i+1))+1 by omega,zs,List.replicate_succ]
  simp [zs]
theorem zs_put {l z:List Int} {j:Nat} (x:Int) (h:j<l.length):(l++z).set j x=l.set j x++z:=List.set_append_left _ _ h
theorem stI_put (i j:Nat) (st:List Nat):(stI (j::st)).set st.length (i:Int)=stI (i::st):=by
  rw [stI_cons,List.set_append_right _ _ (by rw [stI_length];exact Nat.le_refl _),stI_length,Nat.sub_self,stI_cons];rfl
theorem stI_e0:(((stI []).length:Int)==0)=true:=rfl
theorem stI_e1 (j:Nat) (st:List Nat):(((stI (j::st)).length:Int)==0)=false:=by rw [stI_length,List.length_cons];simp;omega
structure Mr (ops:List Ins) (R:Option (List Int)) where
  i:Nat
  u:Nat
  v:Nat
  out:List Int
  st:List Nat
  hi:i≤ops.length
  ho:out.length=i
  hs:∀ j∈st,j<i
  h4:st.length≤40
  hF:matchG ops (ops.drop i) i out st=R
noncomputable def V10:Env:=envJ (P:=Try.prog) jkV zer (fun _=>false) (fun _=>false) [] []
theorem V10_ok:EnvOk Try.prog V10:=envJOk zer_ok
set_option maxHeartbeats 8000000 in
theorem rmatch_pc {ops:List Ins} (hl:ops.length≤1000000):PC Try.prog 16 [.sl false 6 (opsV ops)] (matchV ops):=by
  show PC _ _ _ (mtV (matchS ops))
  generalize hR:matchS ops=R
  unfold matchS at hR
  by_cases hn:ops.length>5000
  ·rw [if_pos hn] at hR
   have g1:decide ((ops.length:Int)>5000)=true:=decide_eq_true (by omega)
   refine pcR V10_ok (kp16) Try.func16 [.tmp 2,.tmp 3] (h:=fun KF=>?_)
   unfold V10
   repeat' (first
    |(with_reducible first|refine nx ?_|refine t_seq fun K=>?_|refine t_br (fun hc=>?_) fun hc=>?_|refine t_bx ?_|apply And.intro|intro vr)
    |((with_reducible first|refine ny ?_|refine t_dwh (h:=fun K KL=>?_));intros;simp only [go_sem,kp16,geff,g1]))
   all_goals try exact nd
   all_goals (refine nl ?_;simp only [go_sem])
   exact mt_none hR.symm
  ·rw [if_neg hn] at hR
   have g1:decide ((ops.length:Int)>5000)=false:=decide_eq_false (by omega)
   refine pcR V10_ok (kp16) Try.func16 [.tmp 2,.tmp 3] (h:=fun KF=>?_)
   unfold V10
   repeat' (first
    |(with_reducible first|refine nx ?_|refine t_seq fun K=>?_|refine t_br (fun hc=>?_) fun hc=>?_|refine t_bx ?_|apply And.intro|intro vr)
    |((with_reducible first|refine ny ?_|refine t_dwh (h:=fun K KL=>?_));intros;simp only [go_sem,kp16,geff,g1,zs_ints,Int.toNat_natCast]))
   all_goals try exact nd
   refine t_loopF (ι:=Mr ops R) (fun i=>[(6,.lit (.int .i64 i.i)),(4,.arr 0 i.u),(5,.arr 1 i.v)]) (fun i=>[.arr 3 1 (ints .i64 (i.out++zs (ops.length - i.i))) i.u false,.arr 3 1 (ints .i64 (stI i.st)) i.v false]) (fun i=>ops.length - i.i) ⟨0,0,0,[],[],by omega,rfl,by simp,by simp,by simpa using hR⟩ ?_ ?_
   ·refine (le_nil 5 3 1 rfl).trans ?_
    exact lf
   rintro ⟨i,u,v,out,st,hi,ho,hs,h4,hF⟩ K0
   have hsl:(ints .i64 (stI st)).length=st.length:=by rw [ints_length,stI_length]
   have hol:(ints .i64 (out++zs (ops.length - i))).length=ops.length:=by rw [ints_length,List.length_append,zs_length,ho];omega
   rcases Nat.lt_or_ge i ops.length with hc|hc
   ·have g3:decide ((i:Int)<(ops.length:Int))=true:=decide_eq_true (by omega)
    have hst:=zs_set (i:Int) ho hc
    have hol2:(ints .i64 ((out++[(i:Int)])++zs (ops.length - (i+1)))).length=ops.length:=by rw [ints_length,List.length_append,List.length_append,zs_length,ho,List.length_singleton];omega
    have hput:∀ j:Nat,j<i→∀ x:Int,((out++[(i:Int)])++zs (ops.length - (i+1))).set j x=(out++[(i:Int)]).set j x++zs (ops.length - (i+1)):=fun j hj x=>zs_put x (by rw [List.length_append,List.length_singleton];omega)
    rw [drop_getI hc] at hF
    generalize hx:ops.getD i nilI=x at hF
    obtain ⟨k,p,a,b,c,d⟩:=x
    simp only [matchG] at hF
    have has:ints .i64 (stI st)++[.lit (.int .i64 (i:Int))]=ints .i64 (stI (i::st)):=by rw [stI_cons];exact ints_append1 _ _ _
    rcases (show k=10∨k=11∨k=12∨k=13∨(k≠10∧k≠11∧k≠12∧k≠13) by omega) with rfl|rfl|rfl|rfl|hk
    ·rw [if_pos (by omega)] at hF
     by_cases h40:st.length≥40
     ·rw [if_pos h40] at hF
      have k5:((st.length:Int)==40)=true:=by simp;omega
      repeat' (first
       |(with_reducible first|refine nx ?_|refine t_seq fun K=>?_|refine t_br (fun hc=>?_) fun hc=>?_|refine t_bx ?_|apply And.intro|intro vr)
       |((with_reducible first|refine ny ?_|refine t_dwh (h:=fun K KL=>?_));intros;simp only [go_sem,kp16,geff,g3,hx,k5,hst,has,hol,stI_length,Int.toNat_natCast,yes]))
      all_goals try exact nd
      all_goals (refine nl ?_;simp only [go_sem])
      exact mt_none hF.symm
     ·rw [if_neg h40] at hF
      have k5:((st.length:Int)==40)=false:=by simp;omega
      repeat' (first
       |(with_reducible first|refine nx ?_|refine t_seq fun K=>?_|refine t_br (fun hc=>?_) fun hc=>?_|refine t_bx ?_|apply And.intro|intro vr)
       |((with_reducible first|refine ny ?_|refine t_dwh (h:=fun K KL=>?_));intros;simp only [go_sem,kp16,geff,g3,hx,k5,hst,has,hol,hsl,stI_length,Int.toNat_natCast,yes]))
      all_goals try exact nd
      exact ⟨⟨i+1,u,v+1,out++[(i:Int)],i::st,by omega,by simp [ho],stP hs,by simp only [List.length_cons];omega,hF⟩,wf,lf⟩
    ·rw [if_pos (by omega)] at hF
     by_cases h40:st.length≥40
     ·rw [if_pos h40] at hF
      have k5:((st.length:Int)==40)=true:=by simp;omega
      repeat' (first
       |(with_reducible first|refine nx ?_|refine t_seq fun K=>?_|refine t_br (fun hc=>?_) fun hc=>?_|refine t_bx ?_|apply And.intro|intro vr)
       |((with_reducible first|refine ny ?_|refine t_dwh (h:=fun K KL=>?_));intros;simp only [go_sem,kp16,geff,g3,hx,k5,hst,has,hol,stI_length,Int.toNat_natCast,yes]))
      all_goals try exact nd
      all_goals (refine nl ?_;simp only [go_sem])
      exact mt_none hF.symm
     ·rw [if_neg h40] at hF
      have k5:((st.length:Int)==40)=false:=by simp;omega
      repeat' (first
       |(with_reducible first|refine nx ?_|refine t_seq fun K=>?_|refine t_br (fun hc=>?_) fun hc=>?_|refine t_bx ?_|apply And.intro|intro vr)
       |((with_reducible first|refine ny ?_|refine t_dwh (h:=fun K KL=>?_));intros;simp only [go_sem,kp16,geff,g3,hx,k5,hst,has,hol,hsl,stI_length,Int.toNat_natCast,yes]))
      all_goals try exact nd
      exact ⟨⟨i+1,u,v+1,out++[(i:Int)],i::st,by omega,by simp [ho],stP hs,by simp only [List.length_cons];omega,hF⟩,wf,lf⟩
    ·rw [if_neg (by omega),if_pos rfl] at hF
     cases st with
     |nil=>
      repeat' (first
       |(with_reducible first|refine nx ?_|refine t_seq fun K=>?_|refine t_br (fun hc=>?_) fun hc=>?_|refine t_bx ?_|apply And.intro|intro vr)
       |((with_reducible first|refine ny ?_|refine t_dwh (h:=fun K KL=>?_));intros;simp only [go_sem,kp16,geff,g3,hx,hst,hol,stI_e0,Int.toNat_natCast,yes]))
      all_goals try exact nd
      all_goals (refine nl ?_;simp only [go_sem])
      exact mt_none hF.symm
     |cons j st=>
      have hj:=hs j (List.mem_cons_self ..)
      have h4s:st.length≤39:=by simp only [List.length_cons] at h4;omega
      have hL:=stI_length st
      have hLj:(stI (j::st)).length=st.length+1:=stI_length (j::st)
      have hp:=hput j hj (i:Int)
      simp only at hF
      generalize hy:ops.getD j nilI=y at hF
      obtain ⟨k',p',a',b',c',d'⟩:=y
      simp only at hF
      by_cases h11:k'=11
      ·rw [if_pos h11] at hF
       have k7:(k' !=11)=false:=by simp [h11]
       repeat' (first
        |(with_reducible first|refine nx ?_|refine t_seq fun K=>?_|refine t_br (fun hc=>?_) fun hc=>?_|refine t_bx ?_|apply And.intro|intro vr)
        |((with_reducible first|refine ny ?_|refine t_dwh (h:=fun K KL=>?_));intros;simp only [go_sem,kp16,geff,g3,hx,hy,hst,hp,hol,hol2,stI_e1,stI_n1,stI_last,stI_put,k7,Int.toNat_natCast,yes]))
       all_goals try exact nd
       exact ⟨⟨i+1,u,v,(out++[(i:Int)]).set j (i:Int),i::st,by omega,by simp [ho],stP (stQ hs),h4,hF⟩,wf,lf⟩
      ·rw [if_neg h11] at hF
       have k7:(k' !=11)=true:=by simp [h11]
       repeat' (first
        |(with_reducible first|refine nx ?_|refine t_seq fun K=>?_|refine t_br (fun hc=>?_) fun hc=>?_|refine t_bx ?_|apply And.intro|intro vr)
        |((with_reducible first|refine ny ?_|refine t_dwh (h:=fun K KL=>?_));intros;simp only [go_sem,kp16,geff,g3,hx,hy,hst,hp,hol,hol2,stI_e1,stI_n1,stI_last,stI_put,k7,Int.toNat_natCast,yes]))
       all_goals try exact nd
       all_goals (refine nl ?_;simp only [go_sem])
       exact mt_none hF.symm
    ·rw [if_neg (by omega),if_neg (by omega),if_pos rfl] at hF
     cases st with
     |nil=>
      repeat' (first
       |(with_reducible first|refine nx ?_|refine t_seq fun K=>?_|refine t_br (fun hc=>?_) fun hc=>?_|refine t_bx ?_|apply And.intro|intro vr)
       |((with_reducible first|refine ny ?_|refine t_dwh (h:=fun K KL=>?_));intros;simp only [go_sem,kp16,geff,g3,hx,hst,hol,stI_e0,Int.toNat_natCast,yes]))
      all_goals try exact nd
      all_goals (refine nl ?_;simp only [go_sem])
      exact mt_none hF.symm
     |cons j st=>
      have hj:=hs j (List.mem_cons_self ..)
      have h4s:st.length≤39:=by simp only [List.length_cons] at h4;omega
      have hL:=stI_length st
      have hLj:(stI (j::st)).length=st.length+1:=stI_length (j::st)
      have hp:=hput j hj (i:Int)
      simp only at hF
      repeat' (first
       |(with_reducible first|refine nx ?_|refine t_seq fun K=>?_|refine t_br (fun hc=>?_) fun hc=>?_|refine t_bx ?_|apply And.intro|intro vr)
       |((with_reducible first|refine ny ?_|refine t_dwh (h:=fun K KL=>?_));intros;simp only [go_sem,kp16,geff,g3,hx,hst,hp,hol,hol2,stI_e1,stI_n1,stI_last,Int.toNat_natCast,yes]))
      all_goals try exact nd
      refine ⟨⟨i+1,u,v+1,(out++[(i:Int)]).set j (i:Int),st,by omega,by simp [ho],stW (stQ hs),by simp only [List.length_cons] at h4;omega,hF⟩,by simp only;omega,?_⟩
      refine (le_cut 5 (by simp only [go_sem];rfl) rfl).trans ?_
      try simp only [go_sem,stI_take,stI_tk]
      first|exact lf|(refine Le.frameS (by first|rfl|(simp only [go_sem];try rfl)) ?_;repeat' (first|exact leF_top _|exact (fun _=>LeR.refl _)|(with_reducible refine leF_sl ?_ ?_)|(refine leF_upd ?_ ?_)))<;>(first|exact LeR.top _|exact LeR.refl _|(refine LeR.of_eq ?_;(try simp only [go_sem]);try rfl)|((try simp only [go_sem]);try rfl))
    ·rw [if_neg (by omega),if_neg (by omega),if_neg (by omega)] at hF
     have k1:(k==10)=false:=by simpa using hk.1
     have k2:(k==11)=false:=by simpa using hk.2.1
     have k3:(k==12)=false:=by simpa using hk.2.2.1
     have k4:(k==13)=false:=by simpa using hk.2.2.2
     repeat' (first
      |(with_reducible first|refine nx ?_|refine t_seq fun K=>?_|refine t_br (fun hc=>?_) fun hc=>?_|refine t_bx ?_|apply And.intro|intro vr)
      |((with_reducible first|refine ny ?_|refine t_dwh (h:=fun K KL=>?_));intros;simp only [go_sem,kp16,geff,g3,hx,k1,k2,k3,k4,hst,hol,Int.toNat_natCast,yes]))
     all_goals try exact nd
     exact ⟨⟨i+1,u,v,out++[(i:Int)],st,by omega,by simp [ho],fun j hj=>by have:=hs j hj;omega,h4,hF⟩,wf,lf⟩
   ·have g3:decide ((i:Int)<(ops.length:Int))=false:=decide_eq_false (by omega)
    rw [List.drop_eq_nil_of_le hc] at hF
    have hz:out++zs (ops.length - i)=out:=by rw [show ops.length - i=0 by omega];simp [zs]
    cases st with
    |nil=>
     repeat' (first
      |(with_reducible first|refine nx ?_|refine t_seq fun K=>?_|refine t_br (fun hc=>?_) fun hc=>?_|refine t_bx ?_|apply And.intro|intro vr)
      |((with_reducible first|refine ny ?_|refine t_dwh (h:=fun K KL=>?_));intros;simp only [go_sem,kp16,geff,g3,hz,stI_length,List.length_nil,yes]))
     all_goals try exact nd
     all_goals (refine nl ?_;simp only [go_sem])
     exact mt_some (by rw [←hF];rfl)
    |cons j st=>
     have k5:decide (((j::st).length:Int)>0)=true:=decide_eq_true (by simp only [List.length_cons];omega)
     repeat' (first
      |(with_reducible first|refine nx ?_|refine t_seq fun K=>?_|refine t_br (fun hc=>?_) fun hc=>?_|refine t_bx ?_|apply And.intro|intro vr)
      |((with_reducible first|refine ny ?_|refine t_dwh (h:=fun K KL=>?_));intros;simp only [go_sem,kp16,geff,g3,hz,stI_length,k5,yes]))
     all_goals try exact nd
     all_goals (refine nl ?_;simp only [go_sem])
     exact mt_none (by rw [←hF];rfl)
noncomputable def con16:PCon Try.prog where
  f:=16
  c:=fun
   |[xx]=>match opsOf xx with|some x=>some ((x.length≤1000000),matchV x)|_=>none
   |_=>none
  ok:=by
   intro args p r hc hp
   split at hc
   ·split at hc
    ·rename_i hx
     cases hc
     exact PC.weak (rmatch_pc hp) ⟨opsOf_le hx,trivial⟩
    ·cases hc
   ·cases hc
  fk:=fk16
theorem con16_f:con16.f=16:=rfl
theorem con16_c {xx:AV}:con16.c [xx]=match opsOf xx with|some x=>some ((x.length≤1000000),matchV x)|_=>none:=rfl
attribute [go_sem] con16_f con16_c
end Go.Proofs.Ytnlimcijgpaegaa

namespace Go.Proofs.Ytnlimcijgpaegaa
open Go Go.Fw
set_option maxRecDepth 20000
theorem le_nil {n0:Nat} {f:Nat→AV} {σ:List AObj} (i e sz:Nat) (h:f i= .lit (.slice none 0 0)):Le n0 ⟨f,σ⟩ ⟨upd f i (.arr σ.length 0),σ++[.arr e sz [] 0 false]⟩:=by
  intro cx G w N a _ hr hf
  obtain ⟨G',h1,h2,h3⟩:=Rel.newEmpty hr e sz none
  refine ⟨G',h2,hf.size,hf.defers,fun j=>?_⟩
  have hj:R G' (f j) (a.tmps.getD j undef):=(hf.rel j).mono h1
  simp only [upd]
  split
  ·rename_i e;subst e;rw [h] at hj;rw [hj.lit_inv];exact h3
  ·exact hj
def frameG:List Arr→List Int→List Int→List Bool→List Int×List Bool×Int
  |a::l,r::rs,fr,fd=>
   if (splitS a r).2.2≠0 then ([],[],(splitS a r).2.2)
   else if (splitS a r).1=[] then frameG l rs fr (fd++[false])
   else if fr=[] then frameG l rs (splitS a r).1 (fd++[true])
   else if (splitS a r).1.length≠fr.length then ([],[],13)
   else if (splitS a r).1≠fr then ([],[],14)
   else frameG l rs fr (fd++[true])
  |_,_,fr,fd=>(fr,fd,0)
def frameS (l:List Arr) (rs:List Int):List Int×List Bool×Int:=if l.length≠rs.length then ([],[],1) else frameG l rs [] []
theorem getD_mem {α:Type} {l:List α} {i:Nat} (z:α) (h:i<l.length):l.getD i z∈l:=by
  rw [List.getD_eq_getElem?_getD,List.getElem?_eq_getElem h];exact List.getElem_mem _
end Go.Proofs.Ytnlimcijgpaegaa

namespace Go.Proofs.Ytnlimcijgpaegaa
open Go Go.Fw
set_option maxRecDepth 20000
end Go.Proofs.Ytnlimcijgpaegaa

namespace Go.Proofs.Ytnlimcijgpaegaa
open Go Go.Fw
set_option maxRecDepth 20000
end Go.Proofs.Ytnlimcijgpaegaa

namespace Go.Proofs.Ytnlimcijgpaegaa
open Go Go.Fw
set_option maxRecDepth 20000
end Go.Proofs.Ytnlimcijgpaegaa

namespace Go.Proofs.Ytnlimcijgpaegaa
open Go Go.Fw Bm
set_option maxRecDepth 20000
def bcV (B:Prg):AV:= .agg [.lit (.int .i64 B.regs),.lit (.int .i64 B.arena),.sl false 6 (opsV B.ops),.sl false 2 (plsV B.ins),.sl false 2 (plsV B.outs),.sl false 3 (arrs B.types)]
theorem bcV_mk {r a:Int} {o:List Ins} {i u:List (Int×Int)} {t:List Arr}:bcV ⟨r,a,o,i,u,t⟩= .agg [.lit (.int .i64 r),.lit (.int .i64 a),.sl false 6 (opsV o),.sl false 2 (plsV i),.sl false 2 (plsV u),.sl false 3 (arrs t)]:=rfl
def bcOf:AV→Option Prg
  |.agg [.lit (.int .i64 r),.lit (.int .i64 a),o,i,u,t]=>match opsOf o,plsOf i,plsOf u,arrsOf t with
   |some o,some i,some u,some t=>some ⟨r,a,o,i,u,t⟩
   |_,_,_,_=>none
  |_=>none
theorem bcOf_agg {r a:Int} {o i u t:AV}:bcOf (.agg [.lit (.int .i64 r),.lit (.int .i64 a),o,i,u,t])=match opsOf o,plsOf i,plsOf u,arrsOf t with
    |some o,some i,some u,some t=>some ⟨r,a,o,i,u,t⟩
    |_,_,_,_=>none:=rfl
theorem bcOf_le {x:AV} {B:Prg} (h:bcOf x=some B):LeA x (bcV B):=by
  unfold bcOf at h
  split at h
  ·split at h
   ·rename_i h1 h2 h3 h4
    cases h
    exact LeA.agg ⟨LeA.refl _,LeA.refl _,opsOf_le h1,plsOf_le h2,plsOf_le h3,arrsOf_le h4,trivial⟩
   ·cases h
  ·cases h
structure OkB (B:Prg):Prop where
  ops:B.ops.length≤1000000
  ins:B.ins.length≤1000000
  outs:B.outs.length≤1000000
  types:B.types.length≤1000000
  dims:∀ t∈B.types,okA t
noncomputable def V11:Env:=envJ (P:=Try.prog) jkV zer (fun _=>false) (fun _=>false) [con16,con77,con114,con40] []
theorem V11_ok:EnvOk Try.prog V11:=envJOk zer_ok
attribute [go_sem] con16_f con16_c con114_f con114_c con40_f con40_c opsOf_sl plsOf_sl arrsOf_sl slK_sl szV_def arrOf_agg
def typdB (t:Arr):Bool:=((sizeS t.d).2==0)&&(eqS t.e sInt||eqS t.e sBool)&&((t.x.length:Int)==0)
theorem typeOk_eq (arena:Int) (t:Arr) (p:Int×Int):typeOk arena t p=(typdB t&&(p.2==(sizeS t.d).1)&& !decide (p.1<0)&& !decide (p.1>arena - (sizeS t.d).1)):=by
  rw [Bool.eq_iff_iff];simp [typeOk,typdB]
  intros;exact and_comm
set_option maxHeartbeats 4000000 in
theorem typed_pc {t:Arr} (h:okA t):PC Try.prog 82 [arrV t] (.tup [.lit (.int .i64 (sizeS t.d).1),.lit (.bool (typdB t))]):=by
  obtain ⟨h1,h2⟩:=h
  simp only [arrV]
  refine pcR V11_ok (kp82) Try.func82 [.tmp 2,.tmp 3] (h:=fun KF=>?_)
  unfold V11
  repeat' (first
   |(with_reducible first|refine nx ?_|refine t_seq fun K=>?_|refine t_br (fun hc=>?_) fun hc=>?_|refine t_bx ?_|apply And.intro|intro vr)
   |((with_reducible first|refine ny ?_|refine t_dwh (h:=fun K KL=>?_));intros;simp only [go_sem,kp82,geff]))
  all_goals try exact nd
  all_goals (refine nl ?_;simp only [go_sem])
  refine LeA.of_eq ?_
  simp only [typdB,sInt,sBool]
  try rfl
noncomputable def con82:PCon Try.prog where
  f:=82
  c:=fun
   |[xt]=>match arrOf xt with|some t=>some (okA t,.tup [.lit (.int .i64 (sizeS t.d).1),.lit (.bool (typdB t))])|_=>none
   |_=>none
  ok:=by
   intro args p r hc hp
   split at hc
   ·split at hc
    ·rename_i ht
     cases hc
     exact PC.weak (typed_pc hp) ⟨arrOf_le ht,trivial⟩
    ·cases hc
   ·cases hc
  fk:=fk82
theorem con82_f:con82.f=82:=rfl
theorem con82_c {xt:AV}:con82.c [xt]=match arrOf xt with|some t=>some (okA t,.tup [.lit (.int .i64 (sizeS t.d).1),.lit (.bool (typdB t))])|_=>none:=rfl
def formedB (ops:List Ins) (regs:Int):Bool:=ops.all (fun x=>rightS x regs)&&(matchS ops).isSome
theorem matchV_eq (ops:List Ins):∃ l,matchV ops= .tup [.sl false 1 (ints .i64 l),.lit (.bool (matchS ops).isSome)]:=by
  unfold matchV
  cases matchS ops with
  |none=>exact ⟨[],rfl⟩
  |some l=>exact ⟨l,rfl⟩
attribute [go_sem] con82_f con82_c
theorem plsV_app (a b:List (Int×Int)):plsV a++plsV b=plsV (a++b):=by simp [plsV]
end Go.Proofs.Ytnlimcijgpaegaa
