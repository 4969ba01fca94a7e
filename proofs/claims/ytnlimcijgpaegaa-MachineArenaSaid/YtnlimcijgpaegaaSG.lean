import Derived.Test.YtnlimcijgpaegaaSF
import Derived.Test.YtnlimcijgpaegaaFwF
import Derived.Test.YtnlimcijgpaegaaSC
import Derived.Test.YtnlimcijgpaegaaSB
import Derived.Test.YtnlimcijgpaegaaFwB
import Derived.Lib.SlicesCompact
import Derived.Test.YtnlimcijgpaegaaSA

set_option linter.all false

namespace Go.Proofs.Ytnlimcijgpaegaa.Mm
open Go.Proofs.Ytnlimcijgpaegaa
open Go Go.Fw Bm
set_option maxRecDepth 20000
section
variable {x y:AObj} {B:Prg} {mt:List Int} {n A:Nat} {c:Int} {N:Nat} {m:MS} {s:St} {ex:List AObj} {σ:List AObj} {args:List AV} {k:AV→List AObj→Prop} {i to:Int}
noncomputable def M5:Env:=envU Try.prog jkR zer (fun _=>false) (fun _=>false) []
theorem M5_ok:EnvOk Try.prog M5:=envUOk zer_ok
theorem lop2 (hK:Wk B mt n) (hF0:Fre B mt 0 B.ops.length) (hcb:c≤1000000) (hA:A≤1048576) (hB:BlkM x y B mt n A c N) {X:Ins} (hX:B.op i=X) (h1:to - i≤N+1) (h2:Cl B mt i to) (hi:i<to) (ho:X.code=10) (he:m.e=0) (hg:Gd n A c s) (hr:Rp n m s)
    (hk:∀ m' s',Runs B mt [] (.lop i (gt s.regs X.b) (gt s.regs X.c)) s s'→(m'.e=0→Gd n A c s')→Rp n m' s'→k (.tup []) (robj x y B mt m' ex)):EC Try.prog 126 [.lit (.int .i64 i),opV X,.ref 7 0,.ref 19 0] (robj x y B mt m ex) k:=by
  subst hX
  exact lop_ec hK hF0 hcb hA hB h1 h2 hi ho he hg hr hk
theorem runs_tick (h1:i<to) (h2:stpS s=false) {s':St} (h:Runs B mt [] (.blk i to) s s'):s'.left≤s.left - 1:=by
  obtain ⟨F,hF⟩:=h
  have h:=hF (F+1) (by omega)
  rw [←h]
  simp only [exec]
  rw [if_pos ⟨h1,h2⟩]
  have e:(tick (Bm.look [] i s)).left=s.left - 1:=rfl
  split
  ·exact Int.le_trans (exec_left _ _ _) (Int.le_trans (exec_left _ _ _) (Int.le_of_eq e))
  ·split
   ·refine Int.le_trans (exec_left _ _ _) ?_
    split
    ·exact Int.le_trans (exec_left _ _ _) (Int.le_of_eq e)
    ·split
     ·exact Int.le_trans (exec_left _ _ _) (Int.le_of_eq e)
     ·exact Int.le_of_eq e
   ·refine Int.le_trans (exec_left _ _ _) ?_
    split
    ·show (simpleS _ _).left≤_;rw [simple_left];exact Int.le_of_eq e
    ·rw [simple_left];exact Int.le_of_eq e
structure Xq (B:Prg) (mt:List Int) (n A:Nat) (c:Int) (i0 to:Int) (s0:St) where
  i:Int
  m:MS
  s:St
  hi:i0≤i
  hu:i≤to∨i=i0
  hF:Fre B mt i to
  hg:m.e=0→Gd n A c s
  hr:Rp n m s
  hv:∀ s',Runs B mt [] (.blk i to) s s'→Runs B mt [] (.blk i0 to) s0 s'
set_option maxHeartbeats 8000000 in
theorem blk_step (hK:Wk B mt n) (hF0:Fre B mt 0 B.ops.length) (hcb:c≤1000000) (hA:A≤1048576) (hB:BlkM x y B mt n A c N):BlkM x y B mt n A c (N+1):=by
  intro i0 to m0 s0 ex k h1 h2 hF1 hg0 hr0 h5
  refine ec_fin fun hbd=>?_
  rw [ro_len] at hbd
  have hL:=hK.len
  have hn:=hK.n
  have hml:=hK.mtl
  have h20:=h2.1
  have h21:=h2.2.1
  refine ecR M5_ok (kp128) Try.func128 [] (h:=fun KF=>?_)
  unfold M5
  repeat' (first
   |(with_reducible first|refine nx ?_|refine t_seq fun K=>?_|refine t_br (fun hc=>?_) fun hc=>?_|refine t_bx ?_|apply And.intro|intro vr)|exact kp_fls|exact kpd
   |((with_reducible first|refine ny ?_|refine t_kLF ?_ ?_|refine t_drawE (id:=7) (fun _=>false) [(0,2),(1,2),(2,2),(3,2),(4,2),(5,0),(6,1)] (by kernel_rfl) fun K=>?_|refine t_dwh (h:=fun K KL=>?_));intros;simp only [go_sem,kp128,geff]))
  all_goals try exact nd
  refine t_loopF (ι:=Xq B mt n A c i0 to s0) (fun q=>[(8,.lit (.int .i64 q.i))]) (fun q=>robj x y B mt q.m ex) (fun q=>(to - q.i).toNat) ⟨i0,m0,s0,Int.le_refl _,.inr rfl,hF1,hg0,hr0,fun _ h=>h⟩ ?_ ?_
  ·exact lf
  rintro ⟨i,m,s,hi,hu,hF,hg,hr,hv⟩ K0
  have hst:=hr.st
  have hrl:=hr.len
  rcases Int.lt_or_le i to with hit|hit
  ·have g3:decide (i<to)=true:=decide_eq_true hit
   by_cases he:m.e=0
   ·have g4:decide (m.e=0)=true:=decide_eq_true he
    have hcl:Cl B mt i to:=h2.next hi
    have L:=hr.live he
    have hst:=L.go
    obtain ⟨R1,R2,R3⟩:=hr.step L he
    have hvl:(stepM m).e=0→((stepM m).viol.length:Int)+1≤(stepM m).steps:=fun e=>by
      have:=L.vl
      unfold stepM failM at e ⊢
      split
      ·rename_i q;rw [if_pos q] at e;simp only [he,if_true] at e;cases e
      ·simp only;omega
    have hopd:B.ops.getD i.toNat nilI=B.op i:=rfl
    have hright:=hK.rights i (by omega) (by omega)
    have hrg:=right_regs hright
    have hrd:∀ r∈readsS (B.op i),0≤r∧r<n:=fun r hr=>reads_reg hright hr
    have hgT:Gd n A (c - 1) (tick s):=(hg he).tick (seen:=[]) hst i
    generalize hXX:B.op i=X at hopd hright hrg hrd
    have hX1:X.code=X.code:=rfl
    obtain ⟨q,p,a,b,cc,d⟩:=X
    by_cases he1:(stepM m).e=0
    ·have g5:decide ((stepM m).e=0)=true:=decide_eq_true he1
     have L1:=R2 he1
     have hvl:=hvl he1
     have hrl1:(stepM m).regs.length=n:=by rw [R3];exact hrl
     by_cases q10:q=10
     ·subst q10
      have ho:(B.op i).code=10:=by rw [hXX]
      obtain ⟨k1,k2,k3,k4⟩:=hK.nest.at (show 0≤i by omega) (by omega) (.inl ho)
      have k5:=hcl.2.2 i (Int.le_refl _) hit (.inl ho)
      have hFn:=hF.for_ hK.nest (show 0≤i by omega) (by omega) ho
      have gm:mt.getD i.toNat 0=gt mt i:=rfl
      have rF:=fun {s2 s':St} hj hk=>runs_for (B:=B) (mt:=mt) (seen:=[]) (i:=i) (to:=to) (s:=s) (s':=s2) (s'':=s') ⟨hit,hst⟩ ho hj hk
      rw [look_nil,hXX] at rF
      repeat' (first
       |(with_reducible first|refine nx ?_|refine t_seq fun K=>?_|refine t_br (fun hc=>?_) fun hc=>?_|refine t_bx ?_|apply And.intro|intro vr)|exact kp_fls|exact kpd
       |((with_reducible first|refine ny ?_|refine t_kLF ?_ ?_|refine t_drawE (id:=7) (fun _=>false) [(0,2),(1,2),(2,2),(3,2),(4,2),(5,0),(6,1)] (by kernel_rfl) fun K=>?_|refine t_dwh (h:=fun K KL=>?_));intros;simp only [go_sem,kp128,geff,g3,g4,hopd,yes]))
      all_goals try exact nd
      refine ⟨fk127,step_ec (by omega) ?_⟩
      generalize stepM m=m1 at*
      repeat' (first
       |(with_reducible first|refine nx ?_|refine t_seq fun K=>?_|refine t_br (fun hc=>?_) fun hc=>?_|refine t_bx ?_|apply And.intro|intro vr)|exact kp_fls|exact kpd
       |((with_reducible first|refine ny ?_|refine t_kLF ?_ ?_|refine t_drawE (id:=7) (fun _=>false) [(0,2),(1,2),(2,2),(3,2),(4,2),(5,0),(6,1)] (by kernel_rfl) fun K=>?_|refine t_dwh (h:=fun K KL=>?_));intros;simp only [go_sem,kp128,geff,g5,he1,yes]))
      all_goals try exact nd
      refine ⟨fk126,lop2 (to:=to) (s:=tick s) hK hF0 hcb hA hB hXX (by omega) hcl hit rfl he1 hgT.le R1 fun m2 s2 hr2 hg2 h3=>?_⟩
      repeat' (first
       |(with_reducible first|refine nx ?_|refine t_seq fun K=>?_|refine t_br (fun hc=>?_) fun hc=>?_|refine t_bx ?_|apply And.intro|intro vr)|exact kp_fls|exact kpd
       |((with_reducible first|refine ny ?_|refine t_kLF ?_ ?_|refine t_drawE (id:=7) (fun _=>false) [(0,2),(1,2),(2,2),(3,2),(4,2),(5,0),(6,1)] (by kernel_rfl) fun K=>?_|refine t_dwh (h:=fun K KL=>?_));intros;simp only [go_sem,kp128,geff,gm,yes]))
      all_goals try exact nd
      refine ⟨⟨gt mt i+1,m2,s2,by omega,.inl (by omega),hFn,hg2,h3,fun s' h=>hv _ (rF hr2 h)⟩,by simp only;omega,?_⟩
      try simp only [updL_nil,updL_cons,delF_top,delF_upd,Nat.reduceEqDiff,reduceIte]
      refine le_ro1 (Nat.le_refl _) (ro_bds (by omega) hbd) ?_ ?_
      ·repeat' (first|exact low_top|(refine low_upd rfl ?_))
      repeat' (first|exact leF_top _|exact (fun _=>LeR.refl _)|(with_reducible refine leF_sl ?_ ?_)|(refine leF_upd ?_ ?_))
      all_goals (first|exact LeR.top _|exact LeR.refl _|(refine LeR.of_eq ?_;(try simp only [go_sem]);try rfl)|((try simp only [go_sem]);try rfl))
     by_cases q11:q=11
     ·subst q11
      have ho:(B.op i).code=11:=by rw [hXX]
      have hra:=hrg.a (.inr rfl)
      simp only at hra
      have hi0:0≤i:=by omega
      have hil:i<B.ops.length:=by omega
      have hin:=hK.nest.inner hi0 hil (.inr (.inl ho))
      have hfi:=hF0.inner hK.nest hi0 hil (.inr (.inl ho))
      obtain ⟨k1,k2,k3,k4⟩:=hK.nest.at hi0 hil (.inr (.inl ho))
      obtain ⟨k5,k6,k7,k8,k9,k10⟩:=hK.nest.end_ hcl hit ho
      have hFn:=hF.if_ hK.nest hcl hit ho
      have hin2:(B.op (gt mt i)).code=12→Cl B mt (gt mt i+1) (gt mt (gt mt i))∧Fre B mt (gt mt i+1) (gt mt (gt mt i))∧gt mt i<gt mt (gt mt i):=fun e=>⟨hK.nest.inner (by omega) k2 (.inr (.inr e)),hF0.inner hK.nest (by omega) k2 (.inr (.inr e)),(hK.nest.at (i:=gt mt i) (by omega) k2 (.inr (.inr e))).1⟩
      have gm:mt.getD i.toNat 0=gt mt i:=rfl
      have gm2:mt.getD (gt mt i).toNat 0=gt mt (gt mt i):=rfl
      have rY:=fun {s2 s':St} hp hj hk=>runs_yes (B:=B) (mt:=mt) (seen:=[]) (i:=i) (to:=to) (s:=s) (s':=s2) (s'':=s') ⟨hit,hst⟩ ho hp hj hk
      have rN:=fun {s2 s':St} hp he hj hk=>runs_no (B:=B) (mt:=mt) (seen:=[]) (i:=i) (to:=to) (s:=s) (s':=s2) (s'':=s') ⟨hit,hst⟩ ho hp he hj hk
      have rO:=fun {s':St} hp he hk=>runs_none (B:=B) (mt:=mt) (seen:=[]) (i:=i) (to:=to) (s:=s) (s'':=s') ⟨hit,hst⟩ ho hp he hk
      rw [look_nil,hXX,k8] at rY rN rO
      have hre:(stepM m).regs=(tick s).regs:=L1.regs
      generalize gt mt (gt mt i)=E at*
      generalize gt mt i=M at*
      repeat' (first
       |(with_reducible first|refine nx ?_|refine t_seq fun K=>?_|refine t_br (fun hc=>?_) fun hc=>?_|refine t_bx ?_|apply And.intro|intro vr)|exact kp_fls|exact kpd
       |((with_reducible first|refine ny ?_|refine t_kLF ?_ ?_|refine t_drawE (id:=7) (fun _=>false) [(0,2),(1,2),(2,2),(3,2),(4,2),(5,0),(6,1)] (by kernel_rfl) fun K=>?_|refine t_dwh (h:=fun K KL=>?_));intros;simp only [go_sem,kp128,geff,g3,g4,hopd,yes]))
      all_goals try exact nd
      refine ⟨fk127,step_ec (by omega) ?_⟩
      generalize stepM m=m1 at*
      have ga:m1.regs.getD a.toNat 0=gt m1.regs a:=rfl
      cases gp:decide (gt m1.regs a≥0) with
      |true=>
       have gp':=of_decide_eq_true gp
       rw [hre] at gp'
       repeat' (first
        |(with_reducible first|refine nx ?_|refine t_seq fun K=>?_|refine t_br (fun hc=>?_) fun hc=>?_|refine t_bx ?_|apply And.intro|intro vr)|exact kp_fls|exact kpd
        |((with_reducible first|refine ny ?_|refine t_kLF ?_ ?_|refine t_drawE (id:=7) (fun _=>false) [(0,2),(1,2),(2,2),(3,2),(4,2),(5,0),(6,1)] (by kernel_rfl) fun K=>?_|refine t_dwh (h:=fun K KL=>?_));intros;simp only [go_sem,kp128,geff,g5,he1,gm,gm2,ga,gp,yes]))
       all_goals try exact nd
       refine ⟨fk128,hB _ _ _ (tick s) _ _ (by omega) hin hfi (fun _=>hgT.le) R1 fun m2 s2 hr2 hg2 h3=>?_⟩
       repeat' (first
        |(with_reducible first|refine nx ?_|refine t_seq fun K=>?_|refine t_br (fun hc=>?_) fun hc=>?_|refine t_bx ?_|apply And.intro|intro vr)|exact kp_fls|exact kpd
        |((with_reducible first|refine ny ?_|refine t_kLF ?_ ?_|refine t_drawE (id:=7) (fun _=>false) [(0,2),(1,2),(2,2),(3,2),(4,2),(5,0),(6,1)] (by kernel_rfl) fun K=>?_|refine t_dwh (h:=fun K KL=>?_));intros;simp only [go_sem,kp128,geff,yes]))
       all_goals try exact nd
       refine ⟨⟨E+1,m2,s2,by omega,.inl (by omega),hFn,hg2,h3,fun s' h=>hv _ (rY gp' hr2 h)⟩,by simp only;omega,?_⟩
       try simp only [updL_nil,updL_cons,delF_top,delF_upd,Nat.reduceEqDiff,reduceIte]
       refine le_ro1 (Nat.le_refl _) (ro_bds (by omega) hbd) ?_ ?_
       ·repeat' (first|exact low_top|(refine low_upd rfl ?_))
       repeat' (first|exact leF_top _|exact (fun _=>LeR.refl _)|(with_reducible refine leF_sl ?_ ?_)|(refine leF_upd ?_ ?_))
       all_goals (first|exact LeR.top _|exact LeR.refl _|(refine LeR.of_eq ?_;(try simp only [go_sem]);try rfl)|((try simp only [go_sem]);try rfl))
      |false=>
       have gp':=of_decide_eq_false gp
       rw [hre] at gp'
       by_cases y12:(B.op M).code=12
       ·obtain ⟨c1,c2,c3⟩:=hin2 y12
        have gmin:minI (M+1) E=M+1:=by unfold minI;split<;>omega
        repeat' (first
         |(with_reducible first|refine nx ?_|refine t_seq fun K=>?_|refine t_br (fun hc=>?_) fun hc=>?_|refine t_bx ?_|apply And.intro|intro vr)|exact kp_fls|exact kpd
         |((with_reducible first|refine ny ?_|refine t_kLF ?_ ?_|refine t_drawE (id:=7) (fun _=>false) [(0,2),(1,2),(2,2),(3,2),(4,2),(5,0),(6,1)] (by kernel_rfl) fun K=>?_|refine t_dwh (h:=fun K KL=>?_));intros;simp only [go_sem,kp128,geff,g5,he1,gm,gm2,ga,gp,gmin,yes]))
        all_goals try exact nd
        refine ⟨fk128,hB _ _ _ (tick s) _ _ (by omega) c1 c2 (fun _=>hgT.le) R1 fun m2 s2 hr2 hg2 h3=>?_⟩
        repeat' (first
         |(with_reducible first|refine nx ?_|refine t_seq fun K=>?_|refine t_br (fun hc=>?_) fun hc=>?_|refine t_bx ?_|apply And.intro|intro vr)|exact kp_fls|exact kpd
         |((with_reducible first|refine ny ?_|refine t_kLF ?_ ?_|refine t_drawE (id:=7) (fun _=>false) [(0,2),(1,2),(2,2),(3,2),(4,2),(5,0),(6,1)] (by kernel_rfl) fun K=>?_|refine t_dwh (h:=fun K KL=>?_));intros;simp only [go_sem,kp128,geff,yes]))
        all_goals try exact nd
        refine ⟨⟨E+1,m2,s2,by omega,.inl (by omega),hFn,hg2,h3,fun s' h=>hv _ (rN gp' y12 hr2 h)⟩,by simp only;omega,?_⟩
        try simp only [updL_nil,updL_cons,delF_top,delF_upd,Nat.reduceEqDiff,reduceIte]
        refine le_ro1 (Nat.le_refl _) (ro_bds (by omega) hbd) ?_ ?_
        ·repeat' (first|exact low_top|(refine low_upd rfl ?_))
        repeat' (first|exact leF_top _|exact (fun _=>LeR.refl _)|(with_reducible refine leF_sl ?_ ?_)|(refine leF_upd ?_ ?_))
        all_goals (first|exact LeR.top _|exact LeR.refl _|(refine LeR.of_eq ?_;(try simp only [go_sem]);try rfl)|((try simp only [go_sem]);try rfl))
       ·have hEM:E=M:=k10 y12
        have gmin:minI (M+1) E=E:=by unfold minI;split<;>omega
        repeat' (first
         |(with_reducible first|refine nx ?_|refine t_seq fun K=>?_|refine t_br (fun hc=>?_) fun hc=>?_|refine t_bx ?_|apply And.intro|intro vr)|exact kp_fls|exact kpd
         |((with_reducible first|refine ny ?_|refine t_kLF ?_ ?_|refine t_drawE (id:=7) (fun _=>false) [(0,2),(1,2),(2,2),(3,2),(4,2),(5,0),(6,1)] (by kernel_rfl) fun K=>?_|refine t_dwh (h:=fun K KL=>?_));intros;simp only [go_sem,kp128,geff,g5,he1,gm,gm2,ga,gp,gmin,yes]))
        all_goals try exact nd
        refine ⟨fk128,hB _ _ _ (tick s) _ _ (by omega) ⟨by omega,by omega,fun j j0 j1 _=>by omega⟩ (fun e e0 e1 _=>by omega) (fun _=>hgT.le) R1 fun m2 s2 hr2 hg2 h3=>?_⟩
        have e2:s2=tick s:=hr2.det (runs_end (fun q=>by omega))
        subst e2
        repeat' (first
         |(with_reducible first|refine nx ?_|refine t_seq fun K=>?_|refine t_br (fun hc=>?_) fun hc=>?_|refine t_bx ?_|apply And.intro|intro vr)|exact kp_fls|exact kpd
         |((with_reducible first|refine ny ?_|refine t_kLF ?_ ?_|refine t_drawE (id:=7) (fun _=>false) [(0,2),(1,2),(2,2),(3,2),(4,2),(5,0),(6,1)] (by kernel_rfl) fun K=>?_|refine t_dwh (h:=fun K KL=>?_));intros;simp only [go_sem,kp128,geff,yes]))
        all_goals try exact nd
        refine ⟨⟨E+1,m2,tick s,by omega,.inl (by omega),hFn,hg2,h3,fun s' h=>hv _ (rO gp' y12 h)⟩,by simp only;omega,?_⟩
        try simp only [updL_nil,updL_cons,delF_top,delF_upd,Nat.reduceEqDiff,reduceIte]
        refine le_ro1 (Nat.le_refl _) (ro_bds (by omega) hbd) ?_ ?_
        ·repeat' (first|exact low_top|(refine low_upd rfl ?_))
        repeat' (first|exact leF_top _|exact (fun _=>LeR.refl _)|(with_reducible refine leF_sl ?_ ?_)|(refine leF_upd ?_ ?_))
        all_goals (first|exact LeR.top _|exact LeR.refl _|(refine LeR.of_eq ?_;(try simp only [go_sem]);try rfl)|((try simp only [go_sem]);try rfl))
     ·have hh:=hF.here hit
      rw [hXX] at hh
      have e10:(q==10)=false:=by simpa using q10
      have e11:(q==11)=false:=by simpa using q11
      have hok:=L1.okM hgT.le hcb hn hA R1.ver
      have Rn:=R1.plain (x:=⟨q,p,a,b,cc,d⟩) L1 he1 hvl i
      have hgn:=hgT.simple hrg
      have haf:=plain_simple (x:=⟨q,p,a,b,cc,d⟩) L1 R1.len R1.ver
      obtain ⟨f,xs,ys,t1,t2,⟨t3,t4,t5,t6⟩,⟨t7,t8⟩,t9,t10⟩:=tab_ok (x:=x) (y:=y) (B:=B) (mt:=mt) hok hrg hrd ⟨q10,q11,hh.1,hh.2⟩
      simp only at t1 t7 t8
      have e0:0+q.toNat*1=q.toNat:=by omega
      have u5:(q.toNat<16)=True:=eq_true (by omega)
      have hsl:=haf.left
      have t9':∀ σ z,closeL1 true σ (xs++[z]++ys)=none:=fun σ z=>by rw [List.append_assoc];exact t9 σ z
      have t11:∀ (ex:List AObj) (k:AV→List AObj→Prop),k (.lit (.bool (plainS ⟨q,p,a,b,cc,d⟩ (stepM m)).2)) (robj x y B mt (plainS ⟨q,p,a,b,cc,d⟩ (stepM m)).1 ex)→EC Try.prog f (xs++[opV ⟨q,p,a,b,cc,d⟩]++ys) (robj x y B mt (stepM m) ex) k:=fun ex k h=>by rw [List.append_assoc];exact t10 ex k h
      repeat' (first
       |(with_reducible first|refine nx ?_|refine t_seq fun K=>?_|refine t_br (fun hc=>?_) fun hc=>?_|refine t_bx ?_|apply And.intro|intro vr)|exact kp_fls|exact kpd
       |((with_reducible first|refine ny ?_|refine t_kLF ?_ ?_|refine t_drawE (id:=7) (fun _=>false) [(0,2),(1,2),(2,2),(3,2),(4,2),(5,0),(6,1)] (by kernel_rfl) fun K=>?_|refine t_dwh (h:=fun K KL=>?_));intros;simp only [go_sem,kp128,geff,g3,g4,hopd,yes]))
      all_goals try exact nd
      refine ⟨fk127,step_ec (by omega) ?_⟩
      generalize stepM m=m1 at*
      repeat' (first
       |(with_reducible first|refine nx ?_|refine t_seq fun K=>?_|refine t_br (fun hc=>?_) fun hc=>?_|refine t_bx ?_|apply And.intro|intro vr)|exact kp_fls|exact kpd
       |((with_reducible first|refine ny ?_|refine t_kLF ?_ ?_|refine t_drawE (id:=7) (fun _=>false) [(0,2),(1,2),(2,2),(3,2),(4,2),(5,0),(6,1)] (by kernel_rfl) fun K=>?_|refine t_dwh (h:=fun K KL=>?_));intros;simp only [go_sem,kp128,geff,g5,he1,e10,e11,e0,t1,t9',u5,yes]))
      all_goals try exact nd
      refine ⟨t2,t11 _ _ ?_⟩
      cases hq:(plainS ⟨q,p,a,b,cc,d⟩ m1).2 with
      |true=>
       have hf:(simpleS ⟨q,p,a,b,cc,d⟩ (tick s)).failed=false:=by rw [haf.ok,hq];rfl
       rw [hq,if_pos rfl,hf,if_neg (by simp)] at Rn
       have rS:=fun {s':St} hk=>runs_simple (B:=B) (mt:=mt) (seen:=[]) (i:=i) (to:=to) (s:=s) (s':=s') ⟨hit,hst⟩ (by rw [hXX];exact q10) (by rw [hXX];exact q11) hk
       rw [look_nil,hXX,hf,if_neg (by simp)] at rS
       generalize (plainS ⟨q,p,a,b,cc,d⟩ m1).1=m2 at*
       generalize simpleS ⟨q,p,a,b,cc,d⟩ (tick s)=s2 at*
       repeat' (first
        |(with_reducible first|refine nx ?_|refine t_seq fun K=>?_|refine t_br (fun hc=>?_) fun hc=>?_|refine t_bx ?_|apply And.intro|intro vr)|exact kp_fls|exact kpd
        |((with_reducible first|refine ny ?_|refine t_kLF ?_ ?_|refine t_drawE (id:=7) (fun _=>false) [(0,2),(1,2),(2,2),(3,2),(4,2),(5,0),(6,1)] (by kernel_rfl) fun K=>?_|refine t_dwh (h:=fun K KL=>?_));intros;simp only [go_sem,kp128,geff,hq,yes]))
       all_goals try exact nd
       refine ⟨⟨i+1,m2,s2,by omega,.inl (by omega),hF.step ⟨by rw [hXX];exact q10,by rw [hXX];exact q11⟩ hit,fun _=>hgn,Rn,fun s' h=>hv _ (rS h)⟩,by simp only;omega,?_⟩
       try simp only [updL_nil,updL_cons,delF_top,delF_upd,Nat.reduceEqDiff,reduceIte]
       refine le_ro1 (Nat.le_refl _) (ro_bds (by omega) hbd) ?_ ?_
       ·repeat' (first|exact low_top|(refine low_upd rfl ?_))
       repeat' (first|exact leF_top _|exact (fun _=>LeR.refl _)|(with_reducible refine leF_sl ?_ ?_)|(refine leF_upd ?_ ?_))
       all_goals (first|exact LeR.top _|exact LeR.refl _|(refine LeR.of_eq ?_;(try simp only [go_sem]);try rfl)|((try simp only [go_sem]);try rfl))
      |false=>
       have hf:(simpleS ⟨q,p,a,b,cc,d⟩ (tick s)).failed=true:=by rw [haf.ok,hq];rfl
       rw [hq,if_neg (by simp),if_pos hf] at Rn
       have rS:=fun {s':St} hk=>runs_simple (B:=B) (mt:=mt) (seen:=[]) (i:=i) (to:=to) (s:=s) (s':=s') ⟨hit,hst⟩ (by rw [hXX];exact q10) (by rw [hXX];exact q11) hk
       rw [look_nil,hXX,if_pos hf] at rS
       have hgn':Gd n A c {simpleS ⟨q,p,a,b,cc,d⟩ (tick s) with at_:=i}:=⟨hgn.1,hgn.2,hgn.3,hgn.4,hgn.5,hgn.6,hgn.7⟩
       generalize (plainS ⟨q,p,a,b,cc,d⟩ m1).1=m2 at*
       generalize simpleS ⟨q,p,a,b,cc,d⟩ (tick s)=s2 at*
       repeat' (first
        |(with_reducible first|refine nx ?_|refine t_seq fun K=>?_|refine t_br (fun hc=>?_) fun hc=>?_|refine t_bx ?_|apply And.intro|intro vr)|exact kp_fls|exact kpd
        |((with_reducible first|refine ny ?_|refine t_kLF ?_ ?_|refine t_drawE (id:=7) (fun _=>false) [(0,2),(1,2),(2,2),(3,2),(4,2),(5,0),(6,1)] (by kernel_rfl) fun K=>?_|refine t_dwh (h:=fun K KL=>?_));intros;simp only [go_sem,kp128,geff,hq,yes]))
       all_goals try exact nd
       refine ⟨fk129,fail_ec ?_⟩
       repeat' (first
        |(with_reducible first|refine nx ?_|refine t_seq fun K=>?_|refine t_br (fun hc=>?_) fun hc=>?_|refine t_bx ?_|apply And.intro|intro vr)|exact kp_fls|exact kpd
        |((with_reducible first|refine ny ?_|refine t_kLF ?_ ?_|refine t_drawE (id:=7) (fun _=>false) [(0,2),(1,2),(2,2),(3,2),(4,2),(5,0),(6,1)] (by kernel_rfl) fun K=>?_|refine t_dwh (h:=fun K KL=>?_));intros;simp only [go_sem,kp128,geff,yes]))
       all_goals try exact nd
       refine ⟨⟨i+1,failM m2 i 22,{s2 with at_:=i},by omega,.inl (by omega),hF.step ⟨by rw [hXX];exact q10,by rw [hXX];exact q11⟩ hit,fun _=>hgn',Rn,fun s' h=>hv _ (rS h)⟩,by simp only;omega,?_⟩
       try simp only [updL_nil,updL_cons,delF_top,delF_upd,Nat.reduceEqDiff,reduceIte]
       refine le_ro1 (Nat.le_refl _) (ro_bds (by omega) hbd) ?_ ?_
       ·repeat' (first|exact low_top|(refine low_upd rfl ?_))
       repeat' (first|exact leF_top _|exact (fun _=>LeR.refl _)|(with_reducible refine leF_sl ?_ ?_)|(refine leF_upd ?_ ?_))
       all_goals (first|exact LeR.top _|exact LeR.refl _|(refine LeR.of_eq ?_;(try simp only [go_sem]);try rfl)|((try simp only [go_sem]);try rfl))
    ·have g5:decide ((stepM m).e=0)=false:=decide_eq_false he1
     have hrel:=R1.rel
     have e3:(stepM m).e=3:=by
       rcases hrel with q|q|q
       ·exact absurd q.1 he1
       ·exact q.1
       ·have:=L.fl
        have q2:s.failed=true:=q.2.2.1
        rw [this] at q2;cases q2
     have hl0:(tick s).left≤0:=by
       rcases hrel with q|q|q
       ·exact absurd q.1 he1
       ·exact q.2
       ·rw [e3] at q;exact absurd q.1 (by decide)
     have hrun:=endR_runs (B:=B) (mt:=mt) (seen:=[]) (t:= .blk i to) (s:=s)
     have hlt:=runs_tick hit hst hrun
     have hl1:(endR B mt [] (.blk i to) s).left≤0:=by
       have:(tick s).left=s.left - 1:=rfl
       omega
     repeat' (first
      |(with_reducible first|refine nx ?_|refine t_seq fun K=>?_|refine t_br (fun hc=>?_) fun hc=>?_|refine t_bx ?_|apply And.intro|intro vr)|exact kp_fls|exact kpd
      |((with_reducible first|refine ny ?_|refine t_kLF ?_ ?_|refine t_drawE (id:=7) (fun _=>false) [(0,2),(1,2),(2,2),(3,2),(4,2),(5,0),(6,1)] (by kernel_rfl) fun K=>?_|refine t_dwh (h:=fun K KL=>?_));intros;simp only [go_sem,kp128,geff,g3,g4,hopd,yes]))
     all_goals try exact nd
     refine ⟨fk127,step_ec (by omega) ?_⟩
     generalize stepM m=m1 at*
     repeat' (first
      |(with_reducible first|refine nx ?_|refine t_seq fun K=>?_|refine t_br (fun hc=>?_) fun hc=>?_|refine t_bx ?_|apply And.intro|intro vr)|exact kp_fls|exact kpd
      |((with_reducible first|refine ny ?_|refine t_kLF ?_ ?_|refine t_drawE (id:=7) (fun _=>false) [(0,2),(1,2),(2,2),(3,2),(4,2),(5,0),(6,1)] (by kernel_rfl) fun K=>?_|refine t_dwh (h:=fun K KL=>?_));intros;simp only [go_sem,kp128,geff,g5,yes]))
     all_goals try exact nd
     all_goals (refine nl ?_;simp only [go_sem,finE])
     exact ⟨_,_,rfl,LeA.refl _,ro_bds (by omega) hbd,h5 m1 _ (hv _ hrun) (fun e=>absurd e he1) ⟨R1.len,R1.ver,R1.st,.inr (.inl ⟨e3,hl1⟩)⟩⟩
   ·have g4:decide (m.e=0)=false:=decide_eq_false he
    repeat' (first
     |(with_reducible first|refine nx ?_|refine t_seq fun K=>?_|refine t_br (fun hc=>?_) fun hc=>?_|refine t_bx ?_|apply And.intro|intro vr)|exact kp_fls|exact kpd
     |((with_reducible first|refine ny ?_|refine t_kLF ?_ ?_|refine t_drawE (id:=7) (fun _=>false) [(0,2),(1,2),(2,2),(3,2),(4,2),(5,0),(6,1)] (by kernel_rfl) fun K=>?_|refine t_dwh (h:=fun K KL=>?_));intros;simp only [go_sem,kp128,geff,g3,g4,yes]))
    all_goals try exact nd
    all_goals (refine nl ?_;simp only [go_sem,finE])
    exact ⟨_,_,rfl,LeA.refl _,ro_bds (by omega) hbd,h5 m s (hv _ (runs_end (fun q=>by rw [hr.stop he] at q;cases q.2))) hg hr⟩
  ·have g3:decide (i<to)=false:=decide_eq_false (by omega)
   repeat' (first
    |(with_reducible first|refine nx ?_|refine t_seq fun K=>?_|refine t_br (fun hc=>?_) fun hc=>?_|refine t_bx ?_|apply And.intro|intro vr)|exact kp_fls|exact kpd
    |((with_reducible first|refine ny ?_|refine t_kLF ?_ ?_|refine t_drawE (id:=7) (fun _=>false) [(0,2),(1,2),(2,2),(3,2),(4,2),(5,0),(6,1)] (by kernel_rfl) fun K=>?_|refine t_dwh (h:=fun K KL=>?_));intros;simp only [go_sem,kp128,geff,g3,yes]))
   all_goals try exact nd
   all_goals (refine nl ?_;simp only [go_sem,finE])
   exact ⟨_,_,rfl,LeA.refl _,ro_bds (by omega) hbd,h5 m s (hv _ (runs_end (fun q=>by omega))) hg hr⟩
set_option maxHeartbeats 4000000 in
theorem blk_base:BlkM x y B mt n A c 0:=by
  intro i to m s ex k h1 h2 hF hg hr h5
  refine ec_fin fun hbd=>?_
  rw [ro_len] at hbd
  have h20:=h2.1
  refine ecR M5_ok (kp128) Try.func128 [] (h:=fun KF=>?_)
  unfold M5
  repeat' (first
   |(with_reducible first|refine nx ?_|refine t_seq fun K=>?_|refine t_br (fun hc=>?_) fun hc=>?_|refine t_bx ?_|apply And.intro|intro vr)
   |((with_reducible first|refine ny ?_|refine t_dwh (h:=fun K KL=>?_));intros;simp only [go_sem,kp128,geff]))
  all_goals try exact nd
  refine t_loopF (ι:=Unit) (fun _=>[(8,.lit (.int .i64 i))]) (fun _=>robj x y B mt m ex) (fun _=>0) () ?_ ?_
  ·exact lf
  rintro ⟨⟩ K0
  have g3:decide (i<to)=false:=decide_eq_false (by omega)
  repeat' (first
   |(with_reducible first|refine nx ?_|refine t_seq fun K=>?_|refine t_br (fun hc=>?_) fun hc=>?_|refine t_bx ?_|apply And.intro|intro vr)
   |((with_reducible first|refine ny ?_|refine t_dwh (h:=fun K KL=>?_));intros;simp only [go_sem,kp128,geff,g3]))
  all_goals try exact nd
  all_goals (refine nl ?_;simp only [go_sem,finE])
  exact ⟨_,_,rfl,LeA.refl _,ro_bds (by omega) hbd,h5 m s (runs_end (fun q=>by omega)) hg hr⟩
theorem blk_all (hK:Wk B mt n) (hF0:Fre B mt 0 B.ops.length) (hcb:c≤1000000) (hA:A≤1048576):∀ N:Nat,BlkM x y B mt n A c N
  |0=>blk_base
  |N+1=>blk_step hK hF0 hcb hA (blk_all hK hF0 hcb hA N)
end
end Go.Proofs.Ytnlimcijgpaegaa.Mm

namespace Go.Proofs.Ytnlimcijgpaegaa.Mm
open Go.Proofs.Ytnlimcijgpaegaa
open Go Go.Fw Bm
set_option maxRecDepth 20000
section
variable {x y:AObj} {B:Prg} {mt:List Int} {n A:Nat} {c:Int} {m:MS} {s:St} {ex:List AObj} {σ:List AObj} {k:AV→List AObj→Prop}
set_option maxHeartbeats 4000000 in
theorem set_ec {g:FuncId} {ys:List AV} (hk:k (.fn (.func 169) [] [.ref (σ.length+1) 0,.ref σ.length 0]) (σ++[.box 115 [.ref 5 0],.box 200 [.fn (.func g) [] ys]])):EC Try.prog 146 [.ref 5 0,.fn (.func g) [] ys] σ k:=by
  refine ecR M5_ok (kp146) Try.func146 [.tmp 4] (h:=fun KF=>?_)
  unfold M5
  repeat' (first
   |(with_reducible first|refine nx ?_|refine t_seq fun K=>?_|refine t_br (fun hc=>?_) fun hc=>?_|refine t_bx ?_|apply And.intro|intro vr)
   |((with_reducible first|refine ny ?_|refine t_dwh (h:=fun K KL=>?_));intros;simp only [go_sem,kp146,geff,List.append_assoc,List.cons_append,List.nil_append,List.length_append,List.length_cons,List.length_nil,yes]))
  all_goals try exact nd
  all_goals (refine nl ?_;simp only [go_sem,List.append_assoc,List.cons_append,List.nil_append])
  exact hk
theorem kp_8 {a0 a1 a2 a3 a4 a5 a6 a7:AObj} {a8:AObj} {l l':List AObj}:Kp (fun i=>i==8) (a0::a1::a2::a3::a4::a5::a6::a7::a8::l) (a0::a1::a2::a3::a4::a5::a6::a7::a8::l'):=fun o t cs hD ho=>by
  have e:o=8:=by simpa using hD
  subst e
  exact ho
set_option maxHeartbeats 8000000 in
theorem plain_ec (hk:k (.agg tabL) (mobj x y B mt m [.box 115 [.ref 5 0],.box 115 [.ref 5 0],.box 180 tabL,.box 115 [.ref 5 0],.box 200 [.fn (.func 147) [] []],.box 115 [.ref 5 0],.box 200 [.fn (.func 149) [] [.ref 8 0]],.box 115 [.ref 5 0],.box 200 [.fn (.func 150) [] [.ref 8 0]],.box 115 [.ref 5 0],.box 200 [.fn (.func 156) [] [.ref 8 0]]])):
    EC Try.prog 125 [.ref 5 0] (mobj x y B mt m [.box 115 [.ref 5 0]]) k:=by
  unfold mobj
  refine ecR M5_ok (kp125) Try.func125 [.cell 2 180] (h:=fun KF=>?_)
  unfold M5
  repeat' (first
   |(with_reducible first|refine nx ?_|refine t_seq fun K=>?_|refine t_br (fun hc=>?_) fun hc=>?_|refine t_bx ?_|apply And.intro|intro vr)|exact kp_8|exact kpd
   |((with_reducible first|refine ny ?_|refine t_kLF ?_ ?_|refine t_drawE (id:=1) (fun i=>i==8) [(0,1),(2,1),(3,1),(4,1),(5,1),(7,1),(8,1),(10,1),(11,1),(12,1),(13,1),(14,1),(15,1),(16,1),(17,1),(18,1),(19,1),(20,1),(22,1),(1,0),(6,0),(9,0),(21,0),(23,1),(24,0)] (by kernel_rfl) fun K=>?_|refine t_dwh (h:=fun K KL=>?_));intros;simp only [go_sem,kp125,geff,yes]))
  all_goals try exact nd
  refine ⟨fk146,set_ec ?_⟩
  repeat' (first
   |(with_reducible first|refine nx ?_|refine t_seq fun K=>?_|refine t_br (fun hc=>?_) fun hc=>?_|refine t_bx ?_|apply And.intro|intro vr)|exact kp_8|exact kpd
   |((with_reducible first|refine ny ?_|refine t_kLF ?_ ?_|refine t_drawE (id:=1) (fun i=>i==8) [(0,1),(2,1),(3,1),(4,1),(5,1),(7,1),(8,1),(10,1),(11,1),(12,1),(13,1),(14,1),(15,1),(16,1),(17,1),(18,1),(19,1),(20,1),(22,1),(1,0),(6,0),(9,0),(21,0),(23,1),(24,0)] (by kernel_rfl) fun K=>?_|refine t_dwh (h:=fun K KL=>?_));intros;simp only [go_sem,kp125,geff,List.cons_append,List.nil_append,yes]))
  all_goals try exact nd
  refine ⟨fk146,set_ec ?_⟩
  repeat' (first
   |(with_reducible first|refine nx ?_|refine t_seq fun K=>?_|refine t_br (fun hc=>?_) fun hc=>?_|refine t_bx ?_|apply And.intro|intro vr)|exact kp_8|exact kpd
   |((with_reducible first|refine ny ?_|refine t_kLF ?_ ?_|refine t_drawE (id:=1) (fun i=>i==8) [(0,1),(2,1),(3,1),(4,1),(5,1),(7,1),(8,1),(10,1),(11,1),(12,1),(13,1),(14,1),(15,1),(16,1),(17,1),(18,1),(19,1),(20,1),(22,1),(1,0),(6,0),(9,0),(21,0),(23,1),(24,0)] (by kernel_rfl) fun K=>?_|refine t_dwh (h:=fun K KL=>?_));intros;simp only [go_sem,kp125,geff,List.cons_append,List.nil_append,yes]))
  all_goals try exact nd
  refine ⟨fk146,set_ec ?_⟩
  repeat' (first
   |(with_reducible first|refine nx ?_|refine t_seq fun K=>?_|refine t_br (fun hc=>?_) fun hc=>?_|refine t_bx ?_|apply And.intro|intro vr)|exact kp_8|exact kpd
   |((with_reducible first|refine ny ?_|refine t_kLF ?_ ?_|refine t_drawE (id:=1) (fun i=>i==8) [(0,1),(2,1),(3,1),(4,1),(5,1),(7,1),(8,1),(10,1),(11,1),(12,1),(13,1),(14,1),(15,1),(16,1),(17,1),(18,1),(19,1),(20,1),(22,1),(1,0),(6,0),(9,0),(21,0),(23,1),(24,0)] (by kernel_rfl) fun K=>?_|refine t_dwh (h:=fun K KL=>?_));intros;simp only [go_sem,kp125,geff,List.cons_append,List.nil_append,yes]))
  all_goals try exact nd
  refine ⟨fk146,set_ec ?_⟩
  repeat' (first
   |(with_reducible first|refine nx ?_|refine t_seq fun K=>?_|refine t_br (fun hc=>?_) fun hc=>?_|refine t_bx ?_|apply And.intro|intro vr)|exact kp_8|exact kpd
   |((with_reducible first|refine ny ?_|refine t_kLF ?_ ?_|refine t_drawE (id:=1) (fun i=>i==8) [(0,1),(2,1),(3,1),(4,1),(5,1),(7,1),(8,1),(10,1),(11,1),(12,1),(13,1),(14,1),(15,1),(16,1),(17,1),(18,1),(19,1),(20,1),(22,1),(1,0),(6,0),(9,0),(21,0),(23,1),(24,0)] (by kernel_rfl) fun K=>?_|refine t_dwh (h:=fun K KL=>?_));intros;simp only [go_sem,kp125,geff,List.cons_append,List.nil_append,yes]))
  all_goals try exact nd
  all_goals (refine nl ?_;simp only [go_sem])
  exact hk
theorem mo_bds {n:Nat} {m':MS} (hn:7≤n) (h:BdS n (mobj x y B mt m ex)):BdS n (mobj x y B mt m' ex):=fun o t cs ho=>by
  rcases o with _|_|_|_|_|_|_|o
  ·exact h 0 t cs ho
  ·exact h 1 t cs ho
  ·exact h 2 t cs ho
  ·cases ho
  ·cases ho
  ·exact stO_bd (m:=m') hn 0 t cs ho
  ·cases ho
  ·exact h (o+7) t cs ho
def zerM (t:TypeId):AV:=if t=172 then .lit .nilFunc else if t=182 then .lit .nilFunc else zer t
theorem zM172:zerM 172= .lit .nilFunc:=rfl
theorem zM182:zerM 182= .lit .nilFunc:=rfl
theorem zM180:zerM 180=zer 180:=rfl
theorem iz172:(zeroT Try.prog 172).isSome=true:=by kernel_rfl
theorem iz182:(zeroT Try.prog 182).isSome=true:=by kernel_rfl
theorem zerM_ok:∀ t v,zeroT Try.prog t=some v→RC (fun _ _=>none) (zerM t) v:=fun t v h=>by
  unfold zerM
  by_cases e:t=172
  ·subst e
   rw [if_pos rfl]
   rw [show zeroT Try.prog 172=some .nilFunc from by kernel_rfl] at h
   cases h;exact .lit _
  ·rw [if_neg e]
   by_cases e2:t=182
   ·subst e2
    rw [if_pos rfl]
    rw [show zeroT Try.prog 182=some .nilFunc from by kernel_rfl] at h
    cases h;exact .lit _
   ·rw [if_neg e2];exact zer_ok t v h
attribute [go_sem] zM172 zM182 zM180 iz172 iz182
noncomputable def M6:Env:=envU Try.prog jkR zerM (fun _=>false) (fun _=>false) []
theorem M6_ok:EnvOk Try.prog M6:=envUOk zerM_ok
theorem setT:setRange [.lit .nilFunc,.lit .nilFunc,.lit .nilFunc,.lit .nilFunc,.lit .nilFunc,.lit .nilFunc,.lit .nilFunc,.lit .nilFunc,.lit .nilFunc,.lit .nilFunc,.lit .nilFunc,.lit .nilFunc,.lit .nilFunc,.lit .nilFunc,.lit .nilFunc,.lit .nilFunc] 0 tabL=tabL:=rfl
theorem solNil:(AV.lit Value.nilFunc).solid=true:=rfl
theorem stO_eq:stO B mt m= .box 120 [.lit (.int .i64 B.regs),.lit (.int .i64 B.arena),.sl false 6 (opsV B.ops),.sl false 2 (plsV B.ins),.sl false 2 (plsV B.outs),.sl false 3 (arrs B.types),.sl false 1 (ints .i64 mt),.arr 3 0,.arr 4 0,
  .lit (.int .i64 m.reads),.lit (.int .i64 m.writes),.lit (.int .i64 m.ops),.lit (.int .i64 m.peak),.arr 6 m.vb,.lit (.int .i64 m.steps),.lit (.int .i64 m.at_),.lit (.int .i64 m.e)]:=rfl
set_option maxHeartbeats 8000000 in
theorem run_ec (hK:Wk B mt n) (hF0:Fre B mt 0 B.ops.length) (hcb:c≤1000000) (hA:A≤1048576) (hg:m.e=0→Gd n A c s) (hr:Rp n m s)
    (hk:∀ m' s',Runs B mt [] (.blk 0 B.ops.length) s s'→(m'.e=0→Gd n A c s')→Rp n m' s'→k (.tup []) (mobj x y B mt m' [])):EC Try.prog 98 [.ref 5 0] (mobj x y B mt m []) k:=by
  refine ec_fin fun hbd=>?_
  have hL:=hK.len
  have hcl:Cl B mt 0 B.ops.length:=⟨Int.le_refl _,Int.le_refl _,fun j j0 j1 j2=>(hK.nest.at j0 j1 j2).2.1⟩
  refine ecR M6_ok (kp98) Try.func98 [] (h:=fun KF=>?_)
  unfold M6
  unfold mobj
  repeat' (first
   |(with_reducible first|refine nx ?_|refine t_seq fun K=>?_|refine t_br (fun hc=>?_) fun hc=>?_|refine t_bx ?_|apply And.intro|intro vr)|exact kp_8|exact kp_fls|exact kpd
   |((with_reducible first|refine ny ?_|refine t_kLF ?_ ?_|refine t_drawE (id:=5) (fun _=>false) [(0,2),(1,2),(2,2),(3,2),(4,2),(5,2),(6,2),(7,0)] (by kernel_rfl) fun K=>?_|refine t_dwh (h:=fun K KL=>?_));intros;simp only [go_sem,kp98,geff,yes]))
  all_goals try exact nd
  refine ⟨fk125,plain_ec ?_⟩
  unfold mobj
  repeat' (first
   |(with_reducible first|refine nx ?_|refine t_seq fun K=>?_|refine t_br (fun hc=>?_) fun hc=>?_|refine t_bx ?_|apply And.intro|intro vr)|exact kp_8|exact kp_fls|exact kpd
   |((with_reducible first|refine ny ?_|refine t_kLF ?_ ?_|refine t_drawE (id:=5) (fun _=>false) [(0,2),(1,2),(2,2),(3,2),(4,2),(5,2),(6,2),(7,0)] (by kernel_rfl) fun K=>?_|refine t_dwh (h:=fun K KL=>?_));intros;simp only [go_sem,kp98,geff,setT,solNil,stO_eq,List.cons_append,List.nil_append,yes]))
  all_goals try exact nd
  refine ⟨fk128,blk_all (x:=x) (y:=y) (n:=n) (A:=A) (c:=c) hK hF0 hcb hA B.ops.length 0 B.ops.length m s [] _ (by omega) hcl hF0 hg hr fun m2 s2 hr2 hg2 h2=>?_⟩
  repeat' (first
   |(with_reducible first|refine nx ?_|refine t_seq fun K=>?_|refine t_br (fun hc=>?_) fun hc=>?_|refine t_bx ?_|apply And.intro|intro vr)|exact kp_8|exact kp_fls|exact kpd
   |((with_reducible first|refine ny ?_|refine t_kLF ?_ ?_|refine t_drawE (id:=5) (fun _=>false) [(0,2),(1,2),(2,2),(3,2),(4,2),(5,2),(6,2),(7,0)] (by kernel_rfl) fun K=>?_|refine t_dwh (h:=fun K KL=>?_));intros;simp only [go_sem,kp98,geff,yes]))
  all_goals try exact nd
  all_goals (refine nl ?_;simp only [go_sem,finE])
  exact ⟨_,_,rfl,LeA.refl _,mo_bds (Nat.le_refl _) hbd,hk m2 s2 hr2 hg2 h2⟩
end
end Go.Proofs.Ytnlimcijgpaegaa.Mm

namespace Go.Proofs.Ytnlimcijgpaegaa
open Go Go.Fw
set_option maxRecDepth 20000
set_option maxRecDepth 20000
attribute [go_sem] con96_f con96_c arrOf_agg slK_sl
noncomputable def E75:Env:=envJ (P:=Try.prog) jk zer (fun _=>false) (fun _=>false) [con96] []
theorem E75_ok:EnvOk Try.prog E75:=envJOk zer_ok
theorem inval_pc {a:Arr} (h:okA a):PC Try.prog 95 [arrV a] (.lit (.bool (!(ofE a==0)))):=by
  obtain ⟨h1,h2⟩:=h
  simp only [arrV]
  refine pcR E75_ok (kp95) Try.func95 [.tmp 2] (h:=fun KF=>?_)
  unfold E75
  repeat' (first
   |(with_reducible first|refine nx ?_|refine t_seq fun K=>?_|refine t_br (fun hc=>?_) fun hc=>?_|refine t_bx ?_|apply And.intro|intro vr)
   |((with_reducible first|refine ny ?_|refine t_dwh (h:=fun K KL=>?_));intros;simp only [go_sem,kp95,geff]))
  all_goals try exact nd
  all_goals (refine nl ?_;simp only [go_sem])
  exact LeA.refl _
noncomputable def con95:PCon Try.prog where
  f:=95
  c:=fun
   |[xa]=>match arrOf xa with|some a=>some (okA a,.lit (.bool (!(ofE a==0))))|_=>none
   |_=>none
  ok:=by
   intro args p r hc hp
   split at hc
   ·split at hc
    ·rename_i ha
     cases hc
     exact PC.weak (inval_pc hp) ⟨arrOf_le ha,trivial⟩
    ·cases hc
   ·cases hc
  fk:=fk95
theorem con95_f:con95.f=95:=rfl
theorem con95_c {xa:AV}:con95.c [xa]=match arrOf xa with|some a=>some (okA a,.lit (.bool (!(ofE a==0))))|_=>none:=rfl
def idxA (p:Arr→Bool):List Arr→Int→Int
  |[],_=> -1
  |d::t,i=>if p d=true then i else idxA p t (i+1)
theorem idxA_any (p:Arr→Bool):∀ (l:List Arr) (i:Int),0≤i→decide (idxA p l i≥0)=l.any p
  |[],_,_=>rfl
  |d::t,i,hi=>by
   unfold idxA
   by_cases h:p d=true
   ·rw [if_pos h,List.any_cons,h,decide_eq_true hi];rfl
   ·rw [if_neg h,idxA_any p t (i+1) (by omega),List.any_cons]
    simp only [Bool.not_eq_true] at h
    rw [h];rfl
def invA (a:Arr):Bool:= !(ofE a==0)
noncomputable def E76:Env:=envJ (P:=Try.prog) jk zer (fun _=>false) (fun _=>false) [con95] []
theorem E76_ok:EnvOk Try.prog E76:=envJOk zer_ok
attribute [go_sem] con95_f con95_c
theorem idxa_pc {l:List Arr} (hl:l.length≤1000000) (hk:∀ a∈l,okA a):PC Try.prog 123 [.sl false 3 (arrs l),.fn (.func 95) [] []] (.lit (.int .i64 (idxA invA l 0))):=by
  generalize hR:idxA invA l 0=R
  refine pcR E76_ok (kp123) Try.func123 [.tmp 4] (h:=fun KF=>?_)
  unfold E76
  repeat' (first
   |(with_reducible first|refine nx ?_|refine t_seq fun K=>?_|refine t_br (fun hc=>?_) fun hc=>?_|refine t_bx ?_|apply And.intro|intro vr)
   |((with_reducible first|refine ny ?_|refine t_dwh (h:=fun K KL=>?_));intros;simp only [go_sem,kp123,geff,arrs_length]))
  all_goals try exact nd
  refine t_loopF (ι:={i:Nat // i≤l.length∧idxA invA (l.drop i) i=R}) (fun i=>[(8,.lit (.int .i64 i.1))]) (fun i=>[]) (fun i=>l.length - i.1) ⟨0,by omega,hR⟩ ?_ ?_
  ·exact lf
  rintro ⟨i,hi,hF⟩ K0
  rcases Nat.lt_or_ge i l.length with hc|hc
  ·rw [drop_getD nilA hc,idxA] at hF
   have g3:decide ((i:Int)<(l.length:Int))=true:=decide_eq_true (by omega)
   have hm:okA (l.getD i nilA):=hk _ (getD_mem nilA hc)
   cases h4:(ofE (l.getD i nilA)==0) with
   |true=>
    rw [if_neg (by unfold invA;rw [h4];decide)] at hF
    repeat' (first
     |(with_reducible first|refine nx ?_|refine t_seq fun K=>?_|refine t_br (fun hc=>?_) fun hc=>?_|refine t_bx ?_|apply And.intro|intro vr)
     |((with_reducible first|refine ny ?_|refine t_dwh (h:=fun K KL=>?_));intros;simp only [go_sem,kp123,geff,g3,Int.toNat_natCast,arrs_length,arrV,arrOf_agg,slK_sl,h4,Bool.not_true]))
    all_goals try exact nd
    exact ⟨⟨i+1,by omega,by rw [←hF];congr 1⟩,wf,lf⟩
   |false=>
    rw [if_pos (by unfold invA;rw [h4];decide)] at hF
    repeat' (first
     |(with_reducible first|refine nx ?_|refine t_seq fun K=>?_|refine t_br (fun hc=>?_) fun hc=>?_|refine t_bx ?_|apply And.intro|intro vr)
     |((with_reducible first|refine ny ?_|refine t_dwh (h:=fun K KL=>?_));intros;simp only [go_sem,kp123,geff,g3,Int.toNat_natCast,arrs_length,arrV,arrOf_agg,slK_sl,h4,Bool.not_false]))
    all_goals try exact nd
    all_goals (refine nl ?_;simp only [go_sem])
    exact LeA.of_eq (by rw [←hF])
  ·have g3:decide ((i:Int)<(l.length:Int))=false:=decide_eq_false (by omega)
   rw [List.drop_eq_nil_of_le (by omega),idxA] at hF
   repeat' (first
    |(with_reducible first|refine nx ?_|refine t_seq fun K=>?_|refine t_br (fun hc=>?_) fun hc=>?_|refine t_bx ?_|apply And.intro|intro vr)
    |((with_reducible first|refine ny ?_|refine t_dwh (h:=fun K KL=>?_));intros;simp only [go_sem,kp123,geff,g3,Int.toNat_natCast,arrs_length]))
   all_goals try exact nd
   all_goals (refine nl ?_;simp only [go_sem])
   exact LeA.of_eq (by rw [←hF])
noncomputable def con123:PCon Try.prog where
  f:=123
  c:=fun
   |[x,.fn (.func 95) [] []]=>match arrsOf x with|some l=>some (l.length≤1000000∧∀ a∈l,okA a,.lit (.int .i64 (idxA invA l 0)))|_=>none
   |_=>none
  ok:=by
   intro args p r hc hp
   split at hc
   ·split at hc
    ·rename_i hx
     cases hc
     exact PC.weak (idxa_pc hp.1 hp.2) ⟨arrsOf_le hx,LeA.refl _,trivial⟩
    ·cases hc
   ·cases hc
  fk:=fk123
theorem con123_f:con123.f=123:=rfl
theorem con123_c {x:AV}:con123.c [x,.fn (.func 95) [] []]=match arrsOf x with|some l=>some (l.length≤1000000∧∀ a∈l,okA a,.lit (.int .i64 (idxA invA l 0)))|_=>none:=rfl
attribute [go_sem] con123_f con123_c
noncomputable def E77:Env:=envJ (P:=Try.prog) jk zer (fun _=>false) (fun _=>false) [con123] []
theorem E77_ok:EnvOk Try.prog E77:=envJOk zer_ok
theorem anya_pc {l:List Arr} (hl:l.length≤1000000) (hk:∀ a∈l,okA a):PC Try.prog 94 [.sl false 3 (arrs l),.fn (.func 95) [] []] (.lit (.bool (l.any invA))):=by
  rw [←idxA_any invA l 0 (by omega)]
  refine pcR E77_ok (kp94) Try.func94 [.tmp 4] (h:=fun KF=>?_)
  unfold E77
  repeat' (first
   |(with_reducible first|refine nx ?_|refine t_seq fun K=>?_|refine t_br (fun hc=>?_) fun hc=>?_|refine t_bx ?_|apply And.intro|intro vr)
   |((with_reducible first|refine ny ?_|refine t_dwh (h:=fun K KL=>?_));intros;simp only [go_sem,kp94,geff,arrsOf_sl]))
  all_goals try exact nd
  all_goals try exact hk _ (by assumption)
  all_goals (refine nl ?_;simp only [go_sem])
  exact LeA.refl _
noncomputable def con94:PCon Try.prog where
  f:=94
  c:=fun
   |[x,.fn (.func 95) [] []]=>match arrsOf x with|some l=>some (l.length≤1000000∧∀ a∈l,okA a,.lit (.bool (l.any invA)))|_=>none
   |_=>none
  ok:=by
   intro args p r hc hp
   split at hc
   ·split at hc
    ·rename_i hx
     cases hc
     exact PC.weak (anya_pc hp.1 hp.2) ⟨arrsOf_le hx,LeA.refl _,trivial⟩
    ·cases hc
   ·cases hc
  fk:=fk94
theorem con94_f:con94.f=94:=rfl
theorem con94_c {x:AV}:con94.c [x,.fn (.func 95) [] []]=match arrsOf x with|some l=>some (l.length≤1000000∧∀ a∈l,okA a,.lit (.bool (l.any invA)))|_=>none:=rfl
attribute [go_sem] con94_f con94_c
end Go.Proofs.Ytnlimcijgpaegaa

namespace Go.Proofs.Ytnlimcijgpaegaa.Mm
open Go.Proofs.Ytnlimcijgpaegaa
open Go Go.Fw Bm
def fillS (B:Prg):List Arr→Nat→List Int→Int→Int ⊕ (List Int×Int)
  |[],_,ar,pk=> .inr (ar,pk)
  |a::l,i,ar,pk=>if eqS a.e (B.types.getD i nilA).e=false then .inl 12 else if a.d≠(B.types.getD i nilA).d then .inl 14
   else fillS B l (i+1) (putI ar (B.ins.getD i (0,0)).1.toNat a.x) (maxI pk ((B.ins.getD i (0,0)).1+(B.ins.getD i (0,0)).2))
def startS (B:Prg) (ins:List Arr):Int ⊕ (List Int×Int):=
  if (!validS B||(ins.length:Int) !=B.ins.length||ins.any invA)=true then .inl 1 else fillS B ins 0 (List.replicate B.arena.toNat 0) 0
def s0 (B:Prg) (ar:List Int) (pk:Int):St:=⟨List.replicate B.regs.toNat 0,ar,0,0,0,pk,[],200001,false,0,false⟩
def m0 (B:Prg) (ar:List Int) (pk:Int):MS:=⟨List.replicate B.regs.toNat 0,ar,[],0,0,0,0,0,pk,0,0,0⟩
variable {B:Prg} {ar:List Int} {pk:Int} {l:List Arr}
theorem types_at {a:Int}:∀ {l:List Arr} {m:List (Int×Int)} {i:Nat},typesOk a l m=true→i<l.length→i<m.length→typeOk a (l.getD i nilA) (m.getD i (0,0))=true
  |t::ts,p::ps,0,h,_,_=>by
   simp only [typesOk,Bool.and_eq_true] at h;exact h.1
  |t::ts,p::ps,i+1,h,h1,h2=>by
   simp only [typesOk,Bool.and_eq_true] at h
   exact types_at (i:=i) h.2 (by simpa using h1) (by simpa using h2)
  |[],_,_,_,h,_=>by simp at h
  |_::_,[],_,_,_,h=>by simp at h
theorem ofE_inv {a:Arr} (h:invA a=false):(eqS a.e sInt||eqS a.e sBool)=true∧(sizeS a.d).2=0∧(a.x.length:Int)=(sizeS a.d).1∧∀ n∈a.x,vld a.e n=true:=by
  have h:ofE a=0:=by simpa [invA] using h
  unfold ofE at h
  split at h
  ·cases h
  ·rename_i h1
   split at h
   ·rename_i h2;exact absurd h h2
   ·rename_i h2
    split at h
    ·cases h
    ·rename_i h3
     split at h
     ·cases h
     ·rename_i h4
      refine ⟨by revert h1;cases (eqS a.e sInt||eqS a.e sBool)<;>simp,by simpa using h2,by simpa using h3,fun n hn=>?_⟩
      have:a.x.any (fun n=> !vld a.e n)=false:=by simpa using h4
      rw [List.any_eq_false] at this
      simpa using this n hn
theorem vld_int {s:ByteArray} {n:Int} (h:vld s n=true):vld sInt n=true:=by
  unfold vld at h ⊢
  rw [if_pos (by kernel_rfl)]
  split at h
  ·exact h
  ·split at h
   ·have:n=0∨n=1:=by simpa using h
    exact decide_eq_true (by omega)
   ·cases h
theorem putI_mem {P:Int→Prop}:∀ (m l:List Int) (i:Nat),(∀ n∈l,P n)→(∀ n∈m,P n)→∀ n∈putI l i m,P n
  |[],l,i,hl,_=>hl
  |x::m,l,i,hl,hm=>by
   simp only [putI]
   refine putI_mem m _ _ (fun n hn=>?_) (fun n hn=>hm n (by simp [hn]))
   rcases List.mem_or_eq_of_mem_set hn with h|rfl
   ·exact hl n h
   ·exact hm _ (by simp)
structure Fl (B:Prg) (ar:List Int) (pk:Int):Prop where
  len:(ar.length:Int)=B.arena
  words:∀ n∈ar,vld sInt n=true
  pk:0≤pk∧pk≤B.arena
theorem fl_start (h:0≤B.arena):Fl B (List.replicate B.arena.toNat 0) 0:=⟨by simp;omega,fun n hn=>by
  have:=(List.mem_replicate.1 hn).2
  subst this;decide,by omega⟩
structure In1 (B:Prg) (a:Arr) (i:Nat):Prop where
  off:0≤(B.ins.getD i (0,0)).1
  size:(a.x.length:Int)=(B.ins.getD i (0,0)).2
  fit:(B.ins.getD i (0,0)).1+a.x.length≤B.arena
  x:∀ n∈a.x,vld sInt n=true
theorem in1_of {a:Arr} {i:Nat} (hv:validS B=true) (ha:invA a=false) (hi:i<B.ins.length) (hd:a.d=(B.types.getD i nilA).d):In1 B a i:=by
  obtain ⟨_,_,_,_,h5,h6⟩:=valid_inv hv
  obtain ⟨_,a2,a3,a4⟩:=ofE_inv ha
  have ht:=types_at (i:=i) h6 (by omega) (by simp;omega)
  have e:(B.ins++B.outs).getD i (0,0)=B.ins.getD i (0,0):=by simp [List.getD,List.getElem?_append_left hi]
  rw [e] at ht
  simp only [typeOk,Bool.and_eq_true,decide_eq_true_eq] at ht
  obtain ⟨⟨⟨⟨⟨_,t2⟩,t3⟩,t4⟩,t5⟩,t6⟩:=ht
  rw [←hd] at t4 t6
  exact ⟨t5,by omega,by omega,fun n hn=>vld_int (a4 n hn)⟩
theorem Fl.next {a:Arr} {i:Nat} (h:Fl B ar pk) (hi:In1 B a i):Fl B (putI ar (B.ins.getD i (0,0)).1.toNat a.x) (maxI pk ((B.ins.getD i (0,0)).1+(B.ins.getD i (0,0)).2)):=by
  have h1:=hi.off
  have h2:=hi.size
  have h3:=hi.fit
  have h4:=h.pk
  exact ⟨by rw [putI_length];exact h.len,putI_mem _ _ _ h.words hi.x,by unfold maxI;split<;>omega⟩
theorem rp_start (n:Nat) (hn:B.regs.toNat=n):Rp n (m0 B ar pk) (s0 B ar pk):=⟨by simp [m0,hn],rfl,by simp [m0],.inl ⟨rfl,⟨by simp [s0],rfl,rfl,rfl,rfl,rfl,rfl,rfl,rfl,rfl,rfl,by simp [m0]⟩⟩⟩
theorem gd_start (n A:Nat) (hn:B.regs.toNat=n) (hA:B.arena=A) (h:Fl B ar pk):Gd n A 200001 (s0 B ar pk):=by
  have h1:=h.len
  have h2:=h.pk
  refine ⟨by simp [s0,hn],by simp [s0];omega,fun r hr=>?_,h.words,by simp only [s0];omega,by simp [s0],by simp only [s0];omega⟩
  have:=(List.mem_replicate.1 hr).2
  subst this;simp [maxC]
end Go.Proofs.Ytnlimcijgpaegaa.Mm

namespace Go.Proofs.Ytnlimcijgpaegaa.Mm
open Go.Proofs.Ytnlimcijgpaegaa
open Go Go.Fw Bm
set_option maxRecDepth 20000
section
variable {x y u v:AObj} {B:Prg} {mt:List Int} {m:MS} {ex:List AObj}
theorem mo_len:(mobj x y B mt m ex).length=ex.length+7:=rfl
theorem mo_2:(mobj x y B mt m ex)[2]? =some (.box 45 [.lit (.int .i64 B.regs),.lit (.int .i64 B.arena),.sl false 6 (opsV B.ops),.sl false 2 (plsV B.ins),.sl false 2 (plsV B.outs),.sl false 3 (arrs B.types)]):=rfl
theorem mo_3:(mobj x y B mt m ex)[3]? =some (.arr 3 1 (ints .i64 m.regs) 0 false):=rfl
theorem mo_4:(mobj x y B mt m ex)[4]? =some (.arr 3 1 (ints .i64 m.arena) 0 false):=rfl
theorem mo_5:(mobj x y B mt m ex)[5]? =some (.box 120 [.lit (.int .i64 B.regs),.lit (.int .i64 B.arena),.sl false 6 (opsV B.ops),.sl false 2 (plsV B.ins),.sl false 2 (plsV B.outs),.sl false 3 (arrs B.types),.sl false 1 (ints .i64 mt),.arr 3 0,.arr 4 0,
  .lit (.int .i64 m.reads),.lit (.int .i64 m.writes),.lit (.int .i64 m.ops),.lit (.int .i64 m.peak),.arr 6 m.vb,.lit (.int .i64 m.steps),.lit (.int .i64 m.at_),.lit (.int .i64 m.e)]):=rfl
theorem mo_6:(mobj x y B mt m ex)[6]? =some (.arr 3 1 (ints .i64 m.viol) m.vv false):=rfl
theorem mo_7:(mobj x y B mt m (u::ex))[7]? =some u:=rfl
theorem mo_8:(mobj x y B mt m (u::v::ex))[8]? =some v:=rfl
theorem mo_app {l:List AObj}:mobj x y B mt m ex++l=mobj x y B mt m (ex++l):=rfl
theorem mo_s4 {l:List Int}:(mobj x y B mt m ex).set 4 (.arr 3 1 (ints .i64 l) 0 false)=mobj x y B mt {m with arena:=l} ex:=rfl
theorem mo_s6 {l:List Int} {k:Nat}:(mobj x y B mt m ex).set 6 (.arr 3 1 (ints .i64 l) k false)=mobj x y B mt {m with viol:=l,vv:=k} ex:=rfl
theorem mo_s5 {c1 c2 c3 c4 c5 c6 c7:Int} {k:Nat}:(mobj x y B mt m ex).set 5 (.box 120 [.lit (.int .i64 B.regs),.lit (.int .i64 B.arena),.sl false 6 (opsV B.ops),.sl false 2 (plsV B.ins),.sl false 2 (plsV B.outs),.sl false 3 (arrs B.types),.sl false 1 (ints .i64 mt),.arr 3 0,.arr 4 0,
  .lit (.int .i64 c1),.lit (.int .i64 c2),.lit (.int .i64 c3),.lit (.int .i64 c4),.arr 6 k,.lit (.int .i64 c5),.lit (.int .i64 c6),.lit (.int .i64 c7)])=mobj x y B mt {m with reads:=c1,writes:=c2,ops:=c3,peak:=c4,vb:=k,steps:=c5,at_:=c6,e:=c7} ex:=rfl
theorem mo_s7:(mobj x y B mt m (u::ex)).set 7 v=mobj x y B mt m (v::ex):=rfl
end
attribute [go_sem] mo_len mo_2 mo_3 mo_4 mo_5 mo_6 mo_7 mo_8 mo_app mo_s4 mo_s6 mo_s5 mo_s7
theorem BdS.app {n n':Nat} {σ l:List AObj} (h:BdS n σ) (hn:n≤n') (hl:l.all (lowO n')=true):BdS n' (σ++l):=fun o t cs ho=>by
  rcases Nat.lt_or_ge o σ.length with c|c
  ·rw [List.getElem?_append_left c] at ho
   intro i hi G v hG hr
   have:=h o t cs ho i hi G v (by omega) hr
   exact this.mono ⟨CLe.refl _,hn,fun _ _=>Nat.le_refl _,fun _ _ _=>rfl,fun _ _ _=>rfl⟩
  ·rw [List.getElem?_append_right c] at ho
   exact bds_low hl (o - σ.length) t cs ho
theorem ec_bds {P:Program} {f:FuncId} {args:List AV} {σ:List AObj} {k:AV→List AObj→Prop} (h:BdS σ.length σ→EC P f args σ k):EC P f args σ k:=fun cx G w vs hr hl=>h hr.bds cx G w vs hr hl
section
variable {x y u:AObj} {B:Prg} {mt:List Int} {m:MS} {k:AV→List AObj→Prop} {ins:List Arr}
theorem bd3 (h:BdS 2 [x,y]):BdS 3 [x,y,bxB B]:=BdS.app (σ:=[x,y]) (l:=[bxB B]) h (by omega) (by simp [lowO,bxB,low_lit,low_sl])
theorem bd7 (h:BdS 2 [x,y]):BdS 7 (mobj x y B mt m []):=BdS.app (σ:=[x,y]) h (by omega) (by simp [lowO,bxB,stO,low_lit,low_sl,low_arr])
theorem le_mo1 {n0:Nat} {f g:Nat→AV} (hn:n0≤7) (hb:BdS 2 [x,y]) (hg:∀ j,low1 7 (g j)=true) (h:∀ j,LeR (f j) (g j)):Le n0 ⟨f,mobj x y B mt m [u]⟩ ⟨g,mobj x y B mt m []⟩:=
  le_backB (l:=mobj x y B mt m []) (m:=[u]) rfl hn (bd7 hb) hg h
theorem rep_ints (n:Nat):List.replicate n (AV.lit (.int .i64 0))=ints .i64 (List.replicate n 0):=by simp [ints]
theorem kp_2 {a0 a1 a2:AObj} {l l':List AObj}:Kp (fun i=>i==2) (a0::a1::a2::l) (a0::a1::a2::l'):=fun o t cs hD ho=>by
  have e:o=2:=by simpa using hD
  subst e
  exact ho
theorem kp_mo2 {m':MS} {l l':List AObj}:Kp (fun i=>i==2) (mobj x y B mt m l) (mobj x y B mt m' l'):=kp_2
noncomputable def M7:Env:=envU Try.prog jkR zer (fun _=>false) (fun _=>false) [con42,con45,con94,con97]
theorem M7_ok:EnvOk Try.prog M7:=envUOk zer_ok
attribute [go_sem] con97_f con97_c
theorem m0ar {ar:List Int} {pk:Int}:(m0 B ar pk).arena=ar:=rfl
theorem m0pk {ar:List Int} {pk:Int}:(m0 B ar pk).peak=pk:=rfl
structure Fq (B:Prg) (ins:List Arr) where
  i:Nat
  ar:List Int
  pk:Int
  hi:i≤ins.length
  hf:Fl B ar pk
  hq:startS B ins=fillS B (ins.drop i) i ar pk
set_option maxHeartbeats 8000000 in
theorem start_ec (hO:OkB B∧B.ins.length≤100000∧B.outs.length≤100000) (hi:ins.length≤1000000∧∀ a∈ins,okA a)
    (hk1:∀ e σ',startS B ins= .inl e→k (.tup [.lit (.pointer none),.lit (.int .i64 e)]) (x::y::σ'))
    (hk2:∀ mt ar pk m' s',startS B ins= .inr (ar,pk)→validS B=true→matchS B.ops=some mt→Fl B ar pk→Runs B mt [] (.blk 0 B.ops.length) (s0 B ar pk) s'→Rp B.regs.toNat m' s'→(m'.e=0→Gd B.regs.toNat B.arena.toNat 200001 s')→k (.tup [.ref 5 0,.lit (.int .i64 m'.e)]) (mobj x y B mt m' [])):
    EC Try.prog 54 [bcV B,.sl false 3 (arrs ins)] [x,y] k:=by
  refine ec_bds fun hbd=>?_
  obtain ⟨hO,hi1,hi2⟩:=hO
  obtain ⟨hn1,hn2⟩:=hi
  simp only [bcV]
  cases hv:validS B with
  |false=>
   have e:startS B ins= .inl 1:=by unfold startS;rw [hv];rfl
   have hk:=fun σ'=>hk1 1 σ' e
   refine ecR M7_ok (kp54) Try.func54 [.tmp 4,.tmp 5] (h:=fun KF=>?_)
   unfold M7
   repeat' (first
    |(with_reducible first|refine nx ?_|refine t_seq fun K=>?_|refine t_br (fun hc=>?_) fun hc=>?_|refine t_bx ?_|apply And.intro|intro vr)|exact kp_fls|exact kp_2|exact kp_mo2|exact kpd
    |((with_reducible first|refine ny ?_|refine t_kLF ?_ ?_|refine t_drawE (id:=12) (fun _=>false) [(0,2),(1,2),(2,2),(3,2),(4,2),(5,2),(6,2),(7,2),(8,2),(9,2),(10,2),(11,2),(12,2),(13,0)] (by kernel_rfl) fun K=>?_|refine t_drawE (id:=13) (fun _=>false) [(0,1),(1,2),(2,2),(3,2),(4,2),(5,2),(6,2),(7,2),(8,1),(9,2),(10,2),(11,2),(12,2),(13,2),(14,1),(15,2),(16,2),(17,2),(18,1),(19,1),(20,2),(21,2),(22,2),(23,0)] (by kernel_rfl) fun K=>?_|refine t_dwh (h:=fun K KL=>?_));intros;simp only [go_sem,kp54,geff,bcOf_B,hv,Bool.not_false,List.cons_append,List.nil_append,yes]))
   all_goals try exact nd
   all_goals (refine nl ?_;simp only [go_sem])
   exact hk _
  |true=>
   cases hl:((ins.length:Int) !=B.ins.length) with
   |true=>
    have e:startS B ins= .inl 1:=by unfold startS;rw [hv,hl];rfl
    have hk:=fun σ'=>hk1 1 σ' e
    refine ecR M7_ok (kp54) Try.func54 [.tmp 4,.tmp 5] (h:=fun KF=>?_)
    unfold M7
    repeat' (first
     |(with_reducible first|refine nx ?_|refine t_seq fun K=>?_|refine t_br (fun hc=>?_) fun hc=>?_|refine t_bx ?_|apply And.intro|intro vr)|exact kp_fls|exact kp_2|exact kp_mo2|exact kpd
     |((with_reducible first|refine ny ?_|refine t_kLF ?_ ?_|refine t_drawE (id:=12) (fun _=>false) [(0,2),(1,2),(2,2),(3,2),(4,2),(5,2),(6,2),(7,2),(8,2),(9,2),(10,2),(11,2),(12,2),(13,0)] (by kernel_rfl) fun K=>?_|refine t_drawE (id:=13) (fun _=>false) [(0,1),(1,2),(2,2),(3,2),(4,2),(5,2),(6,2),(7,2),(8,1),(9,2),(10,2),(11,2),(12,2),(13,2),(14,1),(15,2),(16,2),(17,2),(18,1),(19,1),(20,2),(21,2),(22,2),(23,0)] (by kernel_rfl) fun K=>?_|refine t_dwh (h:=fun K KL=>?_));intros;simp only [go_sem,kp54,geff,bcOf_B,hv,hl,Bool.not_true,List.cons_append,List.nil_append,yes]))
    all_goals try exact nd
    all_goals (refine nl ?_;simp only [go_sem])
    exact hk _
   |false=>
    cases ha:ins.any invA with
    |true=>
     have e:startS B ins= .inl 1:=by unfold startS;rw [hv,hl,ha];rfl
     have hk:=fun σ'=>hk1 1 σ' e
     refine ecR M7_ok (kp54) Try.func54 [.tmp 4,.tmp 5] (h:=fun KF=>?_)
     unfold M7
     repeat' (first
      |(with_reducible first|refine nx ?_|refine t_seq fun K=>?_|refine t_br (fun hc=>?_) fun hc=>?_|refine t_bx ?_|apply And.intro|intro vr)|exact kp_fls|exact kp_2|exact kp_mo2|exact kpd
      |((with_reducible first|refine ny ?_|refine t_kLF ?_ ?_|refine t_drawE (id:=12) (fun _=>false) [(0,2),(1,2),(2,2),(3,2),(4,2),(5,2),(6,2),(7,2),(8,2),(9,2),(10,2),(11,2),(12,2),(13,0)] (by kernel_rfl) fun K=>?_|refine t_drawE (id:=13) (fun _=>false) [(0,1),(1,2),(2,2),(3,2),(4,2),(5,2),(6,2),(7,2),(8,1),(9,2),(10,2),(11,2),(12,2),(13,2),(14,1),(15,2),(16,2),(17,2),(18,1),(19,1),(20,2),(21,2),(22,2),(23,0)] (by kernel_rfl) fun K=>?_|refine t_dwh (h:=fun K KL=>?_));intros;simp only [go_sem,kp54,geff,bcOf_B,hv,hl,ha,Bool.not_true,List.cons_append,List.nil_append,yes]))
     all_goals try exact nd
     all_goals try exact hn2 _ (by assumption)
     all_goals (refine nl ?_;simp only [go_sem])
     exact hk _
    |false=>
     have e:startS B ins=fillS B ins 0 (List.replicate B.arena.toNat 0) 0:=by unfold startS;rw [hv,hl,ha];rfl
     obtain ⟨⟨r0,r1⟩,⟨a0,a1⟩,⟨mt,hm⟩,hR,_,_⟩:=valid_inv hv
     have hO1:=hO.ops
     have hK:=wk_of hv hm hO1
     have hF0:=match_fre hm
     have hll:(ins.length:Int)=B.ins.length:=by simpa using hl
     have hmv:matchV B.ops= .tup [.sl false 1 (ints .i64 mt),.lit (.bool true)]:=by unfold matchV;rw [hm]
     refine ecR M7_ok (kp54) Try.func54 [.tmp 4,.tmp 5] (h:=fun KF=>?_)
     unfold M7
     repeat' (first
      |(with_reducible first|refine nx ?_|refine t_seq fun K=>?_|refine t_br (fun hc=>?_) fun hc=>?_|refine t_bx ?_|apply And.intro|intro vr)|exact kp_fls|exact kp_2|exact kp_mo2|exact kpd
      |((with_reducible first|refine ny ?_|refine t_kLF ?_ ?_|refine t_drawE (id:=12) (fun _=>false) [(0,2),(1,2),(2,2),(3,2),(4,2),(5,2),(6,2),(7,2),(8,2),(9,2),(10,2),(11,2),(12,2),(13,0)] (by kernel_rfl) fun K=>?_|refine t_drawE (id:=13) (fun _=>false) [(0,1),(1,2),(2,2),(3,2),(4,2),(5,2),(6,2),(7,2),(8,1),(9,2),(10,2),(11,2),(12,2),(13,2),(14,1),(15,2),(16,2),(17,2),(18,1),(19,1),(20,2),(21,2),(22,2),(23,0)] (by kernel_rfl) fun K=>?_);intros;simp only [go_sem,kp54,geff,bcOf_B,hv,hl,ha,hmv,Bool.not_true,List.cons_append,List.nil_append,yes]))
     all_goals try exact nd
     all_goals try exact hn2 _ (by assumption)
     refine t_drawP ⟨upd (upd (upd topF 8 (.ref 5 0)) 2 (.ref 2 0)) 1 (.sl false 3 (arrs ins)),mobj x y B mt (m0 B (List.replicate B.arena.toNat 0) 0) []⟩ (fun i=>i==2) [(0,1),(1,1),(2,1),(3,1),(5,1),(6,1)] [4,7] [(8,1),(9,0),(10,1)] (by kernel_rfl) ?_ ?_
     rotate_left
     ·skip
      intro K
      simp only [pickO,pickG,List.getElem?_toArray,List.getElem?_cons_zero,List.getElem?_cons_succ,List.length_cons,List.length_nil,Nat.reduceAdd,lp_some]
      simp only [go_sem,pickO,pickG,geff,kp54,List.cons_append,List.nil_append,rep_ints]
      repeat' (first
       |(with_reducible first|refine nx ?_|refine t_seq fun K=>?_|refine t_br (fun hc=>?_) fun hc=>?_|refine t_bx ?_|apply And.intro|intro vr)|exact kp_fls|exact kp_2|exact kp_mo2|exact kpd
       |((with_reducible first|refine ny ?_|refine t_kLF ?_ ?_|refine t_kPE ?_ ?_|refine t_drawE (id:=12) (fun _=>false) [(0,2),(1,2),(2,2),(3,2),(4,2),(5,2),(6,2),(7,2),(8,2),(9,2),(10,2),(11,2),(12,2),(13,0)] (by kernel_rfl) fun K=>?_|refine t_drawE (id:=13) (fun _=>false) [(0,1),(1,2),(2,2),(3,2),(4,2),(5,2),(6,2),(7,2),(8,1),(9,2),(10,2),(11,2),(12,2),(13,2),(14,1),(15,2),(16,2),(17,2),(18,1),(19,1),(20,2),(21,2),(22,2),(23,0)] (by kernel_rfl) fun K=>?_);intros;simp only [go_sem,kp54,geff,List.cons_append,List.nil_append,rep_ints]))
      all_goals try exact nd
      ·refine Le.trans (le_nilB 5 13 3 1 rfl ?_ ?_) ?_
       ·simp
       ·exact nil_sl
       exact lg
      ·refine le_swapM (τ:=[x,y,_]) (m:=[_]) (by simp) (bd3 hbd) rfl rfl rfl ?_ ?_
       ·repeat' (first|exact flatF_top|(refine flatF_upd rfl ?_))
       simp only [renF_upd,renF_top,ren1,renA,renO,sw,List.map_cons,List.map_nil,List.length_cons,List.length_nil,Nat.reduceAdd,Nat.reduceEqDiff,reduceIte,List.cons_append,List.nil_append]
       refine Le.trans (le_nilB 5 13 3 1 rfl ?_ ?_) ?_
       ·simp
       ·exact nil_sl
       exact lg
     have hpl:=hK.len
     repeat' (first
      |(with_reducible first|refine nx ?_|refine t_seq fun K=>?_|refine t_br (fun hc=>?_) fun hc=>?_|refine t_bx ?_|apply And.intro|intro vr)|exact kp_fls|exact kp_2|exact kp_mo2|exact kpd
      |((with_reducible first|refine ny ?_|refine t_kLF ?_ ?_|refine t_drawE (id:=12) (fun _=>false) [(0,2),(1,2),(2,2),(3,2),(4,2),(5,2),(6,2),(7,2),(8,2),(9,2),(10,2),(11,2),(12,2),(13,0)] (by kernel_rfl) fun K=>?_|refine t_drawE (id:=13) (fun _=>false) [(0,1),(1,2),(2,2),(3,2),(4,2),(5,2),(6,2),(7,2),(8,1),(9,2),(10,2),(11,2),(12,2),(13,2),(14,1),(15,2),(16,2),(17,2),(18,1),(19,1),(20,2),(21,2),(22,2),(23,0)] (by kernel_rfl) fun K=>?_|refine t_dwh (h:=fun K KL=>?_));intros;simp only [go_sem,kp54,geff,hv,yes]))
     all_goals try exact nd
     refine t_loopF (ι:=Fq B ins) (fun q=>[(44,.lit (.int .i64 (q.i:Int)))]) (fun q=>mobj x y B mt (m0 B q.ar q.pk) []) (fun q=>ins.length - q.i) ⟨0,List.replicate B.arena.toNat 0,0,Nat.zero_le _,fl_start a0,e⟩ ?_ ?_
     ·exact lf
     rintro ⟨i,ar,pk,hil,hfl,hq⟩ K0
     have f1:=hfl.len
     have f2:=hfl.pk
     rcases Nat.lt_or_ge i ins.length with hc|hc
     ·have g3:decide ((i:Int)<(ins.length:Int))=true:=decide_eq_true (by omega)
      have hib:i<B.ins.length:=by omega
      have hmem:ins.getD i nilA∈ins:=by rw [List.getD_eq_getElem?_getD,List.getElem?_eq_getElem hc];exact List.getElem_mem hc
      have hoa:=hn2 _ hmem
      have hiv:invA (ins.getD i nilA)=false:=by
        have:=List.any_eq_false.1 ha _ hmem
        simpa using this
      have hdr:ins.drop i=ins.getD i nilA::ins.drop (i+1):=drop_getD nilA hc
      rw [hdr,fillS] at hq
      have hin:=fun hd=>in1_of hv hiv hib hd
      have hfn:=fun hd=>hfl.next (hin hd)
      generalize hX:ins.getD i nilA=X at*
      generalize hT:B.types.getD i nilA=T at*
      generalize hP:B.ins.getD i (0,0)=P at*
      obtain ⟨xe,xd,xx⟩:=X
      obtain ⟨te,td,tx⟩:=T
      obtain ⟨po,ps⟩:=P
      obtain ⟨ho1,ho2⟩:=hoa
      have vX:arrV ⟨xe,xd,xx⟩= .agg [.lit (.string xe),.sl false 1 (ints .i64 xd),.sl false 1 (ints .i64 xx)]:=rfl
      have vT:arrV ⟨te,td,tx⟩= .agg [.lit (.string te),.sl false 1 (ints .i64 td),.sl false 1 (ints .i64 tx)]:=rfl
      have vP:plV (po,ps)= .agg [.lit (.int .i64 po),.lit (.int .i64 ps)]:=rfl
      simp only at hq ho1 ho2
      cases he:eqS xe te with
      |false=>
       rw [if_pos he] at hq
       have hk:=fun σ'=>hk1 12 σ' hq
       repeat' (first
        |(with_reducible first|refine nx ?_|refine t_seq fun K=>?_|refine t_br (fun hc=>?_) fun hc=>?_|refine t_bx ?_|apply And.intro|intro vr)|exact kp_fls|exact kp_2|exact kp_mo2|exact kpd
        |((with_reducible first|refine ny ?_|refine t_kLF ?_ ?_|refine t_drawE (id:=12) (fun _=>false) [(0,2),(1,2),(2,2),(3,2),(4,2),(5,2),(6,2),(7,2),(8,2),(9,2),(10,2),(11,2),(12,2),(13,0)] (by kernel_rfl) fun K=>?_|refine t_drawE (id:=13) (fun _=>false) [(0,1),(1,2),(2,2),(3,2),(4,2),(5,2),(6,2),(7,2),(8,1),(9,2),(10,2),(11,2),(12,2),(13,2),(14,1),(15,2),(16,2),(17,2),(18,1),(19,1),(20,2),(21,2),(22,2),(23,0)] (by kernel_rfl) fun K=>?_|refine t_dwh (h:=fun K KL=>?_));intros;simp only [go_sem,kp54,geff,g3,hX,hT,vX,vT,he,Int.toNat_natCast,yes]))
       all_goals try exact nd
       all_goals (refine nl ?_;simp only [go_sem])
       exact hk _
      |true=>
       rw [if_neg (by rw [he];decide)] at hq
       by_cases hd:xd=td
       ·subst hd
        rw [if_neg (by simp)] at hq
        have h1:=hin rfl
        have h2:=hfn rfl
        have q1:=h1.off
        have q2:=h1.size
        have q3:=h1.fit
        rw [hP] at q1 q2 q3
        simp only at q1 q2 q3 h2
        have g5:decide (xd=xd)=true:=decide_eq_true rfl
        have hmin:min xx.length (ar.length - po.toNat)=xx.length:=by omega
        have hcp:=setRange_ints .i64 xx ar po.toNat
        repeat' (first
         |(with_reducible first|refine nx ?_|refine t_seq fun K=>?_|refine t_br (fun hc=>?_) fun hc=>?_|refine t_bx ?_|apply And.intro|intro vr)|exact kp_fls|exact kp_2|exact kp_mo2|exact kpd
         |((with_reducible first|refine ny ?_|refine t_kLF ?_ ?_|refine t_drawE (id:=12) (fun _=>false) [(0,2),(1,2),(2,2),(3,2),(4,2),(5,2),(6,2),(7,2),(8,2),(9,2),(10,2),(11,2),(12,2),(13,0)] (by kernel_rfl) fun K=>?_|refine t_drawE (id:=13) (fun _=>false) [(0,1),(1,2),(2,2),(3,2),(4,2),(5,2),(6,2),(7,2),(8,1),(9,2),(10,2),(11,2),(12,2),(13,2),(14,1),(15,2),(16,2),(17,2),(18,1),(19,1),(20,2),(21,2),(22,2),(23,0)] (by kernel_rfl) fun K=>?_|refine t_dwh (h:=fun K KL=>?_));intros;simp only [go_sem,kp54,geff,g3,hX,hT,hP,vX,vT,vP,he,g5,m0ar,m0pk,Nat.zero_add,Nat.sub_zero,hmin,List.take_length,hcp,Int.toNat_natCast,yes]))
        all_goals try exact nd
        refine ⟨⟨i+1,putI ar po.toNat xx,maxI pk (po+ps),by omega,h2,hq⟩,by simp only;omega,?_⟩
        try simp only [updL_nil,updL_cons,delF_top,delF_upd,Nat.reduceEqDiff,reduceIte]
        refine le_mo1 (m:=m0 B (putI ar po.toNat xx) (maxI pk (po+ps))) (by simp) hbd ?_ ?_
        ·repeat' (first|exact low_top|(refine low_upd rfl ?_))
        repeat' (first|exact leF_top _|exact (fun _=>LeR.refl _)|(with_reducible refine leF_sl ?_ ?_)|(refine leF_upd ?_ ?_))
        all_goals (first|exact LeR.top _|exact LeR.refl _|(refine LeR.of_eq ?_;(try simp only [go_sem]);try rfl)|((try simp only [go_sem]);try rfl))
       ·rw [if_pos hd] at hq
        have hk:=fun σ'=>hk1 14 σ' hq
        have g5:decide (xd=td)=false:=decide_eq_false hd
        repeat' (first
         |(with_reducible first|refine nx ?_|refine t_seq fun K=>?_|refine t_br (fun hc=>?_) fun hc=>?_|refine t_bx ?_|apply And.intro|intro vr)|exact kp_fls|exact kp_2|exact kp_mo2|exact kpd
         |((with_reducible first|refine ny ?_|refine t_kLF ?_ ?_|refine t_drawE (id:=12) (fun _=>false) [(0,2),(1,2),(2,2),(3,2),(4,2),(5,2),(6,2),(7,2),(8,2),(9,2),(10,2),(11,2),(12,2),(13,0)] (by kernel_rfl) fun K=>?_|refine t_drawE (id:=13) (fun _=>false) [(0,1),(1,2),(2,2),(3,2),(4,2),(5,2),(6,2),(7,2),(8,1),(9,2),(10,2),(11,2),(12,2),(13,2),(14,1),(15,2),(16,2),(17,2),(18,1),(19,1),(20,2),(21,2),(22,2),(23,0)] (by kernel_rfl) fun K=>?_|refine t_dwh (h:=fun K KL=>?_));intros;simp only [go_sem,kp54,geff,g3,hX,hT,vX,vT,he,g5,Int.toNat_natCast,yes]))
        all_goals try exact nd
        all_goals (refine nl ?_;simp only [go_sem])
        exact hk _
     ·have g3:decide ((i:Int)<(ins.length:Int))=false:=decide_eq_false (by omega)
      have hq2:startS B ins= .inr (ar,pk):=by rw [hq,List.drop_eq_nil_of_le hc];rfl
      repeat' (first
       |(with_reducible first|refine nx ?_|refine t_seq fun K=>?_|refine t_br (fun hc=>?_) fun hc=>?_|refine t_bx ?_|apply And.intro|intro vr)|exact kp_fls|exact kp_2|exact kp_mo2|exact kpd
       |((with_reducible first|refine ny ?_|refine t_kLF ?_ ?_|refine t_drawE (id:=12) (fun _=>false) [(0,2),(1,2),(2,2),(3,2),(4,2),(5,2),(6,2),(7,2),(8,2),(9,2),(10,2),(11,2),(12,2),(13,0)] (by kernel_rfl) fun K=>?_|refine t_drawE (id:=13) (fun _=>false) [(0,1),(1,2),(2,2),(3,2),(4,2),(5,2),(6,2),(7,2),(8,1),(9,2),(10,2),(11,2),(12,2),(13,2),(14,1),(15,2),(16,2),(17,2),(18,1),(19,1),(20,2),(21,2),(22,2),(23,0)] (by kernel_rfl) fun K=>?_|refine t_dwh (h:=fun K KL=>?_));intros;simp only [go_sem,kp54,geff,g3,yes]))
      all_goals try exact nd
      refine ⟨fk98,run_ec (s:=s0 B ar pk) (c:=200001) (A:=B.arena.toNat) hK hF0 (by omega) (by omega) (fun _=>gd_start _ _ rfl (by omega) hfl) (rp_start _ rfl) fun m2 s2 hr2 hg2 h2=>?_⟩
      repeat' (first
       |(with_reducible first|refine nx ?_|refine t_seq fun K=>?_|refine t_br (fun hc=>?_) fun hc=>?_|refine t_bx ?_|apply And.intro|intro vr)|exact kp_fls|exact kp_2|exact kp_mo2|exact kpd
       |((with_reducible first|refine ny ?_|refine t_kLF ?_ ?_|refine t_drawE (id:=12) (fun _=>false) [(0,2),(1,2),(2,2),(3,2),(4,2),(5,2),(6,2),(7,2),(8,2),(9,2),(10,2),(11,2),(12,2),(13,0)] (by kernel_rfl) fun K=>?_|refine t_drawE (id:=13) (fun _=>false) [(0,1),(1,2),(2,2),(3,2),(4,2),(5,2),(6,2),(7,2),(8,1),(9,2),(10,2),(11,2),(12,2),(13,2),(14,1),(15,2),(16,2),(17,2),(18,1),(19,1),(20,2),(21,2),(22,2),(23,0)] (by kernel_rfl) fun K=>?_|refine t_dwh (h:=fun K KL=>?_));intros;simp only [go_sem,kp54,geff,yes]))
      all_goals try exact nd
      all_goals (refine nl ?_;simp only [go_sem])
      exact hk2 mt ar pk m2 s2 hq2 hv hm hfl hr2 h2 hg2
end
end Go.Proofs.Ytnlimcijgpaegaa.Mm

namespace Go.Proofs.Ytnlimcijgpaegaa.Bm
open Go.Proofs.Ytnlimcijgpaegaa
open Go Go.Fw
def SA (l:List Int):Prop:=l.Pairwise (fun a b=>a<b)
theorem sa_eq:∀ {l m:List Int},SA l→SA m→(∀ x,x∈l ↔ x∈m)→l=m
  |[],[],_,_,_=>rfl
  |[],b::m,_,_,h=>absurd ((h b).2 (by simp)) (by simp)
  |a::l,[],_,_,h=>absurd ((h a).1 (by simp)) (by simp)
  |a::l,b::m,h1,h2,h=>by
   obtain ⟨p1,p2⟩:=List.pairwise_cons.1 h1
   obtain ⟨q1,q2⟩:=List.pairwise_cons.1 h2
   have e:a=b:=by
     rcases List.mem_cons.1 ((h a).1 (by simp)) with e|e
     ·exact e
     ·rcases List.mem_cons.1 ((h b).2 (by simp)) with f|f
      ·exact f.symm
      ·have:=q1 a e;have:=p1 b f;omega
   subst e
   congr 1
   refine sa_eq p2 q2 fun x=>⟨fun hx=>?_,fun hx=>?_⟩
   ·rcases List.mem_cons.1 ((h x).1 (by simp [hx])) with e|e
    ·subst e;have:=p1 x hx;omega
    ·exact e
   ·rcases List.mem_cons.1 ((h x).2 (by simp [hx])) with e|e
    ·subst e;have:=q1 x hx;omega
    ·exact e
def noteR (n:Int):List Int→List Int
  |[]=>[n]
  |m::l=>if m<n then m::noteR n l else if m=n then m::l else n::m::l
theorem noteS_eq (n:Int):∀ l,noteS l n=noteR n l
  |[]=>rfl
  |m::l=>by
   have ih:=noteS_eq n l
   unfold noteS at ih ⊢
   unfold noteR
   by_cases h:m<n
   ·rw [if_pos h,←ih]
    simp only [List.takeWhile_cons,h,decide_true,if_true,List.length_cons,List.getD_cons_succ,List.take_succ_cons,List.drop_succ_cons]
    by_cases h2:(List.takeWhile (fun m=>decide (m<n)) l).length<l.length∧l.getD (List.takeWhile (fun m=>decide (m<n)) l).length 0=n
    ·rw [if_pos h2,if_pos ⟨by omega,h2.2⟩]
    ·rw [if_neg h2,if_neg (fun q=>h2 ⟨by omega,q.2⟩)];rfl
   ·rw [if_neg h]
    simp only [List.takeWhile_cons,h,decide_false,Bool.false_eq_true,if_false,List.length_nil,List.length_cons,List.getD_cons_zero,List.take_zero,List.drop_zero,List.nil_append]
    by_cases h2:m=n
    ·rw [if_pos ⟨by omega,h2⟩,if_pos h2]
    ·rw [if_neg (fun q=>h2 q.2),if_neg h2];rfl
theorem noteR_mem (n x:Int):∀ l,x∈noteR n l ↔ x=n∨x∈l
  |[]=>by simp [noteR]
  |m::l=>by
   unfold noteR
   split
   ·rw [List.mem_cons,noteR_mem n x l,List.mem_cons]
    constructor
    ·rintro (h|h|h)<;>simp [h]
    ·rintro (h|h|h)<;>simp [h]
   ·split
    ·rename_i h;subst h
     simp only [List.mem_cons]
     constructor
     ·exact fun h=> .inr h
     ·rintro (h|h)
      ·exact .inl h
      ·exact h
    ·exact List.mem_cons
theorem noteR_sa (n:Int):∀ {l},SA l→SA (noteR n l)
  |[],_=>by simp [noteR,SA]
  |m::l,h=>by
   obtain ⟨p1,p2⟩:=List.pairwise_cons.1 h
   unfold noteR
   split
   ·rename_i hm
    refine List.pairwise_cons.2 ⟨fun x hx=>?_,noteR_sa n p2⟩
    rcases (noteR_mem n x l).1 hx with e|e
    ·omega
    ·exact p1 x e
   ·split
    ·exact h
    ·refine List.pairwise_cons.2 ⟨fun x hx=>?_,h⟩
     rcases List.mem_cons.1 hx with e|e
     ·omega
     ·have:=p1 x e;omega
theorem fold_note:∀ (V l:List Int),SA l→SA (V.foldl noteS l)∧∀ x,x∈V.foldl noteS l ↔ x∈V∨x∈l
  |[],l,h=>⟨h,fun x=>by simp⟩
  |n::V,l,h=>by
   rw [List.foldl_cons,noteS_eq]
   obtain ⟨h1,h2⟩:=fold_note V (noteR n l) (noteR_sa n h)
   refine ⟨h1,fun x=>?_⟩
   rw [h2,noteR_mem,List.mem_cons]
   constructor
   ·rintro (h|h|h)<;>simp [h]
   ·rintro ((h|h)|h)<;>simp [h]
theorem compact_sa {zs:List Int} (h:zs.Pairwise (fun a b=>a≤b)):SA (Lib.compact zs)∧∀ x,x∈Lib.compact zs ↔ x∈zs:=by
  have hget:∀ i j,i≤j→j<zs.length→zs.toArray[i]! ≤zs.toArray[j]! :=fun i j hij hj=>by
    have hi:i<zs.length:=by omega
    have e1:zs.toArray[i]! =zs[i]:=by simp [hi]
    have e2:zs.toArray[j]! =zs[j]:=by simp [hj]
    rw [e1,e2]
    rcases Nat.lt_or_ge i j with c|c
    ·exact List.pairwise_iff_getElem.1 h i j hi hj c
    ·have:i=j:=by omega
     subst this;exact Int.le_refl _
  have key:∀ m,m≤zs.length→SA (Lib.compactUpTo zs.toArray m)∧(∀ x∈Lib.compactUpTo zs.toArray m,x≤zs.toArray[m - 1]!)∧∀ x,x∈Lib.compactUpTo zs.toArray m ↔ ∃ j,j<m∧zs.toArray[j]! =x:=by
    intro m
    induction m with
    |zero=>intro _;exact ⟨by simp [Lib.compactUpTo,SA],by simp [Lib.compactUpTo],by simp [Lib.compactUpTo]⟩
    |succ m ih=>
     intro hm
     obtain ⟨h1,h2,h3⟩:=ih (by omega)
     rw [Lib.compactUpTo_succ]
     by_cases hk:Lib.keeps zs.toArray m=true
     ·rw [if_pos hk]
      have hlt:∀ x∈Lib.compactUpTo zs.toArray m,x<zs.toArray[m]! :=fun x hx=>by
        obtain ⟨j,hj,_⟩:=(h3 x).1 hx
        have q1:=h2 x hx
        have q2:=hget (m - 1) m (by omega) (by omega)
        have q3:zs.toArray[m]! ≠zs.toArray[m - 1]! :=by
          have:=of_decide_eq_true hk
          rcases this with c|c
          ·omega
          ·exact c
        omega
      refine ⟨List.pairwise_append.2 ⟨h1,by simp,fun x hx y hy=>?_⟩,fun x hx=>?_,fun x=>?_⟩
      ·have:y=zs.toArray[m]! :=by simpa using hy
       rw [this];exact hlt x hx
      ·rw [Nat.add_sub_cancel]
       rcases List.mem_append.1 hx with hx|hx
       ·exact Int.le_of_lt (hlt x hx)
       ·have:x=zs.toArray[m]! :=by simpa using hx
        rw [this];exact Int.le_refl _
      ·rw [List.mem_append,h3]
       constructor
       ·rintro (⟨j,hj,e⟩|hx)
        ·exact ⟨j,by omega,e⟩
        ·exact ⟨m,by omega,by have:x=zs.toArray[m]! :=by simpa using hx
                              exact this.symm⟩
       ·rintro ⟨j,hj,e⟩
        by_cases c:j=m
        ·subst c;right;rw [←e];simp
        ·left;exact ⟨j,by omega,e⟩
     ·rw [if_neg hk,List.append_nil]
      have hk': ¬ (m=0∨zs.toArray[m]! ≠zs.toArray[m - 1]!):=fun q=>hk (decide_eq_true q)
      have hm0:m≠0:=fun q=>hk' (.inl q)
      have he:zs.toArray[m]! =zs.toArray[m - 1]! :=Classical.byContradiction fun q=>hk' (.inr q)
      refine ⟨h1,fun x hx=>?_,fun x=>?_⟩
      ·rw [Nat.add_sub_cancel,he];exact h2 x hx
      ·rw [h3]
       constructor
       ·rintro ⟨j,hj,e⟩;exact ⟨j,by omega,e⟩
       ·rintro ⟨j,hj,e⟩
        by_cases c:j=m
        ·subst c;exact ⟨j - 1,by omega,by rw [←he];exact e⟩
        ·exact ⟨j,by omega,e⟩
  obtain ⟨h1,_,h3⟩:=key zs.length (Nat.le_refl _)
  refine ⟨h1,fun x=>?_⟩
  unfold Lib.compact
  rw [h3]
  constructor
  ·rintro ⟨j,hj,e⟩
   have:zs.toArray[j]! =zs[j]:=by simp [hj]
   rw [this] at e;rw [←e];exact List.getElem_mem hj
  ·intro hx
   obtain ⟨j,hj,e⟩:=List.getElem_of_mem hx
   exact ⟨j,hj,by simp [hj,e]⟩
theorem compact_len (zs:List Int):(Lib.compact zs).length≤zs.length:=by
  unfold Lib.compact Lib.compactUpTo
  rw [List.length_map]
  exact Nat.le_trans (List.length_filter_le _ _) (by simp)
theorem sort_compact (V:List Int):Lib.compact (V.mergeSort fun x y=>decide (x≤y))=V.foldl noteS []:=by
  have hs:(V.mergeSort fun x y=>decide (x≤y)).Pairwise (fun a b=>a≤b):=by
    have:=List.pairwise_mergeSort (le:=fun (x y:Int)=>decide (x≤y)) (fun a b c h1 h2=>by simp only [decide_eq_true_eq] at*;omega) (fun a b=>by simp only [Bool.or_eq_true,decide_eq_true_eq];omega) V
    exact this.imp (fun h=>by simpa using h)
  obtain ⟨c1,c2⟩:=compact_sa hs
  obtain ⟨f1,f2⟩:=fold_note V [] (by simp [SA])
  refine sa_eq c1 f1 fun x=>?_
  rw [c2,f2,List.mem_mergeSort]
  simp
theorem compact_pos {zs:List Int} (h:zs≠[]):0<(Lib.compact zs).length:=by
  cases zs with
  |nil=>exact absurd rfl h
  |cons a l=>
   unfold Lib.compact Lib.compactUpTo
   rw [List.length_map]
   refine List.length_pos_of_mem (a:=0) ?_
   rw [List.mem_filter]
   exact ⟨by simp,Lib.keeps_lt_one _ 0 (by omega)⟩
end Go.Proofs.Ytnlimcijgpaegaa.Bm

namespace Go.Fw
open Go Go.Sort
variable {P:Program}
theorem EC.sortRow {α:Type} [Inhabited α] {enc:α→Value} (h1:∀ a,(enc a).oneCell'=true) {f:FuncId} {e:TypeId} {o ver:Nat} {d d':List α} (hne:d≠[]) (hd:d'.length=d.length)
    (hc:∀ (g cap:Nat) (w:World),Holds enc w g 0 d.toArray→g<w.heap.size→Calls P f [Value.slice (some ⟨g,0,none⟩) d.length cap].toArray w fun en w'=>en= .returned (.tuple #[])∧∃ n os,w'=grow (putRow enc (Go.Sort.ahead w n) g 0 d'.toArray) os)
    {σ:List AObj} {k:AV→List AObj→Prop} (ho:σ[o]? =some (.arr e 1 (d.map fun a=> .lit (enc a)) ver false)) (hk:k (.tup []) (σ.set o (.arr e 1 (d'.map fun a=> .lit (enc a)) ver false))):
    EC P f [.arr o ver] σ k:=by
  intro cx G w vs hr hl
  have hlt:o<σ.length:=(List.getElem?_eq_some_iff.1 ho).1
  have hok:=hr.ok o _ ho
  have hver:G.ver o=ver:=hok.1
  obtain ⟨_,⟨a0,c0,hb0,_⟩,h3⟩:=hok
  simp only [Bool.false_eq_true,if_false] at h3
  rcases h3 with ⟨h3,_⟩|⟨g,cap,cur,ha⟩
  ·exfalso;apply hne;simpa using h3
  have hbv:=ha.v
  simp only [List.length_map] at hbv
  have hcap:d.length≤cap:=by simpa using ha.le
  have hwid:∀ x∈d.map (fun a=>AV.lit (enc a)),x.cells.length=1:=ha.wid
  have hfl:=flat_length hwid
  have hsz:cur.size=cap:=by simpa using ha.size
  have hcell:∀ j,j<d.length→cur[j]? =some (enc (d.toArray[j]!)):=by
    intro j hj
    have h:=ha.rel j (by rw [hfl];simpa using hj)
    have e1:(flat (d.map fun a=>AV.lit (enc a))).getD j .top= .lit (enc d[j]):=by
      rw [flat_lits,getD_elem _ _ (by simpa using hj)]
      simp
    rw [e1] at h
    have hj':j<cur.size:=by omega
    have:cur.getD j undef=enc d[j]:=by
      generalize cur.getD j undef=v at h
      cases h;rfl
    rw [Array.getElem?_eq_getElem hj']
    simp only [Array.getD,hj',dite_true] at this
    rw [show cur[j]=enc d[j] from this]
    simp [hj]
  have hholds:Holds enc w g 0 d.toArray:=by
    intro j hj
    have hj':j<d.length:=by simpa using hj
    rw [Nat.zero_add]
    exact ⟨by rw [ha.blk.cell];exact hcell j hj',ha.blk.frozen j (by omega)⟩
  have hvs:vs=[.slice (some ⟨g,0,none⟩) d.length cap]:=by
    match vs,hl with
    |[],hl=>have:=hl.1;simp at this
    |v::v2::vs,hl=>have:=hl.1;simp at this
    |[v],hl=>
     have hv:=hl.2 0 (by simp)
     simp only [List.getD_cons_zero] at hv
     rw [hv.arr_inv.2.2 hver.symm,hbv]
  rw [hvs]
  refine (hc g cap w hholds ha.blk.lt).mono ?_
  rintro en w' ⟨rfl,q,os,rfl⟩
  obtain ⟨fz,hf1,hf2,hf3⟩:=ha.blk
  have hheap:=putRow_heap (enc:=enc) (w:=Go.Sort.ahead w q) (off:=0) (d:=d'.toArray) hf1
  have hown:ownB (G.b o)=some g:=by have hp:=ha.pos;rw [hbv];simp [ownB];omega
  have hps:(putCells enc 0 d'.toArray cur).size=cur.size:=by simp [putCells]
  have hget:∀ j,j<d'.length→(putCells enc 0 d'.toArray cur).getD j undef=enc d'[j]! :=by
    intro j hj
    have hj2:j<cur.size:=by omega
    have:(putCells enc 0 d'.toArray cur)[j]? =some (enc d'[j]!):=by
      simp only [putCells,Array.getElem?_mapIdx,Array.getElem?_eq_getElem hj2,Option.map_some,Nat.zero_add,Nat.zero_le,true_and,Nat.sub_zero,List.size_toArray,hj,if_true]
      simp [hj]
    rw [Array.getD_eq_getD_getElem?,this];rfl
  have hml:(d'.map fun a=>AV.lit (enc a)).length=d.length:=by simp [hd]
  have hwid':∀ x∈d'.map fun a=>AV.lit (enc a),x.cells.length=1:=by
    intro x hx
    obtain ⟨a,_,rfl⟩:=List.mem_map.1 hx
    rfl
  have hfl':=flat_length hwid'
  have hflg:∀ j,j<d.length→(flat (d'.map fun a=>AV.lit (enc a))).getD j .top= .lit (enc d'[j]!):=by
    intro j hj
    have h2:j<d'.length:=by omega
    rw [flat_lits,getD_elem _ _ (by rw [hml];exact hj)]
    simp [h2]
  have ht:Touch w (putRow enc (Go.Sort.ahead w q) g 0 d'.toArray) g:=⟨rfl,rfl,rfl,by simp [putRow,mapBlock,Go.Sort.ahead],fun k hk=>by have:=hheap.2 k hk;simpa using this⟩
  have hr1:=hr.touch (g:=g) (ob':= .arr e 1 (d'.map fun a=> .lit (enc a)) ver false) ho rfl hown ht ⟨hver,by rw [hbv,hml];exact ⟨_,_,rfl,fun _=>⟨_,rfl⟩⟩,by
    simp only [Bool.false_eq_true,if_false]
    rw [hbv]
    refine .inr ⟨g,cap,putCells enc 0 d'.toArray cur,by rw [hml],ha.pos,⟨fz,hheap.1,hf2,by rw [hps];exact hf3⟩,by rw [hml];exact hcap,ha.max,by rw [hps,hsz];simp,hwid',fun j hj=>?_,fun j hj=>?_,ha.unc⟩
    ·rw [hfl',hml,Nat.mul_one] at hj
     rw [hget j (by omega)];exact h1 _
    ·rw [hfl',hml,Nat.mul_one] at hj
     rw [hflg j hj,hget j (by omega)];exact .lit _⟩
  have hm:More (putRow enc (Go.Sort.ahead w q) g 0 d'.toArray) (grow (putRow enc (Go.Sort.ahead w q) g 0 d'.toArray) os):=⟨rfl,rfl,rfl,by simp [grow],fun k hk=>by simp only [grow];rw [Array.getElem?_append_left hk]⟩
  exact ⟨_,G,_,.tup [],rfl,Gh.le.refl G,hr1.more hm,.tup [] [] rfl (by simp),hk⟩
end Go.Fw
namespace Go.Proofs.Ytnlimcijgpaegaa.Mm
open Go.Proofs.Ytnlimcijgpaegaa
open Go Go.Fw Bm
set_option maxRecDepth 20000
section
variable {x y:AObj} {B:Prg} {mt:List Int} {m:MS} {ex:List AObj} {σ:List AObj} {k:AV→List AObj→Prop} {o ver:Nat}
theorem len_pc:PC Try.prog 100 [.lit (.int .u64 0)] (.lit (.int .i64 (Lib.bitLen 0))):=by
  intro C w vs hr hin
  obtain ⟨hl,hr⟩:=hr
  match vs,hl with
  |[v],_=>
   have h0:=hr 0 (by simp)
   have e:v= .int .u64 0:=by
     have:RC C (.lit (.int .u64 0)) v:=h0
     cases this;rfl
   subst e
   refine (Try.bits_Len 0 w (by decide) (by decide)).mono ?_
   rintro e w' ⟨rfl,rfl⟩
   exact ⟨_,C,rfl,CLe.refl _,.lit _,hin,More.refl _,fun _ _ _=>rfl⟩
noncomputable def con100:PCon Try.prog where
  f:=100
  c:=fun
   |[.lit (.int .u64 n)]=>if n=0 then some (True,.lit (.int .i64 (Lib.bitLen 0))) else none
   |_=>none
  ok:=by
   intro args p r hc hp
   split at hc
   ·split at hc
    ·rename_i h;subst h;cases hc;exact len_pc
    ·cases hc
   ·cases hc
  fk:=fk100
theorem con100_f:con100.f=100:=rfl
theorem con100_c:con100.c [.lit (.int .u64 0)]=some (True,.lit (.int .i64 (Lib.bitLen 0))):=rfl
attribute [go_sem] con100_f con100_c
noncomputable def M8:Env:=envU Try.prog jkR zer (fun _=>false) (fun _=>false) [con100]
theorem M8_ok:EnvOk Try.prog M8:=envUOk zer_ok
theorem wr0:IntKind.u64.wrap 0=0:=by decide
set_option maxHeartbeats 4000000 in
theorem ins_ec {v:AV} (hk:k (.tup []) σ):EC Try.prog 130 [v,.lit (.int .i64 0),.lit (.int .i64 0)] σ k:=by
  refine ec_fin fun hbd=>?_
  refine ecR M8_ok (kp130) Try.func130 [] (h:=fun KF=>?_)
  unfold M8
  repeat' (first
   |(with_reducible first|refine nx ?_|refine t_seq fun K=>?_|refine t_br (fun hc=>?_) fun hc=>?_|refine t_bx ?_|apply And.intro|intro vr)
   |((with_reducible first|refine ny ?_|refine t_dwh (h:=fun K KL=>?_));intros;simp only [go_sem,kp130,geff]))
  all_goals try exact nd
  refine t_loopF (ι:=Unit) (fun _=>[(6,.lit (.int .i64 1))]) (fun _=>σ) (fun _=>0) () ?_ ?_
  ·exact lf
  rintro ⟨⟩ K0
  have g3:decide ((1:Int)<0)=false:=by decide
  repeat' (first
   |(with_reducible first|refine nx ?_|refine t_seq fun K=>?_|refine t_br (fun hc=>?_) fun hc=>?_|refine t_bx ?_|apply And.intro|intro vr)
   |((with_reducible first|refine ny ?_|refine t_dwh (h:=fun K KL=>?_));intros;simp only [go_sem,kp130,geff,g3]))
  all_goals try exact nd
  all_goals (refine nl ?_;simp only [go_sem,finE])
  exact ⟨_,_,rfl,LeA.refl _,by rw [List.take_length];exact hbd,by rw [List.take_length];exact hk⟩
set_option maxHeartbeats 4000000 in
theorem pdq_ec {l:Int} (h:σ[o]? =some (.arr 3 1 (ints .i64 []) ver false)) (hk:k (.tup []) σ):EC Try.prog 99 [.arr o ver,.lit (.int .i64 0),.lit (.int .i64 0),.lit (.int .i64 l)] σ k:=by
  refine ec_fin fun hbd=>?_
  refine ecR M8_ok (kp99) Try.func99 [] (h:=fun KF=>?_)
  unfold M8
  repeat' (first
   |(with_reducible first|refine nx ?_|refine t_seq fun K=>?_|refine t_br (fun hc=>?_) fun hc=>?_|refine t_bx ?_|apply And.intro|intro vr)
   |((with_reducible first|refine ny ?_|refine t_dwh (h:=fun K KL=>?_));intros;simp only [go_sem,kp99,geff]))
  all_goals try exact nd
  refine t_loopF (ι:=Unit) (fun _=>[]) (fun _=>σ) (fun _=>0) () ?_ ?_
  ·exact lf
  rintro ⟨⟩ K0
  have g3:decide ((0:Int)≤12)=true:=by decide
  repeat' (first
   |(with_reducible first|refine nx ?_|refine t_seq fun K=>?_|refine t_br (fun hc=>?_) fun hc=>?_|refine t_bx ?_|apply And.intro|intro vr)
   |((with_reducible first|refine ny ?_|refine t_dwh (h:=fun K KL=>?_));intros;simp only [go_sem,kp99,geff,g3,h]))
  all_goals try exact nd
  refine ⟨fk130,ins_ec ?_⟩
  repeat' (first
   |(with_reducible first|refine nx ?_|refine t_seq fun K=>?_|refine t_br (fun hc=>?_) fun hc=>?_|refine t_bx ?_|apply And.intro|intro vr)
   |((with_reducible first|refine ny ?_|refine t_dwh (h:=fun K KL=>?_));intros;simp only [go_sem,kp99,geff,yes]))
  all_goals try exact nd
  all_goals (refine nl ?_;simp only [go_sem,finE])
  exact ⟨_,_,rfl,LeA.refl _,by rw [List.take_length];exact hbd,by rw [List.take_length];exact hk⟩
set_option maxHeartbeats 4000000 in
theorem sort0_ec (h:σ[o]? =some (.arr 3 1 (ints .i64 []) ver false)) (hk:k (.tup []) σ):EC Try.prog 55 [.arr o ver] σ k:=by
  refine ec_fin fun hbd=>?_
  have i0:ints .i64 []=[]:=rfl
  refine ecR M8_ok (kp55) Try.func55 [] (h:=fun KF=>?_)
  unfold M8
  repeat' (first
   |(with_reducible first|refine nx ?_|refine t_seq fun K=>?_|refine t_br (fun hc=>?_) fun hc=>?_|refine t_bx ?_|apply And.intro|intro vr)
   |((with_reducible first|refine ny ?_|refine t_dwh (h:=fun K KL=>?_));intros;simp only [go_sem,kp55,geff,h,i0,wr0,yes]))
  all_goals try exact nd
  refine ⟨fk99,pdq_ec h ?_⟩
  repeat' (first
   |(with_reducible first|refine nx ?_|refine t_seq fun K=>?_|refine t_br (fun hc=>?_) fun hc=>?_|refine t_bx ?_|apply And.intro|intro vr)
   |((with_reducible first|refine ny ?_|refine t_dwh (h:=fun K KL=>?_));intros;simp only [go_sem,kp55,geff,yes]))
  all_goals try exact nd
  all_goals (refine nl ?_;simp only [go_sem,finE])
  exact ⟨_,_,rfl,LeA.refl _,by rw [List.take_length];exact hbd,by rw [List.take_length];exact hk⟩
def srt (V:List Int):List Int:=V.mergeSort fun x y=>decide (x≤y)
theorem srt_len (V:List Int):(srt V).length=V.length:=List.length_mergeSort _
theorem set_self {σ:List AObj} {o:Nat} {x:AObj} (h:σ[o]? =some x):σ.set o x=σ:=by
  apply List.ext_getElem?
  intro i
  rw [List.getElem?_set]
  split
  ·rename_i hi;subst hi;split
   ·rw [h]
   ·rename_i hlt;rw [List.getElem?_eq_none (by omega)]
  ·rfl
theorem sort_ec {V:List Int} (h:σ[o]? =some (.arr 3 1 (ints .i64 V) ver false)) (hV:V.length≤1000000) (hk:k (.tup []) (σ.set o (.arr 3 1 (ints .i64 (srt V)) ver false))):EC Try.prog 55 [.arr o ver] σ k:=by
  by_cases hne:V=[]
  ·subst hne
   have e:srt []=[]:=by simp [srt]
   rw [e,set_self h] at hk
   exact sort0_ec h hk
  ·refine EC.sortRow (enc:=Value.int .i64) (fun _=>rfl) (e:=3) (d:=V) (d':=srt V) hne (srt_len V) (fun g cap w hH hb=>?_) h hk
   exact Try.slices_Sort_int g 0 cap V w hH hb (by omega)
set_option maxHeartbeats 4000000 in
theorem compact0_ec (h:σ[o]? =some (.arr 3 1 (ints .i64 []) ver false)) (hk:k (.arr o ver) σ):EC Try.prog 57 [.arr o ver] σ k:=by
  refine ec_finK fun hbd=>?_
  have i0:ints .i64 []=[]:=rfl
  have hlt:=(List.getElem?_eq_some_iff.1 h).1
  refine ecR M8_ok (kp57) Try.func57 [.tmp 2] (h:=fun KF=>?_)
  unfold M8
  repeat' (first
   |(with_reducible first|refine nx ?_|refine t_seq fun K=>?_|refine t_br (fun hc=>?_) fun hc=>?_|refine t_bx ?_|apply And.intro|intro vr)
   |((with_reducible first|refine ny ?_|refine t_dwh (h:=fun K KL=>?_));intros;simp only [go_sem,kp57,geff,h,i0,yes]))
  all_goals try exact nd
  all_goals (refine nl ?_;simp only [go_sem,finK])
  exact ⟨_,LeR.refl _,Bd.arr hlt,by rw [List.take_length];exact hbd,by rw [List.take_length];exact hk⟩
theorem compact_ec {V:List Int} (h:σ[o]? =some (.arr 3 1 (ints .i64 V) ver false)) (hne:V≠[]) (hV:V.length≤1000000) (hk:k (.arr o (ver+1)) (σ.set o (.arr 3 1 (ints .i64 (Lib.compact V)) (ver+1) false))):EC Try.prog 57 [.arr o ver] σ k:=by
  have hl:=compact_len V
  have hp:=compact_pos hne
  have hd:(Lib.compact V++List.replicate (V.length - (Lib.compact V).length) 0).length=V.length:=by simp;omega
  refine EC.ofRow (enc:=Value.int .i64) (fun _=>rfl) (e:=3) (rest:=[]) (d:=V) (d':=Lib.compact V++List.replicate (V.length - (Lib.compact V).length) 0) (m:=(Lib.compact V).length) hne hd hl hp (fun g cap w hH hc _=>?_) h ?_
  ·exact Try.slices_Compact_int g 0 cap V w hH (by omega) hc
  ·rw [List.take_left']
   ·exact hk
   ·rfl
end
end Go.Proofs.Ytnlimcijgpaegaa.Mm
