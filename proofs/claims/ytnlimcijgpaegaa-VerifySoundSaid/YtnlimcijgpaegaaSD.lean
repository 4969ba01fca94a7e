import Derived.Test.YtnlimcijgpaegaaSC
import Derived.Test.YtnlimcijgpaegaaSA

set_option linter.all false

namespace Go.Proofs.Ytnlimcijgpaegaa.Mx
open Go.Proofs.Ytnlimcijgpaegaa
open Go Go.Fw Bm
set_option maxRecDepth 20000
noncomputable def X5 {B:Prg} {mt:List Int} {S:List (List Rng)} {n m:Nat} {cb:Int} {N:Nat} (hB:BlkX B mt S n m cb N):Env:=envJ (P:=Try.prog) jkR zer (fun _=>false) (fun _=>false) [con47,con48,con49] [ecnS n m S,ecnX hB]
theorem X5_ok {B:Prg} {mt:List Int} {S:List (List Rng)} {n m:Nat} {cb:Int} {N:Nat} (hB:BlkX B mt S n m cb N):EnvOk Try.prog (X5 hB):=envJOk zer_ok
structure Xk (B:Prg) (mt:List Int) (S:List (List Rng)) (n m:Nat) (cb:Int) (i0 to:Int) (s0:St) where
  i:Int
  s:St
  hi:i0≤i
  hu:i≤to∨i=i0
  hg:Gd n m cb s
  hv:∀ s',Runs B mt S (.blk i to) s s'→Runs B mt S (.blk i0 to) s0 s'
structure Xl (B:Prg) (mt:List Int) (S:List (List Rng)) (n m:Nat) (cb:Int) (i lo hi:Int) (s0:St) where
  k:Int
  s:St
  hl:lo≤k
  hk:k≤hi+1048576∨k=lo
  hg:Gd n m cb s
  hv:∀ s',Runs B mt S (.lop i k hi) s s'→Runs B mt S (.lop i lo hi) s0 s'
def zB:AObj:= .box 56 [.sl true 1 [],.sl true 1 [],.lit (.int .i64 0),.lit (.int .i64 0),.lit (.int .i64 0),.lit (.int .i64 0),.sl true 1 [],.lit (.int .i64 0),.lit (.bool false),.sl true 1 [],.lit (.bool false),.lit (.int .i64 0)]
theorem fx_bds {pre ex:List AObj} {R A R' A':List Int} {w1 w2 v1 v2 v3 v4 v5 v6 v7 v8:Value} {l1 l2 l3 l4 V Sx:List AV} (h:BdS (pre.length+(ex.length+2)) (mob pre R A ex)):
    BdS (pre.length+(ex.length+5)) (mob pre R' A' (ex++[.box 45 [.lit w1,.lit w2,.sl false 6 l1,.sl false 2 l2,.sl false 2 l3,.sl false 3 l4],.box 56 [.arr pre.length 0,.arr (pre.length+1) 0,.lit v1,.lit v2,.lit v3,.lit v4,.sl false 1 V,.lit v5,.lit v6,.sl false 1 Sx,.lit v7,.lit v8],zB])):=by
  rw [←mob_app]
  refine BdS.app (mob_bds h) (by omega) ?_
  have a1:pre.length<pre.length+(ex.length+5):=by omega
  have a2:pre.length+1<pre.length+(ex.length+5):=by omega
  simp [lowO,zB,low_lit,low_sl,low_arr,a1,a2]
theorem le_ob3 {n0:Nat} {f g:Nat→AV} {pre ex:List AObj} {R A:List Int} {x y z u:AObj} (hn:n0≤pre.length+(ex.length+5)) (hb:BdS (pre.length+(ex.length+5)) (mob pre R A (ex++[x,y,z]))) (hg:∀ j,low1 (pre.length+(ex.length+5)) (g j)=true) (h:∀ j,LeR (f j) (g j)):
    Le n0 ⟨f,mob pre R A (ex++[x,y,z,u])⟩ ⟨g,mob pre R A (ex++[x,y,z])⟩:=by
  have e:(mob pre R A (ex++[x,y,z])).length=pre.length+(ex.length+5):=by rw [mob_len];simp
  exact le_backB (m:=[u]) (by rw [mob_app];simp) (by rw [e];exact hn) (by rw [e];exact hb) (by rw [e];exact hg) h
theorem sn_bd {B:Prg} {S:List (List Rng)} (h:Sn B S) {i:Nat}:(S.getD i []).length≤1000000:=by
  rw [List.getD_eq_getElem?_getD]
  cases e:S[i]? with
  |none=>simp
  |some l=>exact h.bd l (List.mem_of_getElem? e)
theorem stV_def {p:Nat} {s:St} {S:List (List Rng)}:stV p s S= .agg [.arr p 0,.arr (p+1) 0,.lit (.int .i64 s.reads),.lit (.int .i64 s.writes),.lit (.int .i64 s.ops),.lit (.int .i64 s.peak),.sl false 1 (ints .i64 s.viol),.lit (.int .i64 s.left),.lit (.bool s.failed),.sl false 1 (bfsV S),.lit (.bool s.out),.lit (.int .i64 s.at_)]:=rfl
attribute [go_sem] stV_def
theorem kp_none {σ τ:List AObj}:Kp (fun _=>false) σ τ:=fun o t cs h=>by cases h
set_option maxHeartbeats 8000000 in
theorem exec_step {B:Prg} {mt:List Int} {S:List (List Rng)} {n m:Nat} {cb:Int} {N:Nat} (hK:Wk B mt n) (hS:Sn B S) (hcb:cb≤1000000) (hm:m≤1048576) (hB:BlkX B mt S n m cb N):BlkX B mt S n m cb (N+1):=by
  intro i0 to s0 pre ex k h1 h2 h3 h5
  refine ec_finK fun hbd=>?_
  rw [mob_len] at hbd
  have hL:=hK.len
  have hn:=hK.n
  have hml:=hK.mtl
  have h20:=h2.1
  have h21:=h2.2.1
  simp only [stV,bcV]
  refine ecR (X5_ok hB) (kp20) Try.func20 [.cell 10 56] (h:=fun KF=>?_)
  unfold X5
  repeat' (first
   |(with_reducible first|refine nx ?_|refine t_seq fun K=>?_|refine t_br (fun hc=>?_) fun hc=>?_|refine t_bx ?_|apply And.intro|intro vr)|exact kp_mobs|exact kp_none|exact kpd
   |((with_reducible first|refine ny ?_|refine t_kLF ?_ ?_|refine t_drawE (id:=5) (fun _=>false) [(0,1),(1,2),(2,1),(3,2),(4,1),(5,1),(6,1),(7,0),(8,1),(9,1),(10,0)] (by kernel_rfl) fun K=>?_|refine t_drawE (id:=19) (fun _=>false) [(0,2),(1,1),(2,1),(3,1),(4,1),(5,1),(6,1),(7,1),(8,2),(9,0),(10,0)] (by kernel_rfl) fun K=>?_|refine t_drawE (id:=26) (fun _=>false) [(0,2),(1,1),(2,1),(3,1),(4,1),(5,1),(6,1),(7,1),(8,2),(9,0),(10,0)] (by kernel_rfl) fun K=>?_|refine t_dwh (h:=fun K KL=>?_));intros;simp only [go_sem,kp20,geff]))
  all_goals try exact nd
  refine t_loopF (ι:=Xk B mt S n m cb i0 to s0) (fun q=>[(11,.lit (.int .i64 q.i))]) (fun q=>mob pre q.s.regs q.s.arena (ex++[.box 45 [.lit (.int .i64 B.regs),.lit (.int .i64 B.arena),.sl false 6 (opsV B.ops),.sl false 2 (plsV B.ins),.sl false 2 (plsV B.outs),.sl false 3 (arrs B.types)],.box 56 [.arr pre.length 0,.arr (pre.length+1) 0,.lit (.int .i64 q.s.reads),.lit (.int .i64 q.s.writes),.lit (.int .i64 q.s.ops),.lit (.int .i64 q.s.peak),.sl false 1 (ints .i64 q.s.viol),.lit (.int .i64 q.s.left),.lit (.bool q.s.failed),.sl false 1 (bfsV S),.lit (.bool q.s.out),.lit (.int .i64 q.s.at_)],.box 56 [.sl true 1 [],.sl true 1 [],.lit (.int .i64 0),.lit (.int .i64 0),.lit (.int .i64 0),.lit (.int .i64 0),.sl true 1 [],.lit (.int .i64 0),.lit (.bool false),.sl true 1 [],.lit (.bool false),.lit (.int .i64 0)]])) (fun q=>(to - q.i).toNat) ⟨i0,s0,Int.le_refl _,.inr rfl,h3,fun _ h=>h⟩ ?_ ?_
  ·exact lf
  rintro ⟨i,s,hi,hu,hg,hv⟩ K0
  cases hst:stpS s with
  |true=>
   have gst:(decide (s.left≤0)||s.failed||s.out)=true:=hst
   have hend:=h5 _ (hv _ (runs_end (fun q=>by rw [hst] at q;cases q.2))) hg
   repeat' (first
    |(with_reducible first|refine nx ?_|refine t_seq fun K=>?_|refine t_br (fun hc=>?_) fun hc=>?_|refine t_bx ?_|apply And.intro|intro vr)|exact kp_mobs|exact kp_none|exact kpd
    |((with_reducible first|refine ny ?_|refine t_kLF ?_ ?_|refine t_drawE (id:=5) (fun _=>false) [(0,1),(1,2),(2,1),(3,2),(4,1),(5,1),(6,1),(7,0),(8,1),(9,1),(10,0)] (by kernel_rfl) fun K=>?_|refine t_drawE (id:=19) (fun _=>false) [(0,2),(1,1),(2,1),(3,1),(4,1),(5,1),(6,1),(7,1),(8,2),(9,0),(10,0)] (by kernel_rfl) fun K=>?_|refine t_drawE (id:=26) (fun _=>false) [(0,2),(1,1),(2,1),(3,1),(4,1),(5,1),(6,1),(7,1),(8,2),(9,0),(10,0)] (by kernel_rfl) fun K=>?_|refine t_dwh (h:=fun K KL=>?_));intros;simp only [go_sem,kp20,geff,gst,Bool.not_true,Bool.and_false,yes]))
   all_goals try exact nd
   all_goals (refine nl ?_;simp only [go_sem,finK])
   refine ⟨_,?_,?_,mob_bds hbd,hend⟩
   ·exact LeR.refl _
   ·exact stV_bd (by omega)
  |false=>
   rcases Int.lt_or_le i to with hc|hc
   ·have hcl:Cl B mt i to:=h2.next hi
    have hopd:B.ops.getD i.toNat nilI=B.op i:=rfl
    have hright:=hK.rights i (by omega) (by omega)
    have hrg:=right_regs hright
    have hrd:∀ r∈readsS (B.op i),0≤r∧r<n:=fun r hr=>reads_reg hright hr
    have gst:(decide (s.left≤0)||s.failed||s.out)=false:=hst
    have g3:decide (i<to)=true:=decide_eq_true hc
    generalize hXX:B.op i=X at hopd hright hrg hrd
    obtain ⟨q,p,a,b,c,d⟩:=X
    have hRl:=hg.regs
    have hpos:=hg.pos
    have hsum:=hg.sum
    rcases Nat.eq_zero_or_pos S.length with hS0|hS0
    ·have g4:decide ((S.length:Int)>0)=false:=decide_eq_false (by omega)
     have hlk:Bm.look S i s=s:=by unfold Bm.look;rw [if_neg (by omega)]
     have hT:Bm.tick (Bm.look S i s)={s with left:=s.left - 1,out:=s.out}:=by rw [hlk];rfl
     have hgT:=hg.tick (seen:=S) hst i
     rw [hT] at hgT
     by_cases q10:q=10
     ·subst q10
      have hrb:=hrg.b (by simp)
      have hrc:=hrg.c (by simp)
      have hrw:=hrg.w rfl
      have hrk:=hrg.k10 rfl
      have ho:(B.op i).code=10:=by rw [hXX]
      have hin:=hK.nest.inner (show 0≤i by omega) (by omega) (.inl ho)
      obtain ⟨k1,k2,k3,k4⟩:=hK.nest.at (show 0≤i by omega) (by omega) (.inl ho)
      have k5:=hcl.2.2 i (Int.le_refl _) hc (.inl ho)
      have hXa:(B.op i).a=a:=by rw [hXX]
      have hXb:(B.op i).b=b:=by rw [hXX]
      have hXc:(B.op i).c=c:=by rw [hXX]
      have hXd:(B.op i).d=d:=by rw [hXX]
      have gm:mt.getD i.toNat 0=gt mt i:=rfl
      have gb:s.regs.getD b.toNat 0=gt s.regs b:=rfl
      have gc:s.regs.getD c.toNat 0=gt s.regs c:=rfl
      have vb:=hg.gt b
      have vc:=hg.gt c
      have mc:maxC=1099511627776:=rfl
      have ma:maxA=1048576:=rfl
      simp only at hrb hrc hrw hrk
      have rF:=fun {s2 s':St} hj hk=>runs_for (B:=B) (mt:=mt) (seen:=S) (i:=i) (to:=to) (s:=s) (s':=s2) (s'':=s') ⟨hc,hst⟩ ho hj hk
      rw [hT,hXb,hXc] at rF
      have rF:∀ {s2 s':St},Runs B mt S (.lop i (gt s.regs b) (gt s.regs c)) {s with left:=s.left - 1,out:=s.out} s2→Runs B mt S (.blk (gt mt i+1) to) s2 s'→Runs B mt S (.blk i to) s s':=fun hj hk=>rF hj hk
      generalize hMM:gt mt i=M at*
      generalize gt s.regs b=lo at*
      generalize gt s.regs c=hh at*
      repeat' (first
       |(with_reducible first|refine nx ?_|refine t_seq fun K=>?_|refine t_br (fun hc=>?_) fun hc=>?_|refine t_bx ?_|apply And.intro|intro vr)|exact kp_mobs|exact kp_none|exact kpd
       |((with_reducible first|refine ny ?_|refine t_kLF ?_ ?_|refine t_drawE (id:=5) (fun _=>false) [(0,1),(1,2),(2,1),(3,2),(4,1),(5,1),(6,1),(7,0),(8,1),(9,1),(10,0)] (by kernel_rfl) fun K=>?_|refine t_drawE (id:=19) (fun _=>false) [(0,2),(1,1),(2,1),(3,1),(4,1),(5,1),(6,1),(7,1),(8,2),(9,0),(10,0)] (by kernel_rfl) fun K=>?_|refine t_drawE (id:=26) (fun _=>false) [(0,2),(1,1),(2,1),(3,1),(4,1),(5,1),(6,1),(7,1),(8,2),(9,0),(10,0)] (by kernel_rfl) fun K=>?_|refine t_dwh (h:=fun K KL=>?_));intros;simp only [go_sem,kp20,geff,g3,gst,g4,hopd,gb,gc,yes]))
      all_goals try exact nd
      refine t_loopF (ι:=Xl B mt S n m cb i lo hh {s with left:=s.left - 1,out:=s.out}) (fun q=>[(15,.lit (.int .i64 q.k))]) (fun q=>mob pre q.s.regs q.s.arena (ex++[.box 45 [.lit (.int .i64 B.regs),.lit (.int .i64 B.arena),.sl false 6 (opsV B.ops),.sl false 2 (plsV B.ins),.sl false 2 (plsV B.outs),.sl false 3 (arrs B.types)],.box 56 [.arr pre.length 0,.arr (pre.length+1) 0,.lit (.int .i64 q.s.reads),.lit (.int .i64 q.s.writes),.lit (.int .i64 q.s.ops),.lit (.int .i64 q.s.peak),.sl false 1 (ints .i64 q.s.viol),.lit (.int .i64 q.s.left),.lit (.bool q.s.failed),.sl false 1 (bfsV S),.lit (.bool q.s.out),.lit (.int .i64 q.s.at_)],.box 56 [.sl true 1 [],.sl true 1 [],.lit (.int .i64 0),.lit (.int .i64 0),.lit (.int .i64 0),.lit (.int .i64 0),.sl true 1 [],.lit (.int .i64 0),.lit (.bool false),.sl true 1 [],.lit (.bool false),.lit (.int .i64 0)],.box 73 [.lit (.int .i64 10),.lit (.string p),.lit (.int .i64 a),.lit (.int .i64 b),.lit (.int .i64 c),.lit (.int .i64 d)]])) (fun q=>(hh - q.k).toNat) ⟨lo,{s with left:=s.left - 1,out:=s.out},Int.le_refl _,.inr rfl,hgT.le,fun _ h=>h⟩ ?_ ?_
      ·exact lf
      rintro ⟨k,s2,hl2,hk2,hg2,hv2⟩ K1
      have hpos2:=hg2.pos
      have hsum2:=hg2.sum
      have hRl2:=hg2.regs
      cases hst2:stpS s2 with
      |true=>
       have gst2:(decide (s2.left≤0)||s2.failed||s2.out)=true:=hst2
       have rE:=fun {s':St}=>rF (s':=s') (hv2 _ (runs_lend (fun q=>by rw [hst2] at q;cases q.2)))
       repeat' (first
        |(with_reducible first|refine nx ?_|refine t_seq fun K=>?_|refine t_br (fun hc=>?_) fun hc=>?_|refine t_bx ?_|apply And.intro|intro vr)|exact kp_mobs|exact kp_none|exact kpd
        |((with_reducible first|refine ny ?_|refine t_kLF ?_ ?_|refine t_drawE (id:=5) (fun _=>false) [(0,1),(1,2),(2,1),(3,2),(4,1),(5,1),(6,1),(7,0),(8,1),(9,1),(10,0)] (by kernel_rfl) fun K=>?_|refine t_drawE (id:=19) (fun _=>false) [(0,2),(1,1),(2,1),(3,1),(4,1),(5,1),(6,1),(7,1),(8,2),(9,0),(10,0)] (by kernel_rfl) fun K=>?_|refine t_drawE (id:=26) (fun _=>false) [(0,2),(1,1),(2,1),(3,1),(4,1),(5,1),(6,1),(7,1),(8,2),(9,0),(10,0)] (by kernel_rfl) fun K=>?_|refine t_dwh (h:=fun K KL=>?_));intros;simp only [go_sem,kp20,geff,gst2,Bool.not_true,Bool.and_false,gm,yes]))
       all_goals try exact nd
       refine ⟨⟨M+1,s2,by omega,.inl (by omega),hg2,fun s' h=>hv _ (rE h)⟩,by simp only;omega,?_⟩
       try simp only [updL_nil,updL_cons,delF_top,delF_upd,Nat.reduceEqDiff,reduceIte]
       refine le_ob3 (u:= .box 73 [.lit (.int .i64 10),.lit (.string p),.lit (.int .i64 a),.lit (.int .i64 b),.lit (.int .i64 c),.lit (.int .i64 d)]) ?_ (fx_bds hbd) ?_ ?_
       ·rw [mob_len];omega
       ·repeat' (first|exact low_top|(refine low_upd rfl ?_)|(refine lg_w ?_ (by omega)))
       repeat' (first|exact leF_top _|exact (fun _=>LeR.refl _)|(with_reducible refine leF_sl ?_ ?_)|(refine leF_upd ?_ ?_))
       all_goals (first|exact LeR.top _|exact LeR.refl _|(refine LeR.of_eq ?_;(try simp only [go_sem]);try rfl)|((try simp only [go_sem]);try rfl))
      |false=>
       have gst2:(decide (s2.left≤0)||s2.failed||s2.out)=false:=hst2
       rcases Int.lt_or_le k hh with hc2|hc2
       ·have g5:decide (k<hh)=true:=decide_eq_true hc2
        have hgt2:=hg2.turn hst2 (i:=a) (v:=k) (by omega)
        have rT:=fun {s3 s':St} hj hk=>runs_turn (B:=B) (mt:=mt) (seen:=S) (i:=i) (n:=k) (hi:=hh) (s:=s2) (s':=s3) (s'':=s') ⟨hc2,hst2⟩ hj hk
        rw [hXa,hXd,hMM] at rT
        repeat' (first
         |(with_reducible first|refine nx ?_|refine t_seq fun K=>?_|refine t_br (fun hc=>?_) fun hc=>?_|refine t_bx ?_|apply And.intro|intro vr)|exact kp_mobs|exact kp_none|exact kpd
         |((with_reducible first|refine ny ?_|refine t_kLF ?_ ?_|refine t_drawE (id:=5) (fun _=>false) [(0,1),(1,2),(2,1),(3,2),(4,1),(5,1),(6,1),(7,0),(8,1),(9,1),(10,0)] (by kernel_rfl) fun K=>?_|refine t_drawE (id:=19) (fun _=>false) [(0,2),(1,1),(2,1),(3,1),(4,1),(5,1),(6,1),(7,1),(8,2),(9,0),(10,0)] (by kernel_rfl) fun K=>?_|refine t_drawE (id:=26) (fun _=>false) [(0,2),(1,1),(2,1),(3,1),(4,1),(5,1),(6,1),(7,1),(8,2),(9,0),(10,0)] (by kernel_rfl) fun K=>?_|refine t_dwh (h:=fun K KL=>?_));intros;simp only [go_sem,kp20,geff,g5,gst2,gm,yes]))
        all_goals try exact nd
        refine ecnX_i {s2 with left:=s2.left - 1,regs:=s2.regs.set a.toNat k} rfl rfl (by omega) hin hgt2 fun s3 hr3 hg3=>?_
        repeat' (first
         |(with_reducible first|refine nx ?_|refine t_seq fun K=>?_|refine t_br (fun hc=>?_) fun hc=>?_|refine t_bx ?_|apply And.intro|intro vr)|exact kp_mobs|exact kp_none|exact kpd
         |((with_reducible first|refine ny ?_|refine t_kLF ?_ ?_|refine t_drawE (id:=5) (fun _=>false) [(0,1),(1,2),(2,1),(3,2),(4,1),(5,1),(6,1),(7,0),(8,1),(9,1),(10,0)] (by kernel_rfl) fun K=>?_|refine t_drawE (id:=19) (fun _=>false) [(0,2),(1,1),(2,1),(3,1),(4,1),(5,1),(6,1),(7,1),(8,2),(9,0),(10,0)] (by kernel_rfl) fun K=>?_|refine t_drawE (id:=26) (fun _=>false) [(0,2),(1,1),(2,1),(3,1),(4,1),(5,1),(6,1),(7,1),(8,2),(9,0),(10,0)] (by kernel_rfl) fun K=>?_|refine t_dwh (h:=fun K KL=>?_));intros;simp only [go_sem,kp20,geff,yes]))
        all_goals try exact nd
        have hw:(hh - (k+d)).toNat<(hh - k).toNat:=by omega
        refine ⟨⟨k+d,s3,by omega,.inl (by omega),hg3,fun s' h=>hv2 _ (rT hr3 h)⟩,hw,?_⟩
        exact lf
       ·have g5:decide (k<hh)=false:=decide_eq_false (by omega)
        have rE:=fun {s':St}=>rF (s':=s') (hv2 _ (runs_lend (fun q=>by omega)))
        repeat' (first
         |(with_reducible first|refine nx ?_|refine t_seq fun K=>?_|refine t_br (fun hc=>?_) fun hc=>?_|refine t_bx ?_|apply And.intro|intro vr)|exact kp_mobs|exact kp_none|exact kpd
         |((with_reducible first|refine ny ?_|refine t_kLF ?_ ?_|refine t_drawE (id:=5) (fun _=>false) [(0,1),(1,2),(2,1),(3,2),(4,1),(5,1),(6,1),(7,0),(8,1),(9,1),(10,0)] (by kernel_rfl) fun K=>?_|refine t_drawE (id:=19) (fun _=>false) [(0,2),(1,1),(2,1),(3,1),(4,1),(5,1),(6,1),(7,1),(8,2),(9,0),(10,0)] (by kernel_rfl) fun K=>?_|refine t_drawE (id:=26) (fun _=>false) [(0,2),(1,1),(2,1),(3,1),(4,1),(5,1),(6,1),(7,1),(8,2),(9,0),(10,0)] (by kernel_rfl) fun K=>?_|refine t_dwh (h:=fun K KL=>?_));intros;simp only [go_sem,kp20,geff,g5,gst2,gm,yes]))
        all_goals try exact nd
        refine ⟨⟨M+1,s2,by omega,.inl (by omega),hg2,fun s' h=>hv _ (rE h)⟩,by simp only;omega,?_⟩
        try simp only [updL_nil,updL_cons,delF_top,delF_upd,Nat.reduceEqDiff,reduceIte]
        refine le_ob3 (u:= .box 73 [.lit (.int .i64 10),.lit (.string p),.lit (.int .i64 a),.lit (.int .i64 b),.lit (.int .i64 c),.lit (.int .i64 d)]) ?_ (fx_bds hbd) ?_ ?_
        ·rw [mob_len];omega
        ·repeat' (first|exact low_top|(refine low_upd rfl ?_)|(refine lg_w ?_ (by omega)))
        repeat' (first|exact leF_top _|exact (fun _=>LeR.refl _)|(with_reducible refine leF_sl ?_ ?_)|(refine leF_upd ?_ ?_))
        all_goals (first|exact LeR.top _|exact LeR.refl _|(refine LeR.of_eq ?_;(try simp only [go_sem]);try rfl)|((try simp only [go_sem]);try rfl))
     by_cases q11:q=11
     ·subst q11
      have hra:=hrg.a (.inr rfl)
      have ho:(B.op i).code=11:=by rw [hXX]
      have hin:=hK.nest.inner (show 0≤i by omega) (by omega) (.inr (.inl ho))
      obtain ⟨k1,k2,k3,k4⟩:=hK.nest.at (show 0≤i by omega) (by omega) (.inr (.inl ho))
      obtain ⟨k5,k6,k7,k8,k9,k10⟩:=hK.nest.end_ hcl hc ho
      have hinE:(B.op (gt mt i)).code=12→Cl B mt (gt mt i+1) (gt mt (gt mt i)):=fun e=>hK.nest.inner (by omega) k2 (.inr (.inr e))
      have hAx:(B.op i).a=a:=by rw [hXX]
      have gm:mt.getD i.toNat 0=gt mt i:=rfl
      have gm2:mt.getD (gt mt i).toNat 0=gt mt (gt mt i):=rfl
      have ga:s.regs.getD a.toNat 0=gt s.regs a:=rfl
      have hopM:B.ops.getD (gt mt i).toNat nilI=B.op (gt mt i):=rfl
      have hE0:endS B mt i=gt mt (gt mt i):=k8
      have hE:endS ⟨B.regs,B.arena,B.ops,B.ins,B.outs,B.types⟩ mt i=gt mt (gt mt i):=k8
      have rY:=fun {s2 s':St} hp hj hk=>runs_yes (B:=B) (mt:=mt) (seen:=S) (i:=i) (to:=to) (s:=s) (s':=s2) (s'':=s') ⟨hc,hst⟩ ho hp hj hk
      have rN:=fun {s2 s':St} hp he hj hk=>runs_no (B:=B) (mt:=mt) (seen:=S) (i:=i) (to:=to) (s:=s) (s':=s2) (s'':=s') ⟨hc,hst⟩ ho hp he hj hk
      have rO:=fun {s':St} hp he hk=>runs_none (B:=B) (mt:=mt) (seen:=S) (i:=i) (to:=to) (s:=s) (s'':=s') ⟨hc,hst⟩ ho hp he hk
      rw [hT,hAx,hE0] at rY rN rO
      generalize hEE:gt mt (gt mt i)=E at*
      generalize hMM:gt mt i=M at*
      generalize hY:B.op M=Y at*
      obtain ⟨yc,yp,ya,yb,yy,yd⟩:=Y
      generalize hu:gt s.regs a=u at*
      cases gp:decide (u≥0) with
      |true=>
       have gp':=of_decide_eq_true gp
       repeat' (first
        |(with_reducible first|refine nx ?_|refine t_seq fun K=>?_|refine t_br (fun hc=>?_) fun hc=>?_|refine t_bx ?_|apply And.intro|intro vr)|exact kp_mobs|exact kp_none|exact kpd
        |((with_reducible first|refine ny ?_|refine t_kLF ?_ ?_|refine t_drawE (id:=5) (fun _=>false) [(0,1),(1,2),(2,1),(3,2),(4,1),(5,1),(6,1),(7,0),(8,1),(9,1),(10,0)] (by kernel_rfl) fun K=>?_|refine t_drawE (id:=19) (fun _=>false) [(0,2),(1,1),(2,1),(3,1),(4,1),(5,1),(6,1),(7,1),(8,2),(9,0),(10,0)] (by kernel_rfl) fun K=>?_|refine t_drawE (id:=26) (fun _=>false) [(0,2),(1,1),(2,1),(3,1),(4,1),(5,1),(6,1),(7,1),(8,2),(9,0),(10,0)] (by kernel_rfl) fun K=>?_|refine t_dwh (h:=fun K KL=>?_));intros;simp only [go_sem,kp20,geff,g3,gst,g4,hopd,gm,hMM,ga,gp,yes]))
       all_goals try exact nd
       refine ecnX_i {s with left:=s.left - 1,out:=s.out} rfl rfl (by omega) hin hgT.le fun s2 hr2 hg2=>?_
       repeat' (first
        |(with_reducible first|refine nx ?_|refine t_seq fun K=>?_|refine t_br (fun hc=>?_) fun hc=>?_|refine t_bx ?_|apply And.intro|intro vr)|exact kp_mobs|exact kp_none|exact kpd
        |((with_reducible first|refine ny ?_|refine t_kLF ?_ ?_|refine t_drawE (id:=5) (fun _=>false) [(0,1),(1,2),(2,1),(3,2),(4,1),(5,1),(6,1),(7,0),(8,1),(9,1),(10,0)] (by kernel_rfl) fun K=>?_|refine t_drawE (id:=19) (fun _=>false) [(0,2),(1,1),(2,1),(3,1),(4,1),(5,1),(6,1),(7,1),(8,2),(9,0),(10,0)] (by kernel_rfl) fun K=>?_|refine t_drawE (id:=26) (fun _=>false) [(0,2),(1,1),(2,1),(3,1),(4,1),(5,1),(6,1),(7,1),(8,2),(9,0),(10,0)] (by kernel_rfl) fun K=>?_|refine t_dwh (h:=fun K KL=>?_));intros;simp only [go_sem,kp20,geff,gm,hMM,hE,yes]))
       all_goals try exact nd
       refine ⟨⟨E+1,s2,by omega,.inl (by omega),hg2,fun s' h=>hv _ (rY gp' hr2 h)⟩,by simp only;omega,?_⟩
       try simp only [updL_nil,updL_cons,delF_top,delF_upd,Nat.reduceEqDiff,reduceIte]
       refine le_ob3 (u:= .box 73 [.lit (.int .i64 11),.lit (.string p),.lit (.int .i64 a),.lit (.int .i64 b),.lit (.int .i64 c),.lit (.int .i64 d)]) ?_ (fx_bds hbd) ?_ ?_
       ·rw [mob_len];omega
       ·repeat' (first|exact low_top|(refine low_upd rfl ?_)|(refine lg_w ?_ (by omega)))
       repeat' (first|exact leF_top _|exact (fun _=>LeR.refl _)|(with_reducible refine leF_sl ?_ ?_)|(refine leF_upd ?_ ?_))
       all_goals (first|exact LeR.top _|exact LeR.refl _|(refine LeR.of_eq ?_;(try simp only [go_sem]);try rfl)|((try simp only [go_sem]);try rfl))
      |false=>
       have gp':=of_decide_eq_false gp
       by_cases y12:yc=12
       ·subst y12
        have hinE:=hinE rfl
        repeat' (first
         |(with_reducible first|refine nx ?_|refine t_seq fun K=>?_|refine t_br (fun hc=>?_) fun hc=>?_|refine t_bx ?_|apply And.intro|intro vr)|exact kp_mobs|exact kp_none|exact kpd
         |((with_reducible first|refine ny ?_|refine t_kLF ?_ ?_|refine t_drawE (id:=5) (fun _=>false) [(0,1),(1,2),(2,1),(3,2),(4,1),(5,1),(6,1),(7,0),(8,1),(9,1),(10,0)] (by kernel_rfl) fun K=>?_|refine t_drawE (id:=19) (fun _=>false) [(0,2),(1,1),(2,1),(3,1),(4,1),(5,1),(6,1),(7,1),(8,2),(9,0),(10,0)] (by kernel_rfl) fun K=>?_|refine t_drawE (id:=26) (fun _=>false) [(0,2),(1,1),(2,1),(3,1),(4,1),(5,1),(6,1),(7,1),(8,2),(9,0),(10,0)] (by kernel_rfl) fun K=>?_|refine t_dwh (h:=fun K KL=>?_));intros;simp only [go_sem,kp20,geff,g3,gst,g4,hopd,gm,gm2,hMM,hEE,ga,gp,hopM,yes]))
        all_goals try exact nd
        refine ecnX_i {s with left:=s.left - 1,out:=s.out} rfl rfl (by omega) hinE hgT.le fun s2 hr2 hg2=>?_
        repeat' (first
         |(with_reducible first|refine nx ?_|refine t_seq fun K=>?_|refine t_br (fun hc=>?_) fun hc=>?_|refine t_bx ?_|apply And.intro|intro vr)|exact kp_mobs|exact kp_none|exact kpd
         |((with_reducible first|refine ny ?_|refine t_kLF ?_ ?_|refine t_drawE (id:=5) (fun _=>false) [(0,1),(1,2),(2,1),(3,2),(4,1),(5,1),(6,1),(7,0),(8,1),(9,1),(10,0)] (by kernel_rfl) fun K=>?_|refine t_drawE (id:=19) (fun _=>false) [(0,2),(1,1),(2,1),(3,1),(4,1),(5,1),(6,1),(7,1),(8,2),(9,0),(10,0)] (by kernel_rfl) fun K=>?_|refine t_drawE (id:=26) (fun _=>false) [(0,2),(1,1),(2,1),(3,1),(4,1),(5,1),(6,1),(7,1),(8,2),(9,0),(10,0)] (by kernel_rfl) fun K=>?_|refine t_dwh (h:=fun K KL=>?_));intros;simp only [go_sem,kp20,geff,gm,hMM,hE,yes]))
        all_goals try exact nd
        refine ⟨⟨E+1,s2,by omega,.inl (by omega),hg2,fun s' h=>hv _ (rN gp' rfl hr2 h)⟩,by simp only;omega,?_⟩
        try simp only [updL_nil,updL_cons,delF_top,delF_upd,Nat.reduceEqDiff,reduceIte]
        refine le_ob3 (u:= .box 73 [.lit (.int .i64 11),.lit (.string p),.lit (.int .i64 a),.lit (.int .i64 b),.lit (.int .i64 c),.lit (.int .i64 d)]) ?_ (fx_bds hbd) ?_ ?_
        ·rw [mob_len];omega
        ·repeat' (first|exact low_top|(refine low_upd rfl ?_)|(refine lg_w ?_ (by omega)))
        repeat' (first|exact leF_top _|exact (fun _=>LeR.refl _)|(with_reducible refine leF_sl ?_ ?_)|(refine leF_upd ?_ ?_))
        all_goals (first|exact LeR.top _|exact LeR.refl _|(refine LeR.of_eq ?_;(try simp only [go_sem]);try rfl)|((try simp only [go_sem]);try rfl))
       ·have e12:(yc==12)=false:=by simpa using y12
        repeat' (first
         |(with_reducible first|refine nx ?_|refine t_seq fun K=>?_|refine t_br (fun hc=>?_) fun hc=>?_|refine t_bx ?_|apply And.intro|intro vr)|exact kp_mobs|exact kp_none|exact kpd
         |((with_reducible first|refine ny ?_|refine t_kLF ?_ ?_|refine t_drawE (id:=5) (fun _=>false) [(0,1),(1,2),(2,1),(3,2),(4,1),(5,1),(6,1),(7,0),(8,1),(9,1),(10,0)] (by kernel_rfl) fun K=>?_|refine t_drawE (id:=19) (fun _=>false) [(0,2),(1,1),(2,1),(3,1),(4,1),(5,1),(6,1),(7,1),(8,2),(9,0),(10,0)] (by kernel_rfl) fun K=>?_|refine t_drawE (id:=26) (fun _=>false) [(0,2),(1,1),(2,1),(3,1),(4,1),(5,1),(6,1),(7,1),(8,2),(9,0),(10,0)] (by kernel_rfl) fun K=>?_|refine t_dwh (h:=fun K KL=>?_));intros;simp only [go_sem,kp20,geff,g3,gst,g4,hopd,gm,gm2,hMM,hEE,ga,gp,hopM,e12,hE,yes]))
        all_goals try exact nd
        refine ⟨⟨E+1,{s with left:=s.left - 1,out:=s.out},by omega,.inl (by omega),hgT.le,fun s' h=>hv _ (rO gp' y12 h)⟩,by simp only;omega,?_⟩
        try simp only [updL_nil,updL_cons,delF_top,delF_upd,Nat.reduceEqDiff,reduceIte]
        refine le_ob3 (u:= .box 73 [.lit (.int .i64 11),.lit (.string p),.lit (.int .i64 a),.lit (.int .i64 b),.lit (.int .i64 c),.lit (.int .i64 d)]) ?_ (fx_bds hbd) ?_ ?_
        ·rw [mob_len];omega
        ·repeat' (first|exact low_top|(refine low_upd rfl ?_)|(refine lg_w ?_ (by omega)))
        repeat' (first|exact leF_top _|exact (fun _=>LeR.refl _)|(with_reducible refine leF_sl ?_ ?_)|(refine leF_upd ?_ ?_))
        all_goals (first|exact LeR.top _|exact LeR.refl _|(refine LeR.of_eq ?_;(try simp only [go_sem]);try rfl)|((try simp only [go_sem]);try rfl))
     have e10:(q==10)=false:=by simpa using q10
     have e11:(q==11)=false:=by simpa using q11
     have hg2:=hgT.simple hrg
     generalize hs2:simpleS ⟨q,p,a,b,c,d⟩ {s with left:=s.left - 1,out:=s.out}=s2 at hg2
     cases hf:s2.failed with
     |true=>
      repeat' (first
       |(with_reducible first|refine nx ?_|refine t_seq fun K=>?_|refine t_br (fun hc=>?_) fun hc=>?_|refine t_bx ?_|apply And.intro|intro vr)|exact kp_mobs|exact kp_none|exact kpd
       |((with_reducible first|refine ny ?_|refine t_kLF ?_ ?_|refine t_drawE (id:=5) (fun _=>false) [(0,1),(1,2),(2,1),(3,2),(4,1),(5,1),(6,1),(7,0),(8,1),(9,1),(10,0)] (by kernel_rfl) fun K=>?_|refine t_drawE (id:=19) (fun _=>false) [(0,2),(1,1),(2,1),(3,1),(4,1),(5,1),(6,1),(7,1),(8,2),(9,0),(10,0)] (by kernel_rfl) fun K=>?_|refine t_drawE (id:=26) (fun _=>false) [(0,2),(1,1),(2,1),(3,1),(4,1),(5,1),(6,1),(7,1),(8,2),(9,0),(10,0)] (by kernel_rfl) fun K=>?_|refine t_dwh (h:=fun K KL=>?_));intros;simp only [go_sem,kp20,geff,g3,gst,g4,hopd,e10,e11,yes]))
      all_goals try exact nd
      refine ecnS_i ⟨q,p,a,b,c,d⟩ {s with left:=s.left - 1,out:=s.out} (cb - 1) s2 hs2 rfl rfl hrg hgT (by omega) hn hm hrd ?_
      repeat' (first
       |(with_reducible first|refine nx ?_|refine t_seq fun K=>?_|refine t_br (fun hc=>?_) fun hc=>?_|refine t_bx ?_|apply And.intro|intro vr)|exact kp_mobs|exact kp_none|exact kpd
       |((with_reducible first|refine ny ?_|refine t_kLF ?_ ?_|refine t_drawE (id:=5) (fun _=>false) [(0,1),(1,2),(2,1),(3,2),(4,1),(5,1),(6,1),(7,0),(8,1),(9,1),(10,0)] (by kernel_rfl) fun K=>?_|refine t_drawE (id:=19) (fun _=>false) [(0,2),(1,1),(2,1),(3,1),(4,1),(5,1),(6,1),(7,1),(8,2),(9,0),(10,0)] (by kernel_rfl) fun K=>?_|refine t_drawE (id:=26) (fun _=>false) [(0,2),(1,1),(2,1),(3,1),(4,1),(5,1),(6,1),(7,1),(8,2),(9,0),(10,0)] (by kernel_rfl) fun K=>?_|refine t_dwh (h:=fun K KL=>?_));intros;simp only [go_sem,kp20,geff,hf,yes]))
      all_goals try exact nd
      refine ⟨⟨i+1,{s2 with at_:=i},by omega,.inl (by omega),⟨hg2.1,hg2.2,hg2.3,hg2.4,hg2.5,hg2.6,hg2.7⟩,fun s' h=>hv _ (runs_simple ⟨hc,hst⟩ (by rw [hXX];exact q10) (by rw [hXX];exact q11) (by rw [hXX,hT,hs2,hf];exact h))⟩,by simp only;omega,?_⟩
      try simp only [hf]
      try simp only [updL_nil,updL_cons,delF_top,delF_upd,Nat.reduceEqDiff,reduceIte]
      refine le_ob3 (u:= .box 73 [.lit (.int .i64 q),.lit (.string p),.lit (.int .i64 a),.lit (.int .i64 b),.lit (.int .i64 c),.lit (.int .i64 d)]) ?_ (fx_bds hbd) ?_ ?_
      ·rw [mob_len];omega
      ·repeat' (first|exact low_top|(refine low_upd rfl ?_)|(refine lg_w ?_ (by omega)))
      repeat' (first|exact leF_top _|exact (fun _=>LeR.refl _)|(with_reducible refine leF_sl ?_ ?_)|(refine leF_upd ?_ ?_))
      all_goals (first|exact LeR.top _|exact LeR.refl _|(refine LeR.of_eq ?_;(try simp only [go_sem]);try rfl)|((try simp only [go_sem]);try rfl))
     |false=>
      repeat' (first
       |(with_reducible first|refine nx ?_|refine t_seq fun K=>?_|refine t_br (fun hc=>?_) fun hc=>?_|refine t_bx ?_|apply And.intro|intro vr)|exact kp_mobs|exact kp_none|exact kpd
       |((with_reducible first|refine ny ?_|refine t_kLF ?_ ?_|refine t_drawE (id:=5) (fun _=>false) [(0,1),(1,2),(2,1),(3,2),(4,1),(5,1),(6,1),(7,0),(8,1),(9,1),(10,0)] (by kernel_rfl) fun K=>?_|refine t_drawE (id:=19) (fun _=>false) [(0,2),(1,1),(2,1),(3,1),(4,1),(5,1),(6,1),(7,1),(8,2),(9,0),(10,0)] (by kernel_rfl) fun K=>?_|refine t_drawE (id:=26) (fun _=>false) [(0,2),(1,1),(2,1),(3,1),(4,1),(5,1),(6,1),(7,1),(8,2),(9,0),(10,0)] (by kernel_rfl) fun K=>?_|refine t_dwh (h:=fun K KL=>?_));intros;simp only [go_sem,kp20,geff,g3,gst,g4,hopd,e10,e11,yes]))
      all_goals try exact nd
      refine ecnS_i ⟨q,p,a,b,c,d⟩ {s with left:=s.left - 1,out:=s.out} (cb - 1) s2 hs2 rfl rfl hrg hgT (by omega) hn hm hrd ?_
      repeat' (first
       |(with_reducible first|refine nx ?_|refine t_seq fun K=>?_|refine t_br (fun hc=>?_) fun hc=>?_|refine t_bx ?_|apply And.intro|intro vr)|exact kp_mobs|exact kp_none|exact kpd
       |((with_reducible first|refine ny ?_|refine t_kLF ?_ ?_|refine t_drawE (id:=5) (fun _=>false) [(0,1),(1,2),(2,1),(3,2),(4,1),(5,1),(6,1),(7,0),(8,1),(9,1),(10,0)] (by kernel_rfl) fun K=>?_|refine t_drawE (id:=19) (fun _=>false) [(0,2),(1,1),(2,1),(3,1),(4,1),(5,1),(6,1),(7,1),(8,2),(9,0),(10,0)] (by kernel_rfl) fun K=>?_|refine t_drawE (id:=26) (fun _=>false) [(0,2),(1,1),(2,1),(3,1),(4,1),(5,1),(6,1),(7,1),(8,2),(9,0),(10,0)] (by kernel_rfl) fun K=>?_|refine t_dwh (h:=fun K KL=>?_));intros;simp only [go_sem,kp20,geff,hf,yes]))
      all_goals try exact nd
      refine ⟨⟨i+1,s2,by omega,.inl (by omega),hg2,fun s' h=>hv _ (runs_simple ⟨hc,hst⟩ (by rw [hXX];exact q10) (by rw [hXX];exact q11) (by rw [hXX,hT,hs2,hf];exact h))⟩,by simp only;omega,?_⟩
      try simp only [hf]
      try simp only [updL_nil,updL_cons,delF_top,delF_upd,Nat.reduceEqDiff,reduceIte]
      refine le_ob3 (u:= .box 73 [.lit (.int .i64 q),.lit (.string p),.lit (.int .i64 a),.lit (.int .i64 b),.lit (.int .i64 c),.lit (.int .i64 d)]) ?_ (fx_bds hbd) ?_ ?_
      ·rw [mob_len];omega
      ·repeat' (first|exact low_top|(refine low_upd rfl ?_)|(refine lg_w ?_ (by omega)))
      repeat' (first|exact leF_top _|exact (fun _=>LeR.refl _)|(with_reducible refine leF_sl ?_ ?_)|(refine leF_upd ?_ ?_))
      all_goals (first|exact LeR.top _|exact LeR.refl _|(refine LeR.of_eq ?_;(try simp only [go_sem]);try rfl)|((try simp only [go_sem]);try rfl))
    ·have g4:decide ((S.length:Int)>0)=true:=decide_eq_true (by omega)
     have hSl:=hS.len hS0
     have hbf:=bfsV_at (l:=S) (i:=i.toNat) (by omega)
     have hrl:(S.getD i.toNat []).length≤1000000:=sn_bd hS
     generalize hr:S.getD i.toNat []=r at hbf hrl
     have ho':inR s.regs r=inR s.regs r:=rfl
     generalize ho2:inR s.regs r=o2 at ho'
     have ho':=ho2
     have hlk:Bm.look S i s={s with out:= !o2}:=by unfold Bm.look;rw [if_pos hS0,hr,ho2]
     have hT:Bm.tick (Bm.look S i s)={s with left:=s.left - 1,out:= !o2}:=by rw [hlk];rfl
     have hgT:=hg.tick (seen:=S) hst i
     rw [hT] at hgT
     by_cases q10:q=10
     ·subst q10
      have hrb:=hrg.b (by simp)
      have hrc:=hrg.c (by simp)
      have hrw:=hrg.w rfl
      have hrk:=hrg.k10 rfl
      have ho:(B.op i).code=10:=by rw [hXX]
      have hin:=hK.nest.inner (show 0≤i by omega) (by omega) (.inl ho)
      obtain ⟨k1,k2,k3,k4⟩:=hK.nest.at (show 0≤i by omega) (by omega) (.inl ho)
      have k5:=hcl.2.2 i (Int.le_refl _) hc (.inl ho)
      have hXa:(B.op i).a=a:=by rw [hXX]
      have hXb:(B.op i).b=b:=by rw [hXX]
      have hXc:(B.op i).c=c:=by rw [hXX]
      have hXd:(B.op i).d=d:=by rw [hXX]
      have gm:mt.getD i.toNat 0=gt mt i:=rfl
      have gb:s.regs.getD b.toNat 0=gt s.regs b:=rfl
      have gc:s.regs.getD c.toNat 0=gt s.regs c:=rfl
      have vb:=hg.gt b
      have vc:=hg.gt c
      have mc:maxC=1099511627776:=rfl
      have ma:maxA=1048576:=rfl
      simp only at hrb hrc hrw hrk
      have rF:=fun {s2 s':St} hj hk=>runs_for (B:=B) (mt:=mt) (seen:=S) (i:=i) (to:=to) (s:=s) (s':=s2) (s'':=s') ⟨hc,hst⟩ ho hj hk
      rw [hT,hXb,hXc] at rF
      have rF:∀ {s2 s':St},Runs B mt S (.lop i (gt s.regs b) (gt s.regs c)) {s with left:=s.left - 1,out:= !o2} s2→Runs B mt S (.blk (gt mt i+1) to) s2 s'→Runs B mt S (.blk i to) s s':=fun hj hk=>rF hj hk
      generalize hMM:gt mt i=M at*
      generalize gt s.regs b=lo at*
      generalize gt s.regs c=hh at*
      repeat' (first
       |(with_reducible first|refine nx ?_|refine t_seq fun K=>?_|refine t_br (fun hc=>?_) fun hc=>?_|refine t_bx ?_|apply And.intro|intro vr)|exact kp_mobs|exact kp_none|exact kpd
       |((with_reducible first|refine ny ?_|refine t_kLF ?_ ?_|refine t_drawE (id:=5) (fun _=>false) [(0,1),(1,2),(2,1),(3,2),(4,1),(5,1),(6,1),(7,0),(8,1),(9,1),(10,0)] (by kernel_rfl) fun K=>?_|refine t_drawE (id:=19) (fun _=>false) [(0,2),(1,1),(2,1),(3,1),(4,1),(5,1),(6,1),(7,1),(8,2),(9,0),(10,0)] (by kernel_rfl) fun K=>?_|refine t_drawE (id:=26) (fun _=>false) [(0,2),(1,1),(2,1),(3,1),(4,1),(5,1),(6,1),(7,1),(8,2),(9,0),(10,0)] (by kernel_rfl) fun K=>?_|refine t_dwh (h:=fun K KL=>?_));intros;simp only [go_sem,kp20,geff,g3,gst,g4,hbf,ho',hopd,gb,gc,yes]))
      all_goals try exact nd
      refine t_loopF (ι:=Xl B mt S n m cb i lo hh {s with left:=s.left - 1,out:= !o2}) (fun q=>[(15,.lit (.int .i64 q.k))]) (fun q=>mob pre q.s.regs q.s.arena (ex++[.box 45 [.lit (.int .i64 B.regs),.lit (.int .i64 B.arena),.sl false 6 (opsV B.ops),.sl false 2 (plsV B.ins),.sl false 2 (plsV B.outs),.sl false 3 (arrs B.types)],.box 56 [.arr pre.length 0,.arr (pre.length+1) 0,.lit (.int .i64 q.s.reads),.lit (.int .i64 q.s.writes),.lit (.int .i64 q.s.ops),.lit (.int .i64 q.s.peak),.sl false 1 (ints .i64 q.s.viol),.lit (.int .i64 q.s.left),.lit (.bool q.s.failed),.sl false 1 (bfsV S),.lit (.bool q.s.out),.lit (.int .i64 q.s.at_)],.box 56 [.sl true 1 [],.sl true 1 [],.lit (.int .i64 0),.lit (.int .i64 0),.lit (.int .i64 0),.lit (.int .i64 0),.sl true 1 [],.lit (.int .i64 0),.lit (.bool false),.sl true 1 [],.lit (.bool false),.lit (.int .i64 0)],.box 73 [.lit (.int .i64 10),.lit (.string p),.lit (.int .i64 a),.lit (.int .i64 b),.lit (.int .i64 c),.lit (.int .i64 d)]])) (fun q=>(hh - q.k).toNat) ⟨lo,{s with left:=s.left - 1,out:= !o2},Int.le_refl _,.inr rfl,hgT.le,fun _ h=>h⟩ ?_ ?_
      ·exact lf
      rintro ⟨k,s2,hl2,hk2,hg2,hv2⟩ K1
      have hpos2:=hg2.pos
      have hsum2:=hg2.sum
      have hRl2:=hg2.regs
      cases hst2:stpS s2 with
      |true=>
       have gst2:(decide (s2.left≤0)||s2.failed||s2.out)=true:=hst2
       have rE:=fun {s':St}=>rF (s':=s') (hv2 _ (runs_lend (fun q=>by rw [hst2] at q;cases q.2)))
       repeat' (first
        |(with_reducible first|refine nx ?_|refine t_seq fun K=>?_|refine t_br (fun hc=>?_) fun hc=>?_|refine t_bx ?_|apply And.intro|intro vr)|exact kp_mobs|exact kp_none|exact kpd
        |((with_reducible first|refine ny ?_|refine t_kLF ?_ ?_|refine t_drawE (id:=5) (fun _=>false) [(0,1),(1,2),(2,1),(3,2),(4,1),(5,1),(6,1),(7,0),(8,1),(9,1),(10,0)] (by kernel_rfl) fun K=>?_|refine t_drawE (id:=19) (fun _=>false) [(0,2),(1,1),(2,1),(3,1),(4,1),(5,1),(6,1),(7,1),(8,2),(9,0),(10,0)] (by kernel_rfl) fun K=>?_|refine t_drawE (id:=26) (fun _=>false) [(0,2),(1,1),(2,1),(3,1),(4,1),(5,1),(6,1),(7,1),(8,2),(9,0),(10,0)] (by kernel_rfl) fun K=>?_|refine t_dwh (h:=fun K KL=>?_));intros;simp only [go_sem,kp20,geff,gst2,Bool.not_true,Bool.and_false,gm,yes]))
       all_goals try exact nd
       refine ⟨⟨M+1,s2,by omega,.inl (by omega),hg2,fun s' h=>hv _ (rE h)⟩,by simp only;omega,?_⟩
       try simp only [updL_nil,updL_cons,delF_top,delF_upd,Nat.reduceEqDiff,reduceIte]
       refine le_ob3 (u:= .box 73 [.lit (.int .i64 10),.lit (.string p),.lit (.int .i64 a),.lit (.int .i64 b),.lit (.int .i64 c),.lit (.int .i64 d)]) ?_ (fx_bds hbd) ?_ ?_
       ·rw [mob_len];omega
       ·repeat' (first|exact low_top|(refine low_upd rfl ?_)|(refine lg_w ?_ (by omega)))
       repeat' (first|exact leF_top _|exact (fun _=>LeR.refl _)|(with_reducible refine leF_sl ?_ ?_)|(refine leF_upd ?_ ?_))
       all_goals (first|exact LeR.top _|exact LeR.refl _|(refine LeR.of_eq ?_;(try simp only [go_sem]);try rfl)|((try simp only [go_sem]);try rfl))
      |false=>
       have gst2:(decide (s2.left≤0)||s2.failed||s2.out)=false:=hst2
       rcases Int.lt_or_le k hh with hc2|hc2
       ·have g5:decide (k<hh)=true:=decide_eq_true hc2
        have hgt2:=hg2.turn hst2 (i:=a) (v:=k) (by omega)
        have rT:=fun {s3 s':St} hj hk=>runs_turn (B:=B) (mt:=mt) (seen:=S) (i:=i) (n:=k) (hi:=hh) (s:=s2) (s':=s3) (s'':=s') ⟨hc2,hst2⟩ hj hk
        rw [hXa,hXd,hMM] at rT
        repeat' (first
         |(with_reducible first|refine nx ?_|refine t_seq fun K=>?_|refine t_br (fun hc=>?_) fun hc=>?_|refine t_bx ?_|apply And.intro|intro vr)|exact kp_mobs|exact kp_none|exact kpd
         |((with_reducible first|refine ny ?_|refine t_kLF ?_ ?_|refine t_drawE (id:=5) (fun _=>false) [(0,1),(1,2),(2,1),(3,2),(4,1),(5,1),(6,1),(7,0),(8,1),(9,1),(10,0)] (by kernel_rfl) fun K=>?_|refine t_drawE (id:=19) (fun _=>false) [(0,2),(1,1),(2,1),(3,1),(4,1),(5,1),(6,1),(7,1),(8,2),(9,0),(10,0)] (by kernel_rfl) fun K=>?_|refine t_drawE (id:=26) (fun _=>false) [(0,2),(1,1),(2,1),(3,1),(4,1),(5,1),(6,1),(7,1),(8,2),(9,0),(10,0)] (by kernel_rfl) fun K=>?_|refine t_dwh (h:=fun K KL=>?_));intros;simp only [go_sem,kp20,geff,g5,gst2,gm,yes]))
        all_goals try exact nd
        refine ecnX_i {s2 with left:=s2.left - 1,regs:=s2.regs.set a.toNat k} rfl rfl (by omega) hin hgt2 fun s3 hr3 hg3=>?_
        repeat' (first
         |(with_reducible first|refine nx ?_|refine t_seq fun K=>?_|refine t_br (fun hc=>?_) fun hc=>?_|refine t_bx ?_|apply And.intro|intro vr)|exact kp_mobs|exact kp_none|exact kpd
         |((with_reducible first|refine ny ?_|refine t_kLF ?_ ?_|refine t_drawE (id:=5) (fun _=>false) [(0,1),(1,2),(2,1),(3,2),(4,1),(5,1),(6,1),(7,0),(8,1),(9,1),(10,0)] (by kernel_rfl) fun K=>?_|refine t_drawE (id:=19) (fun _=>false) [(0,2),(1,1),(2,1),(3,1),(4,1),(5,1),(6,1),(7,1),(8,2),(9,0),(10,0)] (by kernel_rfl) fun K=>?_|refine t_drawE (id:=26) (fun _=>false) [(0,2),(1,1),(2,1),(3,1),(4,1),(5,1),(6,1),(7,1),(8,2),(9,0),(10,0)] (by kernel_rfl) fun K=>?_|refine t_dwh (h:=fun K KL=>?_));intros;simp only [go_sem,kp20,geff,yes]))
        all_goals try exact nd
        have hw:(hh - (k+d)).toNat<(hh - k).toNat:=by omega
        refine ⟨⟨k+d,s3,by omega,.inl (by omega),hg3,fun s' h=>hv2 _ (rT hr3 h)⟩,hw,?_⟩
        exact lf
       ·have g5:decide (k<hh)=false:=decide_eq_false (by omega)
        have rE:=fun {s':St}=>rF (s':=s') (hv2 _ (runs_lend (fun q=>by omega)))
        repeat' (first
         |(with_reducible first|refine nx ?_|refine t_seq fun K=>?_|refine t_br (fun hc=>?_) fun hc=>?_|refine t_bx ?_|apply And.intro|intro vr)|exact kp_mobs|exact kp_none|exact kpd
         |((with_reducible first|refine ny ?_|refine t_kLF ?_ ?_|refine t_drawE (id:=5) (fun _=>false) [(0,1),(1,2),(2,1),(3,2),(4,1),(5,1),(6,1),(7,0),(8,1),(9,1),(10,0)] (by kernel_rfl) fun K=>?_|refine t_drawE (id:=19) (fun _=>false) [(0,2),(1,1),(2,1),(3,1),(4,1),(5,1),(6,1),(7,1),(8,2),(9,0),(10,0)] (by kernel_rfl) fun K=>?_|refine t_drawE (id:=26) (fun _=>false) [(0,2),(1,1),(2,1),(3,1),(4,1),(5,1),(6,1),(7,1),(8,2),(9,0),(10,0)] (by kernel_rfl) fun K=>?_|refine t_dwh (h:=fun K KL=>?_));intros;simp only [go_sem,kp20,geff,g5,gst2,gm,yes]))
        all_goals try exact nd
        refine ⟨⟨M+1,s2,by omega,.inl (by omega),hg2,fun s' h=>hv _ (rE h)⟩,by simp only;omega,?_⟩
        try simp only [updL_nil,updL_cons,delF_top,delF_upd,Nat.reduceEqDiff,reduceIte]
        refine le_ob3 (u:= .box 73 [.lit (.int .i64 10),.lit (.string p),.lit (.int .i64 a),.lit (.int .i64 b),.lit (.int .i64 c),.lit (.int .i64 d)]) ?_ (fx_bds hbd) ?_ ?_
        ·rw [mob_len];omega
        ·repeat' (first|exact low_top|(refine low_upd rfl ?_)|(refine lg_w ?_ (by omega)))
        repeat' (first|exact leF_top _|exact (fun _=>LeR.refl _)|(with_reducible refine leF_sl ?_ ?_)|(refine leF_upd ?_ ?_))
        all_goals (first|exact LeR.top _|exact LeR.refl _|(refine LeR.of_eq ?_;(try simp only [go_sem]);try rfl)|((try simp only [go_sem]);try rfl))
     by_cases q11:q=11
     ·subst q11
      have hra:=hrg.a (.inr rfl)
      have ho:(B.op i).code=11:=by rw [hXX]
      have hin:=hK.nest.inner (show 0≤i by omega) (by omega) (.inr (.inl ho))
      obtain ⟨k1,k2,k3,k4⟩:=hK.nest.at (show 0≤i by omega) (by omega) (.inr (.inl ho))
      obtain ⟨k5,k6,k7,k8,k9,k10⟩:=hK.nest.end_ hcl hc ho
      have hinE:(B.op (gt mt i)).code=12→Cl B mt (gt mt i+1) (gt mt (gt mt i)):=fun e=>hK.nest.inner (by omega) k2 (.inr (.inr e))
      have hAx:(B.op i).a=a:=by rw [hXX]
      have gm:mt.getD i.toNat 0=gt mt i:=rfl
      have gm2:mt.getD (gt mt i).toNat 0=gt mt (gt mt i):=rfl
      have ga:s.regs.getD a.toNat 0=gt s.regs a:=rfl
      have hopM:B.ops.getD (gt mt i).toNat nilI=B.op (gt mt i):=rfl
      have hE0:endS B mt i=gt mt (gt mt i):=k8
      have hE:endS ⟨B.regs,B.arena,B.ops,B.ins,B.outs,B.types⟩ mt i=gt mt (gt mt i):=k8
      have rY:=fun {s2 s':St} hp hj hk=>runs_yes (B:=B) (mt:=mt) (seen:=S) (i:=i) (to:=to) (s:=s) (s':=s2) (s'':=s') ⟨hc,hst⟩ ho hp hj hk
      have rN:=fun {s2 s':St} hp he hj hk=>runs_no (B:=B) (mt:=mt) (seen:=S) (i:=i) (to:=to) (s:=s) (s':=s2) (s'':=s') ⟨hc,hst⟩ ho hp he hj hk
      have rO:=fun {s':St} hp he hk=>runs_none (B:=B) (mt:=mt) (seen:=S) (i:=i) (to:=to) (s:=s) (s'':=s') ⟨hc,hst⟩ ho hp he hk
      rw [hT,hAx,hE0] at rY rN rO
      generalize hEE:gt mt (gt mt i)=E at*
      generalize hMM:gt mt i=M at*
      generalize hY:B.op M=Y at*
      obtain ⟨yc,yp,ya,yb,yy,yd⟩:=Y
      generalize hu:gt s.regs a=u at*
      cases gp:decide (u≥0) with
      |true=>
       have gp':=of_decide_eq_true gp
       repeat' (first
        |(with_reducible first|refine nx ?_|refine t_seq fun K=>?_|refine t_br (fun hc=>?_) fun hc=>?_|refine t_bx ?_|apply And.intro|intro vr)|exact kp_mobs|exact kp_none|exact kpd
        |((with_reducible first|refine ny ?_|refine t_kLF ?_ ?_|refine t_drawE (id:=5) (fun _=>false) [(0,1),(1,2),(2,1),(3,2),(4,1),(5,1),(6,1),(7,0),(8,1),(9,1),(10,0)] (by kernel_rfl) fun K=>?_|refine t_drawE (id:=19) (fun _=>false) [(0,2),(1,1),(2,1),(3,1),(4,1),(5,1),(6,1),(7,1),(8,2),(9,0),(10,0)] (by kernel_rfl) fun K=>?_|refine t_drawE (id:=26) (fun _=>false) [(0,2),(1,1),(2,1),(3,1),(4,1),(5,1),(6,1),(7,1),(8,2),(9,0),(10,0)] (by kernel_rfl) fun K=>?_|refine t_dwh (h:=fun K KL=>?_));intros;simp only [go_sem,kp20,geff,g3,gst,g4,hbf,ho',hopd,gm,hMM,ga,gp,yes]))
       all_goals try exact nd
       refine ecnX_i {s with left:=s.left - 1,out:= !o2} rfl rfl (by omega) hin hgT.le fun s2 hr2 hg2=>?_
       repeat' (first
        |(with_reducible first|refine nx ?_|refine t_seq fun K=>?_|refine t_br (fun hc=>?_) fun hc=>?_|refine t_bx ?_|apply And.intro|intro vr)|exact kp_mobs|exact kp_none|exact kpd
        |((with_reducible first|refine ny ?_|refine t_kLF ?_ ?_|refine t_drawE (id:=5) (fun _=>false) [(0,1),(1,2),(2,1),(3,2),(4,1),(5,1),(6,1),(7,0),(8,1),(9,1),(10,0)] (by kernel_rfl) fun K=>?_|refine t_drawE (id:=19) (fun _=>false) [(0,2),(1,1),(2,1),(3,1),(4,1),(5,1),(6,1),(7,1),(8,2),(9,0),(10,0)] (by kernel_rfl) fun K=>?_|refine t_drawE (id:=26) (fun _=>false) [(0,2),(1,1),(2,1),(3,1),(4,1),(5,1),(6,1),(7,1),(8,2),(9,0),(10,0)] (by kernel_rfl) fun K=>?_|refine t_dwh (h:=fun K KL=>?_));intros;simp only [go_sem,kp20,geff,gm,hMM,hE,yes]))
       all_goals try exact nd
       refine ⟨⟨E+1,s2,by omega,.inl (by omega),hg2,fun s' h=>hv _ (rY gp' hr2 h)⟩,by simp only;omega,?_⟩
       try simp only [updL_nil,updL_cons,delF_top,delF_upd,Nat.reduceEqDiff,reduceIte]
       refine le_ob3 (u:= .box 73 [.lit (.int .i64 11),.lit (.string p),.lit (.int .i64 a),.lit (.int .i64 b),.lit (.int .i64 c),.lit (.int .i64 d)]) ?_ (fx_bds hbd) ?_ ?_
       ·rw [mob_len];omega
       ·repeat' (first|exact low_top|(refine low_upd rfl ?_)|(refine lg_w ?_ (by omega)))
       repeat' (first|exact leF_top _|exact (fun _=>LeR.refl _)|(with_reducible refine leF_sl ?_ ?_)|(refine leF_upd ?_ ?_))
       all_goals (first|exact LeR.top _|exact LeR.refl _|(refine LeR.of_eq ?_;(try simp only [go_sem]);try rfl)|((try simp only [go_sem]);try rfl))
      |false=>
       have gp':=of_decide_eq_false gp
       by_cases y12:yc=12
       ·subst y12
        have hinE:=hinE rfl
        repeat' (first
         |(with_reducible first|refine nx ?_|refine t_seq fun K=>?_|refine t_br (fun hc=>?_) fun hc=>?_|refine t_bx ?_|apply And.intro|intro vr)|exact kp_mobs|exact kp_none|exact kpd
         |((with_reducible first|refine ny ?_|refine t_kLF ?_ ?_|refine t_drawE (id:=5) (fun _=>false) [(0,1),(1,2),(2,1),(3,2),(4,1),(5,1),(6,1),(7,0),(8,1),(9,1),(10,0)] (by kernel_rfl) fun K=>?_|refine t_drawE (id:=19) (fun _=>false) [(0,2),(1,1),(2,1),(3,1),(4,1),(5,1),(6,1),(7,1),(8,2),(9,0),(10,0)] (by kernel_rfl) fun K=>?_|refine t_drawE (id:=26) (fun _=>false) [(0,2),(1,1),(2,1),(3,1),(4,1),(5,1),(6,1),(7,1),(8,2),(9,0),(10,0)] (by kernel_rfl) fun K=>?_|refine t_dwh (h:=fun K KL=>?_));intros;simp only [go_sem,kp20,geff,g3,gst,g4,hbf,ho',hopd,gm,gm2,hMM,hEE,ga,gp,hopM,yes]))
        all_goals try exact nd
        refine ecnX_i {s with left:=s.left - 1,out:= !o2} rfl rfl (by omega) hinE hgT.le fun s2 hr2 hg2=>?_
        repeat' (first
         |(with_reducible first|refine nx ?_|refine t_seq fun K=>?_|refine t_br (fun hc=>?_) fun hc=>?_|refine t_bx ?_|apply And.intro|intro vr)|exact kp_mobs|exact kp_none|exact kpd
         |((with_reducible first|refine ny ?_|refine t_kLF ?_ ?_|refine t_drawE (id:=5) (fun _=>false) [(0,1),(1,2),(2,1),(3,2),(4,1),(5,1),(6,1),(7,0),(8,1),(9,1),(10,0)] (by kernel_rfl) fun K=>?_|refine t_drawE (id:=19) (fun _=>false) [(0,2),(1,1),(2,1),(3,1),(4,1),(5,1),(6,1),(7,1),(8,2),(9,0),(10,0)] (by kernel_rfl) fun K=>?_|refine t_drawE (id:=26) (fun _=>false) [(0,2),(1,1),(2,1),(3,1),(4,1),(5,1),(6,1),(7,1),(8,2),(9,0),(10,0)] (by kernel_rfl) fun K=>?_|refine t_dwh (h:=fun K KL=>?_));intros;simp only [go_sem,kp20,geff,gm,hMM,hE,yes]))
        all_goals try exact nd
        refine ⟨⟨E+1,s2,by omega,.inl (by omega),hg2,fun s' h=>hv _ (rN gp' rfl hr2 h)⟩,by simp only;omega,?_⟩
        try simp only [updL_nil,updL_cons,delF_top,delF_upd,Nat.reduceEqDiff,reduceIte]
        refine le_ob3 (u:= .box 73 [.lit (.int .i64 11),.lit (.string p),.lit (.int .i64 a),.lit (.int .i64 b),.lit (.int .i64 c),.lit (.int .i64 d)]) ?_ (fx_bds hbd) ?_ ?_
        ·rw [mob_len];omega
        ·repeat' (first|exact low_top|(refine low_upd rfl ?_)|(refine lg_w ?_ (by omega)))
        repeat' (first|exact leF_top _|exact (fun _=>LeR.refl _)|(with_reducible refine leF_sl ?_ ?_)|(refine leF_upd ?_ ?_))
        all_goals (first|exact LeR.top _|exact LeR.refl _|(refine LeR.of_eq ?_;(try simp only [go_sem]);try rfl)|((try simp only [go_sem]);try rfl))
       ·have e12:(yc==12)=false:=by simpa using y12
        repeat' (first
         |(with_reducible first|refine nx ?_|refine t_seq fun K=>?_|refine t_br (fun hc=>?_) fun hc=>?_|refine t_bx ?_|apply And.intro|intro vr)|exact kp_mobs|exact kp_none|exact kpd
         |((with_reducible first|refine ny ?_|refine t_kLF ?_ ?_|refine t_drawE (id:=5) (fun _=>false) [(0,1),(1,2),(2,1),(3,2),(4,1),(5,1),(6,1),(7,0),(8,1),(9,1),(10,0)] (by kernel_rfl) fun K=>?_|refine t_drawE (id:=19) (fun _=>false) [(0,2),(1,1),(2,1),(3,1),(4,1),(5,1),(6,1),(7,1),(8,2),(9,0),(10,0)] (by kernel_rfl) fun K=>?_|refine t_drawE (id:=26) (fun _=>false) [(0,2),(1,1),(2,1),(3,1),(4,1),(5,1),(6,1),(7,1),(8,2),(9,0),(10,0)] (by kernel_rfl) fun K=>?_|refine t_dwh (h:=fun K KL=>?_));intros;simp only [go_sem,kp20,geff,g3,gst,g4,hbf,ho',hopd,gm,gm2,hMM,hEE,ga,gp,hopM,e12,hE,yes]))
        all_goals try exact nd
        refine ⟨⟨E+1,{s with left:=s.left - 1,out:= !o2},by omega,.inl (by omega),hgT.le,fun s' h=>hv _ (rO gp' y12 h)⟩,by simp only;omega,?_⟩
        try simp only [updL_nil,updL_cons,delF_top,delF_upd,Nat.reduceEqDiff,reduceIte]
        refine le_ob3 (u:= .box 73 [.lit (.int .i64 11),.lit (.string p),.lit (.int .i64 a),.lit (.int .i64 b),.lit (.int .i64 c),.lit (.int .i64 d)]) ?_ (fx_bds hbd) ?_ ?_
        ·rw [mob_len];omega
        ·repeat' (first|exact low_top|(refine low_upd rfl ?_)|(refine lg_w ?_ (by omega)))
        repeat' (first|exact leF_top _|exact (fun _=>LeR.refl _)|(with_reducible refine leF_sl ?_ ?_)|(refine leF_upd ?_ ?_))
        all_goals (first|exact LeR.top _|exact LeR.refl _|(refine LeR.of_eq ?_;(try simp only [go_sem]);try rfl)|((try simp only [go_sem]);try rfl))
     have e10:(q==10)=false:=by simpa using q10
     have e11:(q==11)=false:=by simpa using q11
     have hg2:=hgT.simple hrg
     generalize hs2:simpleS ⟨q,p,a,b,c,d⟩ {s with left:=s.left - 1,out:= !o2}=s2 at hg2
     cases hf:s2.failed with
     |true=>
      repeat' (first
       |(with_reducible first|refine nx ?_|refine t_seq fun K=>?_|refine t_br (fun hc=>?_) fun hc=>?_|refine t_bx ?_|apply And.intro|intro vr)|exact kp_mobs|exact kp_none|exact kpd
       |((with_reducible first|refine ny ?_|refine t_kLF ?_ ?_|refine t_drawE (id:=5) (fun _=>false) [(0,1),(1,2),(2,1),(3,2),(4,1),(5,1),(6,1),(7,0),(8,1),(9,1),(10,0)] (by kernel_rfl) fun K=>?_|refine t_drawE (id:=19) (fun _=>false) [(0,2),(1,1),(2,1),(3,1),(4,1),(5,1),(6,1),(7,1),(8,2),(9,0),(10,0)] (by kernel_rfl) fun K=>?_|refine t_drawE (id:=26) (fun _=>false) [(0,2),(1,1),(2,1),(3,1),(4,1),(5,1),(6,1),(7,1),(8,2),(9,0),(10,0)] (by kernel_rfl) fun K=>?_|refine t_dwh (h:=fun K KL=>?_));intros;simp only [go_sem,kp20,geff,g3,gst,g4,hbf,ho',hopd,e10,e11,yes]))
      all_goals try exact nd
      refine ecnS_i ⟨q,p,a,b,c,d⟩ {s with left:=s.left - 1,out:= !o2} (cb - 1) s2 hs2 rfl rfl hrg hgT (by omega) hn hm hrd ?_
      repeat' (first
       |(with_reducible first|refine nx ?_|refine t_seq fun K=>?_|refine t_br (fun hc=>?_) fun hc=>?_|refine t_bx ?_|apply And.intro|intro vr)|exact kp_mobs|exact kp_none|exact kpd
       |((with_reducible first|refine ny ?_|refine t_kLF ?_ ?_|refine t_drawE (id:=5) (fun _=>false) [(0,1),(1,2),(2,1),(3,2),(4,1),(5,1),(6,1),(7,0),(8,1),(9,1),(10,0)] (by kernel_rfl) fun K=>?_|refine t_drawE (id:=19) (fun _=>false) [(0,2),(1,1),(2,1),(3,1),(4,1),(5,1),(6,1),(7,1),(8,2),(9,0),(10,0)] (by kernel_rfl) fun K=>?_|refine t_drawE (id:=26) (fun _=>false) [(0,2),(1,1),(2,1),(3,1),(4,1),(5,1),(6,1),(7,1),(8,2),(9,0),(10,0)] (by kernel_rfl) fun K=>?_|refine t_dwh (h:=fun K KL=>?_));intros;simp only [go_sem,kp20,geff,hf,yes]))
      all_goals try exact nd
      refine ⟨⟨i+1,{s2 with at_:=i},by omega,.inl (by omega),⟨hg2.1,hg2.2,hg2.3,hg2.4,hg2.5,hg2.6,hg2.7⟩,fun s' h=>hv _ (runs_simple ⟨hc,hst⟩ (by rw [hXX];exact q10) (by rw [hXX];exact q11) (by rw [hXX,hT,hs2,hf];exact h))⟩,by simp only;omega,?_⟩
      try simp only [hf]
      try simp only [updL_nil,updL_cons,delF_top,delF_upd,Nat.reduceEqDiff,reduceIte]
      refine le_ob3 (u:= .box 73 [.lit (.int .i64 q),.lit (.string p),.lit (.int .i64 a),.lit (.int .i64 b),.lit (.int .i64 c),.lit (.int .i64 d)]) ?_ (fx_bds hbd) ?_ ?_
      ·rw [mob_len];omega
      ·repeat' (first|exact low_top|(refine low_upd rfl ?_)|(refine lg_w ?_ (by omega)))
      repeat' (first|exact leF_top _|exact (fun _=>LeR.refl _)|(with_reducible refine leF_sl ?_ ?_)|(refine leF_upd ?_ ?_))
      all_goals (first|exact LeR.top _|exact LeR.refl _|(refine LeR.of_eq ?_;(try simp only [go_sem]);try rfl)|((try simp only [go_sem]);try rfl))
     |false=>
      repeat' (first
       |(with_reducible first|refine nx ?_|refine t_seq fun K=>?_|refine t_br (fun hc=>?_) fun hc=>?_|refine t_bx ?_|apply And.intro|intro vr)|exact kp_mobs|exact kp_none|exact kpd
       |((with_reducible first|refine ny ?_|refine t_kLF ?_ ?_|refine t_drawE (id:=5) (fun _=>false) [(0,1),(1,2),(2,1),(3,2),(4,1),(5,1),(6,1),(7,0),(8,1),(9,1),(10,0)] (by kernel_rfl) fun K=>?_|refine t_drawE (id:=19) (fun _=>false) [(0,2),(1,1),(2,1),(3,1),(4,1),(5,1),(6,1),(7,1),(8,2),(9,0),(10,0)] (by kernel_rfl) fun K=>?_|refine t_drawE (id:=26) (fun _=>false) [(0,2),(1,1),(2,1),(3,1),(4,1),(5,1),(6,1),(7,1),(8,2),(9,0),(10,0)] (by kernel_rfl) fun K=>?_|refine t_dwh (h:=fun K KL=>?_));intros;simp only [go_sem,kp20,geff,g3,gst,g4,hbf,ho',hopd,e10,e11,yes]))
      all_goals try exact nd
      refine ecnS_i ⟨q,p,a,b,c,d⟩ {s with left:=s.left - 1,out:= !o2} (cb - 1) s2 hs2 rfl rfl hrg hgT (by omega) hn hm hrd ?_
      repeat' (first
       |(with_reducible first|refine nx ?_|refine t_seq fun K=>?_|refine t_br (fun hc=>?_) fun hc=>?_|refine t_bx ?_|apply And.intro|intro vr)|exact kp_mobs|exact kp_none|exact kpd
       |((with_reducible first|refine ny ?_|refine t_kLF ?_ ?_|refine t_drawE (id:=5) (fun _=>false) [(0,1),(1,2),(2,1),(3,2),(4,1),(5,1),(6,1),(7,0),(8,1),(9,1),(10,0)] (by kernel_rfl) fun K=>?_|refine t_drawE (id:=19) (fun _=>false) [(0,2),(1,1),(2,1),(3,1),(4,1),(5,1),(6,1),(7,1),(8,2),(9,0),(10,0)] (by kernel_rfl) fun K=>?_|refine t_drawE (id:=26) (fun _=>false) [(0,2),(1,1),(2,1),(3,1),(4,1),(5,1),(6,1),(7,1),(8,2),(9,0),(10,0)] (by kernel_rfl) fun K=>?_|refine t_dwh (h:=fun K KL=>?_));intros;simp only [go_sem,kp20,geff,hf,yes]))
      all_goals try exact nd
      refine ⟨⟨i+1,s2,by omega,.inl (by omega),hg2,fun s' h=>hv _ (runs_simple ⟨hc,hst⟩ (by rw [hXX];exact q10) (by rw [hXX];exact q11) (by rw [hXX,hT,hs2,hf];exact h))⟩,by simp only;omega,?_⟩
      try simp only [hf]
      try simp only [updL_nil,updL_cons,delF_top,delF_upd,Nat.reduceEqDiff,reduceIte]
      refine le_ob3 (u:= .box 73 [.lit (.int .i64 q),.lit (.string p),.lit (.int .i64 a),.lit (.int .i64 b),.lit (.int .i64 c),.lit (.int .i64 d)]) ?_ (fx_bds hbd) ?_ ?_
      ·rw [mob_len];omega
      ·repeat' (first|exact low_top|(refine low_upd rfl ?_)|(refine lg_w ?_ (by omega)))
      repeat' (first|exact leF_top _|exact (fun _=>LeR.refl _)|(with_reducible refine leF_sl ?_ ?_)|(refine leF_upd ?_ ?_))
      all_goals (first|exact LeR.top _|exact LeR.refl _|(refine LeR.of_eq ?_;(try simp only [go_sem]);try rfl)|((try simp only [go_sem]);try rfl))
   ·have gst:(decide (s.left≤0)||s.failed||s.out)=false:=hst
    have g3:decide (i<to)=false:=decide_eq_false (by omega)
    have hend:=h5 _ (hv _ (runs_end (fun q=>by omega))) hg
    repeat' (first
     |(with_reducible first|refine nx ?_|refine t_seq fun K=>?_|refine t_br (fun hc=>?_) fun hc=>?_|refine t_bx ?_|apply And.intro|intro vr)|exact kp_mobs|exact kp_none|exact kpd
     |((with_reducible first|refine ny ?_|refine t_kLF ?_ ?_|refine t_drawE (id:=5) (fun _=>false) [(0,1),(1,2),(2,1),(3,2),(4,1),(5,1),(6,1),(7,0),(8,1),(9,1),(10,0)] (by kernel_rfl) fun K=>?_|refine t_drawE (id:=19) (fun _=>false) [(0,2),(1,1),(2,1),(3,1),(4,1),(5,1),(6,1),(7,1),(8,2),(9,0),(10,0)] (by kernel_rfl) fun K=>?_|refine t_drawE (id:=26) (fun _=>false) [(0,2),(1,1),(2,1),(3,1),(4,1),(5,1),(6,1),(7,1),(8,2),(9,0),(10,0)] (by kernel_rfl) fun K=>?_|refine t_dwh (h:=fun K KL=>?_));intros;simp only [go_sem,kp20,geff,g3,gst,yes]))
    all_goals try exact nd
    all_goals (refine nl ?_;simp only [go_sem,finK])
    refine ⟨_,?_,?_,mob_bds hbd,hend⟩
    ·exact LeR.refl _
    ·exact stV_bd (by omega)
end Go.Proofs.Ytnlimcijgpaegaa.Mx

namespace Go.Proofs.Ytnlimcijgpaegaa.Mx
open Go.Proofs.Ytnlimcijgpaegaa
open Go Go.Fw Bm
set_option maxRecDepth 20000
noncomputable def X6:Env:=envJ (P:=Try.prog) jkR zer (fun _=>false) (fun _=>false) [con47] []
theorem X6_ok:EnvOk Try.prog X6:=envJOk zer_ok
set_option maxHeartbeats 8000000 in
theorem exec_base {B:Prg} {mt:List Int} {S:List (List Rng)} {n m:Nat} {cb:Int} (hcb:cb≤1000000):BlkX B mt S n m cb 0:=by
  intro i0 to s0 pre ex k h1 h2 h3 h5
  refine ec_finK fun hbd=>?_
  rw [mob_len] at hbd
  have h20:=h2.1
  have hend:=h5 _ (runs_end (fun q=>by have:=q.1;omega)) h3
  have g3:decide (i0<to)=false:=decide_eq_false (by omega)
  simp only [stV,bcV]
  refine ecR X6_ok (kp20) Try.func20 [.cell 10 56] (h:=fun KF=>?_)
  unfold X6
  repeat' (first
   |(with_reducible first|refine nx ?_|refine t_seq fun K=>?_|refine t_br (fun hc=>?_) fun hc=>?_|refine t_bx ?_|apply And.intro|intro vr)
   |((with_reducible first|refine ny ?_|refine t_dwh (h:=fun K KL=>?_));intros;simp only [go_sem,kp20,geff]))
  all_goals try exact nd
  refine t_loopF (ι:=Unit) (fun _=>[(11,.lit (.int .i64 i0))]) (fun _=>mob pre s0.regs s0.arena (ex++[.box 45 [.lit (.int .i64 B.regs),.lit (.int .i64 B.arena),.sl false 6 (opsV B.ops),.sl false 2 (plsV B.ins),.sl false 2 (plsV B.outs),.sl false 3 (arrs B.types)],.box 56 [.arr pre.length 0,.arr (pre.length+1) 0,.lit (.int .i64 s0.reads),.lit (.int .i64 s0.writes),.lit (.int .i64 s0.ops),.lit (.int .i64 s0.peak),.sl false 1 (ints .i64 s0.viol),.lit (.int .i64 s0.left),.lit (.bool s0.failed),.sl false 1 (bfsV S),.lit (.bool s0.out),.lit (.int .i64 s0.at_)],.box 56 [.sl true 1 [],.sl true 1 [],.lit (.int .i64 0),.lit (.int .i64 0),.lit (.int .i64 0),.lit (.int .i64 0),.sl true 1 [],.lit (.int .i64 0),.lit (.bool false),.sl true 1 [],.lit (.bool false),.lit (.int .i64 0)]])) (fun _=>0) () ?_ ?_
  ·exact lf
  rintro ⟨⟩ K0
  repeat' (first
   |(with_reducible first|refine nx ?_|refine t_seq fun K=>?_|refine t_br (fun hc=>?_) fun hc=>?_|refine t_bx ?_|apply And.intro|intro vr)
   |((with_reducible first|refine ny ?_|refine t_dwh (h:=fun K KL=>?_));intros;simp only [go_sem,kp20,geff,g3,yes]))
  all_goals try exact nd
  all_goals (refine nl ?_;simp only [go_sem,finK])
  refine ⟨_,?_,?_,mob_bds hbd,hend⟩
  ·exact LeR.refl _
  ·exact stV_bd (by omega)
theorem exec_all {B:Prg} {mt:List Int} {S:List (List Rng)} {n m:Nat} {cb:Int} (hK:Wk B mt n) (hS:Sn B S) (hcb:cb≤1000000) (hm:m≤1048576):∀ N,BlkX B mt S n m cb N
  |0=>exec_base hcb
  |N+1=>exec_step hK hS hcb hm (exec_all hK hS hcb hm N)
end Go.Proofs.Ytnlimcijgpaegaa.Mx

namespace Go.Fw
open Go
variable {P:Program}
structure CallU (P:Program) (f:FuncId) (args:List AV) (σ:List AObj) (k:AV→List AObj→Prop):Prop where
  fk:fok P f=true
  ec:EC P f args σ k
def envU (P:Program) (jk:TypeId→AV) (zer:TypeId→AV) (wr eg:Nat→Bool) (ps:List (PCon P)):Env:=⟨zer,wr,eg,jk,pcL ps,fun f args σ k=>CallU P f args σ k,fun _ _=>False⟩
theorem envUOk {jk:TypeId→AV} {zer:TypeId→AV} {wr eg:Nat→Bool} {ps:List (PCon P)} (hz:∀ t v,zeroT P t=some v→RC (fun _ _=>none) (zer t) v):EnvOk P (envU P jk zer wr eg ps) where
  zero:=hz
  pc:=(envJOk (jk:=jk) (wr:=wr) (eg:=eg) (ps:=ps) (es:=[]) hz).pc
  ec:=fun f args σ k h=>⟨h.fk,h.ec.xec⟩
section
variable {jk zer:TypeId→AV} {wr eg:Nat→Bool} {ps:List (PCon P)}
theorem envu_zero {t:TypeId}:(envU P jk zer wr eg ps).zero t=zer t:=rfl
theorem envu_wr {t:Nat}:(envU P jk zer wr eg ps).wr t=wr t:=rfl
theorem envu_eg {t:Nat}:(envU P jk zer wr eg ps).eg t=eg t:=rfl
theorem envu_jk {t:TypeId}:(envU P jk zer wr eg ps).jk t=jk t:=rfl
theorem envu_pc {f:FuncId} {args:List AV}:(envU P jk zer wr eg ps).pc f args=pcL ps f args:=rfl
theorem envu_ec {f:FuncId} {args:List AV} {σ:List AObj} {k:AV→List AObj→Prop}:(envU P jk zer wr eg ps).ec f args σ k=CallU P f args σ k:=rfl
end
attribute [go_sem] envu_zero envu_wr envu_eg envu_jk envu_pc envu_ec
end Go.Fw

namespace Go.Fw
open Go
variable {P:Program} {E:Env} {keep:Nat→List Nat} {n0:Nat}
def picksD (dep:List (Nat×Nat)) (g:List (Nat×Oper)):List ((Nat×Oper)×List (Nat×Oper)):=(picks g).filter fun p=>dep.all fun e=> !(e.2==p.1.1&&g.any fun q=>q.1==e.1)
theorem picksD_mem {dep:List (Nat×Nat)} {g:List (Nat×Oper)} {p:(Nat×Oper)×List (Nat×Oper)} (h:p∈picksD dep g):p∈picks g:=(List.mem_filter.1 h).1
def perm4D (P:Program) (E:Env) (D:Nat→Bool) (ds:List (Option Tmp)) (dep:List (Nat×Nat)):Nat→List (Nat×Oper)→(AS→Prop)→AS→Prop
  |0,_,K,s=>K s
  |n+1,g,K,s=>∀ p∈picksD dep g,astep P E ds p.1.2 s fun x σ'=>Kp D s.σ σ'∧perm4D P E D ds dep n p.2 K ⟨putF s.f p.1.2.dst x,σ'⟩
def permBD (md:Region.Mode) (ops:Array Oper) (ord2:List (Nat×Nat)) (dep:List (Nat×Nat)):Nat→List (Nat×Oper)→Array Bool→Bool
  |0,_,listed=>ordB md ops ord2 listed
  |n+1,g,listed=>((Region.ready md ops listed).all fun j=>(picksD dep g).any fun p=>p.1.1==j)&& !(Region.ready md ops listed).isEmpty&&(picksD dep g).all fun p=>permBD md ops ord2 dep n p.2 (listed.setIfInBounds p.1.1 true)
theorem sAny_permD {D:Nat→Bool} {md:Region.Mode} {ops:Array Oper} {Q:AS→Prop} {dep:List (Nat×Nat)} {ord2:List (Nat×Nat)} {l2:List (Oper×Nat)} (hl2:pickO ops ord2=some l2):∀ (n:Nat) (g:List (Nat×Oper)) (listed:Array Bool) (s:AS),
    (∀ p∈g,ops[p.1]? =some p.2)→permBD md ops ord2 dep n g listed=true→perm4D P E D (dsOf ops) dep n g (fun s=>lops P E D (dsOf ops) l2 s Q) s→sAny P E D md ops Q (ord2.length+n) listed s
  |0,g,listed,s,_,hB,h=>sAny_ord ord2 l2 listed s hB hl2 h
  |n+1,g,listed,s,hg,hB,h=>by
   simp only [permBD,Bool.and_eq_true,Bool.not_eq_true',List.all_eq_true,List.any_eq_true,beq_iff_eq] at hB
   obtain ⟨⟨hr,hne⟩,hB⟩:=hB
   show (Region.ready md ops listed=[]→Q s)∧∀ i∈Region.ready md ops listed,sOp P E D ops i (sAny P E D md ops Q (ord2.length+n) (listed.setIfInBounds i true)) s
   refine ⟨fun e=>(by rw [e] at hne;cases hne),fun i hi=>?_⟩
   obtain ⟨⟨⟨j,o⟩,r⟩,hp,rfl⟩:=hr i hi
   have hpick:=picksD_mem hp
   have ho:=hg _ (picks_mem hpick).1
   unfold sOp
   simp only at ho ⊢
   rw [ho]
   refine ⟨_,h _ hp,fun x σ' hk=>⟨hk.1,sAny_permD hl2 n r _ _ (fun q hq=>hg q ((picks_mem hpick).2 q hq)) (hB _ hp) hk.2⟩⟩
def gBD (ops:Array Oper) (ord1:List (Nat×Nat)) (g:List Nat) (dep:List (Nat×Nat)) (ord2:List (Nat×Nat)):Bool:=match pickG ops g with
  |some gl=>(ord2.length+g.length+ord1.length==ops.size)&&ordA .any ops ord1 (fun listed=>permBD .any ops ord2 dep g.length gl listed) (Array.replicate ops.size false)
  |none=>false
def lopsPD (P:Program) (E:Env) (D:Nat→Bool) (ds:List (Option Tmp)) (dep:List (Nat×Nat)) (l1:Option (List (Oper×Nat))) (n:Nat) (g:Option (List (Nat×Oper))) (l2:Option (List (Oper×Nat))) (s:AS) (K:AS→Prop):Prop:=match l1,g,l2 with
  |some l1,some g,some l2=>lops P E D ds l1 s fun s=>perm4D P E D ds dep n g (fun s=>lops P E D ds l2 s K) s
  |_,_,_=>False
theorem lpD_some {D:Nat→Bool} {ds:List (Option Tmp)} {dep:List (Nat×Nat)} {l1 l2:List (Oper×Nat)} {n:Nat} {g:List (Nat×Oper)} {s:AS} {K:AS→Prop}:
    lopsPD P E D ds dep (some l1) n (some g) (some l2) s K=lops P E D ds l1 s fun s=>perm4D P E D ds dep n g (fun s=>lops P E D ds l2 s K) s:=rfl
theorem t_drawPD {id:Nat} {ops:List Oper} {Q:Exit→AS→Prop} {s:AS} (S:AS) (D:Nat→Bool) (ord1:List (Nat×Nat)) (g:List Nat) (dep:List (Nat×Nat)) (ord2:List (Nat×Nat)) (hB:gBD ops.toArray ord1 g dep ord2=true) (hS:Q .normal S)
    (h:∀ K:KT (fun s'=>Le n0 s' S),lopsPD P E D (dsOf ops.toArray) dep (pickO ops.toArray ord1) g.length (pickG ops.toArray g) (pickO ops.toArray ord2) s (keepK K.k (keep id))):awp P E keep n0 (.region id ops.toArray true) Q s:=by
  have:=h ⟨fun s'=>∃ s'',Le n0 s' s''∧Q .normal s'',fun s' h=>⟨S,h,hS⟩⟩
  unfold keepK lopsPD at this
  unfold gBD at hB
  split at this
  ·rename_i l1 gl l2 h1 hg h2
   rw [hg] at hB
   simp only [Bool.and_eq_true,beq_iff_eq] at hB
   have hx:=sAny_ordA (D:=D) (E:=E) (P:=P) (md:= .any) (n:=ord2.length+g.length) (R:=fun s=>perm4D P E D (dsOf ops.toArray) dep g.length gl (fun s=>lops P E D (dsOf ops.toArray) l2 s _) s)
     (fun listed s hk hR=>sAny_permD h2 g.length gl listed s (pickG_spec hg) hk hR) ord1 l1 _ s hB.2 h1 this
   rw [hB.1] at hx
   exact .inr ⟨D,hx⟩
  ·exact this.elim
def kPD (P:Program) (E:Env) (D:Nat→Bool) (ds:List (Option Tmp)) (dep:List (Nat×Nat)) (n:Nat) (g:List (Nat×Oper)) (K:AS→Prop) (d:Option Tmp) (f:Nat→AV) (σ:List AObj):AV→List AObj→Prop:=fun x σ'=>Kp D σ σ'∧perm4D P E D ds dep n g K ⟨putF f d x,σ'⟩
theorem t_kPD {D:Nat→Bool} {ds:List (Option Tmp)} {dep:List (Nat×Nat)} {n:Nat} {g:List (Nat×Oper)} {K:AS→Prop} {d:Option Tmp} {f:Nat→AV} {x:AV} {σ σ':List AObj} (h:perm4D P E D ds dep n g K ⟨putF f d x,σ'⟩) (hk:Kp D σ σ'):kPD P E D ds dep n g K d f σ x σ':=⟨hk,h⟩
def all4D (P:Program) (E:Env) (D:Nat→Bool) (ds:List (Option Tmp)) (dep:List (Nat×Nat)) (n:Nat) (f:Nat→AV) (σ:List AObj) (K:AS→Prop):List ((Nat×Oper)×List (Nat×Oper))→Prop
  |[]=>True
  |((_,⟨d,op,ty,pos,af,none⟩),r)::l=>avop P E (aev f) σ ⟨d,op,ty,pos,af,none⟩ (kPD P E D ds dep n r K d f σ)∧all4D P E D ds dep n f σ K l
  |_=>False
theorem p4D_all {D:Nat→Bool} {ds:List (Option Tmp)} {dep:List (Nat×Nat)} {n:Nat} {f:Nat→AV} {σ:List AObj} {K:AS→Prop}:∀ {l:List ((Nat×Oper)×List (Nat×Oper))},all4D P E D ds dep n f σ K l→∀ p∈l,astep P E ds p.1.2 ⟨f,σ⟩ fun x σ'=>Kp D σ σ'∧perm4D P E D ds dep n p.2 K ⟨putF f p.1.2.dst x,σ'⟩
  |[],_,p,hp=>by cases hp
  |((i,⟨d,op,ty,pos,af,none⟩),r)::l,h,p,hp=>by
   simp only [all4D] at h
   rcases List.mem_cons.1 hp with rfl|hp
   ·exact h.1
   ·exact p4D_all h.2 p hp
  |((i,⟨d,op,ty,pos,af,some g⟩),r)::l,h,p,hp=>by exact h.elim
section
variable {D:Nat→Bool} {ds:List (Option Tmp)} {dep:List (Nat×Nat)} {K:AS→Prop} {f:Nat→AV} {σ σ':List AObj} {n:Nat} {x:AV} {d:Option Tmp}
theorem a4D_nil:all4D P E D ds dep n f σ K []=True:=rfl
theorem a4D_cons {i:Nat} {op:Op} {ty:TypeId} {pos:String} {af:Array Edge} {r:List (Nat×Oper)} {l:List ((Nat×Oper)×List (Nat×Oper))}:
    all4D P E D ds dep n f σ K (((i,⟨d,op,ty,pos,af,none⟩),r)::l)=(avop P E (aev f) σ ⟨d,op,ty,pos,af,none⟩ (kPD P E D ds dep n r K d f σ)∧all4D P E D ds dep n f σ K l):=rfl
instance {s:AS} {g:List (Nat×Oper)}:Ny (perm4D P E D ds dep 0 g K s) (K s):=⟨fun h=>h⟩
instance {g:List (Nat×Oper)}:Ny (perm4D P E D ds dep (n+1) g K ⟨f,σ⟩) (all4D P E D ds dep n f σ K (picksD dep g)):=⟨p4D_all⟩
end
attribute [go_sem] a4D_nil a4D_cons lpD_some
end Go.Fw

namespace Go.Fw
open Go
theorem le_frzB {n0:Nat} {f:Nat→AV} {σ:List AObj} (o b off:Nat) {e sz ver:Nat} {xs:List AV} {t:TypeId} {cs:List AV} (ho:σ[o]? =some (.arr e sz xs ver false)) (hb:σ[b]? =some (.box t cs)) (hoff:off<cs.length) (hc:cs.getD off .top= .arr o ver):
    Le n0 ⟨f,σ⟩ ⟨f,(σ.set o (.arr e sz xs ver true)).set b (.box t (cs.set off (.sl false sz xs)))⟩:=by
  intro cx G w N a _ hr hf
  obtain ⟨G',h1,h2⟩:=Rel.freezeO hr o
  have e1:Fw.freezeO σ o=σ.set o (.arr e sz xs ver true):=by unfold Fw.freezeO;rw [ho]
  rw [e1] at h2
  have hne:o≠b:=fun q=>by subst q;rw [ho] at hb;cases hb
  have hb':(σ.set o (.arr e sz xs ver true))[b]? =some (.box t cs):=by rw [List.getElem?_set_ne hne];exact hb
  refine ⟨G',h2.rebox hb' (by simp) (fun i v hi hv=>?_),hf.size,hf.defers,fun j=>(hf.rel j).mono h1⟩
  by_cases q:off=i
  ·subst q
   rw [hc] at hv
   have hcl:Fw.arrOf false (σ.set o (.arr e sz xs ver true)) o ver=some (.sl false sz xs):=by unfold Fw.arrOf;rw [get_set ho];simp
   have:=arrOf_sound (live:=false) h2 hv hcl
   rw [getD_elem _ _ (by simpa using hoff),List.getElem_set_self]
   exact .clo _ _ (by simpa using this)
  ·rw [getD_elem _ _ (by simpa using hi),List.getElem_set_ne q,←getD_elem _ .top hi]
   exact hv
end Go.Fw

namespace Go.Fw
open Go
theorem flat_len1:∀ {xs:List AV},(∀ x∈xs,x.cells.length=1)→(flat xs).length=xs.length
  |[],_=>rfl
  |x::xs,h=>by
   have h1:=h x (by simp)
   have h2:=flat_len1 (xs:=xs) fun y hy=>h y (by simp [hy])
   simp only [flat,List.flatMap_cons,List.length_append,List.length_cons] at h2 ⊢
   rw [h1,h2];omega
theorem Rel.arrBox {cx:Cx} {G:Gh} {σ:List AObj} {w:World} (hr:Rel cx G σ w) {o e ver:Nat} {xs:List AV} (ho:σ[o]? =some (.arr e 1 xs ver false)) (hne:xs≠[]):
    ∃ G',G.le G'∧Rel cx G' (σ.set o (.box e (flat xs))) w∧∀ v,R G (.arr o ver) v→R G' (.bsl o xs.length) v:=by
  have hlt:=(List.getElem?_eq_some_iff.1 ho).1
  have hok:=hr.ok o _ ho
  have hver:G.ver o=ver:=hok.1
  have h3:=hok.2.2
  simp only [Bool.false_eq_true,if_false] at h3
  rcases h3 with ⟨rfl,_⟩|⟨g,cap,cur,ha⟩
  ·exact absurd rfl hne
  ·have hb:=ha.v
   have hle:G.le (G.next o (.pointer (some ⟨g,0,none⟩))):=Gh.le_next ⟨_,_,_,hb⟩
   have hbn:(G.next o (.pointer (some ⟨g,0,none⟩))).b o= .pointer (some ⟨g,0,none⟩):=by simp [Gh.next,updN_same]
   have hoG:o<G.n:=by rw [hr.n];exact hlt
   have hfl:=flat_len1 ha.wid
   have hcl:=ha.le
   have hsz:=ha.size
   have hp:=ha.pos
   refine ⟨_,hle,hr.turn o _ (.box e (flat xs)) ho rfl hle rfl rfl (fun i hi=>⟨by simp [Gh.next,updN,hi],by simp [Gh.next,updN,hi]⟩)
     ⟨g,cur,hbn,ha.blk,by rw [hfl,hsz];omega,fun i hi=>⟨.clo _ _ (ha.rel i hi),ha.one i hi⟩,ha.unc⟩ (fun g' hg=> .inl ?_) rfl rfl rfl (Nat.le_refl _) (fun _ _ _=>rfl),fun v hv=>?_⟩
   ·rw [hbn] at hg
    rw [hb]
    simp only [ownB,Option.some.injEq] at hg ⊢
    rw [if_neg (by omega),hg]
   ·have:=hv.arr_inv.2.2 hver.symm
    subst this
    rw [hb]
    exact .bsl _ _ g cap hoG hbn ha.le ha.max
theorem le_arrB {n0:Nat} {f:Nat→AV} {σ:List AObj} (i:Nat) {o e ver:Nat} {xs:List AV} (h:f i= .arr o ver) (ho:σ[o]? =some (.arr e 1 xs ver false)) (hne:xs≠[]):
    Le n0 ⟨f,σ⟩ ⟨upd f i (.bsl o xs.length),σ.set o (.box e (flat xs))⟩:=by
  intro cx G w N a _ hr hf
  obtain ⟨G',h1,h2,h3⟩:=hr.arrBox ho hne
  have hi':R G (.arr o ver) (a.tmps.getD i undef):=by rw [←h];exact hf.rel i
  refine ⟨G',h2,hf.size,hf.defers,fun j=>?_⟩
  simp only [upd]
  split
  ·rename_i q;subst q;exact h3 _ hi'
  ·exact (hf.rel j).mono h1
def oneC:AV→Bool
  |.lit v=>v.oneCell'
  |.sl _ _ _=>true
  |_=>false
theorem oneC_cells {x:AV} (h:oneC x=true):x.cells=[x]:=by
  cases x with
  |agg=>cases h
  |_=>rfl
theorem oneC_rc {G:Gh} {x:AV} {v:Value} (h:oneC x=true) (hx:R G x v):RC G.C x v:=by
  cases x with
  |lit u=>rw [hx.lit_inv];exact .lit u
  |sl b z xs=>exact hx.sl_inv
  |_=>cases h
theorem flat_one:∀ {xs:List AV},(∀ x∈xs,oneC x=true)→flat xs=xs
  |[],_=>rfl
  |x::xs,h=>by
   have h1:=oneC_cells (h x (by simp))
   have h2:=flat_one (xs:=xs) fun y hy=>h y (by simp [hy])
   simp only [flat,List.flatMap_cons] at h2 ⊢
   rw [h1,h2];rfl
theorem Rel.boxSl {cx:Cx} {G:Gh} {σ:List AObj} {w:World} (hr:Rel cx G σ w) {o e:Nat} {cs:List AV} (ho:σ[o]? =some (.box e cs)) (hc:∀ x∈cs,oneC x=true):
    ∃ G',G.le G'∧Rel cx G' (σ.set o .gone) w∧∀ v,R G (.bsl o cs.length) v→R G' (.sl false 1 cs) v:=by
  have hlt:=(List.getElem?_eq_some_iff.1 ho).1
  obtain ⟨g,cur,h1,h2,h3,h4,h5⟩:=hr.ok o _ ho
  have hr1:Rel cx G (σ.set o .gone) w:=hr.turn o _ .gone ho rfl (Gh.le.refl G) rfl rfl (fun _ _=>⟨rfl,rfl⟩) trivial (fun _ h=> .inl h) rfl rfl rfl (Nat.le_refl _) (fun _ _ _=>rfl)
  have hC:CLe G.C (addC G.C g cur):=fun k j u hu=>by
    unfold addC
    split
    ·rename_i hk;subst hk;rw [h5] at hu;cases hu
    ·exact hu
  have hag:∀ k,k≠g→addC G.C g cur k=G.C k:=fun k hk=>by funext j;unfold addC;rw [if_neg hk]
  obtain ⟨hle,hr2⟩:=hr1.commit (addC G.C g cur) hC (fun k j u hu=>by
      unfold addC at hu
      split at hu
      ·rename_i hk;subst hk;rw [h2.cell];exact hu
      ·exact hr.cell k j u hu) (fun i x g' hi hl hg j=>by
      have hne:i≠o:=fun q=>by
        subst q
        rw [List.getElem?_set_self hlt] at hi
        cases hi;cases hl
      have hi':σ[i]? =some x:=by rwa [List.getElem?_set_ne (Ne.symm hne)] at hi
      have hgg:g'≠g:=fun q=>by
        subst q
        exact hne (hr.inj i o x _ g' hi' hl ho rfl hg (by rw [h1];rfl))
      rw [hag g' hgg]
      exact ((hr.ok i x hi').lt hl hg).2 j) (fun k hk hM j=>by
      have hne:k≠g:=fun q=>by
        subst q
        rcases hr.own o _ k ho rfl (by rw [h1];rfl) with q|q
        ·omega
        ·exact hM q
      rw [hag k hne])
  refine ⟨_,hle,hr2,fun v hv=> .clo _ _ ?_⟩
  obtain ⟨_,g',cap,q1,q2,q3,rfl⟩:=hv.bsl_inv
  rw [h1] at q1
  have hg:g'=g:=by simpa using q1.symm
  subst hg
  have hfl:=flat_one hc
  refine .sl false 1 cs g' 0 cap (fun j=>cur.getD j undef) q2 q3 (by simp) (fun x hx=>by rw [oneC_cells (hc x hx)];rfl) (fun j hj=>?_) (fun j hj=>?_) (fun j hj=>?_)
  ·rw [hfl] at hj
   show addC G.C g' cur g' (0+j)=_
   simp only [addC,if_true,Nat.zero_add]
   rw [Array.getD_eq_getD_getElem?,Array.getElem?_eq_getElem (by omega)];rfl
  ·rw [hfl] at hj
   exact (h4 j hj).2
  ·rw [hfl] at hj ⊢
   have:oneC (cs.getD j .top)=true:=hc _ (getD_mem' hj)
   exact (oneC_rc this (h4 j hj).1).mono hC
theorem le_boxS {n0:Nat} {f:Nat→AV} {σ:List AObj} (i:Nat) {o e:Nat} {cs:List AV} (h:f i= .bsl o cs.length) (ho:σ[o]? =some (.box e cs)) (hc:∀ x∈cs,oneC x=true):
    Le n0 ⟨f,σ⟩ ⟨upd f i (.sl false 1 cs),σ.set o .gone⟩:=by
  intro cx G w N a _ hr hf
  obtain ⟨G',h1,h2,h3⟩:=hr.boxSl ho hc
  have hi':R G (.bsl o cs.length) (a.tmps.getD i undef):=by rw [←h];exact hf.rel i
  refine ⟨G',h2,hf.size,hf.defers,fun j=>?_⟩
  simp only [upd]
  split
  ·rename_i q;subst q;exact h3 _ hi'
  ·exact (hf.rel j).mono h1
end Go.Fw

namespace Go.Fw
open Go
variable {P:Program} {σ:List AObj}
theorem ec_finN (m:Nat) {f:FuncId} {args:List AV} {k:AV→List AObj→Prop} (h:BdS σ.length σ→EC P f args σ fun x σ'=>σ.length+m≤σ'.length∧finK (σ.length+m) x σ' k):EC P f args σ k:=by
  intro cx G w vs hr hl
  refine (h hr.bds cx G w vs hr hl).mono ?_
  rintro e w' ⟨v,G',σ',x,rfl,hle,hr',hx,hlen,r,hLe,hbx,hbd,hk⟩
  have h0:cx.G0.n≤σ.length:=by rw [←hr.n];exact hr.le0.n
  have hn:σ.length+m≤G'.n:=by rw [hr'.n];exact hlen
  exact ⟨v,{G' with n:=σ.length+m},_,r,rfl,⟨hle.C,by rw [hr.n];exact Nat.le_add_right _ _,hle.ver,hle.b,hle.p⟩,hr'.trunc hlen (by omega) hbd,hbx G' v hn (hLe _ _ hx),hk⟩
end Go.Fw

namespace Go.Fw
open Go
variable {P:Program} {n0:Nat}
def pm (n:Nat) (R:List Nat) (o:Nat):Nat:=if o<n then o else n+R.getD (o - n) (o - n)
def permOk (R Q:List Nat) (n:Nat):Bool:=decide (R.length=n)&&decide (Q.length=n)&&(List.range n).all fun k=>decide (R.getD k k<n)&&decide (Q.getD (R.getD k k) (R.getD k k)=k)&&decide (Q.getD k k<n)&&decide (R.getD (Q.getD k k) (Q.getD k k)=k)
theorem le_perm {τ l:List AObj} {f:Nat→AV} {S:AS} (R Q:List Nat) (hn:n0≤τ.length) (hτ:BdS τ.length τ) (hq:permOk R Q l.length=true) (hl:l.all flatO=true) (hf:∀ j,flat1 (f j)=true)
    (hs:Le n0 ⟨renF (pm τ.length R) f,τ++Q.map fun i=>renO (pm τ.length R) (l.getD i .gone)⟩ S):Le n0 ⟨f,τ++l⟩ S:=by
  simp only [permOk,Bool.and_eq_true,decide_eq_true_eq,List.all_eq_true,List.mem_range] at hq
  obtain ⟨⟨q1,q2⟩,q3⟩:=hq
  have hp:∀ (R:List Nat) (k:Nat),pm τ.length R (τ.length+k)=τ.length+R.getD k k:=fun R k=>by unfold pm;rw [if_neg (by omega),Nat.add_sub_cancel_left]
  refine Le.trans (le_ren (l:=l) (l':=Q.map fun i=>renO (pm τ.length R) (l.getD i .gone)) (pm τ.length R) (pm τ.length Q) hn hτ (by rw [List.length_map,q2]) ?_ ?_ ?_ ?_ fun j=>⟨hf j,rfl⟩) hs
  ·intro o ho;unfold pm;rw [if_pos ho,if_pos ho];exact ⟨rfl,rfl⟩
  ·intro k hk
   obtain ⟨⟨⟨a,b⟩,c⟩,d⟩:=q3 k hk
   rw [hp,hp,b];exact ⟨by omega,by omega,rfl⟩
  ·intro k hk
   obtain ⟨⟨⟨a,b⟩,c⟩,d⟩:=q3 k hk
   rw [hp,hp,d];exact ⟨by omega,by omega,rfl⟩
  ·intro k hk
   obtain ⟨⟨⟨a,b⟩,c⟩,d⟩:=q3 k hk
   refine ⟨?_,?_⟩
   ·have e:l.getD k .gone=l[k]:=by simp [List.getD,hk]
    rw [e];exact List.all_eq_true.1 hl _ (List.getElem_mem hk)
   ·rw [hp,Nat.add_sub_cancel_left]
    have h2:R.getD k k<Q.length:=by omega
    have e:Q[R.getD k k]? =some k:=by
      rw [List.getElem?_eq_getElem h2]
      generalize R.getD k k=j at h2 b
      have:Q.getD j j=Q[j]:=by simp [List.getD,h2]
      simp only [←this,b]
    rw [List.getElem?_map,e];rfl
end Go.Fw

namespace Go.Proofs.Ytnlimcijgpaegaa.Mx
open Go.Proofs.Ytnlimcijgpaegaa
open Go Go.Fw Bm
set_option maxRecDepth 20000
noncomputable def X7:Env:=envJ (P:=Try.prog) jkR zer (fun _=>false) (fun _=>false) [El.con44] []
theorem X7_ok:EnvOk Try.prog X7:=envJOk zer_ok
attribute [go_sem] El.con44_f El.con44_c
theorem leR_agg {xs ys:List AV} (hl:ys.length=xs.length) (h:∀ i,i<xs.length→LeR (xs.getD i .top) (ys.getD i .top)):LeR (.agg xs) (.agg ys):=fun G v hv=>by
  obtain ⟨vs,rfl,h1,h2,h3⟩:=hv.agg_inv
  exact .agg ys vs (by omega) (fun i hi=>h2 i (by omega)) (fun i hi=>h i (by omega) G _ (h3 i (by omega)))
theorem le_st {L:Int} {R A:List Int}:LeR (.agg [.arr 1 0,.arr 2 0,.lit (.int .i64 0),.lit (.int .i64 0),.lit (.int .i64 0),.lit (.int .i64 0),.sl true 1 [],.lit (.int .i64 L),.lit (.bool false),.sl true 1 [],.lit (.bool false),.lit (.int .i64 0)]) (stV 1 ⟨R,A,0,0,0,0,[],L,false,0,false⟩ []):=by
  refine leR_agg rfl fun i hi=>?_
  simp only [List.length_cons,List.length_nil] at hi
  have:i=0∨i=1∨i=2∨i=3∨i=4∨i=5∨i=6∨i=7∨i=8∨i=9∨i=10∨i=11:=by omega
  rcases this with rfl|rfl|rfl|rfl|rfl|rfl|rfl|rfl|rfl|rfl|rfl|rfl
  all_goals first|exact LeR.refl _|exact LeR.full _ _ _
theorem bds_x {x:AObj} {e1 e2 z1 z2:Nat} {l1 l2:List AV} (h:BdS 1 [x]):BdS 3 [x,.arr e1 z1 l1 0 false,.arr e2 z2 l2 0 false]:=BdS.app (σ:=[x]) (l:=[.arr e1 z1 l1 0 false,.arr e2 z2 l2 0 false]) h (by omega) rfl
theorem rep_ints {n:Nat}:List.replicate n (.lit (.int .i64 0))=ints .i64 (List.replicate n 0):=by simp [ints]
set_option maxHeartbeats 4000000 in
theorem start_ec {a b c d:List AV} {rg ar0:Int} {fill:List Int} {L:Int} {x:AObj} {k:AV→List AObj→Prop} (h0:0≤rg∧rg≤200) (h1:0≤ar0∧ar0≤1048576) (hl:fill.length≤1000000) (hx:flatO x=true)
    (hk:∀ ar:List Int,(ar.length:Int)=ar0→(∀ n∈ar,vld sInt n=true)→(fill=[]→ar=List.replicate ar0.toNat 0)→k (stV 1 ⟨List.replicate rg.toNat 0,ar,0,0,0,0,[],L,false,0,false⟩ []) [x,.arr 3 1 (ints .i64 (List.replicate rg.toNat 0)) 0 false,.arr 3 1 (ints .i64 ar) 0 false]):
    EC Try.prog 17 [.agg [.lit (.int .i64 rg),.lit (.int .i64 ar0),.sl false 6 a,.sl false 2 b,.sl false 2 c,.sl false 3 d],.sl false 1 (ints .i64 fill),.lit (.int .i64 L)] [x] k:=by
  refine ec_finN 2 fun hbd=>?_
  refine ecR X7_ok (kp17) Try.func17 [.cell 6 56] (h:=fun KF=>?_)
  unfold X7
  repeat' (first
   |(with_reducible first|refine nx ?_|refine t_seq fun K=>?_|refine t_br (fun hc=>?_) fun hc=>?_|refine t_bx ?_|apply And.intro|intro vr)|exact kpd
   |((with_reducible first|refine ny ?_|refine t_kLF ?_ ?_|refine t_drawE (id:=5) (fun i=>i==5) [(0,1),(1,1),(2,1),(3,1),(4,1),(5,1),(6,1),(7,1),(8,1),(9,1),(10,0),(11,0),(12,0)] (by kernel_rfl) fun K=>?_);intros;simp only [go_sem,kp17,geff,List.cons_append,List.nil_append,yes]))
  all_goals try exact nd
  refine t_drawPD ⟨upd (upd (upd topF 7 (.ref 5 0)) 6 (.ref 4 0)) 1 (.sl false 1 (ints .i64 fill)),
    [x,.arr 3 1 (ints .i64 (List.replicate rg.toNat 0)) 0 false,.arr 3 1 (ints .i64 (List.replicate ar0.toNat 0)) 0 false,.box 45 [.lit (.int .i64 rg),.lit (.int .i64 ar0),.sl false 6 a,.sl false 2 b,.sl false 2 c,.sl false 3 d],.box 56 [.sl true 1 [],.sl true 1 [],.lit (.int .i64 0),.lit (.int .i64 0),.lit (.int .i64 0),.lit (.int .i64 0),.sl true 1 [],.lit (.int .i64 0),.lit (.bool false),.sl true 1 [],.lit (.bool false),.lit (.int .i64 0)],.box 56 [.arr 1 0,.arr 2 0,.lit (.int .i64 0),.lit (.int .i64 0),.lit (.int .i64 0),.lit (.int .i64 0),.sl true 1 [],.lit (.int .i64 L),.lit (.bool false),.sl true 1 [],.lit (.bool false),.lit (.int .i64 0)]]⟩
    (fun i=>i==1) [(0,1),(1,1),(3,1),(4,1),(6,1)] [2,5,8,7] [(2,7),(5,7)] [(9,0)] (by kernel_rfl) ?_ ?_
  rotate_left
  ·skip
   intro K
   simp only [pickO,pickG,List.getElem?_toArray,List.getElem?_cons_zero,List.getElem?_cons_succ,List.length_cons,List.length_nil,Nat.reduceAdd,lp_some]
   simp only [go_sem,pickO,pickG,geff,kp17,picksD,List.filter_cons,List.filter_nil,List.all_cons,List.all_nil,List.any_cons,List.any_nil,Nat.reduceBEq,List.map_cons,List.map_nil,List.cons_append,List.nil_append,Nat.zero_add,beq_self_eq_true,rep_ints]
   repeat' (first
    |(with_reducible first|refine nx ?_|refine t_seq fun K=>?_|refine t_br (fun hc=>?_) fun hc=>?_|refine t_bx ?_|apply And.intro|intro vr)|exact kpd
    |((with_reducible first|refine ny ?_|refine t_kLF ?_ ?_|refine t_kPE ?_ ?_|refine t_kPD ?_ ?_|refine t_drawE (id:=5) (fun i=>i==5) [(0,1),(1,1),(2,1),(3,1),(4,1),(5,1),(6,1),(7,1),(8,1),(9,1),(10,0),(11,0),(12,0)] (by kernel_rfl) fun K=>?_);intros;simp only [go_sem,kp17,geff,picksD,List.filter_cons,List.filter_nil,List.all_cons,List.all_nil,List.any_cons,List.any_nil,Nat.reduceBEq,List.map_cons,List.map_nil,List.cons_append,List.nil_append,Nat.zero_add,beq_self_eq_true,rep_ints]))
   all_goals try omega
   all_goals try exact nd
   all_goals first
     |(refine le_perm (τ:=[x]) (l:=[_,_,_,_,_]) [2,3,0,1,4] [2,3,0,1,4] (Nat.le_refl _) hbd rfl rfl ?_ ?_
       ·repeat' (first|exact flatF_top|(refine flatF_upd rfl ?_))
       simp only [renF_upd,renF_top,ren1,renA,renO,pm,List.map_cons,List.map_nil,List.length_cons,List.length_nil,Nat.reduceAdd,Nat.reduceSub,Nat.reduceLT,Nat.reduceEqDiff,reduceIte,List.cons_append,List.nil_append,List.getD_cons_succ,List.getD_cons_zero]
       exact lg)
     |(refine le_perm (τ:=[x]) (l:=[_,_,_,_,_]) [2,3,0,4,1] [2,4,0,1,3] (Nat.le_refl _) hbd rfl rfl ?_ ?_
       ·repeat' (first|exact flatF_top|(refine flatF_upd rfl ?_))
       simp only [renF_upd,renF_top,ren1,renA,renO,pm,List.map_cons,List.map_nil,List.length_cons,List.length_nil,Nat.reduceAdd,Nat.reduceSub,Nat.reduceLT,Nat.reduceEqDiff,reduceIte,List.cons_append,List.nil_append,List.getD_cons_succ,List.getD_cons_zero]
       exact lg)
     |(refine le_perm (τ:=[x]) (l:=[_,_,_,_,_]) [2,3,1,0,4] [3,2,0,1,4] (Nat.le_refl _) hbd rfl rfl ?_ ?_
       ·repeat' (first|exact flatF_top|(refine flatF_upd rfl ?_))
       simp only [renF_upd,renF_top,ren1,renA,renO,pm,List.map_cons,List.map_nil,List.length_cons,List.length_nil,Nat.reduceAdd,Nat.reduceSub,Nat.reduceLT,Nat.reduceEqDiff,reduceIte,List.cons_append,List.nil_append,List.getD_cons_succ,List.getD_cons_zero]
       exact lg)
     |(refine le_perm (τ:=[x]) (l:=[_,_,_,_,_]) [2,3,1,4,0] [4,2,0,1,3] (Nat.le_refl _) hbd rfl rfl ?_ ?_
       ·repeat' (first|exact flatF_top|(refine flatF_upd rfl ?_))
       simp only [renF_upd,renF_top,ren1,renA,renO,pm,List.map_cons,List.map_nil,List.length_cons,List.length_nil,Nat.reduceAdd,Nat.reduceSub,Nat.reduceLT,Nat.reduceEqDiff,reduceIte,List.cons_append,List.nil_append,List.getD_cons_succ,List.getD_cons_zero]
       exact lg)
     |(refine le_perm (τ:=[x]) (l:=[_,_,_,_,_]) [2,3,4,0,1] [3,4,0,1,2] (Nat.le_refl _) hbd rfl rfl ?_ ?_
       ·repeat' (first|exact flatF_top|(refine flatF_upd rfl ?_))
       simp only [renF_upd,renF_top,ren1,renA,renO,pm,List.map_cons,List.map_nil,List.length_cons,List.length_nil,Nat.reduceAdd,Nat.reduceSub,Nat.reduceLT,Nat.reduceEqDiff,reduceIte,List.cons_append,List.nil_append,List.getD_cons_succ,List.getD_cons_zero]
       exact lg)
     |(refine le_perm (τ:=[x]) (l:=[_,_,_,_,_]) [2,3,4,1,0] [4,3,0,1,2] (Nat.le_refl _) hbd rfl rfl ?_ ?_
       ·repeat' (first|exact flatF_top|(refine flatF_upd rfl ?_))
       simp only [renF_upd,renF_top,ren1,renA,renO,pm,List.map_cons,List.map_nil,List.length_cons,List.length_nil,Nat.reduceAdd,Nat.reduceSub,Nat.reduceLT,Nat.reduceEqDiff,reduceIte,List.cons_append,List.nil_append,List.getD_cons_succ,List.getD_cons_zero]
       exact lg)
  have hzr:∀ n∈List.replicate ar0.toNat (0:Int),vld sInt n=true:=fun n hn=>by rw [List.eq_of_mem_replicate hn];rfl
  repeat' (first
   |(with_reducible first|refine nx ?_|refine t_seq fun K=>?_|refine t_br (fun hc=>?_) fun hc=>?_|refine t_bx ?_|apply And.intro|intro vr)|exact kpd
   |((with_reducible first|refine ny ?_|refine t_kLF ?_ ?_|refine t_drawE (id:=5) (fun i=>i==5) [(0,1),(1,1),(2,1),(3,1),(4,1),(5,1),(6,1),(7,1),(8,1),(9,1),(10,0),(11,0),(12,0)] (by kernel_rfl) fun K=>?_|refine t_dwh (h:=fun K KL=>?_));intros;simp only [go_sem,kp17,geff]))
  all_goals try exact nd
  refine t_loopF (ι:={p:Nat×List Int // p.1≤p.2.length∧p.2.length=ar0.toNat∧(∀ n∈p.2,vld sInt n=true)∧(fill=[]→p.2=List.replicate ar0.toNat 0)}) (fun q=>[(8,.lit (.int .i64 q.1.1))]) (fun q=>[x,.arr 3 1 (ints .i64 (List.replicate rg.toNat 0)) 0 false,.arr 3 1 (ints .i64 q.1.2) 0 false,.box 45 [.lit (.int .i64 rg),.lit (.int .i64 ar0),.sl false 6 a,.sl false 2 b,.sl false 2 c,.sl false 3 d],.box 56 [.sl true 1 [],.sl true 1 [],.lit (.int .i64 0),.lit (.int .i64 0),.lit (.int .i64 0),.lit (.int .i64 0),.sl true 1 [],.lit (.int .i64 0),.lit (.bool false),.sl true 1 [],.lit (.bool false),.lit (.int .i64 0)],.box 56 [.arr 1 0,.arr 2 0,.lit (.int .i64 0),.lit (.int .i64 0),.lit (.int .i64 0),.lit (.int .i64 0),.sl true 1 [],.lit (.int .i64 L),.lit (.bool false),.sl true 1 [],.lit (.bool false),.lit (.int .i64 0)]]) (fun q=>ar0.toNat - q.1.1) ⟨(0,List.replicate ar0.toNat 0),Nat.zero_le _,by simp,hzr,fun _=>rfl⟩ ?_ ?_
  ·exact lf
  rintro ⟨⟨i,ar⟩,hi,hla,hw,hf⟩ K0
  simp only at hi hla hw hf
  have hend:=hk ar (by omega) hw hf
  have hil:(ints .i64 ar).length=ar.length:=ints_length _ _
  by_cases hcc:i<ar.length∧0<fill.length
  ·obtain ⟨hc,hc2⟩:=hcc
   have g3:decide ((i:Int)<(ar.length:Int))=true:=decide_eq_true (by omega)
   have g4:decide ((0:Int)<(fill.length:Int))=true:=decide_eq_true (by omega)
   have t0:=Int.tmod_nonneg (a:=(i:Int)) (fill.length:Int) (Int.natCast_nonneg i)
   have t1:=Int.tmod_lt_of_pos (i:Int) (show (0:Int)<fill.length by omega)
   have hst:∀ v:Int,(ints .i64 ar).set i (.lit (.int .i64 v))=ints .i64 (ar.set i v):=fun v=>by simp [ints,List.map_set]
   have hj:((i:Int).tmod (fill.length:Int)).toNat<fill.length:=by omega
   have hg:∀ z,(ints .i64 fill).getD ((i:Int).tmod (fill.length:Int)).toNat z= .lit (.int .i64 (fill.getD ((i:Int).tmod (fill.length:Int)).toNat 0)):=fun z=>by simp [ints,List.getD,hj]
   generalize hV:fill.getD ((i:Int).tmod (fill.length:Int)).toNat 0=V at hg
   have hvV:vld sInt (El.w32 V)=true:=by
     have:=w32_in V
     have e2:vld sInt (El.w32 V)=decide (-2147483648≤El.w32 V∧El.w32 V≤2147483647):=rfl
     rw [e2];exact decide_eq_true this
   repeat' (first
    |(with_reducible first|refine nx ?_|refine t_seq fun K=>?_|refine t_br (fun hc=>?_) fun hc=>?_|refine t_bx ?_|apply And.intro|intro vr)|exact kpd
    |((with_reducible first|refine ny ?_|refine t_kLF ?_ ?_|refine t_drawE (id:=5) (fun i=>i==5) [(0,1),(1,1),(2,1),(3,1),(4,1),(5,1),(6,1),(7,1),(8,1),(9,1),(10,0),(11,0),(12,0)] (by kernel_rfl) fun K=>?_|refine t_dwh (h:=fun K KL=>?_));intros;simp only [go_sem,kp17,geff,g3,g4,hil,hst,hg,Int.toNat_natCast]))
   all_goals try omega
   all_goals try exact nd
   refine ⟨⟨(i+1,ar.set i (El.w32 V)),by simp only [List.length_set];omega,by simp only [List.length_set];exact hla,fun n hn=>?_,fun q=>by subst q;simp at hc2⟩,by simp only;omega,?_⟩
   ·rcases List.mem_or_eq_of_mem_set hn with hn|rfl
    ·exact hw n hn
    ·exact hvV
   ·exact lf
  ·by_cases hc:i<ar.length
   ·have g3:decide ((i:Int)<(ar.length:Int))=true:=decide_eq_true (by omega)
    have g4:decide ((0:Int)<(fill.length:Int))=false:=decide_eq_false (by omega)
    repeat' (first
     |(with_reducible first|refine nx ?_|refine t_seq fun K=>?_|refine t_br (fun hc=>?_) fun hc=>?_|refine t_bx ?_|apply And.intro|intro vr)|exact kpd
     |((with_reducible first|refine ny ?_|refine t_kLF ?_ ?_|refine t_drawE (id:=5) (fun i=>i==5) [(0,1),(1,1),(2,1),(3,1),(4,1),(5,1),(6,1),(7,1),(8,1),(9,1),(10,0),(11,0),(12,0)] (by kernel_rfl) fun K=>?_|refine t_dwh (h:=fun K KL=>?_));intros;simp only [go_sem,kp17,geff,g3,g4,hil]))
    all_goals try exact nd
    all_goals (refine nl ?_;simp only [go_sem,finK])
    exact ⟨_,le_st,stV_bd (by omega),bds_x hbd,hend⟩
   ·have g3:decide ((i:Int)<(ar.length:Int))=false:=decide_eq_false (by omega)
    repeat' (first
     |(with_reducible first|refine nx ?_|refine t_seq fun K=>?_|refine t_br (fun hc=>?_) fun hc=>?_|refine t_bx ?_|apply And.intro|intro vr)|exact kpd
     |((with_reducible first|refine ny ?_|refine t_kLF ?_ ?_|refine t_drawE (id:=5) (fun i=>i==5) [(0,1),(1,1),(2,1),(3,1),(4,1),(5,1),(6,1),(7,1),(8,1),(9,1),(10,0),(11,0),(12,0)] (by kernel_rfl) fun K=>?_|refine t_dwh (h:=fun K KL=>?_));intros;simp only [go_sem,kp17,geff,g3,hil]))
    all_goals try exact nd
    all_goals (refine nl ?_;simp only [go_sem,finK])
    exact ⟨_,le_st,stV_bd (by omega),bds_x hbd,hend⟩
end Go.Proofs.Ytnlimcijgpaegaa.Mx

namespace Go.Proofs.Ytnlimcijgpaegaa.Mx
open Go.Proofs.Ytnlimcijgpaegaa
open Go Go.Fw Bm
set_option maxRecDepth 20000
noncomputable def T0:Env:=envJ (P:=Try.prog) jkR zer (fun _=>false) (fun _=>false) [] []
theorem T0_ok:EnvOk Try.prog T0:=envJOk zer_ok
def nilV:AV:= .sl true 2 []
def nilsV (t:List (List Rng)):List AV:=List.replicate t.length nilV
theorem nils_cons {r:List Rng} {t:List (List Rng)}:nilsV (r::t)=nilV::nilsV t:=rfl
theorem nilsV_length {t:List (List Rng)}:(nilsV t).length=t.length:=by simp [nilsV]
def tA (L:List (List Rng)):List (List Rng)→AV
  |[]=> .sl false 1 (bfsV L)
  |_::_=> .bsl 0 L.length
def oA (d:List (List Rng)):List (List Rng)→List AObj
  |[]=>[.gone]
  |r::t=>[.box 22 (bfsV d++nilsV (r::t))]
theorem nils_one {t:List (List Rng)}:∀ x∈nilsV t,oneC x=true:=fun x hx=>by rw [List.eq_of_mem_replicate hx];rfl
theorem bfs_one {t:List (List Rng)}:∀ x∈bfsV t,oneC x=true:=fun x hx=>by
  obtain ⟨r,_,rfl⟩:=List.mem_map.1 hx;rfl
theorem bfsV_app (a b:List (List Rng)):bfsV (a++b)=bfsV a++bfsV b:=by simp [bfsV]
theorem mid_get {d:List (List Rng)} {x:AV} {l:List AV}:(bfsV d++x::l).getD d.length .top=x:=by simp [bfsV,List.getD]
theorem mid_set {d:List (List Rng)} {x y:AV} {l:List AV}:(bfsV d++x::l).set d.length y=bfsV d++y::l:=by
  rw [List.set_append_right _ _ (by simp [bfsV])];simp [bfsV]
set_option maxHeartbeats 8000000 in
theorem theirs_pc {L:List (List Rng)} (hl:L.length≤1000000) (hr:∀ r∈L,r.length≤1000000):PC Try.prog 18 [.sl false 1 (bfsV L)] (.sl false 1 (bfsV L)):=by
  cases L with
  |nil=>
   refine pcR T0_ok (kp18) Try.func18 [.tmp 2] (h:=fun KF=>?_)
   unfold T0
   repeat' (first
    |(with_reducible first|refine nx ?_|refine t_seq fun K=>?_|refine t_br (fun hc=>?_) fun hc=>?_|refine t_bx ?_|apply And.intro|intro vr)|exact kpd
    |((with_reducible first|refine ny ?_|refine t_kLF ?_ ?_|refine t_drawE (id:=8) (fun i=>i==2) [(0,1),(1,1),(2,1),(3,1),(6,1),(7,1),(4,1),(5,2),(8,0),(9,1),(10,0)] (by kernel_rfl) fun K=>?_|refine t_dwh (h:=fun K KL=>?_));intros;simp only [go_sem,kp18,geff]))
   all_goals try exact nd
   refine t_loopF (ι:=Unit) (fun _=>[(12,.lit (.int .i64 0))]) (fun _=>[.arr 22 1 [] 0 false]) (fun _=>0) () ?_ ?_
   ·exact lf
   rintro ⟨⟩ K0
   repeat' (first
    |(with_reducible first|refine nx ?_|refine t_seq fun K=>?_|refine t_br (fun hc=>?_) fun hc=>?_|refine t_bx ?_|apply And.intro|intro vr)|exact kpd
    |((with_reducible first|refine ny ?_|refine t_kLF ?_ ?_|refine t_drawE (id:=8) (fun i=>i==2) [(0,1),(1,1),(2,1),(3,1),(6,1),(7,1),(4,1),(5,2),(8,0),(9,1),(10,0)] (by kernel_rfl) fun K=>?_|refine t_dwh (h:=fun K KL=>?_));intros;simp only [go_sem,kp18,geff]))
   all_goals try exact nd
   all_goals (refine nl ?_;simp only [go_sem])
   exact LeA.refl _
  |cons r0 L0=>
   have hz:(r0::L0).length=L0.length+1:=rfl
   refine pcR T0_ok (kp18) Try.func18 [.tmp 2] (h:=fun KF=>?_)
   unfold T0
   repeat' (first
    |(with_reducible first|refine nx ?_|refine t_seq fun K=>?_|refine t_br (fun hc=>?_) fun hc=>?_|refine t_bx ?_|apply And.intro|intro vr)|exact kpd
    |((with_reducible first|refine ny ?_|refine t_kLF ?_ ?_|refine t_drawE (id:=8) (fun i=>i==2) [(0,1),(1,1),(2,1),(3,1),(6,1),(7,1),(4,1),(5,2),(8,0),(9,1),(10,0)] (by kernel_rfl) fun K=>?_|refine t_dwh (h:=fun K KL=>?_));intros;simp only [go_sem,kp18,geff]))
   all_goals try omega
   all_goals try exact nd
   refine t_loopF (ι:={p:List (List Rng)×List (List Rng) // p.1++p.2=r0::L0}) (fun q=>[(12,.lit (.int .i64 (q.1.1.length:Nat))),(3,tA (r0::L0) q.1.2)]) (fun q=>oA q.1.1 q.1.2) (fun q=>q.1.2.length) ⟨([],r0::L0),rfl⟩ ?_ ?_
   ·refine Le.trans (le_arrB 3 (o:=0) (e:=22) (ver:=0) (xs:=nilsV (r0::L0)) ?_ ?_ ?_) ?_
    ·simp only [go_sem];try rfl
    ·rfl
    ·exact fun q=>by cases q
    rw [flat_one nils_one,nilsV_length]
    exact lf
   rintro ⟨⟨d,t⟩,hdt⟩ K0
   simp only at hdt
   cases t with
   |nil=>
    rw [List.append_nil] at hdt
    subst hdt
    have g3:decide (((r0::L0).length:Int)<((r0::L0).length:Int))=false:=decide_eq_false (by omega)
    have g3':decide (((L0.length+1:Nat):Int)<((L0.length+1:Nat):Int))=false:=decide_eq_false (by omega)
    simp only [oA,tA]
    repeat' (first
     |(with_reducible first|refine nx ?_|refine t_seq fun K=>?_|refine t_br (fun hc=>?_) fun hc=>?_|refine t_bx ?_|apply And.intro|intro vr)|exact kpd
     |((with_reducible first|refine ny ?_|refine t_kLF ?_ ?_|refine t_drawE (id:=8) (fun i=>i==2) [(0,1),(1,1),(2,1),(3,1),(6,1),(7,1),(4,1),(5,2),(8,0),(9,1),(10,0)] (by kernel_rfl) fun K=>?_|refine t_dwh (h:=fun K KL=>?_));intros;simp only [go_sem,kp18,geff,g3,g3']))
    all_goals try exact nd
    all_goals (refine nl ?_;simp only [go_sem])
    exact LeA.refl _
   |cons r t=>
    have hln:d.length+(t.length+1)=L0.length+1:=by have:=congrArg List.length hdt;simpa using this
    have g3:decide ((d.length:Int)<((L0.length+1:Nat):Int))=true:=decide_eq_true (by omega)
    have hrow:(bfsV (r0::L0)).getD d.length (jkR 26)= .sl false 2 (rgsV r):=by rw [←hdt];simp [bfsV,List.getD]
    have hrl:r.length≤1000000:=hr r (by rw [←hdt];simp)
    simp only [oA,tA]
    repeat' (first
     |(with_reducible first|refine nx ?_|refine t_seq fun K=>?_|refine t_br (fun hc=>?_) fun hc=>?_|refine t_bx ?_|apply And.intro|intro vr)|exact kpd
     |((with_reducible first|refine ny ?_|refine t_kLF ?_ ?_|refine t_drawE (id:=8) (fun i=>i==2) [(0,1),(1,1),(2,1),(3,1),(6,1),(7,1),(4,1),(5,2),(8,0),(9,1),(10,0)] (by kernel_rfl) fun K=>?_|refine t_dwh (h:=fun K KL=>?_));intros;simp only [go_sem,kp18,geff,g3,hrow]))
    all_goals try omega
    all_goals try exact nd
    refine t_loopF (ι:={q:Nat×Nat // q.1≤r.length}) (fun q=>[(20,.lit (.int .i64 q.1.1))]) (fun q=>[.box 22 (bfsV d++ .arr 1 q.1.2::nilsV t),.arr 28 2 (rgsV (r.take q.1.1)) q.1.2 false]) (fun q=>r.length - q.1.1) ⟨(0,0),Nat.zero_le _⟩ ?_ ?_
    ·refine Le.trans (le_nilB 0 d.length 28 2 rfl ?_ ?_) ?_
     ·simp [bfsV,nilsV]
     ·rw [nils_cons,mid_get];exact nil_sl
     ·rw [nils_cons,mid_set]
      exact lf
    rintro ⟨⟨k,v⟩,hk⟩ K1
    simp only at hk
    have hbl:(bfsV d++ .arr 1 v::nilsV t).length=L0.length+1:=by simp [bfsV,nilsV];omega
    have hm1:=mid_get (d:=d) (x:= .arr 1 v) (l:=nilsV t)
    have hm2:=fun (w:Nat)=>mid_set (d:=d) (x:= .arr 1 v) (y:= .arr 1 w) (l:=nilsV t)
    have hkl:(rgsV (r.take k)).length=k:=by rw [rgsV_length,List.length_take];omega
    rcases Nat.lt_or_ge k r.length with hc|hc
    ·have g5:decide ((k:Int)<(r.length:Int))=true:=decide_eq_true (by omega)
     have htk:r.take k++[r.getD k nilR]=r.take (k+1):=by
       rw [List.take_add_one,List.getElem?_eq_getElem hc,List.getD_eq_getElem?_getD,List.getElem?_eq_getElem hc];rfl
     have hta:rgsV (r.take k)++[rgV (r.getD k nilR)]=rgsV (r.take (k+1)):=by
       rw [←htk];simp [rgsV]
     have hm3:(d.length<d.length+((nilsV t).length+1))=True:=eq_true (by omega)
     have hm4:(d.length+1≤d.length+((nilsV t).length+1))=True:=eq_true (by omega)
     generalize hx:r.getD k nilR=x at hta
     obtain ⟨a,b⟩:=x
     rw [rgV_mk] at hta
     have hx2:=rgV_mk (a:=a) (b:=b)
     repeat' (first
      |(with_reducible first|refine nx ?_|refine t_seq fun K=>?_|refine t_br (fun hc=>?_) fun hc=>?_|refine t_bx ?_|apply And.intro|intro vr)|exact kpd
      |((with_reducible first|refine ny ?_|refine t_kLF ?_ ?_|refine t_drawE (id:=8) (fun i=>i==2) [(0,1),(1,1),(2,1),(3,1),(6,1),(7,1),(4,1),(5,2),(8,0),(9,1),(10,0)] (by kernel_rfl) fun K=>?_|refine t_dwh (h:=fun K KL=>?_));intros;simp only [go_sem,kp18,geff,g5,hx,hx2,hta,hkl,hm1,hm2,hm3,hm4,if_true,mid_set]))
     all_goals try omega
     all_goals try exact nd
     refine ⟨⟨(k+1,v+1),hc⟩,by simp only;omega,?_⟩
     refine le_backD (l:=[.box 22 (bfsV d++ .arr 1 (v+1)::nilsV t),.arr 28 2 (rgsV (r.take (k+1))) (v+1) false]) rfl (Nat.zero_le _) ?_ ?_ ?_
     ·simp [lowO,bfsV,nilsV,nilV,low_sl,low_arr]
     ·simp only [updL_nil,updL_cons,delF_top,delF_upd,Nat.reduceEqDiff,reduceIte]
      repeat' (first|exact low_top|(refine low_upd rfl ?_))
     ·simp only [updL_nil,updL_cons,delF_top,delF_upd,Nat.reduceEqDiff,reduceIte,Int.natCast_add,Int.cast_ofNat_Int]
      repeat' (first|exact leF_top _|exact (fun _=>LeR.refl _)|(with_reducible refine leF_sl ?_ ?_)|(refine leF_upd ?_ ?_))
      all_goals (first|exact LeR.top _|exact LeR.refl _|(refine LeR.of_eq ?_;(try simp only [go_sem]);try rfl)|((try simp only [go_sem]);try rfl))
    ·have g5:decide ((k:Int)<(r.length:Int))=false:=decide_eq_false (by omega)
     have hke:k=r.length:=by omega
     subst hke
     repeat' (first
      |(with_reducible first|refine nx ?_|refine t_seq fun K=>?_|refine t_br (fun hc=>?_) fun hc=>?_|refine t_bx ?_|apply And.intro|intro vr)|exact kpd
      |((with_reducible first|refine ny ?_|refine t_kLF ?_ ?_|refine t_drawE (id:=8) (fun i=>i==2) [(0,1),(1,1),(2,1),(3,1),(6,1),(7,1),(4,1),(5,2),(8,0),(9,1),(10,0)] (by kernel_rfl) fun K=>?_|refine t_dwh (h:=fun K KL=>?_));intros;simp only [go_sem,kp18,geff,g5]))
     all_goals try exact nd
     refine ⟨⟨(d++[r],t),by rw [←hdt,List.append_assoc];rfl⟩,Nat.lt_succ_self _,?_⟩
     refine Le.trans (le_frzB (e:=28) (sz:=2) (ver:=v) (xs:=rgsV (r.take r.length)) (t:=22) (cs:=bfsV d++ .arr 1 v::nilsV t) 1 0 d.length rfl rfl (by rw [hbl];omega) hm1) ?_
     have e1:(([.box 22 (bfsV d++ .arr 1 v::nilsV t),.arr 28 2 (rgsV (r.take r.length)) v false]:List AObj).set 1 (.arr 28 2 (rgsV (r.take r.length)) v true)).set 0 (.box 22 ((bfsV d++ .arr 1 v::nilsV t).set d.length (.sl false 2 (rgsV (r.take r.length)))))=
       [.box 22 (bfsV (d++[r])++nilsV t),.arr 28 2 (rgsV r) v true]:=by
       rw [List.take_length,mid_set,bfsV_app]
       simp [bfsV]
     rw [e1]
     cases t with
     |nil=>
      have e2:d++[r]=r0::L0:=hdt
      have e3:bfsV (d++[r])++nilsV []=bfsV (r0::L0):=by rw [e2];simp [nilsV]
      have e4:(bfsV (r0::L0)).length=L0.length+1:=by simp [bfsV]
      rw [e3]
      refine Le.trans (le_boxS 3 (o:=0) (e:=22) (cs:=bfsV (r0::L0)) (by rw [e4];rfl) rfl bfs_one) ?_
      refine le_backD (l:=[.gone]) rfl (Nat.zero_le _) rfl ?_ ?_
      ·simp only [updL_nil,updL_cons,delF_top,delF_upd,Nat.reduceEqDiff,reduceIte,tA]
       repeat' (first|exact low_top|(refine low_upd rfl ?_))
      ·simp only [updL_nil,updL_cons,delF_top,delF_upd,Nat.reduceEqDiff,reduceIte,tA,List.length_append,List.length_cons,List.length_nil,Nat.zero_add,Int.natCast_add,Int.cast_ofNat_Int]
       repeat' (first|exact leF_top _|exact (fun _=>LeR.refl _)|(with_reducible refine leF_sl ?_ ?_)|(refine leF_upd ?_ ?_))
       all_goals (first|exact LeR.top _|exact LeR.refl _|(refine LeR.of_eq ?_;(try simp only [go_sem]);try rfl)|((try simp only [go_sem]);try rfl))
     |cons r' t'=>
      refine le_backD (l:=[.box 22 (bfsV (d++[r])++nilsV (r'::t'))]) rfl (Nat.zero_le _) ?_ ?_ ?_
      ·simp [lowO,bfsV,nilsV,nilV,low_sl]
      ·simp only [updL_nil,updL_cons,delF_top,delF_upd,Nat.reduceEqDiff,reduceIte,tA]
       repeat' (first|exact low_top|(refine low_upd rfl ?_))
      ·simp only [updL_nil,updL_cons,delF_top,delF_upd,Nat.reduceEqDiff,reduceIte,tA,List.length_append,List.length_cons,List.length_nil,Nat.zero_add,Int.natCast_add,Int.cast_ofNat_Int]
       repeat' (first|exact leF_top _|exact (fun _=>LeR.refl _)|(with_reducible refine leF_sl ?_ ?_)|(refine leF_upd ?_ ?_))
       all_goals (first|exact LeR.top _|exact LeR.refl _|(refine LeR.of_eq ?_;(try simp only [go_sem]);try rfl)|((try simp only [go_sem]);try rfl))
end Go.Proofs.Ytnlimcijgpaegaa.Mx

namespace Go.Proofs.Ytnlimcijgpaegaa.Bm
open Go.Proofs.Ytnlimcijgpaegaa
open Go Go.Fw
def clsr (c:Int):Bool:=decide (c=12)||decide (c=13)
structure Prt (ops:List Ins) (n:Nat) (out:List Int) (st:List Nat):Prop where
  len:out.length=n
  lt:∀ j∈st,j<n
  asc:st.Pairwise (fun a b=>b<a)
  prt:∀ e,e<n→clsr (cd ops e)=true→∃ j,j<e∧j ∉ st∧opnr (cd ops j)=true∧out.getD j 0=e
  opn:∀ j∈st,opnr (cd ops j)=true
theorem Prt.plain {ops:List Ins} {n:Nat} {out:List Int} {st:List Nat} (h:Prt ops n out st) (hc:clsr (cd ops n)=false):Prt ops (n+1) (out++[(n:Int)]) st:=by
  have hl:=h.len
  refine ⟨by simp [hl],fun j hj=>Nat.lt_succ_of_lt (h.lt j hj),h.asc,fun e he hce=>?_,h.opn⟩
  have hen:e≠n:=fun q=>by subst q;rw [hc] at hce;cases hce
  obtain ⟨j,q1,q2,q3,q4⟩:=h.prt e (by omega) hce
  exact ⟨j,q1,q2,q3,by rw [getD_append_l (by omega)];exact q4⟩
theorem Prt.push {ops:List Ins} {n:Nat} {out:List Int} {st:List Nat} (h:Prt ops n out st) (hc:clsr (cd ops n)=false) (ho:opnr (cd ops n)=true):Prt ops (n+1) (out++[(n:Int)]) (n::st):=by
  have hp:=h.plain hc
  refine ⟨hp.len,fun j hj=>?_,List.pairwise_cons.2 ⟨fun b hb=>h.lt b hb,h.asc⟩,fun e he hce=>?_,fun j hj=>?_⟩
  ·rcases List.mem_cons.1 hj with rfl|hj
   ·omega
   ·exact hp.lt j hj
  ·have hen:e≠n:=fun q=>by subst q;rw [hc] at hce;cases hce
   obtain ⟨j,q1,q2,q3,q4⟩:=hp.prt e he hce
   refine ⟨j,q1,fun hm=>?_,q3,q4⟩
   rcases List.mem_cons.1 hm with rfl|hm
   ·omega
   ·exact q2 hm
  ·rcases List.mem_cons.1 hj with rfl|hj
   ·exact ho
   ·exact h.opn j hj
theorem Prt.close {ops:List Ins} {n j:Nat} {out:List Int} {st st2:List Nat} (h:Prt ops n out (j::st)) (h2:st2=st∨(st2=n::st∧opnr (cd ops n)=true)):Prt ops (n+1) ((out++[(n:Int)]).set j n) st2:=by
  have hl:=h.len
  have hjn:=h.lt j (by simp)
  have hasc:=List.pairwise_cons.1 h.asc
  have hst:∀ k∈st,k<j:=fun k hk=>hasc.1 k hk
  have hj0:j<(out++[(n:Int)]).length:=by simp;omega
  have mem:∀ {k},k∈st2→k=n∨k∈st:=fun {k} hk=>by
    rcases h2 with rfl|⟨rfl,_⟩
    ·exact .inr hk
    ·exact List.mem_cons.1 hk
  refine ⟨by simp [hl],fun k hk=>?_,?_,fun e he hce=>?_,fun k hk=>?_⟩
  ·rcases mem hk with rfl|hk
   ·omega
   ·have:=hst k hk;omega
  ·rcases h2 with rfl|⟨rfl,_⟩
   ·exact hasc.2
   ·exact List.pairwise_cons.2 ⟨fun b hb=>by have:=hst b hb;omega,hasc.2⟩
  ·by_cases q:e=n
   ·subst q
    refine ⟨j,hjn,fun hm=>?_,h.opn j (by simp),getD_set_eq hj0⟩
    rcases mem hm with rfl|hm
    ·omega
    ·exact Nat.lt_irrefl _ (hst j hm)
   ·obtain ⟨k,q1,q2,q3,q4⟩:=h.prt e (by omega) hce
    have hkj:j≠k:=fun q=>q2 (by simp [q])
    refine ⟨k,q1,fun hm=>?_,q3,by rw [getD_set_ne hkj,getD_append_l (by omega)];exact q4⟩
    rcases mem hm with rfl|hm
    ·omega
    ·exact q2 (by simp [hm])
  ·rcases mem hk with rfl|hk
   ·rcases h2 with rfl|⟨rfl,ho⟩
    ·exact h.opn k (by simp [hk])
    ·exact ho
   ·exact h.opn k (by simp [hk])
theorem matchG_prt {ops:List Ins}:∀ (l:List Ins) (i:Nat) (out:List Int) (st:List Nat) (mt:List Int),ops.drop i=l→i≤ops.length→Prt ops i out st→matchG ops l i out st=some mt→Prt ops ops.length mt []
  |[],i,out,st,mt,hl,hi,h,e=>by
   have hn:i=ops.length:=by
     have:=congrArg List.length hl
     simp at this;omega
   subst hn
   cases st with
   |nil=>cases e;exact h
   |cons j st=>cases e
  |x::l,i,out,st,mt,hl,hi,h,e=>by
   have hlt:i<ops.length:=by
     rcases Nat.lt_or_ge i ops.length with h|h
     ·exact h
     ·rw [List.drop_eq_nil_of_le h] at hl;cases hl
   have hd:=List.drop_eq_getElem_cons hlt
   rw [hl] at hd
   simp only [List.cons.injEq] at hd
   have hl':ops.drop (i+1)=l:=hd.2.symm
   have hx:cd ops i=x.code:=by unfold cd;rw [hd.1];simp [List.getD,hlt]
   simp only [matchG] at e
   split at e
   ·rename_i hc
    split at e
    ·cases e
    ·exact matchG_prt l (i+1) _ _ mt hl' hlt (h.push (by rw [hx];rcases hc with hc|hc<;>rw [hc]<;>decide) (by rw [hx];rcases hc with hc|hc<;>rw [hc]<;>decide)) e
   ·rename_i h1
    split at e
    ·rename_i h2
     split at e
     ·cases e
     ·rename_i j st'
      split at e
      ·exact matchG_prt l (i+1) _ _ mt hl' hlt (h.close (.inr ⟨rfl,by rw [hx,h2];decide⟩)) e
      ·cases e
    ·rename_i h2
     split at e
     ·split at e
      ·cases e
      ·exact matchG_prt l (i+1) _ _ mt hl' hlt (h.close (.inl rfl)) e
     ·rename_i h3
      exact matchG_prt l (i+1) _ _ mt hl' hlt (h.plain (by
        rw [hx]
        simp only [clsr,Bool.or_eq_false_iff,decide_eq_false_iff_not]
        omega)) e
def Fre (B:Prg) (mt:List Int) (i to:Int):Prop:=∀ e:Int,i≤e→e<to→((B.op e).code=12∨(B.op e).code=13)→∃ j:Int,i≤j∧j<e∧((B.op j).code=10∨(B.op j).code=11∨(B.op j).code=12)∧gt mt j=e
theorem match_fre {B:Prg} {mt:List Int} (h:matchS B.ops=some mt):Fre B mt 0 B.ops.length:=by
  unfold matchS at h
  split at h
  ·cases h
  ·have hp:=matchG_prt B.ops 0 [] [] mt (by simp) (Nat.zero_le _) ⟨rfl,by simp,by simp,by simp,by simp⟩ h
   intro e h0 h1 hc
   obtain ⟨n,rfl⟩:∃ n:Nat,e=n:=⟨e.toNat,by omega⟩
   obtain ⟨j,q1,_,q3,q4⟩:=hp.prt n (by omega) (by
     rw [←op_cd]
     simp only [clsr,Bool.or_eq_true,decide_eq_true_eq];exact hc)
   rw [←op_cd] at q3
   simp only [opnr,Bool.or_eq_true,decide_eq_true_eq] at q3
   exact ⟨(j:Int),by omega,by omega,by omega,by simp only [gt,Int.toNat_natCast];exact q4⟩
section
variable {B:Prg} {mt:List Int}
theorem Fre.here {i to:Int} (h:Fre B mt i to) (hi:i<to):(B.op i).code≠12∧(B.op i).code≠13:=by
  refine ⟨fun c=>?_,fun c=>?_⟩
  ·obtain ⟨j,q1,q2,_⟩:=h i (Int.le_refl _) hi (.inl c);omega
  ·obtain ⟨j,q1,q2,_⟩:=h i (Int.le_refl _) hi (.inr c);omega
theorem Nest.in_lt (hN:Nest B.ops mt) {i j:Int} (h0:0≤i) (h1:i<B.ops.length) (ho:(B.op i).code=10∨(B.op i).code=11∨(B.op i).code=12) (hij:i<j) (hj:j<gt mt i) (hoj:(B.op j).code=10∨(B.op j).code=11∨(B.op j).code=12):gt mt j<gt mt i:=
  (hN.inner h0 h1 ho).2.2 j (by omega) hj hoj
theorem Fre.skip (hN:Nest B.ops mt) {i k to:Int} (h:Fre B mt i to) (h0:0≤i) (h1:i<B.ops.length) (ho:(B.op i).code=10∨(B.op i).code=11∨(B.op i).code=12) (hk:k=gt mt i+1):∀ e:Int,k≤e→e<to→((B.op e).code=12∨(B.op e).code=13)→∃ j:Int,k≤j+1∧j<e∧((B.op j).code=10∨(B.op j).code=11∨(B.op j).code=12)∧gt mt j=e:=by
  intro e k1 k2 hc
  obtain ⟨k3,k4,_,_⟩:=hN.at h0 h1 ho
  obtain ⟨j,q1,q2,q3,q4⟩:=h e (by omega) k2 hc
  refine ⟨j,?_,q2,q3,q4⟩
  rcases Int.lt_or_le j (gt mt i) with c|c
  ·rcases Int.lt_or_le i j with c2|c2
   ·have:=hN.in_lt h0 h1 ho c2 c q3
    omega
   ·have:j=i:=by omega
    subst this;omega
  ·omega
theorem Fre.for_ (hN:Nest B.ops mt) {i to:Int} (h:Fre B mt i to) (h0:0≤i) (h1:i<B.ops.length) (ho:(B.op i).code=10):Fre B mt (gt mt i+1) to:=by
  intro e k1 k2 hc
  obtain ⟨k3,k4,k5,k6⟩:=hN.at h0 h1 (.inl ho)
  obtain ⟨j,q1,q2,q3,q4⟩:=h.skip hN h0 h1 (.inl ho) rfl e k1 k2 hc
  refine ⟨j,?_,q2,q3,q4⟩
  rcases Int.lt_or_le j (gt mt i+1) with c|c
  ·have hj:j=gt mt i:=by omega
   exfalso
   subst hj
   rcases q3 with q|q|q
   ·rcases k5 with k5|k5<;>omega
   ·rcases k5 with k5|k5<;>omega
   ·have:=k6 q;omega
  ·exact c
theorem Fre.if_ (hN:Nest B.ops mt) {i to:Int} (h:Fre B mt i to) (hcl:Cl B mt i to) (hi:i<to) (ho:(B.op i).code=11):Fre B mt (gt mt (gt mt i)+1) to:=by
  intro e k1 k2 hc
  have h0:=hcl.1
  have h1:i<B.ops.length:=by have:=hcl.2.1;omega
  obtain ⟨k3,k4,k5,k6⟩:=hN.at h0 h1 (.inr (.inl ho))
  obtain ⟨_,e1,e2,_,_,e6⟩:=hN.end_ hcl hi ho
  obtain ⟨j,q1,q2,q3,q4⟩:=h.skip hN h0 h1 (.inr (.inl ho)) rfl e (by omega) k2 hc
  refine ⟨j,?_,q2,q3,q4⟩
  rcases Int.lt_or_le j (gt mt (gt mt i)+1) with c|c
  ·exfalso
   by_cases c12:(B.op (gt mt i)).code=12
   ·obtain ⟨m1,m2,m3,m4⟩:=hN.at (i:=gt mt i) (by omega) k4 (.inr (.inr c12))
    rcases Int.lt_or_le j (gt mt (gt mt i)) with d|d
    ·rcases Int.lt_or_le (gt mt i) j with d2|d2
     ·have:=hN.in_lt (i:=gt mt i) (by omega) k4 (.inr (.inr c12)) d2 d q3;omega
     ·have:j=gt mt i:=by omega
      subst this;omega
    ·have hj:j=gt mt (gt mt i):=by omega
     subst hj
     rcases q3 with q|q|q
     ·rcases m3 with m3|m3<;>omega
     ·rcases m3 with m3|m3<;>omega
     ·have:=m4 q;omega
   ·rw [e6 c12] at c
    have hj:j=gt mt i:=by omega
    subst hj
    rcases q3 with q|q|q
    ·rcases k5 with k5|k5<;>omega
    ·rcases k5 with k5|k5<;>omega
    ·exact c12 q
  ·exact c
theorem Fre.step {i to:Int} (h:Fre B mt i to) (ho:(B.op i).code≠10∧(B.op i).code≠11) (hi:i<to):Fre B mt (i+1) to:=by
  intro e k1 k2 hc
  obtain ⟨j,q1,q2,q3,q4⟩:=h e (by omega) k2 hc
  have hh:=h.here hi
  refine ⟨j,?_,q2,q3,q4⟩
  rcases Int.lt_or_le i j with c|c
  ·omega
  ·have:j=i:=by omega
   subst this
   rcases q3 with q|q|q
   ·exact absurd q ho.1
   ·exact absurd q ho.2
   ·exact absurd q hh.1
theorem Fre.inner (hN:Nest B.ops mt) (h:Fre B mt 0 B.ops.length) {i:Int} (h0:0≤i) (h1:i<B.ops.length) (ho:(B.op i).code=10∨(B.op i).code=11∨(B.op i).code=12):Fre B mt (i+1) (gt mt i):=by
  intro e k1 k2 hc
  obtain ⟨k3,k4,_,_⟩:=hN.at h0 h1 ho
  obtain ⟨j,q1,q2,q3,q4⟩:=h e (by omega) (by omega) hc
  refine ⟨j,?_,q2,q3,q4⟩
  rcases Int.lt_or_le i j with c|c
  ·omega
  ·exfalso
   by_cases c2:j=i
   ·subst c2;omega
   ·have:=hN.in_lt (i:=j) (j:=i) q1 (by omega) q3 (by omega) (by omega) ho
    omega
end
end Go.Proofs.Ytnlimcijgpaegaa.Bm

namespace Go.Proofs.Ytnlimcijgpaegaa.Bm
open Go.Proofs.Ytnlimcijgpaegaa
open Go Go.Fw
variable {B:Prg} {mt:List Int}
def tkOk (B:Prg) (mt:List Int):Tk→Prop
  |.blk i to=>Cl B mt i to∧Fre B mt i to
  |.lop i _ _=>0≤i∧i<B.ops.length∧(B.op i).code=10
theorem exec_agree (hN:Nest B.ops mt) (hF0:Fre B mt 0 B.ops.length) {S S':List (List Rng)} (hl:S.length=S'.length) (ha:∀ j:Int,0≤j→j<B.ops.length→(B.op j).code≠12→(B.op j).code≠13→S.getD j.toNat []=S'.getD j.toNat []):
    ∀ (f:Nat) (t:Tk) (s:St),tkOk B mt t→exec B mt S f t s=exec B mt S' f t s:=by
  intro f
  induction f with
  |zero=>intro t s _;rfl
  |succ f ih=>
   intro t s ht
   cases t with
   |blk i to=>
    obtain ⟨hc,hF⟩:=ht
    simp only [exec]
    by_cases h:i<to∧stpS s=false
    ·have h0:=hc.1
     have h1:i<B.ops.length:=by have:=hc.2.1;omega
     have hh:=hF.here h.1
     have hlk:look S i s=look S' i s:=by unfold look;rw [hl,ha i h0 h1 hh.1 hh.2]
     rw [if_pos h,if_pos h,hlk]
     by_cases c1:(B.op i).code=10
     ·obtain ⟨k1,_,_,_⟩:=hN.at h0 h1 (.inl c1)
      rw [if_pos c1,if_pos c1,ih (.lop i _ _) _ ⟨h0,h1,c1⟩,ih (.blk _ _) _ ⟨hc.next (by omega),hF.for_ hN h0 h1 c1⟩]
     ·rw [if_neg c1,if_neg c1]
      by_cases c2:(B.op i).code=11
      ·obtain ⟨k1,k2,_,_⟩:=hN.at h0 h1 (.inr (.inl c2))
       obtain ⟨e1,e2,e3,e4,_,_⟩:=hN.end_ hc h.1 c2
       rw [if_pos c2,if_pos c2,e4,ih (.blk (gt mt (gt mt i)+1) to) _ ⟨hc.next (by omega),hF.if_ hN hc h.1 c2⟩,ih (.blk (i+1) (gt mt i)) _ ⟨hN.inner h0 h1 (.inr (.inl c2)),hF0.inner hN h0 h1 (.inr (.inl c2))⟩]
       congr 1
       split
       ·rfl
       ·split
        ·rename_i c3
         rw [ih (.blk (gt mt i+1) (gt mt (gt mt i))) _ ⟨hN.inner (by omega) k2 (.inr (.inr c3)),hF0.inner hN (by omega) k2 (.inr (.inr c3))⟩]
        ·rfl
      ·rw [if_neg c2,if_neg c2,ih (.blk (i+1) to) _ ⟨hc.next (by omega),hF.step ⟨c1,c2⟩ h.1⟩]
    ·rw [if_neg h,if_neg h]
   |lop i n hi=>
    obtain ⟨h0,h1,c1⟩:=ht
    simp only [exec]
    by_cases h:n<hi∧stpS s=false
    ·rw [if_pos h,if_pos h,ih (.blk (i+1) (gt mt i)) _ ⟨hN.inner h0 h1 (.inl c1),hF0.inner hN h0 h1 (.inl c1)⟩,ih (.lop i _ _) _ ⟨h0,h1,c1⟩]
    ·rw [if_neg h,if_neg h]
theorem runs_agree (hN:Nest B.ops mt) (hF0:Fre B mt 0 B.ops.length) {S S':List (List Rng)} (hl:S.length=S'.length) (ha:∀ j:Int,0≤j→j<B.ops.length→(B.op j).code≠12→(B.op j).code≠13→S.getD j.toNat []=S'.getD j.toNat [])
    {t:Tk} {s s':St} (ht:tkOk B mt t) (h:Runs B mt S t s s'):Runs B mt S' t s s':=by
  obtain ⟨F,hF⟩:=h
  exact ⟨F,fun f hf=>by rw [←exec_agree hN hF0 hl ha f t s ht];exact hF f hf⟩
end Go.Proofs.Ytnlimcijgpaegaa.Bm

namespace Go.Proofs.Ytnlimcijgpaegaa.Bm
open Go.Proofs.Ytnlimcijgpaegaa
open Go Go.Fw
section
variable {n:Nat} {z:List Rng}
end
variable {B B':Prg} {mt:List Int}
end Go.Proofs.Ytnlimcijgpaegaa.Bm

namespace Go.Proofs.Ytnlimcijgpaegaa.Bm
open Go.Proofs.Ytnlimcijgpaegaa
open Go Go.Fw
variable {B:Prg} {mt:List Int}
theorem hok_put' {n:Nat} {w:W} {i:Int} {s:List Rng} (h:HOk n w) (hs:OkS n s):HOk n {w with heads:=putH w.heads i s}:=fun j l hl=>by
  rw [lookH_put] at hl
  split at hl
  ·cases hl;exact hs
  ·exact h j l hl
theorem vr_ok' (hN:Nest B.ops mt) {n:Nat} (hR:Rights B n) {i to:Int} {s t:List Rng} {w w':W} (h:VR B mt (.blk i to) s w t w') (hc:Cl B mt i to) (hs:OkS n s) (hw:HOk n w):OkS n t∧HOk n w':=by
  obtain ⟨f,hf⟩:=h
  exact vrun_ok hN hR f (.blk i to) _ _ _ _ hf hc hs hw (by intro i v h;cases h)
theorem lop_total (hN:Nest B.ops mt) {n:Nat} (hR:Rights B n) {i:Int} (h0:0≤i) (h1:i<B.ops.length) (hc:(B.op i).code=10) {v:Rng} (hv:OkR v)
    (ih:∀ (s:List Rng) (w:W),OkS n s→HOk n w→∃ t w',VR B mt (.blk (i+1) (gt mt i)) s w t w'):
    ∀ (k:Nat) (head:List Rng) (w:W),rkS head≤k→OkS n head→HOk n w→∃ t w',VR B mt (.lop i v) head w t w':=by
  have hin:=hN.inner h0 h1 (.inl hc)
  intro k
  induction k with
  |zero=>
   intro head w hk hs hw
   obtain ⟨t,w1,hr⟩:=ih (withR head (B.op i).a v) {w with heads:=putH w.heads i head} (hs.with hv) (hok_put' hw hs)
   obtain ⟨q1,q2⟩:=vr_ok' hN hR hr hin (hs.with hv) (hok_put' hw hs)
   rcases grown_rk hs q1 with hg|hg
   ·exact ⟨_,_,vr_lopE hr hg⟩
   ·omega
  |succ k ihk=>
   intro head w hk hs hw
   obtain ⟨t,w1,hr⟩:=ih (withR head (B.op i).a v) {w with heads:=putH w.heads i head} (hs.with hv) (hok_put' hw hs)
   obtain ⟨q1,q2⟩:=vr_ok' hN hR hr hin (hs.with hv) (hok_put' hw hs)
   by_cases hg:grownR head t=head
   ·exact ⟨_,_,vr_lopE hr hg⟩
   ·have hlt:=(grown_rk hs q1).resolve_left hg
    obtain ⟨t2,w2,hr2⟩:=ihk (grownR head t) w1 (by omega) (hs.grown q1) q2
    exact ⟨_,_,vr_lop hr hg hr2⟩
theorem vr_total (hN:Nest B.ops mt) {n:Nat} (hR:Rights B n):∀ (N:Nat) (i to:Int) (s:List Rng) (w:W),to - i≤N→Cl B mt i to→OkS n s→HOk n w→∃ t w',VR B mt (.blk i to) s w t w':=by
  intro N
  induction N with
  |zero=>intro i to s w h _ _ _;exact ⟨s,w,vr_end (by omega)⟩
  |succ N ih=>
   intro i to s w h hcl hs hw
   by_cases hi:i<to
   ·have h0:=hcl.1
    have hlt:i<B.ops.length:=by have:=hcl.2.1;omega
    have hright:=hR i h0 hlt
    by_cases c11:(B.op i).code=11
    ·obtain ⟨k1,k2,k3,_,k5,_⟩:=hN.end_ hcl hi c11
     have hin:=hN.inner h0 hlt (.inr (.inl c11))
     have hra:=hs.at (B.op i).a
     have hw0:HOk n {w with before:=w.before.set i.toNat s}:=hw
     have pv:∀ (j to':Int) (x:Rng) (w:W),to' - j≤N→Cl B mt j to'→(¬ x.lo>x.hi→OkR x)→HOk n w→∃ o w',PV B mt j to' s (B.op i).a x w o w'∧(∀ l,o=some l→OkS n l)∧HOk n w'∧(o=none→x.lo>x.hi):=by
       intro j to' x w hj hc hx hw
       by_cases hxx:x.lo>x.hi
       ·exact ⟨none,_,.inl ⟨hxx,rfl,rfl⟩,(by intro l h;cases h),hw,fun _=>hxx⟩
       ·obtain ⟨t,w',hr⟩:=ih j to' (withR s (B.op i).a x) w hj hc (hs.with (hx hxx)) hw
        obtain ⟨q1,q2⟩:=vr_ok' hN hR hr hc (hs.with (hx hxx)) hw
        exact ⟨some t,w',.inr ⟨hxx,t,rfl,hr⟩,(by intro l h;cases h;exact q1),q2,(by intro h;cases h)⟩
     obtain ⟨yes,w1,p1,y1,y2,y3⟩:=pv (i+1) (gt mt i) ⟨maxI (gR s (B.op i).a).lo 0,(gR s (B.op i).a).hi⟩ {w with before:=w.before.set i.toNat s} (by omega) hin (fun h=>ok_yes hra h) hw0
     have hmn:i+1≤minI (gt mt i+1) (gt mt (gt mt i)):=by unfold minI;split<;>omega
     obtain ⟨no,w2,p2,z1,z2,z3⟩:=pv (minI (gt mt i+1) (gt mt (gt mt i))) (gt mt (gt mt i)) ⟨(gR s (B.op i).a).lo,minI (gR s (B.op i).a).hi (-1)⟩ w1 (by omega) k5 (fun h=>ok_no hra h) y2
     obtain ⟨u,hu⟩:∃ u,hullsR yes no=some u:=by
       cases yes with
       |some a=>cases no with
        |some b=>exact ⟨_,rfl⟩
        |none=>exact ⟨_,rfl⟩
       |none=>cases no with
        |some b=>exact ⟨_,rfl⟩
        |none=>
         exfalso
         have q1:=y3 rfl
         have q3:=z3 rfl
         obtain ⟨q5,_⟩:=hra
         simp only [maxI,minI] at q1 q3
         split at q1<;>split at q3<;>omega
     obtain ⟨t,w3,hr⟩:=ih (gt mt (gt mt i)+1) to u w2 (by omega) (hcl.next (by omega)) (hulls_ok hu y1 z1) z2
     exact ⟨t,w3,vr_if hi c11 p1 p2 hu hr⟩
    ·by_cases c10:(B.op i).code=10
     ·obtain ⟨k1,_,_,_⟩:=hN.at h0 hlt (.inl c10)
      have k3:=hcl.2.2 i (Int.le_refl _) hi (.inl c10)
      have hin:=hN.inner h0 hlt (.inl c10)
      by_cases hv:(gR s (B.op i).b).lo>(gR s (B.op i).c).hi - 1
      ·obtain ⟨t,w1,hr⟩:=ih (gt mt i+1) to s {w with before:=wipe (w.before.set i.toNat s) (i+1) (gt mt i)} (by omega) (hcl.next (by omega)) hs hw
       exact ⟨t,w1,vr_for0 hi c10 hv hr⟩
      ·have ob:=hs.at (B.op i).b
       have oc:=hs.at (B.op i).c
       have hvo:OkR ⟨(gR s (B.op i).b).lo,(gR s (B.op i).c).hi - 1⟩:=by
         obtain ⟨b1,b2,b3⟩:=ob
         obtain ⟨c1,c2,c3⟩:=oc
         refine ⟨?_,?_,?_⟩<;>simp only [machR,maxC] at* <;>omega
       have hg0:OkS n (grownR ((lookH w.heads i).getD s) s):=by
         cases hq:lookH w.heads i with
         |none=>exact hs.grown hs
         |some l=>exact (hw i l hq).grown hs
       obtain ⟨t,w1,hr⟩:=lop_total hN hR h0 hlt c10 hvo (fun s w hs hw=>ih (i+1) (gt mt i) s w (by omega) hin hs hw) _ (grownR ((lookH w.heads i).getD s) s) {w with before:=w.before.set i.toNat s} (Nat.le_refl _) hg0 hw
       obtain ⟨f,hf⟩:=hr
       obtain ⟨q1,q2⟩:=vrun_ok hN hR f (.lop i _) _ _ _ _ hf ⟨h0,hlt,c10⟩ hg0 hw (by intro j v h;cases h;exact hvo)
       obtain ⟨t2,w2,hr2⟩:=ih (gt mt i+1) to t w1 (by omega) (hcl.next (by omega)) q1 q2
       exact ⟨t2,w2,vr_for hi c10 hv ⟨f,hf⟩ hr2⟩
     ·obtain ⟨t,w1,hr⟩:=ih (i+1) to (if wrtB (B.op i).code=true then withR s (B.op i).a (resultR (B.op i) s) else s) {w with before:=w.before.set i.toNat s} (by omega) (hcl.next (by omega)) (by
        split
        ·exact hs.with (okR_result hs (right_regs hright))
        ·exact hs) hw
      exact ⟨t,w1,vr_plain hi c11 c10 hr⟩
   ·exact ⟨s,w,vr_end hi⟩
end Go.Proofs.Ytnlimcijgpaegaa.Bm

namespace Go.Proofs.Ytnlimcijgpaegaa
open Go Go.Fw Bm
theorem wipeU_at {ops:List Ins} {l:List (List Rng)} {j i:Nat}:(wipeU ops l j).getD i []=if i<j∧(cd ops i=12∨cd ops i=13) then [] else l.getD i []:=by
  simp only [wipeU,List.getD_eq_getElem?_getD,List.getElem?_mapIdx]
  cases l[i]? with
  |none=>simp
  |some a=>simp only [Option.map_some,Option.getD_some]
theorem verG_snd {B:Prg}:∀ (l:List (List Rng)) (i:Nat),(verG B l i).2=0→(verG B l i).1=B.ops.length∧∀ k:Nat,k<l.length→l.getD k []≠[]→failR (B.ops.getD (i+k) nilI) (l.getD k []) B.arena=false
  |[],i,_=>⟨rfl,fun k hk=>by simp at hk⟩
  |s::l,i,h=>by
   simp only [verG] at h ⊢
   split at h
   ·cases h
   ·rename_i hc
    rw [if_neg hc]
    obtain ⟨h1,h2⟩:=verG_snd l (i+1) h
    refine ⟨h1,fun k hk hne=>?_⟩
    cases k with
    |zero=>
     have h0:(s::l).getD 0 []=s:=rfl
     rw [h0] at hne ⊢
     rw [Nat.add_zero]
     cases hf:failR (B.ops.getD i nilI) s B.arena with
     |false=>rfl
     |true=>exact absurd ⟨hne,hf⟩ hc
    |succ k=>
     have:=h2 k (by simpa using hk) hne
     rw [show i+(k+1)=i+1+k by omega]
     exact this
theorem sound_run {B:Prg} (hv:validS B=true) (hl:B.ops.length≤1000000) {mt:List Int} (hm:matchS B.ops=some mt) {st st':St} (ho:st.out=false) (hf:st.failed=false) (hw:Words st) (ha:(st.arena.length:Int)=B.arena)
    (hr:st.regs=List.replicate B.regs.toNat 0) (hrun:Runs B mt (beforeL B) (.blk 0 B.ops.length) st st'):
    st'.out=false∧((verS B).2=0→st'.failed=false∧(verS B).1=B.ops.length)∧(beforeL B).length=B.ops.length:=by
  have hK:=wk_of hv hm hl
  have hcl:Cl B mt 0 B.ops.length:=⟨Int.le_refl _,Int.le_refl _,fun j j0 j1 j2=>(hK.nest.at j0 j1 j2).2.1⟩
  have hw0:PreW B B.regs.toNat (w0 B):=⟨by simp [w0],fun i l hl=>(by cases hl)⟩
  obtain ⟨t,w',hvr⟩:=vr_total hK.nest hK.rights B.ops.length 0 B.ops.length (beg B) (w0 B) (by omega) hcl (okS_beg B) hw0.hd
  have hE:=endV_eq hvr
  have hlen:w'.before.length=B.ops.length:=(vr_ok hK hvr hcl (okS_beg B) hw0).2.len
  have hb:beforeL B=wipeU B.ops w'.before B.ops.length:=by unfold beforeL;rw [hv,hm];simp only [if_true,hE]
  have hbl:(beforeL B).length=B.ops.length:=by rw [hb,wipeU_len,hlen]
  have hrun2:Runs B mt w'.before (.blk 0 B.ops.length) st st':=by
    refine runs_agree hK.nest (match_fre hm) (by rw [hbl,hlen]) (fun j j0 j1 c1 c2=>?_) ⟨hcl,match_fre hm⟩ hrun
    rw [hb,wipeU_at,if_neg]
    rintro ⟨_,q⟩
    have e:cd B.ops j.toNat=(B.op j).code:=rfl
    rw [e] at q
    rcases q with q|q
    ·exact c1 q
    ·exact c2 q
  obtain ⟨f,hfv⟩:=hvr
  have hpre:Pre B.arena (beg B) st:=⟨ho,hw,ha,fun _=>by
    rw [hr]
    refine ⟨by simp [beg],fun i hi=>?_⟩
    have h1:i<B.regs.toNat:=by simpa [beg] using hi
    simp only [beg,List.getD_eq_getElem?_getD,List.getElem?_replicate,h1,if_true,Option.getD_some]
    exact ⟨Int.le_refl _,Int.le_refl _⟩⟩
  have hs:=(vsound hK.nest hK.rights (A:=B.arena) hlen f (.blk 0 B.ops.length) (beg B) (w0 B) t w' hfv hcl (okS_beg B) hw0.hd (fun i v e=>by cases e) (by simp [w0]) (fun _ _ _=>rfl)).1 0 B.ops.length rfl st st' hpre hrun2
  refine ⟨hs.1.out,fun hz=>?_,hbl⟩
  have hvs:verS B=verG B (beforeL B) 0:=by unfold verS;rw [hv];rfl
  rw [hvs] at hz ⊢
  obtain ⟨g1,g2⟩:=verG_snd (beforeL B) 0 hz
  refine ⟨hs.2 (fun j hj hne=>?_) hf,g1⟩
  have e:B.op (j:Int)=B.ops.getD j nilI:=by simp [Prg.op]
  by_cases hc:cd B.ops j=12∨cd B.ops j=13
  ·have e2:cd B.ops j=(B.op j).code:=by rw [e];rfl
   rw [e2] at hc
   unfold failR
   rw [if_neg (by omega),if_neg (by omega),if_neg (by omega),if_neg (by omega)]
  ·have e3:(beforeL B).getD j []=w'.before.getD j []:=by rw [hb,wipeU_at,if_neg (fun q=>hc q.2)]
   have:=g2 j (by omega) (by rw [e3];exact hne)
   rw [e3,Nat.zero_add,←e] at this
   exact this
end Go.Proofs.Ytnlimcijgpaegaa

namespace Go.Proofs.Ytnlimcijgpaegaa
open Go Go.Fw Bm
set_option maxRecDepth 20000
def e0:ByteArray:=⟨#[]⟩
def exOps:List Ins:=[⟨1,e0,0,0,0,0⟩,⟨1,e0,1,4,0,0⟩,⟨10,e0,2,0,1,1⟩,⟨6,e0,3,2,0,0⟩,⟨13,e0,0,0,0,0⟩]
def exB (a:Int):Prg:=⟨4,a,exOps,[],[],[]⟩
def exM:List Int:=[0,1,4,3,4]
def exW (a:Int):Option (List Rng×W):=vrun (exB a) exM 60 (.blk 0 5) (beg (exB a)) (w0 (exB a))
theorem ex_v4:validS (exB 4)=true:=by kernel_rfl
theorem ex_v3:validS (exB 3)=true:=by kernel_rfl
theorem ex_m:matchS exOps=some exM:=by kernel_rfl
def exL:List (List Rng):=[[⟨0,0⟩,⟨0,0⟩,⟨0,0⟩,⟨0,0⟩],[⟨0,0⟩,⟨0,0⟩,⟨0,0⟩,⟨0,0⟩],[⟨0,0⟩,⟨4,4⟩,⟨0,0⟩,⟨0,0⟩],[⟨0,0⟩,⟨4,4⟩,⟨0,3⟩,⟨-2147483648,2147483647⟩],[]]
theorem ex_l4:((exW 4).map fun p=>wipeU exOps p.2.before 5)=some exL:=by kernel_rfl
theorem ex_l3:((exW 3).map fun p=>wipeU exOps p.2.before 5)=some exL:=by kernel_rfl
theorem ex_bef {a:Int} (hv:validS (exB a)=true) (hl:((exW a).map fun p=>wipeU exOps p.2.before 5)=some exL):beforeL (exB a)=exL:=by
  cases hw:exW a with
  |none=>rw [hw] at hl;cases hl
  |some p=>
   rw [hw] at hl
   obtain ⟨t,w⟩:=p
   have hr:VR (exB a) exM (.blk 0 (exB a).ops.length) (beg (exB a)) (w0 (exB a)) t w:=⟨60,hw⟩
   have he:=endV_eq hr
   unfold beforeL
   rw [hv,if_pos rfl,show matchS (exB a).ops=some exM from ex_m]
   simp only
   rw [he]
   exact Option.some.inj hl
theorem ex_b4:beforeL (exB 4)=exL:=ex_bef ex_v4 ex_l4
theorem ex_b3:beforeL (exB 3)=exL:=ex_bef ex_v3 ex_l3
theorem ex_4:verS (exB 4)=(5,0):=by
  unfold verS;rw [ex_v4,if_pos rfl,ex_b4];kernel_rfl
theorem ex_3:verS (exB 3)=(3,22):=by
  unfold verS;rw [ex_v3,if_pos rfl,ex_b3];kernel_rfl
theorem ok_ex (a:Int):OkB (exB a)∧(exB a).ins.length≤100000∧(exB a).outs.length≤100000:=⟨⟨by simp [exB,exOps],by simp [exB],by simp [exB],by simp [exB],fun t ht=>by cases ht⟩,by simp [exB],by simp [exB]⟩
theorem ex_bc {a:Int}:bcOf (.agg [.lit (.int .i64 4),.lit (.int .i64 a),.sl true 6 [.agg [.lit (.int .i64 1),.lit (.string ByteArray.empty),.lit (.int .i64 0),.lit (.int .i64 0),.lit (.int .i64 0),.lit (.int .i64 0)],.agg [.lit (.int .i64 1),.lit (.string ByteArray.empty),.lit (.int .i64 1),.lit (.int .i64 4),.lit (.int .i64 0),.lit (.int .i64 0)],.agg [.lit (.int .i64 10),.lit (.string ByteArray.empty),.lit (.int .i64 2),.lit (.int .i64 0),.lit (.int .i64 1),.lit (.int .i64 1)],.agg [.lit (.int .i64 6),.lit (.string ByteArray.empty),.lit (.int .i64 3),.lit (.int .i64 2),.lit (.int .i64 0),.lit (.int .i64 0)],.agg [.lit (.int .i64 13),.lit (.string ByteArray.empty),.lit (.int .i64 0),.lit (.int .i64 0),.lit (.int .i64 0),.lit (.int .i64 0)]],.sl true 2 [],.sl true 2 [],.sl true 3 []])=some (exB a):=rfl
noncomputable def G0:Env:=envJ (P:=Try.prog) jkR zer (fun _=>false) (fun _=>false) [con10,con15,con19] []
theorem G0_ok:EnvOk Try.prog G0:=envJOk zer_ok
theorem exP:primV ⟨#[97,100,100]⟩ [⟨1,2⟩,⟨3,5⟩]= .tup [.agg [.lit (.int .i64 4),.lit (.int .i64 7)],.lit (.bool true)]:=by kernel_rfl
set_option maxHeartbeats 8000000 in
theorem awakeV_pc:PC Try.prog 9 [] (.lit (.bool true)):=by
  have o4:=(ok_ex 4).1
  have o3:=(ok_ex 3).1
  have i1:(exB 4).ins.length≤100000:=(ok_ex 4).2.1
  have i2:(exB 4).outs.length≤100000:=(ok_ex 4).2.2
  have i3:(exB 3).ins.length≤100000:=(ok_ex 3).2.1
  have i4:(exB 3).outs.length≤100000:=(ok_ex 3).2.2
  have hr2:rngL [.agg [.lit (.int .i64 1),.lit (.int .i64 2)],.agg [.lit (.int .i64 3),.lit (.int .i64 5)]]=some [⟨1,2⟩,⟨3,5⟩]:=rfl
  have hel:exL.length=5:=rfl
  have hat:∀ z,(bfsV exL).getD 3 z= .sl false 2 (rgsV [⟨0,0⟩,⟨4,4⟩,⟨0,3⟩,⟨-2147483648,2147483647⟩]):=fun _=>rfl
  have ha2:∀ z,(rgsV [⟨0,0⟩,⟨4,4⟩,⟨0,3⟩,⟨-2147483648,2147483647⟩]).getD 2 z= .agg [.lit (.int .i64 0),.lit (.int .i64 3)]:=fun _=>rfl
  refine pcR G0_ok (kp9) Try.func9 [.tmp 0] (h:=fun KF=>?_)
  unfold G0
  repeat' (first
   |(with_reducible first|refine nx ?_|refine t_seq fun K=>?_|refine t_br (fun hc=>?_) fun hc=>?_|refine t_bx ?_|apply And.intro|intro vr)
   |((with_reducible first|refine ny ?_|refine t_dwh (h:=fun K KL=>?_));intros;simp only [go_sem,kp9,geff,ex_bc,ex_4,ex_3,ex_b4,exP,hr2,rngsOf_sl2,hel,hat,ha2]))
  all_goals try exact nd
  all_goals (refine nl ?_;simp only [go_sem])
  exact LeA.of_eq rfl
noncomputable def con9:PCon Try.prog where
  f:=9
  c:=fun
   |[]=>some (True,.lit (.bool true))
   |_=>none
  ok:=by
   intro args p r hc hp
   split at hc
   ·cases hc;exact awakeV_pc
   ·cases hc
  fk:=fk9
theorem con9_f:con9.f=9:=rfl
theorem con9_c:con9.c []=some (True,.lit (.bool true)):=rfl
attribute [go_sem] con9_f con9_c
end Go.Proofs.Ytnlimcijgpaegaa

namespace Go.Proofs.Ytnlimcijgpaegaa
open Go Go.Fw Bm
set_option maxRecDepth 20000
theorem ft73:fieldTs Try.prog 73=[3,9,3,3,3,3]:=by kernel_rfl
theorem ft99:fieldTs Try.prog 99=[3,3]:=by kernel_rfl
theorem ft45:fieldTs Try.prog 45=[3,3,41,42,42,43]:=by kernel_rfl
theorem shv_op {x:AV} (h:ShV Try.prog 73 x):∃ o:Ins,x=opV o∧o.prim.size≤maxLen:=by
  obtain ⟨c,rfl,hc⟩:=shv_agg ag73 h
  obtain ⟨xss,h1,h2,h3⟩:=sh_fields (by simp) ft73 hc
  match xss,h2 with
  |[p,q,r,s,t,u],_=>
   obtain ⟨k,rfl,_⟩:=sh_int u3 (h3 0 3 p rfl rfl)
   obtain ⟨m,rfl,hm⟩:=sh_str u9 (h3 1 9 q rfl rfl)
   obtain ⟨a,rfl,_⟩:=sh_int u3 (h3 2 3 r rfl rfl)
   obtain ⟨b,rfl,_⟩:=sh_int u3 (h3 3 3 s rfl rfl)
   obtain ⟨c,rfl,_⟩:=sh_int u3 (h3 4 3 t rfl rfl)
   obtain ⟨d,rfl,_⟩:=sh_int u3 (h3 5 3 u rfl rfl)
   exact ⟨⟨k,m,a,b,c,d⟩,by rw [h1];rfl,hm⟩
theorem list_ops:∀ {ys:List AV},(∀ y∈ys,∃ o:Ins,y=opV o∧o.prim.size≤maxLen)→∃ l:List Ins,ys=opsV l∧∀ o∈l,o.prim.size≤maxLen
  |[],_=>⟨[],rfl,fun r h=>by cases h⟩
  |y::ys,h=>by
   obtain ⟨r,rfl,hr⟩:=h y (by simp)
   obtain ⟨l,rfl,hl⟩:=list_ops (ys:=ys) fun z hz=>h z (by simp [hz])
   exact ⟨r::l,rfl,fun q hq=>(List.mem_cons.1 hq).elim (fun e=>by rw [e];exact hr) (hl q)⟩
theorem shv_pl {x:AV} (h:ShV Try.prog 99 x):∃ o:Int×Int,x=plV o:=by
  obtain ⟨c,rfl,hc⟩:=shv_agg ag99 h
  obtain ⟨p,q,rfl,h1,h2⟩:=sh_two ft99 hc
  obtain ⟨a,rfl,_⟩:=sh_int u3 h1
  obtain ⟨b,rfl,_⟩:=sh_int u3 h2
  exact ⟨(a,b),rfl⟩
theorem list_pls:∀ {ys:List AV},(∀ y∈ys,∃ o:Int×Int,y=plV o)→∃ l:List (Int×Int),ys=plsV l
  |[],_=>⟨[],rfl⟩
  |y::ys,h=>by
   obtain ⟨r,rfl⟩:=h y (by simp)
   obtain ⟨l,rfl⟩:=list_pls (ys:=ys) fun z hz=>h z (by simp [hz])
   exact ⟨r::l,rfl⟩
structure ArgB (B:Prg):Prop where
  regs:inI64 B.regs
  arena:inI64 B.arena
  ops:B.ops.length≤maxLen
  prims:∀ o∈B.ops,o.prim.size≤maxLen
  ins:B.ins.length≤maxLen
  outs:B.outs.length≤maxLen
  types:B.types.length≤maxLen
  arr:∀ a∈B.types,okW a
theorem shv_bc {x:AV} (h:ShV Try.prog 45 x):∃ B:Prg,x=bcV B∧ArgB B:=by
  obtain ⟨c,rfl,hc⟩:=shv_agg ag45 h
  obtain ⟨xss,h1,h2,h3⟩:=sh_fields (by simp) ft45 hc
  have one:∀ {t:TypeId} {x:List AV},aggT Try.prog t=some false→Sh Try.prog t x→(∃ y,x=[y])→∃ y,x=[y]∧ShV Try.prog t y:=by
    rintro t x ha hs ⟨y,rfl⟩
    exact ⟨y,rfl,⟨[y],hs,by rw [mkV_one ha]⟩⟩
  match xss,h2 with
  |[p,q,r,s,t,u],_=>
   obtain ⟨k,rfl,wk⟩:=sh_int u3 (h3 0 3 p rfl rfl)
   obtain ⟨m,rfl,wm⟩:=sh_int u3 (h3 1 3 q rfl rfl)
   obtain ⟨os,rfl,ol,oy⟩:=sh_slice u41 (h3 2 41 r rfl rfl)
   obtain ⟨is,rfl,il,iy⟩:=sh_slice u42 (h3 3 42 s rfl rfl)
   obtain ⟨us,rfl,ul,uy⟩:=sh_slice u42 (h3 4 42 t rfl rfl)
   obtain ⟨ts,rfl,tl,ty⟩:=sh_slice u43 (h3 5 43 u rfl rfl)
   obtain ⟨o,rfl,ho⟩:=list_ops fun y hy=>shv_op (oy y hy)
   obtain ⟨i,rfl⟩:=list_pls fun y hy=>shv_pl (iy y hy)
   obtain ⟨v,rfl⟩:=list_pls fun y hy=>shv_pl (uy y hy)
   obtain ⟨w,rfl,hw⟩:=list_arrs fun y hy=>shv_arr (ty y hy)
   refine ⟨⟨k,m,o,i,v,w⟩,by rw [h1,sz73,sz99,sz96];rfl,wf_i64 wk,wf_i64 wm,?_,ho,?_,?_,?_,hw⟩
   ·simpa [opsV] using ol
   ·simpa [plsV] using il
   ·simpa [plsV] using ul
   ·simpa [arrs] using tl
def fewO (n:Int) (l:List Ins):Bool:=(l.all fun x=> !decide ((x.prim.size:Int)>20))&&decide ((l.length:Int)≤n)
def fewT (t:Arr):Bool:=decide ((t.d.length:Int)>8)||decide ((t.e.size:Int)>20)||decide ((t.x.length:Int)>20)
def smB (n:Int) (B:Prg):Bool:=(B.types.all fun t=> !fewT t)&&(fewO n B.ops&&decide ((B.ins.length:Int)≤6)&&decide ((B.outs.length:Int)≤6)&&decide ((B.types.length:Int)≤14))
noncomputable def H0:Env:=envJ (P:=Try.prog) jkR zer (fun _=>false) (fun _=>false) [] []
theorem H0_ok:EnvOk Try.prog H0:=envJOk zer_ok
set_option maxHeartbeats 4000000 in
theorem fewo_pc {l:List Ins} {n:Int} (hl:l.length≤maxLen) (hp:∀ o∈l,o.prim.size≤maxLen):PC Try.prog 76 [.sl false 6 (opsV l),.lit (.int .i64 n)] (.lit (.bool (fewO n l))):=by
  unfold maxLen at hl hp
  generalize hR:fewO n l=R
  unfold fewO at hR
  refine pcR H0_ok (kp76) Try.func76 [.tmp 4] (h:=fun KF=>?_)
  unfold H0
  repeat' (first
   |(with_reducible first|refine nx ?_|refine t_seq fun K=>?_|refine t_br (fun hc=>?_) fun hc=>?_|refine t_bx ?_|apply And.intro|intro vr)
   |((with_reducible first|refine ny ?_|refine t_dwh (h:=fun K KL=>?_));intros;simp only [go_sem,kp76,geff]))
  all_goals try exact nd
  refine t_loopF (ι:={i:Nat // i≤l.length∧(((l.drop i).all fun x=> !decide ((x.prim.size:Int)>20))&&decide ((l.length:Int)≤n))=R}) (fun i=>[(5,.lit (.int .i64 i.1))]) (fun i=>[]) (fun i=>l.length - i.1) ⟨0,by omega,hR⟩ ?_ ?_
  ·exact lf
  rintro ⟨i,hi,hF⟩ K0
  rcases Nat.lt_or_ge i l.length with hc|hc
  ·have g3:decide ((i:Int)<(l.length:Int))=true:=decide_eq_true (by omega)
   rw [drop_getI hc,List.all_cons] at hF
   have hps:=hp _ (show l.getD i nilI∈l by rw [List.getD_eq_getElem?_getD,List.getElem?_eq_getElem hc];exact List.getElem_mem _)
   generalize hx:l.getD i nilI=x at hF hps
   obtain ⟨q,p,a,b,c,d⟩:=x
   simp only at hF hps
   cases hb:decide ((p.size:Int)>20) with
   |true=>
    rw [hb] at hF
    repeat' (first
     |(with_reducible first|refine nx ?_|refine t_seq fun K=>?_|refine t_br (fun hc=>?_) fun hc=>?_|refine t_bx ?_|apply And.intro|intro vr)
     |((with_reducible first|refine ny ?_|refine t_dwh (h:=fun K KL=>?_));intros;simp only [go_sem,kp76,geff,g3,hx,hb,Int.toNat_natCast,yes]))
    all_goals try exact nd
    all_goals (refine nl ?_;simp only [go_sem])
    exact LeA.of_eq (by rw [←hF];rfl)
   |false=>
    rw [hb,Bool.not_false,Bool.true_and] at hF
    repeat' (first
     |(with_reducible first|refine nx ?_|refine t_seq fun K=>?_|refine t_br (fun hc=>?_) fun hc=>?_|refine t_bx ?_|apply And.intro|intro vr)
     |((with_reducible first|refine ny ?_|refine t_dwh (h:=fun K KL=>?_));intros;simp only [go_sem,kp76,geff,g3,hx,hb,Int.toNat_natCast,yes]))
    all_goals try exact nd
    exact ⟨⟨i+1,by omega,hF⟩,wf,lf⟩
  ·have g3:decide ((i:Int)<(l.length:Int))=false:=decide_eq_false (by omega)
   rw [List.drop_eq_nil_of_le hc] at hF
   repeat' (first
    |(with_reducible first|refine nx ?_|refine t_seq fun K=>?_|refine t_br (fun hc=>?_) fun hc=>?_|refine t_bx ?_|apply And.intro|intro vr)
    |((with_reducible first|refine ny ?_|refine t_dwh (h:=fun K KL=>?_));intros;simp only [go_sem,kp76,geff,g3]))
   all_goals try exact nd
   all_goals (refine nl ?_;simp only [go_sem])
   exact LeA.of_eq (by rw [←hF];rfl)
theorem fewo_pc2 {l:List Ins} {n:Int} (h:l.length≤maxLen∧∀ o∈l,o.prim.size≤maxLen):PC Try.prog 76 [.sl false 6 (opsV l),.lit (.int .i64 n)] (.lit (.bool (fewO n l))):=fewo_pc h.1 h.2
noncomputable def con76:PCon Try.prog where
  f:=76
  c:=fun
   |[xl,.lit (.int .i64 n)]=>match opsOf xl with|some l=>some ((l.length≤maxLen∧∀ o∈l,o.prim.size≤maxLen),.lit (.bool (fewO n l)))|_=>none
   |_=>none
  ok:=by
   intro args p r hc hp
   split at hc
   ·split at hc
    ·rename_i hl
     cases hc
     exact PC.weak (fewo_pc2 hp) ⟨opsOf_le hl,LeA.refl _,trivial⟩
    ·cases hc
   ·cases hc
  fk:=fk76
theorem con76_f:con76.f=76:=rfl
theorem con76_c {xl:AV} {n:Int}:con76.c [xl,.lit (.int .i64 n)]=match opsOf xl with|some l=>some ((l.length≤maxLen∧∀ o∈l,o.prim.size≤maxLen),.lit (.bool (fewO n l)))|_=>none:=rfl
attribute [go_sem] con76_f con76_c
noncomputable def H1:Env:=envJ (P:=Try.prog) jkR zer (fun _=>false) (fun _=>false) [con76] []
theorem H1_ok:EnvOk Try.prog H1:=envJOk zer_ok
set_option maxHeartbeats 4000000 in
theorem sm_pc {B:Prg} {n:Int} (h:ArgB B):PC Try.prog 38 [bcV B,.lit (.int .i64 n)] (.lit (.bool (smB n B))):=by
  obtain ⟨_,_,ho,hp,hi,hu,ht,ha⟩:=h
  have ht':=ht
  have hi':=hi
  have hu':=hu
  unfold maxLen at ht' hi' hu'
  generalize hR:smB n B=R
  unfold smB at hR
  simp only [bcV]
  refine pcR H1_ok (kp38) Try.func38 [.tmp 4] (h:=fun KF=>?_)
  unfold H1
  repeat' (first
   |(with_reducible first|refine nx ?_|refine t_seq fun K=>?_|refine t_br (fun hc=>?_) fun hc=>?_|refine t_bx ?_|apply And.intro|intro vr)
   |((with_reducible first|refine ny ?_|refine t_dwh (h:=fun K KL=>?_));intros;simp only [go_sem,kp38,geff]))
  all_goals try exact nd
  refine t_loopF (ι:={i:Nat // i≤B.types.length∧(((B.types.drop i).all fun t=> !fewT t)&&(fewO n B.ops&&decide ((B.ins.length:Int)≤6)&&decide ((B.outs.length:Int)≤6)&&decide ((B.types.length:Int)≤14)))=R}) (fun i=>[(5,.lit (.int .i64 i.1))]) (fun i=>[.box 45 [.lit (.int .i64 B.regs),.lit (.int .i64 B.arena),.sl false 6 (opsV B.ops),.sl false 2 (plsV B.ins),.sl false 2 (plsV B.outs),.sl false 3 (arrs B.types)]]) (fun i=>B.types.length - i.1) ⟨0,by omega,hR⟩ ?_ ?_
  ·exact lf
  rintro ⟨i,hi2,hF⟩ K0
  rcases Nat.lt_or_ge i B.types.length with hc|hc
  ·have g3:decide ((i:Int)<(B.types.length:Int))=true:=decide_eq_true (by omega)
   rw [drop_getD nilA hc,List.all_cons] at hF
   generalize hx:B.types.getD i nilA=x at hF
   obtain ⟨e,d,x⟩:=x
   have hpy:arrV ⟨e,d,x⟩= .agg [.lit (.string e),.sl false 1 (ints .i64 d),.sl false 1 (ints .i64 x)]:=rfl
   have hfe:(decide ((d.length:Int)>8)||decide ((e.size:Int)>20)||decide ((x.length:Int)>20))=fewT ⟨e,d,x⟩:=rfl
   cases hb:fewT ⟨e,d,x⟩ with
   |true=>
    rw [hb] at hF hfe
    repeat' (first
     |(with_reducible first|refine nx ?_|refine t_seq fun K=>?_|refine t_br (fun hc=>?_) fun hc=>?_|refine t_bx ?_|apply And.intro|intro vr)
     |((with_reducible first|refine ny ?_|refine t_dwh (h:=fun K KL=>?_));intros;simp only [go_sem,kp38,geff,g3,hx,hpy,ints_length,hfe,Int.toNat_natCast,yes]))
    all_goals try exact nd
    all_goals (refine nl ?_;simp only [go_sem])
    exact LeA.of_eq (by rw [←hF];rfl)
   |false=>
    rw [hb,Bool.not_false,Bool.true_and] at hF
    rw [hb] at hfe
    repeat' (first
     |(with_reducible first|refine nx ?_|refine t_seq fun K=>?_|refine t_br (fun hc=>?_) fun hc=>?_|refine t_bx ?_|apply And.intro|intro vr)
     |((with_reducible first|refine ny ?_|refine t_dwh (h:=fun K KL=>?_));intros;simp only [go_sem,kp38,geff,g3,hx,hpy,ints_length,hfe,Int.toNat_natCast,yes]))
    all_goals try exact nd
    exact ⟨⟨i+1,by omega,hF⟩,wf,lf⟩
  ·have g3:decide ((i:Int)<(B.types.length:Int))=false:=decide_eq_false (by omega)
   rw [List.drop_eq_nil_of_le hc] at hF
   repeat' (first
    |(with_reducible first|refine nx ?_|refine t_seq fun K=>?_|refine t_br (fun hc=>?_) fun hc=>?_|refine t_bx ?_|apply And.intro|intro vr)
    |((with_reducible first|refine ny ?_|refine t_dwh (h:=fun K KL=>?_));intros;simp only [go_sem,kp38,geff,g3]))
   all_goals try exact hp _ (by assumption)
   all_goals try exact nd
   all_goals (refine nl ?_;simp only [go_sem])
   exact LeA.of_eq (by rw [←hF];rfl)
noncomputable def con38:PCon Try.prog where
  f:=38
  c:=fun
   |[xB,.lit (.int .i64 n)]=>match bcOf xB with|some B=>some (ArgB B,.lit (.bool (smB n B)))|_=>none
   |_=>none
  ok:=by
   intro args p r hc hp
   split at hc
   ·split at hc
    ·rename_i hB
     cases hc
     exact PC.weak (sm_pc hp) ⟨bcOf_le hB,LeA.refl _,trivial⟩
    ·cases hc
   ·cases hc
  fk:=fk38
theorem con38_f:con38.f=38:=rfl
theorem con38_c {xB:AV} {n:Int}:con38.c [xB,.lit (.int .i64 n)]=match bcOf xB with|some B=>some (ArgB B,.lit (.bool (smB n B)))|_=>none:=rfl
attribute [go_sem] con38_f con38_c
noncomputable def H2:Env:=envJ (P:=Try.prog) jkR zer (fun _=>false) (fun _=>false) [con38] []
theorem H2_ok:EnvOk Try.prog H2:=envJOk zer_ok
def smallS (B:Prg):Bool:=smB 30 B&&decide (B.regs≤20)&&decide (B.arena≤1000)
theorem small_pc {B:Prg} (h:ArgB B):PC Try.prog 13 [bcV B] (.lit (.bool (smallS B))):=by
  simp only [bcV]
  refine pcR H2_ok (kp13) Try.func13 [.tmp 2] (h:=fun KF=>?_)
  unfold H2
  repeat' (first
   |(with_reducible first|refine nx ?_|refine t_seq fun K=>?_|refine t_br (fun hc=>?_) fun hc=>?_|refine t_bx ?_|apply And.intro|intro vr)
   |((with_reducible first|refine ny ?_|refine t_dwh (h:=fun K KL=>?_));intros;simp only [go_sem,kp13,geff,bcOf_B]))
  all_goals try exact nd
  all_goals (refine nl ?_;simp only [go_sem])
  exact LeA.refl _
noncomputable def con13:PCon Try.prog where
  f:=13
  c:=fun
   |[xB]=>match bcOf xB with|some B=>some (ArgB B,.lit (.bool (smallS B)))|_=>none
   |_=>none
  ok:=by
   intro args p r hc hp
   split at hc
   ·split at hc
    ·rename_i hB
     cases hc
     exact PC.weak (small_pc hp) ⟨bcOf_le hB,trivial⟩
    ·cases hc
   ·cases hc
  fk:=fk13
theorem con13_f:con13.f=13:=rfl
theorem con13_c {xB:AV}:con13.c [xB]=match bcOf xB with|some B=>some (ArgB B,.lit (.bool (smallS B)))|_=>none:=rfl
attribute [go_sem] con13_f con13_c
theorem small_inv {B:Prg} (h:smallS B=true):OkB B∧B.ins.length≤6∧B.outs.length≤6∧B.ops.length≤30∧B.regs≤20∧B.arena≤1000:=by
  simp only [smallS,smB,fewO,Bool.and_eq_true,decide_eq_true_eq] at h
  obtain ⟨⟨⟨h1,⟨⟨⟨h2,h3⟩,h4⟩,h5⟩,h6⟩,h7⟩,h8⟩:=h
  refine ⟨⟨by omega,by omega,by omega,by omega,fun t ht=>?_⟩,by omega,by omega,by omega,h7,h8⟩
  rw [List.all_eq_true] at h1
  have:=h1 t ht
  simp only [fewT,Bool.not_eq_true',Bool.or_eq_false_iff,decide_eq_false_iff_not] at this
  exact ⟨by omega,by omega⟩
end Go.Proofs.Ytnlimcijgpaegaa

namespace Go.Proofs.Ytnlimcijgpaegaa
open Go Go.Fw Bm
set_option maxRecDepth 20000
end Go.Proofs.Ytnlimcijgpaegaa

namespace Go.Proofs.Ytnlimcijgpaegaa.Mx
open Go.Proofs.Ytnlimcijgpaegaa
open Go Go.Fw Bm
set_option maxRecDepth 20000
noncomputable def con14:PCon Try.prog where
  f:=14
  c:=fun
   |[xB]=>match bcOf xB with|some B=>some (OkB B,.lit (.bool (validS B)))|_=>none
   |_=>none
  ok:=by
   intro args p r hc hp
   split at hc
   ·split at hc
    ·rename_i hB
     cases hc
     exact PC.weak (rvalid_pc hp) ⟨bcOf_le hB,trivial⟩
    ·cases hc
   ·cases hc
  fk:=fk14
theorem con14_f:con14.f=14:=rfl
theorem con14_c {xB:AV}:con14.c [xB]=match bcOf xB with|some B=>some (OkB B,.lit (.bool (validS B)))|_=>none:=rfl
structure ThOk (L:List (List Rng)):Prop where
  len:L.length≤1000000
  row:∀ r∈L,r.length≤1000000
attribute [go_sem] con14_f con14_c
noncomputable def con18 (L:List (List Rng)):PCon Try.prog where
  f:=18
  c:=fun args=> @ite (Option (Prop×AV)) (args=[.sl false 1 (bfsV L)]) (Classical.propDecidable _) (some (ThOk L,.sl false 1 (bfsV L))) none
  ok:=by
   intro args p r hc hp
   split at hc
   ·rename_i e
    subst e
    cases hc
    exact theirs_pc hp.len hp.row
   ·cases hc
  fk:=fk18
theorem con18_f {L:List (List Rng)}:(con18 L).f=18:=rfl
theorem con18_c {L:List (List Rng)}:(con18 L).c [.sl false 1 (bfsV L)]=some (ThOk L,.sl false 1 (bfsV L)):=if_pos rfl
attribute [go_sem] con18_f con18_c
noncomputable def L5 (L:List (List Rng)):Env:=envU Try.prog jkR zer (fun _=>false) (fun _=>false) [con9,con13,con14,con15,con16,con19,con18 L]
theorem L5_ok (L:List (List Rng)):EnvOk Try.prog (L5 L):=envUOk zer_ok
theorem ent_row {n:Nat} {L:List (List Rng)} (h:Ent n L) (hn:n≤1000000):∀ r∈L,r.length≤1000000:=fun r hr=>by
  obtain ⟨i,hi,rfl⟩:=List.getElem_of_mem hr
  have e:L[i]=L.getD i []:=by simp [List.getD,hi]
  rw [e]
  rcases h i with h|h
  ·rw [h];simp
  ·rw [h.1];exact hn
theorem gd_begin {n A:Nat} {ar:List Int} (h:ar.length=A) (hw:∀ k∈ar,vld sInt k=true):Gd n A 3000 ⟨List.replicate n 0,ar,0,0,0,0,[],3000,false,0,false⟩:=
  ⟨by simp,h,fun r hr=>by
    have:r=0:=List.eq_of_mem_replicate hr
    subst this;have:maxC=1099511627776:=rfl;omega,hw,by simp,by simp,by simp⟩
theorem exec1 {B:Prg} {mt:List Int} {S:List (List Rng)} {n m N:Nat} {cb:Int} (hK:Wk B mt n) (hS:Sn B S) (hcb:cb≤1000000) (hm:m≤1048576) {i to:Int} {s:St} {p0 q:AObj} {k:AV→List AObj→Prop} (h1:to - i≤N) (h2:Cl B mt i to) (h3:Gd n m cb s)
    (h:∀ s',Runs B mt S (.blk i to) s s'→Gd n m cb s'→k (.agg [.arr 1 0,.arr 2 0,.lit (.int .i64 s'.reads),.lit (.int .i64 s'.writes),.lit (.int .i64 s'.ops),.lit (.int .i64 s'.peak),.sl false 1 (ints .i64 s'.viol),.lit (.int .i64 s'.left),.lit (.bool s'.failed),.sl false 1 (bfsV S),.lit (.bool s'.out),.lit (.int .i64 s'.at_)]) [p0,.arr 3 1 (ints .i64 s'.regs) 0 false,.arr 3 1 (ints .i64 s'.arena) 0 false,q]):
    EC Try.prog 20 [.agg [.lit (.int .i64 B.regs),.lit (.int .i64 B.arena),.sl false 6 (opsV B.ops),.sl false 2 (plsV B.ins),.sl false 2 (plsV B.outs),.sl false 3 (arrs B.types)],.sl false 1 (ints .i64 mt),.lit (.int .i64 i),.lit (.int .i64 to),
     .agg [.arr 1 0,.arr 2 0,.lit (.int .i64 s.reads),.lit (.int .i64 s.writes),.lit (.int .i64 s.ops),.lit (.int .i64 s.peak),.sl false 1 (ints .i64 s.viol),.lit (.int .i64 s.left),.lit (.bool s.failed),.sl false 1 (bfsV S),.lit (.bool s.out),.lit (.int .i64 s.at_)]] [p0,.arr 3 1 (ints .i64 s.regs) 0 false,.arr 3 1 (ints .i64 s.arena) 0 false,q] k:=
  exec_all hK hS hcb hm N i to s [p0] [q] k h1 h2 h3 h
set_option maxHeartbeats 8000000 in
theorem law5 {B:Prg} {fill:List Int} (hA:ArgB B) (hf:fill.length≤maxLen):PC Try.prog 5 [bcV B,.sl false 1 (ints .i64 fill)] (.lit (.bool true)):=by
  unfold maxLen at hf
  simp only [bcV]
  cases hs:smallS B with
  |false=>
   refine pcR (L5_ok (beforeL B)) (kp5) Try.func5 [.tmp 4] (h:=fun KF=>?_)
   unfold L5
   repeat' (first
    |(with_reducible first|refine nx ?_|refine t_seq fun K=>?_|refine t_br (fun hc=>?_) fun hc=>?_|refine t_bx ?_|apply And.intro|intro vr)
    |((with_reducible first|refine ny ?_|refine t_dwh (h:=fun K KL=>?_));intros;simp only [go_sem,kp5,geff,bcOf_B,hs,Bool.not_true,Bool.not_false]))
   all_goals try exact nd
   all_goals (refine nl ?_;simp only [go_sem])
   exact LeA.refl _
  |true=>
   obtain ⟨hO,hi,hu,hl,hr,ha⟩:=small_inv hs
   have i1:B.ins.length≤100000:=by omega
   have i2:B.outs.length≤100000:=by omega
   cases hv:validS B with
   |false=>
    refine pcR (L5_ok (beforeL B)) (kp5) Try.func5 [.tmp 4] (h:=fun KF=>?_)
    unfold L5
    repeat' (first
     |(with_reducible first|refine nx ?_|refine t_seq fun K=>?_|refine t_br (fun hc=>?_) fun hc=>?_|refine t_bx ?_|apply And.intro|intro vr)
     |((with_reducible first|refine ny ?_|refine t_dwh (h:=fun K KL=>?_));intros;simp only [go_sem,kp5,geff,bcOf_B,hs,hv,Bool.not_true,Bool.not_false]))
    all_goals try exact nd
    all_goals (refine nl ?_;simp only [go_sem])
    exact LeA.refl _
   |true=>
    by_cases h50:(50:Int)<fill.length
    ·have g5:decide ((50:Int)<(fill.length:Int))=true:=decide_eq_true h50
     refine pcR (L5_ok (beforeL B)) (kp5) Try.func5 [.tmp 4] (h:=fun KF=>?_)
     unfold L5
     repeat' (first
      |(with_reducible first|refine nx ?_|refine t_seq fun K=>?_|refine t_br (fun hc=>?_) fun hc=>?_|refine t_bx ?_|apply And.intro|intro vr)
      |((with_reducible first|refine ny ?_|refine t_dwh (h:=fun K KL=>?_));intros;simp only [go_sem,kp5,geff,bcOf_B,hs,hv,g5,Bool.not_true,Bool.not_false]))
     all_goals try exact nd
     all_goals (refine nl ?_;simp only [go_sem])
     exact LeA.refl _
    ·have g5:decide ((50:Int)<(fill.length:Int))=false:=decide_eq_false h50
     obtain ⟨⟨r0,r1⟩,⟨a0,a1⟩,⟨mt,hm⟩,hR,_,_⟩:=valid_inv hv
     have hmv:matchV B.ops= .tup [.sl false 1 (ints .i64 mt),.lit (.bool true)]:=by unfold matchV;rw [hm]
     have hK:=wk_of hv hm (by omega)
     refine pcR (L5_ok (beforeL B)) (kp5) Try.func5 [.tmp 4] (h:=fun KF=>?_)
     unfold L5
     have hL0:B.ops.length≤1000000:=by omega
     obtain ⟨hEnt,_⟩:=before_inv hv hL0
     have hrow:=ent_row hEnt hK.n
     have hcl:Cl B mt 0 B.ops.length:=⟨Int.le_refl _,Int.le_refl _,fun j j0 j1 j2=>(hK.nest.at j0 j1 j2).2.1⟩
     have hvE:erV (verS B)= .tup [.lit (.int .i64 (verS B).1),.lit (.int .i64 (verS B).2)]:=rfl
     repeat' (first
      |(with_reducible first|refine nx ?_|refine t_seq fun K=>?_|refine t_br (fun hc=>?_) fun hc=>?_|refine t_bx ?_|apply And.intro|intro vr)
      |((with_reducible first|refine ny ?_|refine t_dwh (h:=fun K KL=>?_));intros;simp only [go_sem,kp5,geff,bcOf_B,hs,hv,g5,hmv,hvE,Bool.not_true,Bool.not_false,yes]))
     all_goals try exact nd
     refine ⟨fk17,start_ec ⟨r0,r1⟩ ⟨a0,a1⟩ (by omega) rfl fun ar e1 e2 _=>?_⟩
     have hgd:=gd_begin (n:=B.regs.toNat) (A:=B.arena.toNat) (ar:=ar) (by omega) e2
     obtain ⟨st,hst⟩:∃ st:St,st=⟨List.replicate B.regs.toNat 0,ar,0,0,0,0,[],3000,false,0,false⟩:=⟨_,rfl⟩
     have hbl:(beforeL B).length=B.ops.length:=(sound_run (st:=st) (st':=endR B mt (beforeL B) (.blk 0 B.ops.length) st) hv hL0 hm (by rw [hst]) (by rw [hst]) (by rw [hst];exact e2) (by rw [hst];exact e1) (by rw [hst]) endR_runs).2.2
     have hTh:ThOk (beforeL B):=⟨by omega,hrow⟩
     have hSn:Sn B (beforeL B):=⟨fun _=>hbl,hrow⟩
     repeat' (first
      |(with_reducible first|refine nx ?_|refine t_seq fun K=>?_|refine t_br (fun hc=>?_) fun hc=>?_|refine t_bx ?_|apply And.intro|intro vr)
      |((with_reducible first|refine ny ?_|refine t_dwh (h:=fun K KL=>?_));intros;simp only [go_sem,kp5,geff,bcOf_B,hbl,bne_self_eq_false,List.cons_append,List.nil_append,yes]))
     all_goals try exact hTh
     all_goals try exact nd
     refine ⟨fk20,exec1 hK hSn (by omega) (by omega) (N:=B.ops.length) (s:=⟨List.replicate B.regs.toNat 0,ar,0,0,0,0,[],3000,false,0,false⟩) (by omega) hcl hgd fun s' hrun hg'=>?_⟩
     obtain ⟨k1,k2,_⟩:=sound_run (st:=⟨List.replicate B.regs.toNat 0,ar,0,0,0,0,[],3000,false,0,false⟩) hv hL0 hm rfl rfl e2 e1 rfl hrun
     by_cases hz:(verS B).2=0
     ·obtain ⟨k3,k4⟩:=k2 hz
      have z1:((verS B).2 !=0)=false:=by simp [hz]
      have z2:((verS B).1==(B.ops.length:Int))=true:=by simp [k4]
      repeat' (first
       |(with_reducible first|refine nx ?_|refine t_seq fun K=>?_|refine t_br (fun hc=>?_) fun hc=>?_|refine t_bx ?_|apply And.intro|intro vr)
       |((with_reducible first|refine ny ?_|refine t_dwh (h:=fun K KL=>?_));intros;simp only [go_sem,kp5,geff,k1,k3,z1,z2,Bool.not_true,Bool.not_false,yes]))
      all_goals try exact nd
      all_goals (refine nl ?_;simp only [go_sem])
      exact LeA.of_eq rfl
     ·have z1:((verS B).2 !=0)=true:=by simpa using hz
      repeat' (first
       |(with_reducible first|refine nx ?_|refine t_seq fun K=>?_|refine t_br (fun hc=>?_) fun hc=>?_|refine t_bx ?_|apply And.intro|intro vr)
       |((with_reducible first|refine ny ?_|refine t_dwh (h:=fun K KL=>?_));intros;simp only [go_sem,kp5,geff,k1,z1,Bool.not_true,Bool.not_false,yes]))
      all_goals try exact nd
      all_goals (refine nl ?_;simp only [go_sem])
      exact LeA.of_eq rfl
theorem sound_law:∀ xs,ShL Try.prog Try.f5.params.toList xs→PC Try.prog 5 xs (.lit (.bool true))
  |[_,_],h=>by
   obtain ⟨B,rfl,hB⟩:=shv_bc h.1
   obtain ⟨l,rfl,hl,_⟩:=shv_ints (t:=34) (e:=3) (k:= .i64) (by kernel_rfl) (by kernel_rfl) (by kernel_rfl) h.2.1
   exact law5 hB hl
  |[],h=>h.elim
  |[_],h=>h.2.elim
  |_::_::_::_,h=>h.2.2.elim
end Go.Proofs.Ytnlimcijgpaegaa.Mx
