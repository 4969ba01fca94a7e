import Derived.Test.YtcpjahmajkhchaaGreatSB
import Derived.Test.YtcpjahmajkhchaaGreatFwB
import Derived.Test.YtcpjahmajkhchaaGreatSA
import Derived.Ground.Names2Prog
import Derived.Shelf.Slices.Delete
import Derived.Test.YtcpjahmajkhchaaGreatProg

set_option linter.all false

namespace Go.Proofs.YtcpjahmajkhchaaGreat
open Go Go.Fw
set_option maxRecDepth 20000
attribute [go_sem] con22_f con22_c con48_f con48_c
end Go.Proofs.YtcpjahmajkhchaaGreat

namespace Go.Proofs.YtcpjahmajkhchaaGreat
open Go Go.Fw
set_option maxRecDepth 20000
def scanG (c:List Stp):List Int→List Int→List Int
  |[],acc=>acc
  |n::t,acc=>scanG c t (acc++[if acc=[] then n else (runS c [lastI acc,n]).1])
def scanP (c:List Stp) (x:Arr):Arr×Int:=
  if (!(ofE x==0)|| !validC c 2)=true then (nilA,1) else if fitsS c x.e x true≠0 then (nilA,fitsS c x.e x true) else (⟨x.e,x.d,scanG c x.x []⟩,0)
theorem scanG_len {c:List Stp}:∀ (l acc:List Int),(scanG c l acc).length=acc.length+l.length
  |[],acc=>rfl
  |n::t,acc=>by rw [scanG,scanG_len t];simp;omega
end Go.Proofs.YtcpjahmajkhchaaGreat

namespace Go.Proofs.YtcpjahmajkhchaaGreat
open Go Go.Fw
set_option maxRecDepth 20000
noncomputable def A14:Env:=envJ (P:=Tryz.prog) jkR zer (fun _=>false) (fun _=>false) [] []
theorem A14_ok:EnvOk Tryz.prog A14:=envJOk zer_ok
theorem clone_ec {σ:List AObj} {l:List Int} {k:AV→List AObj→Prop} (hl:l.length≤1000000) (hk:k (.arr σ.length 0) (σ++[.arr 3 1 (ints .i64 l) 0 false])):EC Tryz.prog 71 [.sl false 1 (ints .i64 l)] σ k:=by
  refine EC.nilArr 3 1 ?_
  refine ecR A14_ok (kp71) Tryz.func71 [.tmp 2] (h:=fun KF=>?_)
  unfold A14
  repeat' (first
   |(with_reducible first|refine nx ?_|refine t_seq fun K=>?_|refine t_br (fun hc=>?_) fun hc=>?_|refine t_bx ?_|apply And.intro|intro vr)
   |((with_reducible first|refine ny ?_|refine t_dwh (h:=fun K KL=>?_));intros;simp only [go_sem,kp71,geff]))
  all_goals try exact nd
  all_goals (refine nl ?_;simp only [go_sem])
  ·exact .inr (by simp_all [ints])
  ·exact .inl hk
noncomputable def ecn71:ECon Tryz.prog where
  f:=71
  c:=fun args σ k=>match args with
   |[xl]=>match slK .i64 xl with|some l=>l.length≤1000000∧k (.arr σ.length 0) (σ++[.arr 3 1 (ints .i64 l) 0 false])|_=>False
   |_=>False
  ok:=by
   intro args σ k h
   split at h
   ·split at h
    ·rename_i hl
     exact EC.weak (clone_ec h.1 h.2) (LeRL.cons (slK_leR hl) (LeRL.nil))
    ·exact h.elim
   ·exact h.elim
  fk:=fk71
theorem ecn71_f:ecn71.f=71:=rfl
theorem ecn71_c {xl:AV} {σ:List AObj} {k:AV→List AObj→Prop}:ecn71.c [xl] σ k=match slK .i64 xl with|some l=>l.length≤1000000∧k (.arr σ.length 0) (σ++[.arr 3 1 (ints .i64 l) 0 false])|_=>False:=rfl
attribute [go_sem] con69_f con69_c con70_f con70_c ecn71_f ecn71_c
noncomputable def A15:Env:=envJ (P:=Tryz.prog) jkR zer (fun _=>false) (fun _=>false) [con69,con70] [ecn71]
theorem A15_ok:EnvOk Tryz.prog A15:=envJOk zer_ok
set_option maxHeartbeats 2000000 in
theorem of_ec {σ:List AObj} {e:ByteArray} {d x:List Int} {k:AV→List AObj→Prop} (hd:d.length≤1000000) (hx:x.length≤1000000) (h0:ofE ⟨e,d,x⟩=0)
    (hk:k (.tup [.agg [.lit (.string e),.arr (σ.length+1) 0,.arr (σ.length+2) 0],.lit (.int .i64 0)]) (σ++[.box 31 [.lit (.string e),.arr (σ.length+1) 0,.arr (σ.length+2) 0],.arr 3 1 (ints .i64 d) 0 false,.arr 3 1 (ints .i64 x) 0 false])):
    EC Tryz.prog 47 [.lit (.string e),.sl false 1 (ints .i64 d),.sl false 1 (ints .i64 x)] σ k:=by
  have hz:=sizeS_bd d
  refine ecR A15_ok (kp47) Tryz.func47 [.cell 6 31,.tmp 7] (h:=fun KF=>?_)
  unfold A15
  repeat' (first
   |(with_reducible first|refine nx ?_|refine t_seq fun K=>?_|refine t_br (fun hc=>?_) fun hc=>?_|refine t_bx ?_|apply And.intro|intro vr)
   |((with_reducible first|refine ny ?_|refine t_dwh (h:=fun K KL=>?_));intros;simp only [go_sem,kp47,geff]))
  all_goals try exact nd
  all_goals (refine nl ?_;simp only [go_sem])
  ·exfalso;simp_all [ofE,sInt,sBool]
  ·exfalso;revert h0;simp_all [ofE,sInt,sBool];split<;>simp_all
  ·exfalso;revert h0;simp_all [ofE,sInt,sBool];split<;>simp_all
  ·exfalso;revert h0;simp_all [ofE,sInt,sBool];split<;>simp_all
  ·exact hk
noncomputable def ecn47:ECon Tryz.prog where
  f:=47
  c:=fun args σ k=>match args with
   |[.lit (.string e),xd,xx]=>match slK .i64 xd,slK .i64 xx with|some d,some x=>d.length≤1000000∧x.length≤1000000∧ofE ⟨e,d,x⟩=0∧k (.tup [.agg [.lit (.string e),.arr (σ.length+1) 0,.arr (σ.length+2) 0],.lit (.int .i64 0)]) (σ++[.box 31 [.lit (.string e),.arr (σ.length+1) 0,.arr (σ.length+2) 0],.arr 3 1 (ints .i64 d) 0 false,.arr 3 1 (ints .i64 x) 0 false])|_,_=>False
   |_=>False
  ok:=by
   intro args σ k h
   split at h
   ·split at h
    ·rename_i hd hx
     exact EC.weak (of_ec h.1 h.2.1 h.2.2.1 h.2.2.2) (LeRL.cons (LeR.refl _) (LeRL.cons (slK_leR hd) (LeRL.cons (slK_leR hx) (LeRL.nil))))
    ·exact h.elim
   ·exact h.elim
  fk:=fk47
theorem ecn47_f:ecn47.f=47:=rfl
theorem ecn47_c {e:ByteArray} {xd:AV} {xx:AV} {σ:List AObj} {k:AV→List AObj→Prop}:ecn47.c [.lit (.string e),xd,xx] σ k=match slK .i64 xd,slK .i64 xx with|some d,some x=>d.length≤1000000∧x.length≤1000000∧ofE ⟨e,d,x⟩=0∧k (.tup [.agg [.lit (.string e),.arr (σ.length+1) 0,.arr (σ.length+2) 0],.lit (.int .i64 0)]) (σ++[.box 31 [.lit (.string e),.arr (σ.length+1) 0,.arr (σ.length+2) 0],.arr 3 1 (ints .i64 d) 0 false,.arr 3 1 (ints .i64 x) 0 false])|_,_=>False:=rfl
attribute [go_sem] ecn47_f ecn47_c ints_set
end Go.Proofs.YtcpjahmajkhchaaGreat

namespace Go.Proofs.YtcpjahmajkhchaaGreat
open Go Go.Fw
set_option maxRecDepth 20000
structure Sd (c:List Stp) (x G:List Int) where
  i:Nat
  acc:List Int
  hi:i≤x.length
  hp:1≤i
  hn:acc.length=i
  hF:scanG c (x.drop i) acc=G
theorem set_mid {acc:List Int} {a:Int} {t:List Int} {v:Int} {i:Nat} (h:acc.length=i):(acc++a::t).set i v=(acc++[v])++t:=by
  subst h;simp
theorem get_mid {acc:List Int} {a:Int} {t:List Int} {i:Nat} (h:acc.length=i):(acc++a::t).getD i 0=a:=by
  subst h;simp
theorem get_pre {acc t:List Int} {i:Nat} (h:acc.length=i) (h1:1≤i):(acc++t).getD (i - 1) 0=lastI acc:=by
  subst h
  unfold lastI
  rw [List.getD_eq_getElem?_getD,List.getD_eq_getElem?_getD,List.getElem?_append_left (by omega)]
noncomputable def A16:Env:=envJ (P:=Tryz.prog) jkR zer (fun _=>false) (fun _=>false) [con45,con13,con46,con11] [ecn47]
theorem A16_ok:EnvOk Tryz.prog A16:=envJOk zer_ok
set_option maxHeartbeats 4000000 in
theorem scan_pc {c:List Stp} {x:Arr} (hc0:okC c) (hx:okA x):PC Tryz.prog 18 [.sl false 3 (stps c),arrV x] (aeV (scanP c x)):=by
  generalize hR:scanP c x=R
  unfold scanP at hR
  obtain ⟨x1,x2⟩:=hx
  simp only [arrV]
  cases h1:(!(ofE x==0)|| !validC c 2) with
  |true=>
   rw [if_pos h1] at hR
   have h1':(!(ofE ⟨x.e,x.d,x.x⟩==0)|| !validC c 2)=true:=h1
   refine pcR A16_ok (kp18) Tryz.func18 [.cell 4 31,.tmp 5] (h:=fun KF=>?_)
   unfold A16
   repeat' (first
    |(with_reducible first|refine nx ?_|refine t_seq fun K=>?_|refine t_br (fun hc=>?_) fun hc=>?_|refine t_bx ?_|apply And.intro|intro vr)|exact kpd
    |((with_reducible first|refine ny ?_|refine t_kLF ?_ ?_|refine t_drawE (id:=10) (fun i=>i==5) [(0,1),(1,1),(2,1),(3,1),(4,1),(5,1),(6,1),(7,1),(8,2),(9,2),(10,1),(11,1),(12,1),(13,2),(14,2),(15,1),(16,1),(17,1),(18,1),(19,1),(20,2),(21,0)] (by kernel_rfl) fun K=>?_|refine t_dwh (h:=fun K KL=>?_));intros;simp only [go_sem,kp18,geff,h1',stpsOf_sl]))
   all_goals try exact nd
   all_goals (refine nl ?_;simp only [go_sem])
   exact ae_of rfl rfl hR.symm
  |false=>
   rw [if_neg (by rw [h1];decide)] at hR
   have h1':(!(ofE ⟨x.e,x.d,x.x⟩==0)|| !validC c 2)=false:=h1
   have hq:ofE x=0∧validC c 2=true:=by
     simp only [Bool.or_eq_false_iff,Bool.not_eq_false',beq_iff_eq] at h1;exact h1
   generalize hE:fitsS c x.e x true=e at hR
   have hE':fitsS c x.e ⟨x.e,x.d,x.x⟩ true=e:=hE
   by_cases h2:e=0
   ·subst h2
    rw [if_neg (by simp)] at hR
    have hxl:x.x.length≤4096:=by have:=(sizeS_ok (ofE_inv hq.1).2.1).2.2.2;omega
    have hsl:=scanG_len (c:=c) x.x []
    have h0':ofE ⟨x.e,x.d,x.x⟩=0:=hq.1
    have hv2:=hq.2
    rcases Nat.eq_zero_or_pos x.x.length with hz0|hl1
    ·have hX:x.x=[]:=List.eq_nil_of_length_eq_zero hz0
     rw [hX] at hR
     rw [hX] at h1' hE' h0'
     refine pcR A16_ok (kp18) Tryz.func18 [.cell 4 31,.tmp 5] (h:=fun KF=>?_)
     unfold A16
     repeat' (first
      |(with_reducible first|refine nx ?_|refine t_seq fun K=>?_|refine t_br (fun hc=>?_) fun hc=>?_|refine t_bx ?_|apply And.intro|intro vr)|exact kpd
      |((with_reducible first|refine ny ?_|refine t_kLF ?_ ?_|refine t_drawE (id:=10) (fun i=>i==5) [(0,1),(1,1),(2,1),(3,1),(4,1),(5,1),(6,1),(7,1),(8,2),(9,2),(10,1),(11,1),(12,1),(13,2),(14,2),(15,1),(16,1),(17,1),(18,1),(19,1),(20,2),(21,0)] (by kernel_rfl) fun K=>?_|refine t_dwh (h:=fun K KL=>?_));intros;simp only [go_sem,kp18,geff,hX,h1',hE',h0',hv2,Bool.not_true,beq_self_eq_true,stpsOf_sl,ints_nil]))
     all_goals try exact nd
     refine t_loopF (ι:=Unit) (fun i=>[(9,.lit (.int .i64 1))]) (fun i=>[.box 31 [.lit (.string x.e),.sl false 1 (ints .i64 x.d),.sl false 1 []],.box 31 [.lit (.string ByteArray.empty),.sl true 1 [],.sl true 1 []],.box 31 [.lit (.string x.e),.arr 3 0,.arr 4 0],.arr 3 1 (ints .i64 x.d) 0 false,.arr 3 1 [] 0 false,.box 31 [.lit (.string x.e),.arr 3 0,.arr 4 0]]) (fun i=>0) () ?_ ?_
     ·exact lf
     rintro _ K0
     repeat' (first
      |(with_reducible first|refine nx ?_|refine t_seq fun K=>?_|refine t_br (fun hc=>?_) fun hc=>?_|refine t_bx ?_|apply And.intro|intro vr)|exact kpd
      |((with_reducible first|refine ny ?_|refine t_kLF ?_ ?_|refine t_drawE (id:=10) (fun i=>i==5) [(0,1),(1,1),(2,1),(3,1),(4,1),(5,1),(6,1),(7,1),(8,2),(9,2),(10,1),(11,1),(12,1),(13,2),(14,2),(15,1),(16,1),(17,1),(18,1),(19,1),(20,2),(21,0)] (by kernel_rfl) fun K=>?_|refine t_dwh (h:=fun K KL=>?_));intros;simp only [go_sem,kp18,geff,Int.toNat_natCast]))
     all_goals try exact nd
     all_goals (refine nl ?_;simp only [go_sem])
     exact ae_of slK_sl rfl hR.symm
    ·obtain ⟨a0,hX0⟩:∃ a0,x.x=[a0]++x.x.drop 1:=by
       rcases hh:x.x with _|⟨a0,t0⟩
       ·rw [hh] at hl1;simp at hl1
       ·exact ⟨a0,rfl⟩
     generalize hG:scanG c x.x []=G at hR hsl
     have hG1:scanG c (x.x.drop 1) [a0]=G:=by
       rw [←hG]
       conv=>rhs;rw [hX0]
       rfl
     refine pcR A16_ok (kp18) Tryz.func18 [.cell 4 31,.tmp 5] (h:=fun KF=>?_)
     unfold A16
     repeat' (first
      |(with_reducible first|refine nx ?_|refine t_seq fun K=>?_|refine t_br (fun hc=>?_) fun hc=>?_|refine t_bx ?_|apply And.intro|intro vr)|exact kpd
      |((with_reducible first|refine ny ?_|refine t_kLF ?_ ?_|refine t_drawE (id:=10) (fun i=>i==5) [(0,1),(1,1),(2,1),(3,1),(4,1),(5,1),(6,1),(7,1),(8,2),(9,2),(10,1),(11,1),(12,1),(13,2),(14,2),(15,1),(16,1),(17,1),(18,1),(19,1),(20,2),(21,0)] (by kernel_rfl) fun K=>?_|refine t_dwh (h:=fun K KL=>?_));intros;simp only [go_sem,kp18,geff,h1',hE',h0',hv2,Bool.not_true,beq_self_eq_true,stpsOf_sl]))
     all_goals try exact nd
     refine t_loopF (ι:=Sd c x.x G) (fun i=>[(9,.lit (.int .i64 i.i))]) (fun i=>[.box 31 [.lit (.string x.e),.sl false 1 (ints .i64 x.d),.sl false 1 (ints .i64 x.x)],.box 31 [.lit (.string ByteArray.empty),.sl true 1 [],.sl true 1 []],.box 31 [.lit (.string x.e),.arr 3 0,.arr 4 0],.arr 3 1 (ints .i64 x.d) 0 false,.arr 3 1 (ints .i64 (i.acc++x.x.drop i.i)) 0 false,.box 31 [.lit (.string x.e),.arr 3 0,.arr 4 0]]) (fun i=>x.x.length - i.i) ⟨1,[a0],by omega,by omega,rfl,hG1⟩ ?_ ?_
     ·simp only [updL_nil,updL_cons,delF_top,delF_upd,Nat.reduceEqDiff,reduceIte,←hX0]
      refine Le.frameS (by first|rfl|(simp only [go_sem];try rfl)) ?_
      repeat' (first|exact leF_top _|exact (fun _=>LeR.refl _)|(with_reducible refine leF_sl ?_ ?_)|(refine leF_upd ?_ ?_))
      all_goals (first|exact LeR.top _|exact LeR.refl _|(refine LeR.of_eq ?_;(try simp only [go_sem]);try rfl)|((try simp only [go_sem]);try rfl))
     rintro ⟨i,acc,hi,hp,hn,hF⟩ K0
     simp only
     have hla:(acc++x.x.drop i).length=x.x.length:=by rw [List.length_append,List.length_drop];omega
     rcases Nat.lt_or_ge i x.x.length with hc|hc
     ·have hdr:=drop_getD (0:Int) hc
      have hsc:scanG c (x.x.drop i) acc=scanG c (x.x.drop (i+1)) (acc++[(runS c [lastI acc,x.x.getD i 0]).1]):=by
        rw [hdr,scanG,if_neg (fun e=>by rw [e] at hn;simp at hn;omega)]
      have g3:decide ((i:Int)<(x.x.length:Int))=true:=decide_eq_true (by omega)
      have e1:((i:Int) - 1).toNat=i - 1:=by omega
      have p1:=get_pre (t:=x.x.drop i) hn hp
      have p2:(acc++x.x.drop i).getD i 0=x.x.getD i 0:=by rw [hdr];exact get_mid hn
      have p3:∀ v,(acc++x.x.drop i).set i v=(acc++[v])++x.x.drop (i+1):=fun v=>by rw [hdr];exact set_mid hn
      repeat' (first
       |(with_reducible first|refine nx ?_|refine t_seq fun K=>?_|refine t_br (fun hc=>?_) fun hc=>?_|refine t_bx ?_|apply And.intro|intro vr)|exact kpd
       |((with_reducible first|refine ny ?_|refine t_kLF ?_ ?_|refine t_drawE (id:=10) (fun i=>i==5) [(0,1),(1,1),(2,1),(3,1),(4,1),(5,1),(6,1),(7,1),(8,2),(9,2),(10,1),(11,1),(12,1),(13,2),(14,2),(15,1),(16,1),(17,1),(18,1),(19,1),(20,2),(21,0)] (by kernel_rfl) fun K=>?_|refine t_dwh (h:=fun K KL=>?_));intros;simp only [go_sem,kp18,geff,g3,hla,e1,p1,p2,p3,stpsOf_sl,Int.toNat_natCast,yes,ints_set]))
      all_goals try exact nd
      all_goals trace_state
      exact ⟨⟨i+1,acc++[(runS c [lastI acc,x.x.getD i 0]).1],by omega,by omega,by simp;omega,by rw [←hsc];exact hF⟩,wf,lf⟩
     ·have g3:decide ((i:Int)<(x.x.length:Int))=false:=decide_eq_false (by omega)
      rw [List.drop_eq_nil_of_le hc,scanG] at hF
      subst hF
      have p4:acc++x.x.drop i=acc:=by rw [List.drop_eq_nil_of_le hc,List.append_nil]
      rw [p4] at hla
      repeat' (first
       |(with_reducible first|refine nx ?_|refine t_seq fun K=>?_|refine t_br (fun hc=>?_) fun hc=>?_|refine t_bx ?_|apply And.intro|intro vr)|exact kpd
       |((with_reducible first|refine ny ?_|refine t_kLF ?_ ?_|refine t_drawE (id:=10) (fun i=>i==5) [(0,1),(1,1),(2,1),(3,1),(4,1),(5,1),(6,1),(7,1),(8,2),(9,2),(10,1),(11,1),(12,1),(13,2),(14,2),(15,1),(16,1),(17,1),(18,1),(19,1),(20,2),(21,0)] (by kernel_rfl) fun K=>?_|refine t_dwh (h:=fun K KL=>?_));intros;simp only [go_sem,kp18,geff,g3,hla,p4,Int.toNat_natCast]))
      all_goals try exact nd
      all_goals (refine nl ?_;simp only [go_sem])
      exact ae_of slK_sl slK_sl hR.symm
   ·rw [if_pos h2] at hR
    have h2':(e !=0)=true:=bne_iff_ne.2 h2
    refine pcR A16_ok (kp18) Tryz.func18 [.cell 4 31,.tmp 5] (h:=fun KF=>?_)
    unfold A16
    repeat' (first
     |(with_reducible first|refine nx ?_|refine t_seq fun K=>?_|refine t_br (fun hc=>?_) fun hc=>?_|refine t_bx ?_|apply And.intro|intro vr)|exact kpd
     |((with_reducible first|refine ny ?_|refine t_kLF ?_ ?_|refine t_drawE (id:=10) (fun i=>i==5) [(0,1),(1,1),(2,1),(3,1),(4,1),(5,1),(6,1),(7,1),(8,2),(9,2),(10,1),(11,1),(12,1),(13,2),(14,2),(15,1),(16,1),(17,1),(18,1),(19,1),(20,2),(21,0)] (by kernel_rfl) fun K=>?_|refine t_dwh (h:=fun K KL=>?_));intros;simp only [go_sem,kp18,geff,h1',hE',h2',stpsOf_sl]))
    all_goals try exact nd
    all_goals (refine nl ?_;simp only [go_sem])
    exact ae_of rfl rfl hR.symm
noncomputable def con18:PCon Tryz.prog where
  f:=18
  c:=fun
   |[xc,xx]=>match stpsOf xc,arrOf xx with|some c,some x=>some (okC c∧okA x,aeV (scanP c x))|_,_=>none
   |_=>none
  ok:=by
   intro args p r hc hp
   split at hc
   ·split at hc
    ·rename_i hc hx
     cases hc
     exact PC.weak ((fun hp:_∧_=>scan_pc hp.1 hp.2) hp) ⟨stpsOf_le hc,arrOf_le hx,trivial⟩
    ·cases hc
   ·cases hc
  fk:=fk18
theorem con18_f:con18.f=18:=rfl
theorem con18_c {xc:AV} {xx:AV}:con18.c [xc,xx]=match stpsOf xc,arrOf xx with|some c,some x=>some (okC c∧okA x,aeV (scanP c x))|_,_=>none:=rfl
attribute [go_sem] con18_f con18_c
end Go.Proofs.YtcpjahmajkhchaaGreat

namespace Go.Proofs.YtcpjahmajkhchaaGreat
open Go Go.Fw
set_option maxRecDepth 20000
def dV (r:List Int×Int):AV:= .tup [.sl false 1 (ints .i64 r.1),.lit (.int .i64 r.2)]
theorem dV_def {r:List Int×Int}:dV r= .tup [.sl false 1 (ints .i64 r.1),.lit (.int .i64 r.2)]:=rfl
theorem dv_of {x:AV} {n:Int} {l:List Int} {r:List Int×Int} (h:slK .i64 x=some l) (e:r=(l,n)):LeA (.tup [x,.lit (.int .i64 n)]) (dV r):=by
  subst e;exact LeA.tup ⟨slK_le h,LeA.refl _,trivial⟩
def partS (k n:Int):Int:=if k<0∨k>n then 2 else 0
def w64 (n:Int):Int:=IntKind.i64.wrap n
def dimsS (g:Nat) (k:Int) (ds:List (List Int)):List Int×Int:=
  let a:=(ds.getD 0 []).getD 0 0
  let b:=(ds.getD 0 []).getD 1 0
  match g with
  |134=>([k],partS k (maxI k 0))
  |136=>([k],partS k a)
  |139=>([w64 (a - k)],partS k a)
  |141=>(ds.getD 0 [],0)
  |143=>([a+(ds.getD 1 []).getD 0 0],0)
  |144=>([b,a],0)
  |146=>if a≠b then ([],14) else ([a],0)
  |148=>([w64 (w64 (a - k)+1),k],partS k a)
  |150=>if k<1∨k>64 then ([],2) else if a.tmod k≠0 then ([],14) else ([a.tdiv k,k],0)
  |152=>([],0)
  |128=>([(ds.length:Int)],0)
  |_=>([],0)
def dimsP (g:Nat) (ds:List (List Int)):Prop:=
  match g with
  |136|139|148|150=>0<ds.length∧0<(ds.getD 0 []).length
  |141=>0<ds.length
  |143=>1<ds.length∧0<(ds.getD 0 []).length∧0<(ds.getD 1 []).length
  |144|146=>0<ds.length∧1<(ds.getD 0 []).length
  |_=>True
def ilBd (ds:List (List Int)):Prop:=∀ d∈ds,∀ x∈d,0≤x∧x≤4096
theorem ilBd_get {ds:List (List Int)} (h:ilBd ds) (i j:Nat):0≤(ds.getD i []).getD j 0∧(ds.getD i []).getD j 0≤4096:=by
  by_cases h1:i<ds.length
  ·by_cases h2:j<(ds.getD i []).length
   ·have e1:ds.getD i []∈ds:=by rw [List.getD_eq_getElem?_getD,List.getElem?_eq_getElem h1];exact List.getElem_mem h1
    have e2:(ds.getD i []).getD j 0∈ds.getD i []:=by
      generalize ds.getD i []=d at h2
      rw [List.getD_eq_getElem?_getD,List.getElem?_eq_getElem h2];exact List.getElem_mem h2
    exact h _ e1 _ e2
   ·have:(ds.getD i []).getD j 0=0:=by
      generalize ds.getD i []=d at h2
      rw [List.getD_eq_getElem?_getD,List.getElem?_eq_none (by omega)];rfl
    omega
  ·have:ds.getD i []=[]:=by rw [List.getD_eq_getElem?_getD,List.getElem?_eq_none (by omega)];rfl
   rw [this];simp
noncomputable def F1:Env:=envJ (P:=Tryz.prog) jk zer (fun _=>false) (fun _=>false) [] []
theorem F1_ok:EnvOk Tryz.prog F1:=envJOk zer_ok
theorem part_pc {k n:Int}:PC Tryz.prog 137 [.lit (.int .i64 k),.lit (.int .i64 n)] (.lit (.int .i64 (partS k n))):=by
  refine pcR F1_ok (fun _=>[0,1,4,11]) Tryz.func137 [.tmp 4] (h:=fun KF=>?_)
  unfold F1
  repeat' (first
   |(with_reducible first|refine nx ?_|refine t_seq fun K=>?_|refine t_br (fun hc=>?_) fun hc=>?_|refine t_bx ?_|apply And.intro|intro vr)
   |((with_reducible first|refine ny ?_|refine t_dwh (h:=fun K KL=>?_));intros;simp only [go_sem,geff]))
  all_goals try exact nd
  all_goals (refine nl ?_;simp only [go_sem])
  ·refine LeA.of_eq ?_
   unfold partS
   rw [if_pos (by simpa using hc)]
  ·refine LeA.of_eq ?_
   unfold partS
   rw [if_neg (by simpa using hc)]
noncomputable def con137:PCon Tryz.prog where
  f:=137
  c:=fun
   |[.lit (.int .i64 k),.lit (.int .i64 n)]=>some (True,.lit (.int .i64 (partS k n)))
   |_=>none
  ok:=by
   intro args p r hc hp
   split at hc
   ·cases hc;exact part_pc
   ·cases hc
  fk:=fk137
theorem con137_f:con137.f=137:=rfl
theorem con137_c {k:Int} {n:Int}:con137.c [.lit (.int .i64 k),.lit (.int .i64 n)]=some (True,.lit (.int .i64 (partS k n))):=rfl
noncomputable def F2:Env:=envJ (P:=Tryz.prog) jk zer (fun _=>false) (fun _=>false) [con137] []
theorem F2_ok:EnvOk Tryz.prog F2:=envJOk zer_ok
noncomputable def F3:Env:=envJ (P:=Tryz.prog) jk zer (fun t=>t==12||t==13) (fun _=>false) [con137] []
theorem F3_ok:EnvOk Tryz.prog F3:=envJOk zer_ok
theorem tdiv_bd {a k:Int} (h:0≤a∧a≤4096) (hk:1≤k):0≤a.tdiv k∧a.tdiv k≤4096:=by
  rw [Int.tdiv_eq_ediv_of_nonneg h.1]
  exact ⟨Int.ediv_nonneg h.1 (by omega),Int.le_trans (Int.ediv_le_self _ h.1) h.2⟩
set_option maxHeartbeats 2000000 in
theorem dims_pc {g:FuncId} (hg:g∈[134,136,139,141,143,144,146,148,150,152,128]) {k:Int} {ds:List (List Int)} (hl:ds.length≤1000000) (hp:dimsP g ds) (hb:ilBd ds):
    PC Tryz.prog g [.lit (.int .i64 k),.sl false 1 (ils ds)] (dV (dimsS g k ds)):=by
  have h00:=ilBd_get hb 0 0
  have h01:=ilBd_get hb 0 1
  have h10:=ilBd_get hb 1 0
  have w1:∀ n,(0≤n∧n≤10000)→IntKind.i64.wrap n=n:=fun n h=>wrap_i64 (by unfold inI64;omega)
  have w2:=w1 ((ds.getD 0 []).getD 0 0+(ds.getD 1 []).getD 0 0) (by omega)
  simp only [List.mem_cons,List.not_mem_nil,or_false] at hg
  rcases hg with rfl|rfl|rfl|rfl|rfl|rfl|rfl|rfl|rfl|rfl|rfl<;>simp only [dimsP] at hp
  ·skip
   refine pcR F2_ok (fun _=>[0,4,5]) Tryz.func134 [.tmp 4,.tmp 5] (h:=fun KF=>?_)
   unfold F2
   repeat' (first
    |(with_reducible first|refine nx ?_|refine t_seq fun K=>?_|refine t_br (fun hc=>?_) fun hc=>?_|refine t_bx ?_|apply And.intro|intro vr)
    |((with_reducible first|refine ny ?_|refine t_dwh (h:=fun K KL=>?_));intros;simp only [go_sem,geff,con137_f,con137_c,ils_length]))
   all_goals try exact nd
   all_goals (refine nl ?_;simp only [go_sem])
   all_goals exact dv_of (by first|exact slK_sl|rfl) (by simp_all [dimsS,w64])
  ·skip
   refine pcR F2_ok (fun _=>[0,1,4,5]) Tryz.func136 [.tmp 4,.tmp 5] (h:=fun KF=>?_)
   unfold F2
   repeat' (first
    |(with_reducible first|refine nx ?_|refine t_seq fun K=>?_|refine t_br (fun hc=>?_) fun hc=>?_|refine t_bx ?_|apply And.intro|intro vr)
    |((with_reducible first|refine ny ?_|refine t_dwh (h:=fun K KL=>?_));intros;simp only [go_sem,geff,con137_f,con137_c,ils_length]))
   all_goals try exact nd
   all_goals (refine nl ?_;simp only [go_sem])
   all_goals exact dv_of (by first|exact slK_sl|rfl) (by simp_all [dimsS,w64])
  ·skip
   refine pcR F3_ok (fun _=>[0,1,4,5]) Tryz.func139 [.tmp 4,.tmp 5] (h:=fun KF=>?_)
   unfold F3
   repeat' (first
    |(with_reducible first|refine nx ?_|refine t_seq fun K=>?_|refine t_br (fun hc=>?_) fun hc=>?_|refine t_bx ?_|apply And.intro|intro vr)
    |((with_reducible first|refine ny ?_|refine t_dwh (h:=fun K KL=>?_));intros;simp only [go_sem,geff,con137_f,con137_c,ils_length]))
   all_goals try exact nd
   all_goals (refine nl ?_;simp only [go_sem])
   all_goals exact dv_of (by first|exact slK_sl|rfl) (by simp_all [dimsS,w64])
  ·skip
   refine pcR F2_ok (fun _=>[1,4,5]) Tryz.func141 [.tmp 4,.tmp 5] (h:=fun KF=>?_)
   unfold F2
   repeat' (first
    |(with_reducible first|refine nx ?_|refine t_seq fun K=>?_|refine t_br (fun hc=>?_) fun hc=>?_|refine t_bx ?_|apply And.intro|intro vr)
    |((with_reducible first|refine ny ?_|refine t_dwh (h:=fun K KL=>?_));intros;simp only [go_sem,geff,con137_f,con137_c,ils_length]))
   all_goals try exact nd
   all_goals (refine nl ?_;simp only [go_sem])
   all_goals exact dv_of (by first|exact slK_sl|rfl) (by simp_all [dimsS,w64])
  ·skip
   refine pcR F2_ok (fun _=>[1,4,5]) Tryz.func143 [.tmp 4,.tmp 5] (h:=fun KF=>?_)
   unfold F2
   repeat' (first
    |(with_reducible first|refine nx ?_|refine t_seq fun K=>?_|refine t_br (fun hc=>?_) fun hc=>?_|refine t_bx ?_|apply And.intro|intro vr)
    |((with_reducible first|refine ny ?_|refine t_dwh (h:=fun K KL=>?_));intros;simp only [go_sem,geff,con137_f,con137_c,ils_length,w2]))
   all_goals try exact nd
   all_goals (refine nl ?_;simp only [go_sem])
   all_goals exact dv_of (by first|exact slK_sl|rfl) (by simp_all [dimsS,w64])
  ·skip
   refine pcR F2_ok (fun _=>[1,4,5]) Tryz.func144 [.tmp 4,.tmp 5] (h:=fun KF=>?_)
   unfold F2
   repeat' (first
    |(with_reducible first|refine nx ?_|refine t_seq fun K=>?_|refine t_br (fun hc=>?_) fun hc=>?_|refine t_bx ?_|apply And.intro|intro vr)
    |((with_reducible first|refine ny ?_|refine t_dwh (h:=fun K KL=>?_));intros;simp only [go_sem,geff,con137_f,con137_c,ils_length]))
   all_goals try exact nd
   all_goals (refine nl ?_;simp only [go_sem])
   all_goals exact dv_of (by first|exact slK_sl|rfl) (by simp_all [dimsS,w64])
  ·skip
   refine pcR F2_ok (fun _=>[1,4,5,16]) Tryz.func146 [.tmp 4,.tmp 5] (h:=fun KF=>?_)
   unfold F2
   repeat' (first
    |(with_reducible first|refine nx ?_|refine t_seq fun K=>?_|refine t_br (fun hc=>?_) fun hc=>?_|refine t_bx ?_|apply And.intro|intro vr)
    |((with_reducible first|refine ny ?_|refine t_dwh (h:=fun K KL=>?_));intros;simp only [go_sem,geff,con137_f,con137_c,ils_length]))
   all_goals try exact nd
   all_goals (refine nl ?_;simp only [go_sem])
   ·exact dv_of (by first|exact slK_sl|rfl) (by simp_all [dimsS,w64])
   ·refine dv_of slK_sl ?_
    have e:List.take 1 (ds.getD 0 [])=[(ds.getD 0 []).getD 0 0]:=by
      generalize ds.getD 0 []=d at hp
      match d,hp with
      |a::_,_=>rfl
    rw [e]
    simp_all [dimsS]
  ·skip
   refine pcR F3_ok (fun _=>[0,1,4,5]) Tryz.func148 [.tmp 4,.tmp 5] (h:=fun KF=>?_)
   unfold F3
   repeat' (first
    |(with_reducible first|refine nx ?_|refine t_seq fun K=>?_|refine t_br (fun hc=>?_) fun hc=>?_|refine t_bx ?_|apply And.intro|intro vr)
    |((with_reducible first|refine ny ?_|refine t_dwh (h:=fun K KL=>?_));intros;simp only [go_sem,geff,con137_f,con137_c,ils_length]))
   all_goals try exact nd
   all_goals (refine nl ?_;simp only [go_sem])
   all_goals exact dv_of (by first|exact slK_sl|rfl) (by simp_all [dimsS,w64])
  ·skip
   have ht:(decide (k<1)||decide (k>64))=false→inI64 (((ds.getD 0 []).getD 0 0).tdiv k):=fun h=>by
     simp only [Bool.or_eq_false_iff,decide_eq_false_iff_not] at h
     have:=tdiv_bd h00 (k:=k) (by omega)
     unfold inI64;omega
   refine pcR F2_ok (fun _=>[0,1,4,5,6,13]) Tryz.func150 [.tmp 4,.tmp 5] (h:=fun KF=>?_)
   unfold F2
   repeat' (first
    |(with_reducible first|refine nx ?_|refine t_seq fun K=>?_|refine t_br (fun hc=>?_) fun hc=>?_|refine t_bx ?_|apply And.intro|intro vr)
    |((with_reducible first|refine ny ?_|refine t_dwh (h:=fun K KL=>?_));intros;simp only [go_sem,geff,con137_f,con137_c,ils_length]))
   all_goals try exact ht ‹_›
   all_goals try exact nd
   all_goals (refine nl ?_;simp only [go_sem])
   ·refine dv_of rfl ?_
    simp only [Bool.or_eq_true,decide_eq_true_eq] at hc
    simp only [dimsS];rw [if_pos hc]
   ·refine dv_of rfl ?_
    revert hc
    simp only [Bool.or_eq_false_iff,decide_eq_false_iff_not] at*
    intro hc
    simp only [dimsS];rw [if_neg (by omega),if_pos (by simpa using hc)]
   ·refine dv_of rfl ?_
    revert hc
    simp only [Bool.or_eq_false_iff,decide_eq_false_iff_not] at*
    intro hc
    simp only [dimsS];rw [if_neg (by omega),if_neg (by simpa using hc)]
  ·skip
   refine pcR F2_ok (fun _=>[4,5]) Tryz.func152 [.tmp 4,.tmp 5] (h:=fun KF=>?_)
   unfold F2
   repeat' (first
    |(with_reducible first|refine nx ?_|refine t_seq fun K=>?_|refine t_br (fun hc=>?_) fun hc=>?_|refine t_bx ?_|apply And.intro|intro vr)
    |((with_reducible first|refine ny ?_|refine t_dwh (h:=fun K KL=>?_));intros;simp only [go_sem,geff,con137_f,con137_c,ils_length]))
   all_goals try exact nd
   all_goals (refine nl ?_;simp only [go_sem])
   all_goals exact dv_of (by first|exact slK_sl|rfl) (by simp_all [dimsS,w64])
  ·skip
   refine pcR F2_ok (fun _=>[1,4,5]) Tryz.func128 [.tmp 4,.tmp 5] (h:=fun KF=>?_)
   unfold F2
   repeat' (first
    |(with_reducible first|refine nx ?_|refine t_seq fun K=>?_|refine t_br (fun hc=>?_) fun hc=>?_|refine t_bx ?_|apply And.intro|intro vr)
    |((with_reducible first|refine ny ?_|refine t_dwh (h:=fun K KL=>?_));intros;simp only [go_sem,geff,con137_f,con137_c,ils_length]))
   all_goals try exact nd
   all_goals (refine nl ?_;simp only [go_sem])
   all_goals exact dv_of (by first|exact slK_sl|rfl) (by simp_all [dimsS,w64])
end Go.Proofs.YtcpjahmajkhchaaGreat

namespace Go.Proofs.YtcpjahmajkhchaaGreat
open Go Go.Fw
set_option maxRecDepth 20000
def n_iota:ByteArray:=⟨#[105,111,116,97]⟩
def n_fill:ByteArray:=⟨#[102,105,108,108]⟩
def n_take:ByteArray:=⟨#[116,97,107,101]⟩
def n_drop:ByteArray:=⟨#[100,114,111,112]⟩
def n_reverse:ByteArray:=⟨#[114,101,118,101,114,115,101]⟩
def n_append:ByteArray:=⟨#[97,112,112,101,110,100]⟩
def n_transpose:ByteArray:=⟨#[116,114,97,110,115,112,111,115,101]⟩
def n_diagonal:ByteArray:=⟨#[100,105,97,103,111,110,97,108]⟩
def n_windows:ByteArray:=⟨#[119,105,110,100,111,119,115]⟩
def n_chunk:ByteArray:=⟨#[99,104,117,110,107]⟩
def n_index:ByteArray:=⟨#[105,110,100,101,120]⟩
def n_update:ByteArray:=⟨#[117,112,100,97,116,101]⟩
def n_pack:ByteArray:=⟨#[112,97,99,107]⟩
structure Ent where
  op:ByteArray
  sized:Bool
  ranks:List Int
  dims:Option Nat
  from_:Option Nat
def fnV:Option Nat→AV
  |some g=> .fn (.func g) [] []
  |none=> .lit .nilFunc
def entV (e:Ent):AV:= .agg [.lit (.string e.op),.lit (.bool e.sized),.sl false 1 (ints .i64 e.ranks),fnV e.dims,fnV e.from_]
theorem entV_def {e:Ent}:entV e= .agg [.lit (.string e.op),.lit (.bool e.sized),.sl false 1 (ints .i64 e.ranks),fnV e.dims,fnV e.from_]:=rfl
def entsV (l:List Ent):List AV:=l.map entV
def ent0:Ent:=⟨⟨#[]⟩,false,[],none,none⟩
def jE:AV:=entV ent0
def ents:List Ent:=[⟨n_iota,true,[],some 134,none⟩,
  ⟨n_fill,true,[0],some 134,some 135⟩,
  ⟨n_take,true,[1],some 136,some 138⟩,
  ⟨n_drop,true,[1],some 139,some 140⟩,
  ⟨n_reverse,false,[1],some 141,some 142⟩,
  ⟨n_append,false,[1,1],some 143,none⟩,
  ⟨n_transpose,false,[2],some 144,some 145⟩,
  ⟨n_diagonal,false,[2],some 146,some 147⟩,
  ⟨n_windows,true,[1],some 148,some 149⟩,
  ⟨n_chunk,false,[1],some 150,some 151⟩,
  ⟨n_index,false,[1,0],some 152,none⟩,
  ⟨n_update,false,[1,0,0],some 141,none⟩]
theorem entsV_length (l:List Ent):(entsV l).length=l.length:=by simp [entsV]
theorem entsV_getJ (l:List Ent) (i:Nat):(entsV l).getD i jE=entV (l.getD i ent0):=by
  simp only [entsV,jE,List.getD_eq_getElem?_getD,List.getElem?_map];cases l[i]? <;>rfl
theorem sz140':szT Tryz.prog 140=1:=by kernel_rfl
theorem ag140':aggT Tryz.prog 140=some false:=by kernel_rfl
theorem sz141':szT Tryz.prog 141=1:=by kernel_rfl
theorem ag141':aggT Tryz.prog 141=some false:=by kernel_rfl
attribute [go_sem] sz140' ag140' sz141' ag141'
def jk2:TypeId→AV:=fun t=>if t=143 then jE else jk t
theorem jk2_143:jk2 143=jE:=rfl
theorem jk2_3:jk2 3= .lit (.int .i64 0):=rfl
theorem jk2_9:jk2 9= .lit (.string ByteArray.empty):=rfl
theorem jk2_23:jk2 23=jI:=rfl
theorem jk2_31:jk2 31=jA:=rfl
attribute [go_sem] jk2_143 jk2_3 jk2_9 jk2_23 jk2_31 entsV_getJ
theorem fnV_none:fnV none= .lit .nilFunc:=rfl
theorem fnV_some {g:Nat}:fnV (some g)= .fn (.func g) [] []:=rfl
theorem close0_fnV {b:Bool} {σ:List AObj} {o:Option Nat}:close0 b σ (fnV o)=some (fnV o):=by cases o<;>rfl
theorem ids0_fnV {o:Option Nat}:ids0 (fnV o)=[]:=by cases o<;>rfl
theorem cells_fnV {o:Option Nat}:(fnV o).cells=[fnV o]:=by cases o<;>rfl
theorem solid_fnV {o:Option Nat}:(fnV o).solid=true:=by cases o<;>rfl
attribute [go_sem] close0_fnV ids0_fnV cells_fnV solid_fnV
noncomputable def F4:Env:=envJ (P:=Tryz.prog) jk2 zer (fun _=>false) (fun _=>false) [] []
theorem F4_ok:EnvOk Tryz.prog F4:=envJOk zer_ok
set_option maxRecDepth 20000 in
set_option maxHeartbeats 4000000 in
theorem entries_pc:PC Tryz.prog 127 [] (.sl false 5 (entsV ents)):=by
  refine pcR F4_ok (fun _=>[0,1]) Tryz.func127 [.tmp 0] (h:=fun KF=>?_)
  unfold F4
  repeat' (first
   |(with_reducible first|refine nx ?_|refine t_seq fun K=>?_|refine t_br (fun hc=>?_) fun hc=>?_|refine t_bx ?_|apply And.intro|intro vr)
   |((with_reducible first|refine ny ?_|refine t_dwh (h:=fun K KL=>?_));intros;simp only [go_sem,geff]))
  all_goals try exact nd
  all_goals (refine nl ?_;simp only [go_sem])
  refine LeA.sl rfl (by simp [entsV,entV,AV.cells]) ?_
  show LeL _ _
  simp only [flat,entsV,ents,entV,List.map_cons,List.map_nil,List.flatMap_cons,List.flatMap_nil,cells_agg,List.cons_append,List.nil_append,fnV,ints]
  repeat' (first|exact LeL.nil|refine LeL.cons ?_ ?_)
  all_goals first|exact LeA.refl _|exact LeA.full _ _ _|exact LeA.nil _ _
def findG:List Ent→ByteArray→Option Ent
  |[],_=>none
  |e::l,s=>if eqS e.op s=true then some e else findG l s
def packE (n:Int):Ent:=⟨n_pack,false,List.replicate (maxI n 1).toNat 0,some 128,none⟩
def foundS:Option Ent→Ent×Bool
  |some e=>(e,true)
  |none=>(ent0,false)
def findS (op:ByteArray) (n:Int):Ent×Bool:=if eqS op n_pack=true then (packE n,true) else foundS (findG ents op)
def entOf:AV→Option Ent
  |.agg [.lit (.string s),.lit (.bool b),x,y,z]=>match slK .i64 x with
   |some r=>(match y,z with
    |.lit .nilFunc,.lit .nilFunc=>some ⟨s,b,r,none,none⟩
    |.fn (.func g) [] [],.lit .nilFunc=>some ⟨s,b,r,some g,none⟩
    |.fn (.func g) [] [],.fn (.func h) [] []=>some ⟨s,b,r,some g,some h⟩
    |.lit .nilFunc,.fn (.func h) [] []=>some ⟨s,b,r,none,some h⟩
    |_,_=>none)
   |none=>none
  |_=>none
def eV (p:Ent×Bool):AV:= .tup [entV p.1,.lit (.bool p.2)]
def gV (p:Ent×Int):AV:= .tup [entV p.1,.lit (.int .i64 p.2)]
theorem eV_def {p:Ent×Bool}:eV p= .tup [entV p.1,.lit (.bool p.2)]:=rfl
theorem gV_def {p:Ent×Int}:gV p= .tup [entV p.1,.lit (.int .i64 p.2)]:=rfl
theorem ent_of {s:ByteArray} {b:Bool} {x y z:AV} {r:List Int} {e:Ent} {o p:Option Nat} (hx:slK .i64 x=some r) (hy:y=fnV o) (hz:z=fnV p) (h:e=⟨s,b,r,o,p⟩):LeA (.agg [.lit (.string s),.lit (.bool b),x,y,z]) (entV e):=by
  subst h hy hz
  exact LeA.agg ⟨LeA.refl _,LeA.refl _,slK_le hx,LeA.refl _,LeA.refl _,trivial⟩
noncomputable def con127:PCon Tryz.prog where
  f:=127
  c:=fun
   |[]=>some (True,.sl false 5 (entsV ents))
   |_=>none
  ok:=by
   intro args p r hc hp
   split at hc
   ·cases hc;exact entries_pc
   ·cases hc
  fk:=fk127
theorem con127_f:con127.f=127:=rfl
theorem con127_c:con127.c []=some (True,.sl false 5 (entsV ents)):=rfl
noncomputable def F5:Env:=envJ (P:=Tryz.prog) jk2 zer (fun _=>false) (fun _=>false) [con127] []
theorem F5_ok:EnvOk Tryz.prog F5:=envJOk zer_ok
set_option maxRecDepth 20000 in
set_option maxHeartbeats 4000000 in
theorem find_pc {op:ByteArray} {n:Int} (hn:n≤1000000):PC Tryz.prog 118 [.lit (.string op),.lit (.int .i64 n)] (eV (findS op n)):=by
  have hm:0≤maxI n 1∧maxI n 1≤1000000:=by unfold maxI;split<;>omega
  generalize hR:findS op n=R
  by_cases h:eqS op n_pack=true
  ·have h':eqS op ⟨#[112,97,99,107]⟩=true:=h
   unfold findS at hR;rw [if_pos h] at hR
   refine pcR F5_ok (fun _=>[0,1,4,5,7,9,15,16,17,18,24]) Tryz.func118 [.cell 4 143,.tmp 5] (h:=fun KF=>?_)
   unfold F5
   repeat' (first
    |(with_reducible first|refine nx ?_|refine t_seq fun K=>?_|refine t_br (fun hc=>?_) fun hc=>?_|refine t_bx ?_|apply And.intro|intro vr)
    |((with_reducible first|refine ny ?_|refine t_dwh (h:=fun K KL=>?_));intros;simp only [go_sem,geff,con127_f,h',ints_replicate]))
   all_goals try exact nd
   all_goals (refine nl ?_;simp only [go_sem])
   subst hR
   exact LeA.tup ⟨ent_of (by first|exact slK_sl|rfl) rfl rfl (by unfold packE;rw [←eqS_iff.1 h]),LeA.refl _,trivial⟩
  ·have h':eqS op ⟨#[112,97,99,107]⟩=false:=Bool.eq_false_iff.2 h
   unfold findS at hR;rw [if_neg h] at hR
   generalize hL:ents=L at hR
   have hlen:L.length=12:=by rw [←hL];rfl
   refine pcR F5_ok (fun _=>[0,1,4,5,7,9,15,16,17,18,24]) Tryz.func118 [.cell 4 143,.tmp 5] (h:=fun KF=>?_)
   unfold F5
   repeat' (first
    |(with_reducible first|refine nx ?_|refine t_seq fun K=>?_|refine t_br (fun hc=>?_) fun hc=>?_|refine t_bx ?_|apply And.intro|intro vr)
    |((with_reducible first|refine ny ?_|refine t_dwh (h:=fun K KL=>?_));intros;simp only [go_sem,geff,con127_f,con127_c,h',entsV_length,hL]))
   all_goals try exact nd
   refine t_loopF (ι:={p:Nat×List AObj // p.1≤L.length∧foundS (findG (L.drop p.1) op)=R}) (fun i=>[(17,.lit (.int .i64 i.1.1))]) (fun i=>AObj.box 143 [.lit (.string ByteArray.empty),.lit (.bool false),.sl true 1 [],.lit .nilFunc,.lit .nilFunc]::i.1.2) (fun i=>L.length - i.1.1) ⟨(0,[]),by omega,by simpa using hR⟩ ?_ ?_
   ·exact lf
   rintro ⟨⟨i,g⟩,hi,hF⟩ K0
   simp only at hi hF
   rcases Nat.lt_or_ge i L.length with hc|hc
   ·rw [drop_getD ent0 hc,findG] at hF
    have g3:decide ((i:Int)<(L.length:Int))=true:=decide_eq_true (by omega)
    repeat' (first
     |(with_reducible first|refine nx ?_|refine t_seq fun K=>?_|refine t_br (fun hc=>?_) fun hc=>?_|refine t_bx ?_|apply And.intro|intro vr)
     |((with_reducible first|refine ny ?_|refine t_dwh (h:=fun K KL=>?_));intros;simp only [go_sem,geff,con127_f,g3,Int.toNat_natCast,entsV_length,entV_def]))
    all_goals try exact nd
    ·rw [if_pos hc] at hF
     subst hF
     rcases hd:(L.getD i ent0).dims with _|g1<;>rcases hf:(L.getD i ent0).from_ with _|g2
     all_goals (refine nl ?_;simp only [go_sem,hd,hf,fnV_none,fnV_some])
     all_goals exact LeA.tup ⟨ent_of (o:=(L.getD i ent0).dims) (p:=(L.getD i ent0).from_) slK_sl (by rw [hd];rfl) (by rw [hf];rfl) rfl,LeA.refl _,trivial⟩
    ·skip
     exact ⟨⟨(i+1,g++[AObj.box 143 [.lit (.string (L.getD i ent0).op),.lit (.bool (L.getD i ent0).sized),.sl false 1 (ints .i64 (L.getD i ent0).ranks),fnV (L.getD i ent0).dims,fnV (L.getD i ent0).from_]]),by simp only;omega,by simp_all⟩,wf,lf⟩
   ·have g3:decide ((i:Int)<(L.length:Int))=false:=decide_eq_false (by omega)
    rw [List.drop_eq_nil_of_le (by omega),findG] at hF
    repeat' (first
     |(with_reducible first|refine nx ?_|refine t_seq fun K=>?_|refine t_br (fun hc=>?_) fun hc=>?_|refine t_bx ?_|apply And.intro|intro vr)
     |((with_reducible first|refine ny ?_|refine t_dwh (h:=fun K KL=>?_));intros;simp only [go_sem,geff,con127_f,g3,Int.toNat_natCast,entsV_length]))
    all_goals try exact nd
    all_goals (refine nl ?_;simp only [go_sem])
    subst hF
    exact LeA.tup ⟨ent_of (r:=[]) rfl (o:=none) (p:=none) rfl rfl rfl,LeA.refl _,trivial⟩
noncomputable def con118:PCon Tryz.prog where
  f:=118
  c:=fun
   |[.lit (.string op),.lit (.int .i64 n)]=>some (n≤1000000,eV (findS op n))
   |_=>none
  ok:=by
   intro args p r hc hp
   split at hc
   ·cases hc;exact (find_pc hp)
   ·cases hc
  fk:=fk118
theorem con118_f:con118.f=118:=rfl
theorem con118_c {op:ByteArray} {n:Int}:con118.c [.lit (.string op),.lit (.int .i64 n)]=some (n≤1000000,eV (findS op n)):=rfl
end Go.Proofs.YtcpjahmajkhchaaGreat

namespace Go.Proofs.YtcpjahmajkhchaaGreat
open Go Go.Fw
def opNames:List ByteArray:=[n_iota,n_fill,n_take,n_drop,n_reverse,n_append,n_transpose,n_diagonal,n_windows,n_chunk,n_index,n_update,n_pack]
def isS (op:ByteArray):Bool:=opNames.any fun s=>eqS s op
theorem eqS_symm (a b:ByteArray):eqS a b=eqS b a:=by
  rw [Bool.eq_iff_iff,eqS_iff,eqS_iff];exact eq_comm
theorem strs_nil':strs []=[]:=rfl
structure Gat where
  i:Nat
  v:Nat
def idxB (p:ByteArray→Bool):List ByteArray→Int→Int
  |[],_=> -1
  |d::t,i=>if p d=true then i else idxB p t (i+1)
theorem idxB_any (p:ByteArray→Bool):∀ (l:List ByteArray) (i:Int),0≤i→decide (idxB p l i≥0)=l.any p
  |[],_,_=>rfl
  |d::t,i,hi=>by
   unfold idxB
   by_cases h:p d=true
   ·rw [if_pos h,List.any_cons,h,decide_eq_true hi];rfl
   ·rw [if_neg h,idxB_any p t (i+1) (by omega),List.any_cons]
    simp only [Bool.not_eq_true] at h
    rw [h];rfl
end Go.Proofs.YtcpjahmajkhchaaGreat

namespace Go.Proofs.YtcpjahmajkhchaaGreat
open Go Go.Fw
set_option maxRecDepth 20000
set_option maxRecDepth 20000
def opT (L:List Ent) (i:Nat):List ByteArray:=(L.take i).map (·.op)
theorem opT_zero {L:List Ent}:opT L 0=[]:=rfl
theorem opT_succ {L:List Ent} {i:Nat} (h:i<L.length):opT L (i+1)=opT L i++[(L.getD i ent0).op]:=by
  unfold opT
  rw [List.take_add_one,List.getElem?_eq_getElem h,List.getD_eq_getElem?_getD,List.getElem?_eq_getElem h,List.map_append];rfl
theorem opT_len {L:List Ent} {i:Nat} (h:i≤L.length):(opT L i).length=i:=by simp [opT];omega
noncomputable def M2:Env:=envJ (P:=Tryz.prog) jk2 zer (fun _=>false) (fun _=>false) [con127] []
theorem M2_ok:EnvOk Tryz.prog M2:=envJOk zer_ok
set_option maxHeartbeats 2000000 in
theorem ops_pc:PC Tryz.prog 108 [] (.sl false 1 (strs opNames)):=by
  have hR:opT ents ents.length++[n_pack]=opNames:=rfl
  generalize hL:ents=L at hR
  have hlen:L.length=12:=by rw [←hL];rfl
  generalize opNames=R at hR
  refine pcR M2_ok (kp108) Tryz.func108 [.tmp 0] (h:=fun KF=>?_)
  unfold M2
  repeat' (first
   |(with_reducible first|refine nx ?_|refine t_seq fun K=>?_|refine t_br (fun hc=>?_) fun hc=>?_|refine t_bx ?_|apply And.intro|intro vr)
   |((with_reducible first|refine ny ?_|refine t_dwh (h:=fun K KL=>?_));intros;simp only [go_sem,kp108,geff,con127_f,con127_c,entsV_length,hL]))
  all_goals try exact nd
  refine t_loopF (ι:={i:Gat // i.i≤L.length}) (fun i=>[(6,.lit (.int .i64 i.1.i)),(1,.arr 0 i.1.v)]) (fun i=>[.arr 9 1 (strs (opT L i.1.i)) i.1.v false]) (fun i=>L.length - i.1.i) ⟨⟨0,0⟩,by simp⟩ ?_ ?_
  ·refine (le_nil 1 9 1 rfl).trans ?_
   simp only [updL_nil,updL_cons,delF_top,delF_upd,Nat.reduceEqDiff,reduceIte]
   simp only [opT_zero,strs_nil']
   refine Le.frameS (by first|rfl|(simp only [go_sem];try rfl)) ?_
   repeat' (first|exact leF_top _|exact (fun _=>LeR.refl _)|(with_reducible refine leF_sl ?_ ?_)|(refine leF_upd ?_ ?_))
   all_goals (first|exact LeR.top _|exact LeR.refl _|(refine LeR.of_eq ?_;(try simp only [go_sem]);try rfl)|((try simp only [go_sem]);try rfl))
  rintro ⟨⟨i,v⟩,hi⟩ K0
  simp only at hi
  rcases Nat.lt_or_ge i L.length with hc|hc
  ·have g3:decide ((i:Int)<(L.length:Int))=true:=decide_eq_true (by omega)
   have hb:=opT_len (L:=L) (i:=i) hi
   repeat' (first
    |(with_reducible first|refine nx ?_|refine t_seq fun K=>?_|refine t_br (fun hc=>?_) fun hc=>?_|refine t_bx ?_|apply And.intro|intro vr)
    |((with_reducible first|refine ny ?_|refine t_dwh (h:=fun K KL=>?_));intros;simp only [go_sem,kp108,geff,con127_f,g3,Int.toNat_natCast,entsV_length,entV_def,strs_length,strs_append1]))
   all_goals try exact nd
   simp only [←opT_succ hc]
   refine ⟨⟨⟨i+1,v+1⟩,by simp only;omega⟩,by first|(simp only;omega)|omega,?_⟩
   simp only [updL_nil,updL_cons,delF_top,delF_upd,Nat.reduceEqDiff,reduceIte]
   refine le_backD (by first|rfl|(simp only [go_sem];try rfl)) (by first|exact Nat.zero_le _|simp) (by first|rfl|simp [lowO,low_lit,low_sl,low_ref,low_arr,low_fnV]) ?_ ?_
   ·repeat' (first|exact low_top|(refine low_upd rfl ?_))
   repeat' (first|exact leF_top _|exact (fun _=>LeR.refl _)|(with_reducible refine leF_sl ?_ ?_)|(refine leF_upd ?_ ?_))
   all_goals (first|exact LeR.top _|exact LeR.refl _|(refine LeR.of_eq ?_;(try simp only [go_sem]);try rfl)|((try simp only [go_sem]);try rfl))
  ·have hie:i=L.length:=by omega
   have g3:decide ((L.length:Int)<(L.length:Int))=false:=decide_eq_false (by omega)
   have hb:=opT_len (L:=L) (i:=L.length) (by omega)
   repeat' (first
    |(with_reducible first|refine nx ?_|refine t_seq fun K=>?_|refine t_br (fun hc=>?_) fun hc=>?_|refine t_bx ?_|apply And.intro|intro vr)
    |((with_reducible first|refine ny ?_|refine t_dwh (h:=fun K KL=>?_));intros;simp only [go_sem,kp108,geff,con127_f,hie,g3,Int.toNat_natCast,entsV_length,entV_def,strs_length,strs_append1]))
   all_goals try exact nd
   all_goals (refine nl ?_;simp only [go_sem])
   rw [←hR]
   exact LeA.refl _
noncomputable def con108:PCon Tryz.prog where
  f:=108
  c:=fun
   |[]=>some (True,.sl false 1 (strs opNames))
   |_=>none
  ok:=by
   intro args p r hc hp
   split at hc
   ·cases hc;exact ops_pc
   ·cases hc
  fk:=fk108
theorem con108_f:con108.f=108:=rfl
theorem con108_c:con108.c []=some (True,.sl false 1 (strs opNames)):=rfl
set_option maxHeartbeats 2000000 in
theorem indexS_pc {l:List ByteArray} {s:ByteArray} (hl:l.length≤1000000):PC Tryz.prog 126 [.sl false 1 (strs l),.lit (.string s)] (.lit (.int .i64 (idxB (fun t=>eqS s t) l 0))):=by
  generalize hR:idxB (fun t=>eqS s t) l 0=R
  refine pcR F1_ok (kp126) Tryz.func126 [.tmp 4] (h:=fun KF=>?_)
  unfold F1
  repeat' (first
   |(with_reducible first|refine nx ?_|refine t_seq fun K=>?_|refine t_br (fun hc=>?_) fun hc=>?_|refine t_bx ?_|apply And.intro|intro vr)
   |((with_reducible first|refine ny ?_|refine t_dwh (h:=fun K KL=>?_));intros;simp only [go_sem,kp126,geff,strs_length]))
  all_goals try exact nd
  refine t_loopF (ι:={i:Nat // i≤l.length∧idxB (fun t=>eqS s t) (l.drop i) i=R}) (fun i=>[(8,.lit (.int .i64 i.1))]) (fun i=>[]) (fun i=>l.length - i.1) ⟨0,by omega,hR⟩ ?_ ?_
  ·exact lf
  rintro ⟨i,hi,hF⟩ K0
  rcases Nat.lt_or_ge i l.length with hc|hc
  ·rw [drop_getD ByteArray.empty hc,idxB] at hF
   have g3:decide ((i:Int)<(l.length:Int))=true:=decide_eq_true (by omega)
   repeat' (first
    |(with_reducible first|refine nx ?_|refine t_seq fun K=>?_|refine t_br (fun hc=>?_) fun hc=>?_|refine t_bx ?_|apply And.intro|intro vr)
    |((with_reducible first|refine ny ?_|refine t_dwh (h:=fun K KL=>?_));intros;simp only [go_sem,kp126,geff,g3,Int.toNat_natCast,strs_length]))
   all_goals try exact nd
   ·skip
    all_goals (refine nl ?_;simp only [go_sem])
    rw [if_pos hc] at hF
    rw [hF];exact LeA.refl _
   ·skip
    exact ⟨⟨i+1,by omega,by rw [if_neg (by rw [hc];decide)] at hF;rw [←hF];congr 1⟩,wf,lf⟩
  ·have hie:i=l.length:=by omega
   have g3:decide ((l.length:Int)<(l.length:Int))=false:=decide_eq_false (by omega)
   rw [hie,List.drop_eq_nil_of_le (by omega),idxB] at hF
   repeat' (first
    |(with_reducible first|refine nx ?_|refine t_seq fun K=>?_|refine t_br (fun hc=>?_) fun hc=>?_|refine t_bx ?_|apply And.intro|intro vr)
    |((with_reducible first|refine ny ?_|refine t_dwh (h:=fun K KL=>?_));intros;simp only [go_sem,kp126,geff,hie,g3,Int.toNat_natCast,strs_length]))
   all_goals try exact nd
   all_goals (refine nl ?_;simp only [go_sem])
   rw [hF];exact LeA.refl _
noncomputable def con126:PCon Tryz.prog where
  f:=126
  c:=fun
   |[xl,.lit (.string s)]=>match slS xl with|some l=>some (l.length≤1000000,.lit (.int .i64 (idxB (fun t=>eqS s t) l 0)))|_=>none
   |_=>none
  ok:=by
   intro args p r hc hp
   split at hc
   ·split at hc
    ·rename_i hl
     cases hc
     exact PC.weak (indexS_pc hp) ⟨slS_le hl,LeA.refl _,trivial⟩
    ·cases hc
   ·cases hc
  fk:=fk126
theorem con126_f:con126.f=126:=rfl
theorem con126_c {xl:AV} {s:ByteArray}:con126.c [xl,.lit (.string s)]=match slS xl with|some l=>some (l.length≤1000000,.lit (.int .i64 (idxB (fun t=>eqS s t) l 0)))|_=>none:=rfl
noncomputable def M3:Env:=envJ (P:=Tryz.prog) jk2 zer (fun _=>false) (fun _=>false) [con126] []
theorem M3_ok:EnvOk Tryz.prog M3:=envJOk zer_ok
theorem hasS_pc {l:List ByteArray} {s:ByteArray} (hl:l.length≤1000000):PC Tryz.prog 107 [.sl false 1 (strs l),.lit (.string s)] (.lit (.bool (l.any fun t=>eqS s t))):=by
  rw [←idxB_any _ l 0 (by omega)]
  refine pcR M3_ok (kp107) Tryz.func107 [.tmp 4] (h:=fun KF=>?_)
  unfold M3
  repeat' (first
   |(with_reducible first|refine nx ?_|refine t_seq fun K=>?_|refine t_br (fun hc=>?_) fun hc=>?_|refine t_bx ?_|apply And.intro|intro vr)
   |((with_reducible first|refine ny ?_|refine t_dwh (h:=fun K KL=>?_));intros;simp only [go_sem,kp107,geff,con126_f,con126_c,slS_sl]))
  all_goals try exact nd
  all_goals (refine nl ?_;simp only [go_sem])
  exact LeA.refl _
noncomputable def con107:PCon Tryz.prog where
  f:=107
  c:=fun
   |[xl,.lit (.string s)]=>match slS xl with|some l=>some (l.length≤1000000,.lit (.bool (l.any fun t=>eqS s t)))|_=>none
   |_=>none
  ok:=by
   intro args p r hc hp
   split at hc
   ·split at hc
    ·rename_i hl
     cases hc
     exact PC.weak (hasS_pc hp) ⟨slS_le hl,LeA.refl _,trivial⟩
    ·cases hc
   ·cases hc
  fk:=fk107
theorem con107_f:con107.f=107:=rfl
theorem con107_c {xl:AV} {s:ByteArray}:con107.c [xl,.lit (.string s)]=match slS xl with|some l=>some (l.length≤1000000,.lit (.bool (l.any fun t=>eqS s t)))|_=>none:=rfl
noncomputable def M4:Env:=envJ (P:=Tryz.prog) jk2 zer (fun _=>false) (fun _=>false) [con108,con107] []
theorem M4_ok:EnvOk Tryz.prog M4:=envJOk zer_ok
theorem is_pc {op:ByteArray}:PC Tryz.prog 74 [.lit (.string op)] (.lit (.bool (isS op))):=by
  have e:isS op=opNames.any fun t=>eqS op t:=by
    unfold isS
    congr 1
    funext t
    exact eqS_symm t op
  rw [e]
  have hl:opNames.length=13:=rfl
  refine pcR M4_ok (kp74) Tryz.func74 [.tmp 2] (h:=fun KF=>?_)
  unfold M4
  repeat' (first
   |(with_reducible first|refine nx ?_|refine t_seq fun K=>?_|refine t_br (fun hc=>?_) fun hc=>?_|refine t_bx ?_|apply And.intro|intro vr)
   |((with_reducible first|refine ny ?_|refine t_dwh (h:=fun K KL=>?_));intros;simp only [go_sem,kp74,geff,con108_f,con107_f,con108_c,con107_c,slS_sl]))
  all_goals try exact nd
  all_goals (refine nl ?_;simp only [go_sem])
  exact LeA.refl _
noncomputable def con74:PCon Tryz.prog where
  f:=74
  c:=fun
   |[.lit (.string op)]=>some (True,.lit (.bool (isS op)))
   |_=>none
  ok:=by
   intro args p r hc hp
   split at hc
   ·cases hc;exact is_pc
   ·cases hc
  fk:=fk74
theorem con74_f:con74.f=74:=rfl
theorem con74_c {op:ByteArray}:con74.c [.lit (.string op)]=some (True,.lit (.bool (isS op))):=rfl
end Go.Proofs.YtcpjahmajkhchaaGreat

namespace Go.Proofs.YtcpjahmajkhchaaGreat
open Go Go.Fw Go.RowKit Go.Shelf
attribute [local go_sem] Oper.semAt_some
theorem boxed_pc {f g:FuncId} {x:AV} {t:TypeId} (hx:x.cells=[x]) (h:∀ (C:Nat→Nat→Option Value) (v:Value) (w:World),RC C x v→v.oneCell'=true→
      Calls Tryz.prog f #[v] w fun e w'=>e= .returned (.func (.func g) #[] #[.pointer (some ⟨w.heap.size,0,none⟩)])∧w'=w.alloc (.cells #[v] t))
    (h1:∀ (C:Nat→Nat→Option Value) (v:Value),RC C x v→v.oneCell'=true):PC Tryz.prog f [x] (.fn (.func g) [] [.sref x 0]):=by
  intro C w vs hr hin
  obtain ⟨hl,hr⟩:=hr
  match vs,hl with
  |[v],_=>
  have hv:RC C x v:=hr 0 (by simp)
  have ho:=h1 C v hv
  refine (h C v w hv ho).mono ?_
  rintro e w' ⟨rfl,rfl⟩
  have hold:∀ k o u,C k o=some u→k<w.heap.size:=fun k o u hu=>World.block_lt_of_cell? w _ (hin k o u hu)
  have hm:More w (w.alloc (.cells #[v] t)):=More.push w _
  have hle:CLe C (fun k o=>if k=w.heap.size then (#[v]:Array Value)[o]? else C k o):=fun k o u hu=>by
    have:=hold k o u hu
    show (if k=w.heap.size then _ else _)=_
    rw [if_neg (by omega)];exact hu
  refine ⟨_,fun k o=>if k=w.heap.size then (#[v]:Array Value)[o]? else C k o,rfl,hle,?_,?_,hm,?_⟩
  ·refine .fn (.func g) [] [.sref x 0] [] [.pointer (some ⟨w.heap.size,0,none⟩)] rfl (by simp) rfl fun i hi=>?_
   have:i=0:=by simp at hi;omega
   subst this
   refine RC.sref x 0 w.heap.size 0 (fun _=>v) ?_ ?_ ?_
   ·intro j hj
    rw [hx] at hj
    have:j=0:=by simp at hj;omega
    subst this
    show (if w.heap.size=w.heap.size then _ else _)=_
    rw [if_pos rfl];rfl
   ·intro j hj;exact ho
   ·intro j hj
    rw [hx] at hj ⊢
    have:j=0:=by simp at hj;omega
    subst this
    exact hv.mono hle
  ·intro k o u hu
   simp only at hu
   split at hu
   ·rename_i hk
    subst hk
    have:o=0:=by
      rcases o with _|o
      ·rfl
      ·simp at hu
    subst this
    obtain rfl:v=u:=by simpa using hu
    exact (Boxed.new w t v).cell
   ·exact hm.cell (hin k o u hu)
  ·intro k hk j
   show (if k=w.heap.size then _ else _)=_
   rw [if_neg (by omega)]
set_option maxHeartbeats 1000000 in
theorem named_pc {s:ByteArray}:PC Tryz.prog 102 [.lit (.string s)] (.fn (.func 125) [] [.sref (.lit (.string s)) 0]):=by
  refine boxed_pc (t:=9) rfl (fun C v w hv _=>?_) (fun C v hv=>by rw [rc_lit hv];rfl)
  obtain rfl:=rc_lit hv
  refine (callsIn_wide (n:=1)).1 ?_
  refine callsIn_of_wp Tryz.func102 rfl trivial ?_ rfl
  simp only [Tryz.ntmps102,List.size_toArray,List.length_cons,List.length_nil,Nat.reduceAdd,Nat.reduceSub,Array.replicate_succ,Array.replicate_zero,List.push_toArray,List.append_toArray,List.nil_append,List.cons_append]
  gi_wp2
  go_ret
  exact ⟨rfl,rfl⟩
set_option maxHeartbeats 1000000 in
theorem fixed_pc {l:List Int}:PC Tryz.prog 97 [.sl false 1 (ints .i64 l)] (.fn (.func 117) [] [.sref (.sl false 1 (ints .i64 l)) 0]):=by
  refine boxed_pc (t:=23) rfl (fun C v w hv _=>?_) (fun C v hv=>by obtain ⟨a,b,c,rfl⟩:=rc_slice hv;rfl)
  obtain ⟨a,b,c,rfl⟩:=rc_slice hv
  refine (callsIn_wide (n:=1)).1 ?_
  refine callsIn_of_wp Tryz.func97 rfl trivial ?_ rfl
  simp only [Tryz.ntmps97,List.size_toArray,List.length_cons,List.length_nil,Nat.reduceAdd,Nat.reduceSub,Array.replicate_succ,Array.replicate_zero,List.push_toArray,List.append_toArray,List.nil_append,List.cons_append]
  gi_wp2
  go_ret
  exact ⟨rfl,rfl⟩
end Go.Proofs.YtcpjahmajkhchaaGreat

namespace Go.Proofs.YtcpjahmajkhchaaGreat
open Go Go.Fw
set_option maxRecDepth 20000
noncomputable def con102:PCon Tryz.prog where
  f:=102
  c:=fun
   |[.lit (.string s)]=>some (True,.fn (.func 125) [] [.sref (.lit (.string s)) 0])
   |_=>none
  ok:=by
   intro args p r hc hp
   split at hc
   ·cases hc;exact named_pc
   ·cases hc
  fk:=fk102
theorem con102_f:con102.f=102:=rfl
theorem con102_c {s:ByteArray}:con102.c [.lit (.string s)]=some (True,.fn (.func 125) [] [.sref (.lit (.string s)) 0]):=rfl
noncomputable def con97:PCon Tryz.prog where
  f:=97
  c:=fun
   |[xl]=>match slK .i64 xl with|some l=>some (True,.fn (.func 117) [] [.sref (.sl false 1 (ints .i64 l)) 0])|_=>none
   |_=>none
  ok:=by
   intro args p r hc hp
   split at hc
   ·split at hc
    ·rename_i hl
     cases hc
     exact PC.weak fixed_pc ⟨slK_le hl,trivial⟩
    ·cases hc
   ·cases hc
  fk:=fk97
theorem con97_f:con97.f=97:=rfl
theorem con97_c {xl:AV}:con97.c [xl]=match slK .i64 xl with|some l=>some (True,.fn (.func 117) [] [.sref (.sl false 1 (ints .i64 l)) 0])|_=>none:=rfl
def sFold:ByteArray:=⟨#[102,111,108,100]⟩
def sScan:ByteArray:=⟨#[115,99,97,110]⟩
def sSize:ByteArray:=⟨#[115,105,122,101]⟩
inductive Kd where
  |prim|struc|fold|scan|const|size
def namV (s:ByteArray):AV:= .fn (.func 125) [] [.sref (.lit (.string s)) 0]
def fixV (l:List Int):AV:= .fn (.func 117) [] [.sref (.sl false 1 (ints .i64 l)) 0]
def fun0 (f:FuncId):AV:= .fn (.func f) [] []
def kdV:Kd→AV
  |.prim=> .agg [fun0 95,fun0 96,fun0 98]
  |.struc=> .agg [fun0 74,fun0 99,fun0 100]
  |.fold=> .agg [namV sFold,fixV [0,1],fun0 103]
  |.scan=> .agg [namV sScan,fixV [1],fun0 104]
  |.const=> .agg [namV sConst,fixV [],fun0 105]
  |.size=> .agg [namV sSize,fixV [],fun0 106]
def kds:List Kd:=[.prim,.struc,.fold,.scan,.const,.size]
def kdsV (l:List Kd):List AV:=l.map kdV
theorem kdsV_length (l:List Kd):(kdsV l).length=l.length:=by simp [kdsV]
def jKd:AV:=kdV .prim
theorem kdsV_getJ (l:List Kd) (i:Nat):(kdsV l).getD i jKd=kdV (l.getD i .prim):=by
  simp only [jKd,kdsV,List.getD_eq_getElem?_getD,List.getElem?_map];cases l[i]? <;>rfl
def jkK:TypeId→AV:=fun t=>if t=92 then jKd else jkR t
theorem jkK_92:jkK 92=jKd:=rfl
theorem jkK_3:jkK 3= .lit (.int .i64 0):=rfl
theorem jkK_9:jkK 9= .lit (.string ByteArray.empty):=rfl
theorem jkK_23:jkK 23=jI:=rfl
theorem jkK_31:jkK 31=jA:=rfl
theorem jkK_78:jkK 78=jStp:=rfl
attribute [go_sem] con102_f con102_c con97_f con97_c jkK_92 jkK_3 jkK_9 jkK_23 jkK_31 jkK_78 kdsV_getJ kdsV_length
theorem szf89:szT Tryz.prog 89=1:=by kernel_rfl
theorem szf64:szT Tryz.prog 64=1:=by kernel_rfl
theorem szf90:szT Tryz.prog 90=1:=by kernel_rfl
theorem agf89:aggT Tryz.prog 89=some false:=by kernel_rfl
theorem agf64:aggT Tryz.prog 64=some false:=by kernel_rfl
theorem agf90:aggT Tryz.prog 90=some false:=by kernel_rfl
attribute [go_sem] szf89 szf64 szf90 agf89 agf64 agf90
noncomputable def B1:Env:=envJ (P:=Tryz.prog) jkK zer (fun _=>false) (fun _=>false) [con102,con97] []
theorem B1_ok:EnvOk Tryz.prog B1:=envJOk zer_ok
set_option maxHeartbeats 4000000 in
theorem kinds_pc:PC Tryz.prog 73 [] (.sl false 3 (kdsV kds)):=by
  refine pcR B1_ok (kp73) Tryz.func73 [.tmp 0] (h:=fun KF=>?_)
  unfold B1
  repeat' (first
   |(with_reducible first|refine nx ?_|refine t_seq fun K=>?_|refine t_br (fun hc=>?_) fun hc=>?_|refine t_bx ?_|apply And.intro|intro vr)
   |((with_reducible first|refine ny ?_|refine t_dwh (h:=fun K KL=>?_));intros;simp only [go_sem,kp73,geff,capC]))
  all_goals try exact nd
  all_goals (refine nl ?_;simp only [go_sem])
  refine LeA.sl rfl (by simp [kdsV,kds,kdV,AV.cells]) ?_
  show LeL _ _
  simp only [flat,kdsV,kds,kdV,List.map_cons,List.map_nil,List.flatMap_cons,List.flatMap_nil,cells_agg,List.cons_append,List.nil_append,fun0,namV,fixV]
  repeat' (first|exact LeL.nil|refine LeL.cons ?_ ?_)
  all_goals exact LeA.refl _
end Go.Proofs.YtcpjahmajkhchaaGreat

namespace Go.Proofs.YtcpjahmajkhchaaGreat
open Go Go.Fw
set_option maxRecDepth 20000
noncomputable def con73:PCon Tryz.prog where
  f:=73
  c:=fun
   |[]=>some (True,.sl false 3 (kdsV kds))
   |_=>none
  ok:=by
   intro args p r hc hp
   split at hc
   ·cases hc;exact kinds_pc
   ·cases hc
  fk:=fk73
theorem con73_f:con73.f=73:=rfl
theorem con73_c:con73.c []=some (True,.sl false 3 (kdsV kds)):=rfl
noncomputable def B2:Env:=envJ (P:=Tryz.prog) jkK zer (fun _=>false) (fun _=>false) [El.con65] []
theorem B2_ok:EnvOk Tryz.prog B2:=envJOk zer_ok
theorem named1_pc {op s:ByteArray}:PC Tryz.prog 125 [.lit (.string op),.sref (.lit (.string s)) 0] (.lit (.bool (eqS op s))):=by
  refine pcR B2_ok (kp125) Tryz.func125 [.tmp 3] (h:=fun KF=>?_)
  unfold B2
  repeat' (first
   |(with_reducible first|refine nx ?_|refine t_seq fun K=>?_|refine t_br (fun hc=>?_) fun hc=>?_|refine t_bx ?_|apply And.intro|intro vr)
   |((with_reducible first|refine ny ?_|refine t_dwh (h:=fun K KL=>?_));intros;simp only [go_sem,kp125,geff]))
  all_goals try exact nd
  all_goals (refine nl ?_;simp only [go_sem])
  exact LeA.refl _
noncomputable def con125:PCon Tryz.prog where
  f:=125
  c:=fun
   |[.lit (.string op),.sref (.lit (.string s)) 0]=>some (True,.lit (.bool (eqS op s)))
   |_=>none
  ok:=by
   intro args p r hc hp
   split at hc
   ·cases hc;exact named1_pc
   ·cases hc
  fk:=fk125
theorem con125_f:con125.f=125:=rfl
theorem con125_c {op s:ByteArray}:con125.c [.lit (.string op),.sref (.lit (.string s)) 0]=some (True,.lit (.bool (eqS op s))):=rfl
def fixS (l:List Int) (n:Int):List Int×Bool:=if n=(l.length:Int) then (l,true) else ([],false)
def rkV (p:List Int×Bool):AV:= .tup [.sl false 1 (ints .i64 p.1),.lit (.bool p.2)]
theorem fixed1_pc {op:ByteArray} {n:Int} {l:List Int}:PC Tryz.prog 117 [.lit (.string op),.lit (.int .i64 n),.sref (.sl false 1 (ints .i64 l)) 0] (rkV (fixS l n)):=by
  generalize hR:fixS l n=R
  unfold fixS at hR
  by_cases h:n=(l.length:Int)
  ·rw [if_pos h] at hR
   have h':(n !=(l.length:Int))=false:=by rw [bne_eq_false_iff_eq];exact h
   refine pcR B2_ok (kp117) Tryz.func117 [.tmp 5,.tmp 6] (h:=fun KF=>?_)
   unfold B2
   repeat' (first
    |(with_reducible first|refine nx ?_|refine t_seq fun K=>?_|refine t_br (fun hc=>?_) fun hc=>?_|refine t_bx ?_|apply And.intro|intro vr)
    |((with_reducible first|refine ny ?_|refine t_dwh (h:=fun K KL=>?_));intros;simp only [go_sem,kp117,geff,h']))
   all_goals try exact nd
   all_goals (refine nl ?_;simp only [go_sem])
   rw [←hR]
   exact LeA.refl _
  ·rw [if_neg h] at hR
   have h':(n !=(l.length:Int))=true:=bne_iff_ne.2 h
   refine pcR B2_ok (kp117) Tryz.func117 [.tmp 5,.tmp 6] (h:=fun KF=>?_)
   unfold B2
   repeat' (first
    |(with_reducible first|refine nx ?_|refine t_seq fun K=>?_|refine t_br (fun hc=>?_) fun hc=>?_|refine t_bx ?_|apply And.intro|intro vr)
    |((with_reducible first|refine ny ?_|refine t_dwh (h:=fun K KL=>?_));intros;simp only [go_sem,kp117,geff,h']))
   all_goals try exact nd
   all_goals (refine nl ?_;simp only [go_sem])
   rw [←hR]
   exact LeA.tup ⟨LeA.nil _ _,LeA.refl _,trivial⟩
noncomputable def con117:PCon Tryz.prog where
  f:=117
  c:=fun
   |[.lit (.string _),.lit (.int .i64 n),.sref (.sl false 1 xs) 0]=>(kOf .i64 xs).map fun l=>(True,rkV (fixS l n))
   |_=>none
  ok:=by
   intro args p r hc hp
   split at hc
   ·rename_i xs
    cases hk:kOf .i64 xs with
    |none=>rw [hk] at hc;cases hc
    |some l=>
     rw [hk] at hc;cases hc
     rw [kOf_inv hk]
     exact fixed1_pc
   ·cases hc
  fk:=fk117
theorem con117_f:con117.f=117:=rfl
theorem con117_c {op:ByteArray} {n:Int} {xs:List AV}:con117.c [.lit (.string op),.lit (.int .i64 n),.sref (.sl false 1 xs) 0]=(kOf .i64 xs).map fun l=>(True,rkV (fixS l n)):=rfl
attribute [go_sem] con125_f con125_c con117_f con117_c con73_f con73_c
theorem prim1_pc {op:ByteArray}:PC Tryz.prog 95 [.lit (.string op)] (.lit (.bool (El.typesS op).isSome)):=by
  cases hT:El.typesS op with
  |none=>
   refine pcR B2_ok (kp95) Tryz.func95 [.tmp 2] (h:=fun KF=>?_)
   unfold B2
   repeat' (first
    |(with_reducible first|refine nx ?_|refine t_seq fun K=>?_|refine t_br (fun hc=>?_) fun hc=>?_|refine t_bx ?_|apply And.intro|intro vr)
    |((with_reducible first|refine ny ?_|refine t_dwh (h:=fun K KL=>?_));intros;simp only [go_sem,kp95,geff,hT]))
   all_goals try exact nd
   all_goals (refine nl ?_;simp only [go_sem])
   exact LeA.refl _
  |some r=>
   refine pcR B2_ok (kp95) Tryz.func95 [.tmp 2] (h:=fun KF=>?_)
   unfold B2
   repeat' (first
    |(with_reducible first|refine nx ?_|refine t_seq fun K=>?_|refine t_br (fun hc=>?_) fun hc=>?_|refine t_bx ?_|apply And.intro|intro vr)
    |((with_reducible first|refine ny ?_|refine t_dwh (h:=fun K KL=>?_));intros;simp only [go_sem,kp95,geff,hT]))
   all_goals try exact nd
   all_goals (refine nl ?_;simp only [go_sem])
   exact LeA.refl _
noncomputable def con95:PCon Tryz.prog where
  f:=95
  c:=fun
   |[.lit (.string op)]=>some (True,.lit (.bool (El.typesS op).isSome))
   |_=>none
  ok:=by
   intro args p r hc hp
   split at hc
   ·cases hc;exact prim1_pc
   ·cases hc
  fk:=fk95
theorem con95_f:con95.f=95:=rfl
theorem con95_c {op:ByteArray}:con95.c [.lit (.string op)]=some (True,.lit (.bool (El.typesS op).isSome)):=rfl
attribute [go_sem] con95_f con95_c con74_f con74_c
def kindS (op:ByteArray):Option Kd:=
  if (El.typesS op).isSome=true then some .prim else if isS op=true then some .struc else if eqS op sFold=true then some .fold else if eqS op sScan=true then some .scan else if eqS op sConst=true then some .const else if eqS op sSize=true then some .size else none
def hasK (op:ByteArray):Kd→Bool
  |.prim=>(El.typesS op).isSome
  |.struc=>isS op
  |.fold=>eqS op sFold
  |.scan=>eqS op sScan
  |.const=>eqS op sConst
  |.size=>eqS op sSize
def findK (op:ByteArray):List Kd→Option Kd
  |[]=>none
  |k::t=>if hasK op k=true then some k else findK op t
theorem findK_kds {op:ByteArray}:findK op kds=kindS op:=rfl
def fdV (o:Option Kd):AV:=match o with
  |some k=> .tup [kdV k,.lit (.bool true)]
  |none=> .tup [.agg [.lit .nilFunc,.lit .nilFunc,.lit .nilFunc],.lit (.bool false)]
noncomputable def B3:Env:=envJ (P:=Tryz.prog) jkK zer (fun _=>false) (fun _=>false) [con73,con95,con74,con125] []
theorem B3_ok:EnvOk Tryz.prog B3:=envJOk zer_ok
attribute [go_sem] fun0 namV fixV
set_option maxHeartbeats 8000000 in
theorem kfind_pc {op:ByteArray}:PC Tryz.prog 51 [.lit (.string op)] (fdV (kindS op)):=by
  rw [←findK_kds]
  generalize hR:findK op kds=R
  refine pcR B3_ok (kp51) Tryz.func51 [.cell 2 92,.tmp 3] (h:=fun KF=>?_)
  unfold B3
  repeat' (first
   |(with_reducible first|refine nx ?_|refine t_seq fun K=>?_|refine t_br (fun hc=>?_) fun hc=>?_|refine t_bx ?_|apply And.intro|intro vr)
   |((with_reducible first|refine ny ?_|refine t_dwh (h:=fun K KL=>?_));intros;simp only [go_sem,kp51,geff]))
  all_goals try exact nd
  refine t_loopF (ι:={i:Nat // i≤6∧findK op (kds.drop i)=R}) (fun i=>[(8,.lit (.int .i64 i.1))]) (fun i=>[.box 92 [.lit .nilFunc,.lit .nilFunc,.lit .nilFunc]]) (fun i=>6 - i.1) ⟨0,by omega,hR⟩ ?_ ?_
  ·exact lf
  rintro ⟨i,hi,hF⟩ K0
  have hk6:kds.length=6:=rfl
  rcases Nat.lt_or_ge i 6 with hc|hc
  ·rw [drop_getD Kd.prim (show i<kds.length from hc),findK] at hF
   have g3:decide ((i:Int)<(kds.length:Int))=true:=decide_eq_true (by omega)
   generalize hs:kds.getD i Kd.prim=k at hF
   cases k with
   |prim=>
    cases h4:hasK op .prim with
    |true=>
     rw [if_pos h4] at hF
     simp only [hasK] at h4
     repeat' (first
      |(with_reducible first|refine nx ?_|refine t_seq fun K=>?_|refine t_br (fun hc=>?_) fun hc=>?_|refine t_bx ?_|apply And.intro|intro vr)
      |((with_reducible first|refine ny ?_|refine t_dwh (h:=fun K KL=>?_));intros;simp only [go_sem,kp51,geff,g3,hs,kdV,h4,Int.toNat_natCast,kdsV_length]))
     all_goals try exact nd
     all_goals (refine nl ?_;simp only [go_sem])
     rw [←hF]
     exact LeA.refl _
    |false=>
     rw [if_neg (by rw [h4];decide)] at hF
     simp only [hasK] at h4
     repeat' (first
      |(with_reducible first|refine nx ?_|refine t_seq fun K=>?_|refine t_br (fun hc=>?_) fun hc=>?_|refine t_bx ?_|apply And.intro|intro vr)
      |((with_reducible first|refine ny ?_|refine t_dwh (h:=fun K KL=>?_));intros;simp only [go_sem,kp51,geff,g3,hs,kdV,h4,Int.toNat_natCast,kdsV_length]))
     all_goals try exact nd
     refine ⟨⟨i+1,by omega,hF⟩,by first|(simp only;omega)|omega,?_⟩
     simp only [updL_nil,updL_cons,delF_top,delF_upd,Nat.reduceEqDiff,reduceIte]
     refine le_backD (by first|rfl|(simp only [go_sem];try rfl)) (by first|exact Nat.zero_le _|simp) (by first|rfl|simp [lowO,low_lit,low_sl,low_ref,low_arr]) ?_ ?_
     ·repeat' (first|exact low_top|(refine low_upd rfl ?_))
     repeat' (first|exact leF_top _|exact (fun _=>LeR.refl _)|(with_reducible refine leF_sl ?_ ?_)|(refine leF_upd ?_ ?_))
     all_goals (first|exact LeR.top _|exact LeR.refl _|(refine LeR.of_eq ?_;(try simp only [go_sem]);try rfl)|((try simp only [go_sem]);try rfl))
   |struc=>
    cases h4:hasK op .struc with
    |true=>
     rw [if_pos h4] at hF
     simp only [hasK] at h4
     repeat' (first
      |(with_reducible first|refine nx ?_|refine t_seq fun K=>?_|refine t_br (fun hc=>?_) fun hc=>?_|refine t_bx ?_|apply And.intro|intro vr)
      |((with_reducible first|refine ny ?_|refine t_dwh (h:=fun K KL=>?_));intros;simp only [go_sem,kp51,geff,g3,hs,kdV,h4,Int.toNat_natCast,kdsV_length]))
     all_goals try exact nd
     all_goals (refine nl ?_;simp only [go_sem])
     rw [←hF]
     exact LeA.refl _
    |false=>
     rw [if_neg (by rw [h4];decide)] at hF
     simp only [hasK] at h4
     repeat' (first
      |(with_reducible first|refine nx ?_|refine t_seq fun K=>?_|refine t_br (fun hc=>?_) fun hc=>?_|refine t_bx ?_|apply And.intro|intro vr)
      |((with_reducible first|refine ny ?_|refine t_dwh (h:=fun K KL=>?_));intros;simp only [go_sem,kp51,geff,g3,hs,kdV,h4,Int.toNat_natCast,kdsV_length]))
     all_goals try exact nd
     refine ⟨⟨i+1,by omega,hF⟩,by first|(simp only;omega)|omega,?_⟩
     simp only [updL_nil,updL_cons,delF_top,delF_upd,Nat.reduceEqDiff,reduceIte]
     refine le_backD (by first|rfl|(simp only [go_sem];try rfl)) (by first|exact Nat.zero_le _|simp) (by first|rfl|simp [lowO,low_lit,low_sl,low_ref,low_arr]) ?_ ?_
     ·repeat' (first|exact low_top|(refine low_upd rfl ?_))
     repeat' (first|exact leF_top _|exact (fun _=>LeR.refl _)|(with_reducible refine leF_sl ?_ ?_)|(refine leF_upd ?_ ?_))
     all_goals (first|exact LeR.top _|exact LeR.refl _|(refine LeR.of_eq ?_;(try simp only [go_sem]);try rfl)|((try simp only [go_sem]);try rfl))
   |fold=>
    cases h4:hasK op .fold with
    |true=>
     rw [if_pos h4] at hF
     simp only [hasK] at h4
     repeat' (first
      |(with_reducible first|refine nx ?_|refine t_seq fun K=>?_|refine t_br (fun hc=>?_) fun hc=>?_|refine t_bx ?_|apply And.intro|intro vr)
      |((with_reducible first|refine ny ?_|refine t_dwh (h:=fun K KL=>?_));intros;simp only [go_sem,kp51,geff,g3,hs,kdV,h4,Int.toNat_natCast,kdsV_length]))
     all_goals try exact nd
     all_goals (refine nl ?_;simp only [go_sem])
     rw [←hF]
     exact LeA.refl _
    |false=>
     rw [if_neg (by rw [h4];decide)] at hF
     simp only [hasK] at h4
     repeat' (first
      |(with_reducible first|refine nx ?_|refine t_seq fun K=>?_|refine t_br (fun hc=>?_) fun hc=>?_|refine t_bx ?_|apply And.intro|intro vr)
      |((with_reducible first|refine ny ?_|refine t_dwh (h:=fun K KL=>?_));intros;simp only [go_sem,kp51,geff,g3,hs,kdV,h4,Int.toNat_natCast,kdsV_length]))
     all_goals try exact nd
     refine ⟨⟨i+1,by omega,hF⟩,by first|(simp only;omega)|omega,?_⟩
     simp only [updL_nil,updL_cons,delF_top,delF_upd,Nat.reduceEqDiff,reduceIte]
     refine le_backD (by first|rfl|(simp only [go_sem];try rfl)) (by first|exact Nat.zero_le _|simp) (by first|rfl|simp [lowO,low_lit,low_sl,low_ref,low_arr]) ?_ ?_
     ·repeat' (first|exact low_top|(refine low_upd rfl ?_))
     repeat' (first|exact leF_top _|exact (fun _=>LeR.refl _)|(with_reducible refine leF_sl ?_ ?_)|(refine leF_upd ?_ ?_))
     all_goals (first|exact LeR.top _|exact LeR.refl _|(refine LeR.of_eq ?_;(try simp only [go_sem]);try rfl)|((try simp only [go_sem]);try rfl))
   |scan=>
    cases h4:hasK op .scan with
    |true=>
     rw [if_pos h4] at hF
     simp only [hasK] at h4
     repeat' (first
      |(with_reducible first|refine nx ?_|refine t_seq fun K=>?_|refine t_br (fun hc=>?_) fun hc=>?_|refine t_bx ?_|apply And.intro|intro vr)
      |((with_reducible first|refine ny ?_|refine t_dwh (h:=fun K KL=>?_));intros;simp only [go_sem,kp51,geff,g3,hs,kdV,h4,Int.toNat_natCast,kdsV_length]))
     all_goals try exact nd
     all_goals (refine nl ?_;simp only [go_sem])
     rw [←hF]
     exact LeA.refl _
    |false=>
     rw [if_neg (by rw [h4];decide)] at hF
     simp only [hasK] at h4
     repeat' (first
      |(with_reducible first|refine nx ?_|refine t_seq fun K=>?_|refine t_br (fun hc=>?_) fun hc=>?_|refine t_bx ?_|apply And.intro|intro vr)
      |((with_reducible first|refine ny ?_|refine t_dwh (h:=fun K KL=>?_));intros;simp only [go_sem,kp51,geff,g3,hs,kdV,h4,Int.toNat_natCast,kdsV_length]))
     all_goals try exact nd
     refine ⟨⟨i+1,by omega,hF⟩,by first|(simp only;omega)|omega,?_⟩
     simp only [updL_nil,updL_cons,delF_top,delF_upd,Nat.reduceEqDiff,reduceIte]
     refine le_backD (by first|rfl|(simp only [go_sem];try rfl)) (by first|exact Nat.zero_le _|simp) (by first|rfl|simp [lowO,low_lit,low_sl,low_ref,low_arr]) ?_ ?_
     ·repeat' (first|exact low_top|(refine low_upd rfl ?_))
     repeat' (first|exact leF_top _|exact (fun _=>LeR.refl _)|(with_reducible refine leF_sl ?_ ?_)|(refine leF_upd ?_ ?_))
     all_goals (first|exact LeR.top _|exact LeR.refl _|(refine LeR.of_eq ?_;(try simp only [go_sem]);try rfl)|((try simp only [go_sem]);try rfl))
   |const=>
    cases h4:hasK op .const with
    |true=>
     rw [if_pos h4] at hF
     simp only [hasK] at h4
     repeat' (first
      |(with_reducible first|refine nx ?_|refine t_seq fun K=>?_|refine t_br (fun hc=>?_) fun hc=>?_|refine t_bx ?_|apply And.intro|intro vr)
      |((with_reducible first|refine ny ?_|refine t_dwh (h:=fun K KL=>?_));intros;simp only [go_sem,kp51,geff,g3,hs,kdV,h4,Int.toNat_natCast,kdsV_length]))
     all_goals try exact nd
     all_goals (refine nl ?_;simp only [go_sem])
     rw [←hF]
     exact LeA.refl _
    |false=>
     rw [if_neg (by rw [h4];decide)] at hF
     simp only [hasK] at h4
     repeat' (first
      |(with_reducible first|refine nx ?_|refine t_seq fun K=>?_|refine t_br (fun hc=>?_) fun hc=>?_|refine t_bx ?_|apply And.intro|intro vr)
      |((with_reducible first|refine ny ?_|refine t_dwh (h:=fun K KL=>?_));intros;simp only [go_sem,kp51,geff,g3,hs,kdV,h4,Int.toNat_natCast,kdsV_length]))
     all_goals try exact nd
     refine ⟨⟨i+1,by omega,hF⟩,by first|(simp only;omega)|omega,?_⟩
     simp only [updL_nil,updL_cons,delF_top,delF_upd,Nat.reduceEqDiff,reduceIte]
     refine le_backD (by first|rfl|(simp only [go_sem];try rfl)) (by first|exact Nat.zero_le _|simp) (by first|rfl|simp [lowO,low_lit,low_sl,low_ref,low_arr]) ?_ ?_
     ·repeat' (first|exact low_top|(refine low_upd rfl ?_))
     repeat' (first|exact leF_top _|exact (fun _=>LeR.refl _)|(with_reducible refine leF_sl ?_ ?_)|(refine leF_upd ?_ ?_))
     all_goals (first|exact LeR.top _|exact LeR.refl _|(refine LeR.of_eq ?_;(try simp only [go_sem]);try rfl)|((try simp only [go_sem]);try rfl))
   |size=>
    cases h4:hasK op .size with
    |true=>
     rw [if_pos h4] at hF
     simp only [hasK] at h4
     repeat' (first
      |(with_reducible first|refine nx ?_|refine t_seq fun K=>?_|refine t_br (fun hc=>?_) fun hc=>?_|refine t_bx ?_|apply And.intro|intro vr)
      |((with_reducible first|refine ny ?_|refine t_dwh (h:=fun K KL=>?_));intros;simp only [go_sem,kp51,geff,g3,hs,kdV,h4,Int.toNat_natCast,kdsV_length]))
     all_goals try exact nd
     all_goals (refine nl ?_;simp only [go_sem])
     rw [←hF]
     exact LeA.refl _
    |false=>
     rw [if_neg (by rw [h4];decide)] at hF
     simp only [hasK] at h4
     repeat' (first
      |(with_reducible first|refine nx ?_|refine t_seq fun K=>?_|refine t_br (fun hc=>?_) fun hc=>?_|refine t_bx ?_|apply And.intro|intro vr)
      |((with_reducible first|refine ny ?_|refine t_dwh (h:=fun K KL=>?_));intros;simp only [go_sem,kp51,geff,g3,hs,kdV,h4,Int.toNat_natCast,kdsV_length]))
     all_goals try exact nd
     refine ⟨⟨i+1,by omega,hF⟩,by first|(simp only;omega)|omega,?_⟩
     simp only [updL_nil,updL_cons,delF_top,delF_upd,Nat.reduceEqDiff,reduceIte]
     refine le_backD (by first|rfl|(simp only [go_sem];try rfl)) (by first|exact Nat.zero_le _|simp) (by first|rfl|simp [lowO,low_lit,low_sl,low_ref,low_arr]) ?_ ?_
     ·repeat' (first|exact low_top|(refine low_upd rfl ?_))
     repeat' (first|exact leF_top _|exact (fun _=>LeR.refl _)|(with_reducible refine leF_sl ?_ ?_)|(refine leF_upd ?_ ?_))
     all_goals (first|exact LeR.top _|exact LeR.refl _|(refine LeR.of_eq ?_;(try simp only [go_sem]);try rfl)|((try simp only [go_sem]);try rfl))
  ·have g3:decide ((i:Int)<(kds.length:Int))=false:=decide_eq_false (by omega)
   rw [List.drop_eq_nil_of_le (by omega),findK] at hF
   repeat' (first
    |(with_reducible first|refine nx ?_|refine t_seq fun K=>?_|refine t_br (fun hc=>?_) fun hc=>?_|refine t_bx ?_|apply And.intro|intro vr)
    |((with_reducible first|refine ny ?_|refine t_dwh (h:=fun K KL=>?_));intros;simp only [go_sem,kp51,geff,g3,Int.toNat_natCast,kdsV_length]))
   all_goals try exact nd
   all_goals (refine nl ?_;simp only [go_sem])
   rw [←hF]
   exact LeA.refl _
noncomputable def con51:PCon Tryz.prog where
  f:=51
  c:=fun
   |[.lit (.string op)]=>some (True,fdV (kindS op))
   |_=>none
  ok:=by
   intro args p r hc hp
   split at hc
   ·cases hc;exact kfind_pc
   ·cases hc
  fk:=fk51
theorem con51_f:con51.f=51:=rfl
theorem con51_c {op:ByteArray}:con51.c [.lit (.string op)]=some (True,fdV (kindS op)):=rfl
attribute [go_sem] con51_f con51_c
end Go.Proofs.YtcpjahmajkhchaaGreat

namespace Go.Proofs.YtcpjahmajkhchaaGreat
open Go Go.Fw
set_option maxRecDepth 20000
structure Ins where
  op:ByteArray
  a1:List AV
  a2:List AV
  ax:List (List Int)
  a4:List AV
  num:Int
  arr:Arr
  fn:List Stp
  ck:Int
  t1:ByteArray
  t2:ByteArray
  t3:List AV
def insV (i:Ins):AV:= .agg [.lit (.string i.op),.sl false 1 i.a1,.sl false 2 i.a2,.sl false 1 (ils i.ax),.sl false 2 i.a4,.lit (.int .i64 i.num),.lit (.string i.arr.e),.sl false 1 (ints .i64 i.arr.d),.sl false 1 (ints .i64 i.arr.x),.sl false 3 (stps i.fn),.lit (.int .i64 i.ck),.lit (.string i.t1),.lit (.string i.t2),.sl false 2 i.t3]
def insOf:AV→Option Ins
  |.agg [.lit (.string op),x1,x2,x3,x4,.lit (.int .i64 num),.lit (.string e),xd,xx,xf,.lit (.int .i64 ck),.lit (.string t1),.lit (.string t2),x13]=>
   match slA 1 x1,slA 2 x2,ilsOf x3,slA 2 x4,slK .i64 xd,slK .i64 xx,stpsOf xf,slA 2 x13 with
   |some a1,some a2,some ax,some a4,some d,some x,some f,some t3=>some ⟨op,a1,a2,ax,a4,num,⟨e,d,x⟩,f,ck,t1,t2,t3⟩
   |_,_,_,_,_,_,_,_=>none
  |_=>none
theorem insOf_agg {op e t1 t2:ByteArray} {x1 x2 x3 x4 xd xx xf x13:AV} {num ck:Int}:insOf (.agg [.lit (.string op),x1,x2,x3,x4,.lit (.int .i64 num),.lit (.string e),xd,xx,xf,.lit (.int .i64 ck),.lit (.string t1),.lit (.string t2),x13])=
    match slA 1 x1,slA 2 x2,ilsOf x3,slA 2 x4,slK .i64 xd,slK .i64 xx,stpsOf xf,slA 2 x13 with
    |some a1,some a2,some ax,some a4,some d,some x,some f,some t3=>some ⟨op,a1,a2,ax,a4,num,⟨e,d,x⟩,f,ck,t1,t2,t3⟩
    |_,_,_,_,_,_,_,_=>none:=rfl
theorem slA_sl {b:Bool} {n:Nat} {xs:List AV}:slA n (.sl b n xs)=some xs:=by simp [slA]
theorem insOf_le {x:AV} {i:Ins} (h:insOf x=some i):LeA x (insV i):=by
  unfold insOf at h
  split at h
  ·split at h
   ·rename_i h1 h2 h3 h4 h5 h6 h7 h8
    cases h
    exact LeA.agg ⟨LeA.refl _,slA_le h1,slA_le h2,ilsOf_le h3,slA_le h4,LeA.refl _,LeA.refl _,slK_le h5,slK_le h6,stpsOf_le h7,LeA.refl _,LeA.refl _,LeA.refl _,slA_le h8,trivial⟩
   ·cases h
  ·cases h
def formedS (i:Ins) (n:Int):Int:=
  if (n !=(if eqS i.op sSize=true then 1 else if (!isS i.op)=true then 0 else n)||(i.num !=0&& !eqS i.op n_chunk)||(eqS i.op sConst&& !(ofE i.arr==0)))=true then 1 else 0
noncomputable def B4:Env:=envJ (P:=Tryz.prog) jkK zer (fun _=>false) (fun _=>false) [con74,con45] []
theorem B4_ok:EnvOk Tryz.prog B4:=envJOk zer_ok
set_option maxHeartbeats 4000000 in
theorem formed_pc {i:Ins} {l:List Int} (ho:okA i.arr) (hl:l.length≤1000000):PC Tryz.prog 52 [insV i,.sl false 1 (ints .i64 l)] (.lit (.int .i64 (formedS i l.length))):=by
  obtain ⟨o1,o2⟩:=ho
  simp only [insV]
  refine pcR B4_ok (kp52) Tryz.func52 [.tmp 4] (h:=fun KF=>?_)
  unfold B4
  repeat' (first
   |(with_reducible first|refine nx ?_|refine t_seq fun K=>?_|refine t_br (fun hc=>?_) fun hc=>?_|refine t_bx ?_|apply And.intro|intro vr)
   |((with_reducible first|refine ny ?_|refine t_dwh (h:=fun K KL=>?_));intros;simp only [go_sem,kp52,geff]))
  all_goals try exact nd
  all_goals (refine nl ?_;simp only [go_sem])
  all_goals refine LeA.of_eq ?_
  all_goals (unfold formedS;simp_all [sSize,n_chunk,sConst])
noncomputable def con52:PCon Tryz.prog where
  f:=52
  c:=fun
   |[xi,xl]=>match insOf xi,slK .i64 xl with|some i,some l=>some (okA i.arr∧l.length≤1000000,.lit (.int .i64 (formedS i l.length)))|_,_=>none
   |_=>none
  ok:=by
   intro args p r hc hp
   split at hc
   ·split at hc
    ·rename_i hi hl
     cases hc
     exact PC.weak ((fun hp:_∧_=>formed_pc hp.1 hp.2) hp) ⟨insOf_le hi,slK_le hl,trivial⟩
    ·cases hc
   ·cases hc
  fk:=fk52
theorem con52_f:con52.f=52:=rfl
theorem con52_c {xi:AV} {xl:AV}:con52.c [xi,xl]=match insOf xi,slK .i64 xl with|some i,some l=>some (okA i.arr∧l.length≤1000000,.lit (.int .i64 (formedS i l.length)))|_,_=>none:=rfl
attribute [go_sem] con52_f con52_c
end Go.Proofs.YtcpjahmajkhchaaGreat

namespace Go.Proofs.YtcpjahmajkhchaaGreat
open Go Go.Fw
set_option maxRecDepth 20000
def nps (op:ByteArray):Nat:=match El.typesS op with
  |some r=>r.ps.length
  |none=>0
noncomputable def B5:Env:=envJ (P:=Tryz.prog) jkK zer (fun _=>false) (fun _=>false) [El.con65,con97,con117] []
theorem B5_ok:EnvOk Tryz.prog B5:=envJOk zer_ok
set_option maxHeartbeats 4000000 in
theorem zeros1_pc {op:ByteArray} {n:Int}:PC Tryz.prog 96 [.lit (.string op),.lit (.int .i64 n)] (rkV (fixS (List.replicate (nps op) 0) n)):=by
  unfold nps
  cases hT:El.typesS op with
  |none=>
   simp only
   refine pcR B5_ok (kp96) Tryz.func96 [.tmp 4,.tmp 5] (h:=fun KF=>?_)
   unfold B5
   repeat' (first
    |(with_reducible first|refine nx ?_|refine t_seq fun K=>?_|refine t_br (fun hc=>?_) fun hc=>?_|refine t_bx ?_|apply And.intro|intro vr)
    |((with_reducible first|refine ny ?_|refine t_dwh (h:=fun K KL=>?_));intros;simp only [go_sem,kp96,geff,hT,rep_ints,kOf_ints,rkV]))
   all_goals try exact nd
   all_goals (refine nl ?_;simp only [go_sem])
   exact LeA.refl _
  |some r=>
   have hr:=types_len hT
   simp only
   refine pcR B5_ok (kp96) Tryz.func96 [.tmp 4,.tmp 5] (h:=fun KF=>?_)
   unfold B5
   repeat' (first
    |(with_reducible first|refine nx ?_|refine t_seq fun K=>?_|refine t_br (fun hc=>?_) fun hc=>?_|refine t_bx ?_|apply And.intro|intro vr)
    |((with_reducible first|refine ny ?_|refine t_dwh (h:=fun K KL=>?_));intros;simp only [go_sem,kp96,geff,hT,rep_ints,kOf_ints,rkV,strs_length,Int.toNat_natCast]))
   all_goals try exact nd
   all_goals (refine nl ?_;simp only [go_sem])
   exact LeA.refl _
noncomputable def con96:PCon Tryz.prog where
  f:=96
  c:=fun
   |[.lit (.string op),.lit (.int .i64 n)]=>some (True,rkV (fixS (List.replicate (nps op) 0) n))
   |_=>none
  ok:=by
   intro args p r hc hp
   split at hc
   ·cases hc;exact zeros1_pc
   ·cases hc
  fk:=fk96
theorem con96_f:con96.f=96:=rfl
theorem con96_c {op:ByteArray} {n:Int}:con96.c [.lit (.string op),.lit (.int .i64 n)]=some (True,rkV (fixS (List.replicate (nps op) 0) n)):=rfl
attribute [go_sem] con96_f con96_c
end Go.Proofs.YtcpjahmajkhchaaGreat

namespace Go.Proofs.YtcpjahmajkhchaaGreat
open Go Go.Fw
set_option maxRecDepth 20000
def elT (L:List Arr) (i:Nat):List ByteArray:=(L.take i).map (·.e)
def x0T (L:List Arr) (i:Nat):List Int:=(L.take i).map fun a=>a.x.getD 0 0
theorem take_getD {cs:List Arr} {i:Nat} (h:i<cs.length):cs.take (i+1)=cs.take i++[cs.getD i nilA]:=by
  rw [List.take_add_one,List.getElem?_eq_getElem h,List.getD_eq_getElem?_getD,List.getElem?_eq_getElem h];rfl
theorem elT_succ {L:List Arr} {i:Nat} (h:i<L.length):elT L (i+1)=elT L i++[(L.getD i nilA).e]:=by simp only [elT,take_getD h,List.map_append,List.map_cons,List.map_nil]
theorem x0T_succ {L:List Arr} {i:Nat} (h:i<L.length):x0T L (i+1)=x0T L i++[(L.getD i nilA).x.getD 0 0]:=by simp only [x0T,take_getD h,List.map_append,List.map_cons,List.map_nil]
theorem elT_len {L:List Arr} {i:Nat} (h:i≤L.length):(elT L i).length=i:=by simp [elT];omega
theorem x0T_len {L:List Arr} {i:Nat} (h:i≤L.length):(x0T L i).length=i:=by simp [x0T];omega
def scalS (op:ByteArray) (L:List Arr):Arr×Int:=match El.resS op (L.map (·.e)) with
  |none=>(nilA,12)
  |some t=>ofS ⟨t,[],[(El.applyS op (L.map fun a=>a.x.getD 0 0)).getD 0]⟩
def a3V (p:Arr×Bool×Int):AV:= .tup [arrV p.1,.lit (.bool p.2.1),.lit (.int .i64 p.2.2)]
theorem a3_of {e:ByteArray} {x y:AV} {b:Bool} {n:Int} {d w:List Int} {r:Arr×Bool×Int} (hx:slK .i64 x=some d) (hy:slK .i64 y=some w) (h:r=(⟨e,d,w⟩,b,n)):LeA (.tup [.agg [.lit (.string e),x,y],.lit (.bool b),.lit (.int .i64 n)]) (a3V r):=by
  subst h
  exact LeA.tup ⟨LeA.agg ⟨LeA.refl _,slK_le hx,slK_le hy,trivial⟩,LeA.refl _,LeA.refl _,trivial⟩
attribute [go_sem] arrs_length
noncomputable def B6:Env:=envJ (P:=Tryz.prog) jkK zer (fun _=>false) (fun _=>false) [El.con63,El.con41,con47] []
theorem B6_ok:EnvOk Tryz.prog B6:=envJOk zer_ok
set_option maxHeartbeats 8000000 in
theorem scalar_pc {i:Ins} {l:List Int} {L:List Arr} (hL:L.length≤1000000) (hx:∀ a∈L,1≤a.x.length):PC Tryz.prog 98 [insV i,.sl false 1 (ints .i64 l),.sl false 3 (arrs L)] (a3V ((scalS i.op L).1,false,(scalS i.op L).2)):=by
  generalize hR:scalS i.op L=R
  obtain ⟨op,a1,a2,ax,a4,num,⟨ae,ad,aX⟩,fn,ck,t1,t2,t3⟩:=i
  unfold scalS at hR
  simp only [insV]
  simp only at hR
  refine pcR B6_ok (kp98) Tryz.func98 [.cell 6 31,.tmp 7,.tmp 8] (h:=fun KF=>?_)
  unfold B6
  repeat' (first
   |(with_reducible first|refine nx ?_|refine t_seq fun K=>?_|refine t_br (fun hc=>?_) fun hc=>?_|refine t_bx ?_|apply And.intro|intro vr)|exact kpd
   |((with_reducible first|refine ny ?_|refine t_kLF ?_ ?_|refine t_drawE (id:=6) (fun _=>true) [(0,1),(1,1),(2,1),(3,1),(5,1),(6,1),(7,1),(8,1),(9,1),(10,1),(4,0),(11,0),(12,1),(13,1)] (by kernel_rfl) fun K=>?_|refine t_dwh (h:=fun K KL=>?_));intros;simp only [go_sem,kp98,geff]))
  all_goals try exact nd
  refine t_loopF (ι:={p:Nat×Nat×Nat // p.1≤L.length}) (fun i=>[(21,.lit (.int .i64 i.1.1)),(9,.arr 2 i.1.2.1),(10,.arr 3 i.1.2.2)]) (fun i=>[.box 56 [.lit (.string op),.sl false 1 a1,.sl false 2 a2,.sl false 1 (ils ax),.sl false 2 a4,.lit (.int .i64 num),.lit (.string ae),.sl false 1 (ints .i64 ad),.sl false 1 (ints .i64 aX),.sl false 3 (stps fn),.lit (.int .i64 ck),.lit (.string t1),.lit (.string t2),.sl false 2 t3],.box 31 [.lit (.string ByteArray.empty),.sl true 1 [],.sl true 1 []],.arr 9 1 (strs (elT L i.1.1)) i.1.2.1 false,.arr 3 1 (ints .i64 (x0T L i.1.1)) i.1.2.2 false]) (fun i=>L.length - i.1.1) ⟨(0,0,0),by simp⟩ ?_ ?_
  ·refine (le_nil 9 9 1 rfl).trans ?_
   refine (le_nil 10 3 1 rfl).trans ?_
   exact lf
  rintro ⟨⟨j,v,w⟩,hj⟩ K0
  simp only at hj
  have h1:=elT_len hj
  have h2:=x0T_len hj
  rcases Nat.lt_or_ge j L.length with hc|hc
  ·have g3:decide ((j:Int)<(L.length:Int))=true:=decide_eq_true (by omega)
   have hx1:=hx _ (getD_mem nilA hc)
   repeat' (first
    |(with_reducible first|refine nx ?_|refine t_seq fun K=>?_|refine t_br (fun hc=>?_) fun hc=>?_|refine t_bx ?_|apply And.intro|intro vr)|exact kpd
    |((with_reducible first|refine ny ?_|refine t_kLF ?_ ?_|refine t_drawE (id:=6) (fun _=>true) [(0,1),(1,1),(2,1),(3,1),(5,1),(6,1),(7,1),(8,1),(9,1),(10,1),(4,0),(11,0),(12,1),(13,1)] (by kernel_rfl) fun K=>?_|refine t_dwh (h:=fun K KL=>?_));intros;simp only [go_sem,kp98,geff,g3,arrV,Int.toNat_natCast,←elT_succ hc,←x0T_succ hc]))
   all_goals try exact nd
   refine ⟨⟨(j+1,v+1,w+1),by omega⟩,by first|(simp only;omega)|omega,?_⟩
   simp only [updL_nil,updL_cons,delF_top,delF_upd,Nat.reduceEqDiff,reduceIte]
   refine le_backD (by first|rfl|(simp only [go_sem];try rfl)) (by first|exact Nat.zero_le _|simp) (by first|rfl|simp [lowO,low_lit,low_sl,low_ref,low_arr]) ?_ ?_
   ·repeat' (first|exact low_top|(refine low_upd rfl ?_))
   repeat' (first|exact leF_top _|exact (fun _=>LeR.refl _)|(with_reducible refine leF_sl ?_ ?_)|(refine leF_upd ?_ ?_))
   all_goals (first|exact LeR.top _|exact LeR.refl _|(refine LeR.of_eq ?_;(try simp only [go_sem]);try rfl)|((try simp only [go_sem]);try rfl))
  ·have g3:decide ((j:Int)<(L.length:Int))=false:=decide_eq_false (by omega)
   have e1:elT L j=L.map (·.e):=by unfold elT;rw [List.take_of_length_le hc]
   have e2:x0T L j=L.map (fun a=>a.x.getD 0 0):=by unfold x0T;rw [List.take_of_length_le hc]
   have h3:(L.map (·.e)).length≤1000000:=by simpa using hL
   cases hA:El.resS op (L.map (·.e)) with
   |none=>
    rw [hA] at hR
    simp only at hR
    repeat' (first
     |(with_reducible first|refine nx ?_|refine t_seq fun K=>?_|refine t_br (fun hc=>?_) fun hc=>?_|refine t_bx ?_|apply And.intro|intro vr)|exact kpd
     |((with_reducible first|refine ny ?_|refine t_kLF ?_ ?_|refine t_drawE (id:=6) (fun _=>true) [(0,1),(1,1),(2,1),(3,1),(5,1),(6,1),(7,1),(8,1),(9,1),(10,1),(4,0),(11,0),(12,1),(13,1)] (by kernel_rfl) fun K=>?_|refine t_dwh (h:=fun K KL=>?_));intros;simp only [go_sem,kp98,geff,g3,e1,e2,hA,rsV_none,Int.toNat_natCast,Bool.not_false]))
    all_goals try exact nd
    all_goals (refine nl ?_;simp only [go_sem])
    exact a3_of rfl rfl (by rw [←hR];rfl)
   |some t=>
    rw [hA] at hR
    simp only at hR
    generalize hB:El.applyS op (L.map fun a=>a.x.getD 0 0)=B at hR
    generalize hO:ofS ⟨t,[],[B.getD 0]⟩=O at hR
    obtain ⟨oa,oe⟩:=O
    cases B with
    |none=>
     have hO':ofS ⟨t,[],[0]⟩=(oa,oe):=hO
     repeat' (first
      |(with_reducible first|refine nx ?_|refine t_seq fun K=>?_|refine t_br (fun hc=>?_) fun hc=>?_|refine t_bx ?_|apply And.intro|intro vr)|exact kpd
      |((with_reducible first|refine ny ?_|refine t_kLF ?_ ?_|refine t_drawE (id:=6) (fun _=>true) [(0,1),(1,1),(2,1),(3,1),(5,1),(6,1),(7,1),(8,1),(9,1),(10,1),(4,0),(11,0),(12,1),(13,1)] (by kernel_rfl) fun K=>?_|refine t_dwh (h:=fun K KL=>?_));intros;simp only [go_sem,kp98,geff,g3,e1,e2,hA,hB,hO',rsV_some,applyV_none,arrV,Int.toNat_natCast,Bool.not_true]))
     all_goals try exact nd
     all_goals (refine nl ?_;simp only [go_sem])
     exact a3_of slK_sl slK_sl (by rw [←hR])
    |some n=>
     have hO':ofS ⟨t,[],[n]⟩=(oa,oe):=hO
     repeat' (first
      |(with_reducible first|refine nx ?_|refine t_seq fun K=>?_|refine t_br (fun hc=>?_) fun hc=>?_|refine t_bx ?_|apply And.intro|intro vr)|exact kpd
      |((with_reducible first|refine ny ?_|refine t_kLF ?_ ?_|refine t_drawE (id:=6) (fun _=>true) [(0,1),(1,1),(2,1),(3,1),(5,1),(6,1),(7,1),(8,1),(9,1),(10,1),(4,0),(11,0),(12,1),(13,1)] (by kernel_rfl) fun K=>?_|refine t_dwh (h:=fun K KL=>?_));intros;simp only [go_sem,kp98,geff,g3,e1,e2,hA,hB,hO',rsV_some,applyV_some,arrV,Int.toNat_natCast,Bool.not_true]))
     all_goals try exact nd
     all_goals (refine nl ?_;simp only [go_sem])
     exact a3_of slK_sl slK_sl (by rw [←hR])
end Go.Proofs.YtcpjahmajkhchaaGreat

namespace Go.Proofs.YtcpjahmajkhchaaGreat.St
open Go.Proofs.YtcpjahmajkhchaaGreat
open Go Go.Fw
set_option maxRecDepth 20000
def wantS (e:Ent):Int:=if e.sized=true then 1 else 0
def givenS (op:ByteArray) (ns:Int) (num n:Int):Ent×Int:=
  if (findS op n).2=false then ((findS op n).1,7)
  else if ((findS op n).1.ranks.length:Int)≠n∨ns≠wantS (findS op n).1∨(num≠0∧eqS op n_chunk=false) then ((findS op n).1,1)
  else ((findS op n).1,0)
theorem gv_of {s:ByteArray} {b:Bool} {x y z:AV} {r:List Int} {n:Int} {o p:Option Nat} {q:Ent×Int} (hx:slK .i64 x=some r) (hy:y=fnV o) (hz:z=fnV p) (h:(⟨s,b,r,o,p⟩,n)=q):LeA (.tup [.agg [.lit (.string s),.lit (.bool b),x,y,z],.lit (.int .i64 n)]) (gV q):=by
  subst h
  exact LeA.tup ⟨ent_of hx hy hz rfl,LeA.refl _,trivial⟩
noncomputable def F6:Env:=envJ (P:=Tryz.prog) jk2 zer (fun _=>false) (fun _=>true) [con118] []
theorem F6_ok:EnvOk Tryz.prog F6:=envJOk zer_ok
set_option maxRecDepth 20000 in
set_option maxHeartbeats 4000000 in
theorem given_pc {op:ByteArray} {ns:List Int} {num n:Int} (hn:n≤1000000):PC Tryz.prog 119 [.lit (.string op),.sl false 1 (ints .i64 ns),.lit (.int .i64 num),.lit (.int .i64 n)] (gV (givenS op ns.length num n)):=by
  generalize hR:givenS op ns.length num n=R
  unfold givenS at hR
  generalize hF:findS op n=r at hR
  obtain ⟨⟨s,b,rk,o,p⟩,ok⟩:=r
  rcases o with _|g1<;>rcases p with _|g2
  all_goals simp only at hR
  ·skip
   refine pcR F6_ok (fun _=>[0,1,2,3,8,9,10,11,12,20,21,25]) Tryz.func119 [.cell 8 143,.tmp 9] (h:=fun KF=>?_)
   unfold F6
   repeat' (first
    |(with_reducible first|refine nx ?_|refine t_seq fun K=>?_|refine t_bx ?_|apply And.intro|intro vr)
    |((with_reducible refine t_cond fun A B=>?_);simp only [go_sem,geff_true,geff_false,con118_f,con118_c,hF,eV_def,entV_def,fnV_none,fnV_some];first|(with_reducible refine A.h ?_)|(with_reducible refine B.h ?_)|(refine And.intro (fun hc=>A.h ?_) (fun hc=>B.h ?_)))
    |((with_reducible first|refine ny ?_|refine t_dwh (h:=fun K KL=>?_));intros;simp only [go_sem,geff_true,geff_false,con118_f,con118_c,hF,eV_def,entV_def,fnV_none,fnV_some])
    |((with_reducible refine t_geffS (fun hg=>?_) (fun hg=>?_))<;>((try simp only [Bool.not_eq_true',Bool.not_eq_false',Bool.and_eq_true,Bool.or_eq_false_iff] at hg);simp only [hg,go_sem,geff_true,geff_false,con118_f,con118_c,hF,eV_def,entV_def,fnV_none,fnV_some])))
   all_goals try exact nd
   all_goals (refine nl ?_;simp only [go_sem])
   all_goals refine gv_of (o:=none) (p:=none) slK_sl rfl rfl ?_
   all_goals rw [←hR]
   all_goals simp_all [wantS,n_chunk]
  ·skip
   refine pcR F6_ok (fun _=>[0,1,2,3,8,9,10,11,12,20,21,25]) Tryz.func119 [.cell 8 143,.tmp 9] (h:=fun KF=>?_)
   unfold F6
   repeat' (first
    |(with_reducible first|refine nx ?_|refine t_seq fun K=>?_|refine t_bx ?_|apply And.intro|intro vr)
    |((with_reducible refine t_cond fun A B=>?_);simp only [go_sem,geff_true,geff_false,con118_f,con118_c,hF,eV_def,entV_def,fnV_none,fnV_some];first|(with_reducible refine A.h ?_)|(with_reducible refine B.h ?_)|(refine And.intro (fun hc=>A.h ?_) (fun hc=>B.h ?_)))
    |((with_reducible first|refine ny ?_|refine t_dwh (h:=fun K KL=>?_));intros;simp only [go_sem,geff_true,geff_false,con118_f,con118_c,hF,eV_def,entV_def,fnV_none,fnV_some])
    |((with_reducible refine t_geffS (fun hg=>?_) (fun hg=>?_))<;>((try simp only [Bool.not_eq_true',Bool.not_eq_false',Bool.and_eq_true,Bool.or_eq_false_iff] at hg);simp only [hg,go_sem,geff_true,geff_false,con118_f,con118_c,hF,eV_def,entV_def,fnV_none,fnV_some])))
   all_goals try exact nd
   all_goals (refine nl ?_;simp only [go_sem])
   all_goals refine gv_of (o:=none) (p:=some g2) slK_sl rfl rfl ?_
   all_goals rw [←hR]
   all_goals simp_all [wantS,n_chunk]
  ·skip
   refine pcR F6_ok (fun _=>[0,1,2,3,8,9,10,11,12,20,21,25]) Tryz.func119 [.cell 8 143,.tmp 9] (h:=fun KF=>?_)
   unfold F6
   repeat' (first
    |(with_reducible first|refine nx ?_|refine t_seq fun K=>?_|refine t_bx ?_|apply And.intro|intro vr)
    |((with_reducible refine t_cond fun A B=>?_);simp only [go_sem,geff_true,geff_false,con118_f,con118_c,hF,eV_def,entV_def,fnV_none,fnV_some];first|(with_reducible refine A.h ?_)|(with_reducible refine B.h ?_)|(refine And.intro (fun hc=>A.h ?_) (fun hc=>B.h ?_)))
    |((with_reducible first|refine ny ?_|refine t_dwh (h:=fun K KL=>?_));intros;simp only [go_sem,geff_true,geff_false,con118_f,con118_c,hF,eV_def,entV_def,fnV_none,fnV_some])
    |((with_reducible refine t_geffS (fun hg=>?_) (fun hg=>?_))<;>((try simp only [Bool.not_eq_true',Bool.not_eq_false',Bool.and_eq_true,Bool.or_eq_false_iff] at hg);simp only [hg,go_sem,geff_true,geff_false,con118_f,con118_c,hF,eV_def,entV_def,fnV_none,fnV_some])))
   all_goals try exact nd
   all_goals (refine nl ?_;simp only [go_sem])
   all_goals refine gv_of (o:=some g1) (p:=none) slK_sl rfl rfl ?_
   all_goals rw [←hR]
   all_goals simp_all [wantS,n_chunk]
  ·skip
   refine pcR F6_ok (fun _=>[0,1,2,3,8,9,10,11,12,20,21,25]) Tryz.func119 [.cell 8 143,.tmp 9] (h:=fun KF=>?_)
   unfold F6
   repeat' (first
    |(with_reducible first|refine nx ?_|refine t_seq fun K=>?_|refine t_bx ?_|apply And.intro|intro vr)
    |((with_reducible refine t_cond fun A B=>?_);simp only [go_sem,geff_true,geff_false,con118_f,con118_c,hF,eV_def,entV_def,fnV_none,fnV_some];first|(with_reducible refine A.h ?_)|(with_reducible refine B.h ?_)|(refine And.intro (fun hc=>A.h ?_) (fun hc=>B.h ?_)))
    |((with_reducible first|refine ny ?_|refine t_dwh (h:=fun K KL=>?_));intros;simp only [go_sem,geff_true,geff_false,con118_f,con118_c,hF,eV_def,entV_def,fnV_none,fnV_some])
    |((with_reducible refine t_geffS (fun hg=>?_) (fun hg=>?_))<;>((try simp only [Bool.not_eq_true',Bool.not_eq_false',Bool.and_eq_true,Bool.or_eq_false_iff] at hg);simp only [hg,go_sem,geff_true,geff_false,con118_f,con118_c,hF,eV_def,entV_def,fnV_none,fnV_some])))
   all_goals try exact nd
   all_goals (refine nl ?_;simp only [go_sem])
   all_goals refine gv_of (o:=some g1) (p:=some g2) slK_sl rfl rfl ?_
   all_goals rw [←hR]
   all_goals simp_all [wantS,n_chunk]
noncomputable def con119:PCon Tryz.prog where
  f:=119
  c:=fun
   |[.lit (.string op),xns,.lit (.int .i64 num),.lit (.int .i64 n)]=>match slK .i64 xns with|some ns=>some (n≤1000000,gV (givenS op ns.length num n))|_=>none
   |_=>none
  ok:=by
   intro args p r hc hp
   split at hc
   ·split at hc
    ·rename_i hns
     cases hc
     exact PC.weak (given_pc hp) ⟨LeA.refl _,slK_le hns,LeA.refl _,LeA.refl _,trivial⟩
    ·cases hc
   ·cases hc
  fk:=fk119
theorem con119_f:con119.f=119:=rfl
theorem con119_c {op:ByteArray} {xns:AV} {num:Int} {n:Int}:con119.c [.lit (.string op),xns,.lit (.int .i64 num),.lit (.int .i64 n)]=match slK .i64 xns with|some ns=>some (n≤1000000,gV (givenS op ns.length num n))|_=>none:=rfl
end Go.Proofs.YtcpjahmajkhchaaGreat.St

namespace Go.Proofs.YtcpjahmajkhchaaGreat.St
open Go.Proofs.YtcpjahmajkhchaaGreat
open Go Go.Fw
set_option maxRecDepth 20000
def fromS (g:Nat) (k:Int) (d x:List Int):Int:=
  match g with
  |135=>0
  |138=>x.getD 0 0
  |140=>x.getD 0 0+k
  |142=>d.getD 0 0 - 1 - x.getD 0 0
  |145=>x.getD 1 0*d.getD 1 0+x.getD 0 0
  |147=>x.getD 0 0*d.getD 1 0+x.getD 0 0
  |149=>x.getD 0 0+x.getD 1 0
  |151=>x.getD 0 0*k+x.getD 1 0
  |_=>0
def fromP (g:Nat) (d x:List Int):Prop:=
  match g with
  |138|140=>0<x.length
  |142=>0<x.length∧0<d.length
  |145=>1<x.length∧1<d.length
  |147=>0<x.length∧1<d.length
  |149|151=>1<x.length
  |_=>True
def liBd (d:List Int):Prop:=∀ x∈d,0≤x∧x≤4096
theorem liBd_get {d:List Int} (h:liBd d) (j:Nat):0≤d.getD j 0∧d.getD j 0≤4096:=by
  by_cases h2:j<d.length
  ·have:d.getD j 0∈d:=by rw [List.getD_eq_getElem?_getD,List.getElem?_eq_getElem h2];exact List.getElem_mem h2
   exact h _ this
  ·have:d.getD j 0=0:=by rw [List.getD_eq_getElem?_getD,List.getElem?_eq_none (by omega)];rfl
   omega
theorem mulBd {a b:Int} (h:0≤a∧a≤4096) (h':0≤b∧b≤4096):0≤a*b∧a*b≤16777216:=by
  have h1:=Int.mul_nonneg h.1 h'.1
  have h2:a*b≤4096*4096:=Int.mul_le_mul h.2 h'.2 h'.1 (by omega)
  omega
set_option maxHeartbeats 2000000 in
theorem from_pc {g:FuncId} (hg:g∈[135,138,140,142,145,147,149,151]) {k:Int} {d x:List Int} (hp:fromP g d x) (hd:liBd d) (hx:liBd x) (hk:0≤k∧k≤4096):
    PC Tryz.prog g [.lit (.int .i64 k),.sl false 1 (ints .i64 d),.sl false 1 (ints .i64 x)] (.lit (.int .i64 (fromS g k d x))):=by
  have d0:=liBd_get hd 0
  have d1:=liBd_get hd 1
  have x0:=liBd_get hx 0
  have x1:=liBd_get hx 1
  have m1:=mulBd x1 d1
  have m2:=mulBd x0 d1
  have m3:=mulBd x0 hk
  simp only [List.mem_cons,List.not_mem_nil,or_false] at hg
  rcases hg with rfl|rfl|rfl|rfl|rfl|rfl|rfl|rfl<;>simp only [fromP] at hp
  ·skip
   refine pcR F1_ok (fun _=>[6]) Tryz.func135 [.tmp 6] (h:=fun KF=>?_)
   unfold F1
   repeat' (first
    |(with_reducible first|refine nx ?_|refine t_seq fun K=>?_|refine t_br (fun hc=>?_) fun hc=>?_|refine t_bx ?_|apply And.intro|intro vr)
    |((with_reducible first|refine ny ?_|refine t_dwh (h:=fun K KL=>?_));intros;simp only [go_sem,geff]))
   all_goals try exact nd
   all_goals (refine nl ?_;simp only [go_sem])
   all_goals exact LeA.refl _
  ·skip
   refine pcR F1_ok (fun _=>[2,6]) Tryz.func138 [.tmp 6] (h:=fun KF=>?_)
   unfold F1
   repeat' (first
    |(with_reducible first|refine nx ?_|refine t_seq fun K=>?_|refine t_br (fun hc=>?_) fun hc=>?_|refine t_bx ?_|apply And.intro|intro vr)
    |((with_reducible first|refine ny ?_|refine t_dwh (h:=fun K KL=>?_));intros;simp only [go_sem,geff]))
   all_goals try exact nd
   all_goals (refine nl ?_;simp only [go_sem])
   all_goals exact LeA.refl _
  ·skip
   refine pcR F1_ok (fun _=>[0,2,6]) Tryz.func140 [.tmp 6] (h:=fun KF=>?_)
   unfold F1
   repeat' (first
    |(with_reducible first|refine nx ?_|refine t_seq fun K=>?_|refine t_br (fun hc=>?_) fun hc=>?_|refine t_bx ?_|apply And.intro|intro vr)
    |((with_reducible first|refine ny ?_|refine t_dwh (h:=fun K KL=>?_));intros;simp only [go_sem,geff]))
   all_goals try exact nd
   all_goals (refine nl ?_;simp only [go_sem])
   all_goals exact LeA.refl _
  ·skip
   refine pcR F1_ok (fun _=>[1,2,6]) Tryz.func142 [.tmp 6] (h:=fun KF=>?_)
   unfold F1
   repeat' (first
    |(with_reducible first|refine nx ?_|refine t_seq fun K=>?_|refine t_br (fun hc=>?_) fun hc=>?_|refine t_bx ?_|apply And.intro|intro vr)
    |((with_reducible first|refine ny ?_|refine t_dwh (h:=fun K KL=>?_));intros;simp only [go_sem,geff]))
   all_goals try exact nd
   all_goals (refine nl ?_;simp only [go_sem])
   all_goals exact LeA.refl _
  ·skip
   refine pcR F1_ok (fun _=>[1,2,6]) Tryz.func145 [.tmp 6] (h:=fun KF=>?_)
   unfold F1
   repeat' (first
    |(with_reducible first|refine nx ?_|refine t_seq fun K=>?_|refine t_br (fun hc=>?_) fun hc=>?_|refine t_bx ?_|apply And.intro|intro vr)
    |((with_reducible first|refine ny ?_|refine t_dwh (h:=fun K KL=>?_));intros;simp only [go_sem,geff]))
   all_goals try exact nd
   all_goals (refine nl ?_;simp only [go_sem])
   all_goals exact LeA.refl _
  ·skip
   refine pcR F1_ok (fun _=>[1,2,6]) Tryz.func147 [.tmp 6] (h:=fun KF=>?_)
   unfold F1
   repeat' (first
    |(with_reducible first|refine nx ?_|refine t_seq fun K=>?_|refine t_br (fun hc=>?_) fun hc=>?_|refine t_bx ?_|apply And.intro|intro vr)
    |((with_reducible first|refine ny ?_|refine t_dwh (h:=fun K KL=>?_));intros;simp only [go_sem,geff]))
   all_goals try exact nd
   all_goals (refine nl ?_;simp only [go_sem])
   all_goals exact LeA.refl _
  ·skip
   refine pcR F1_ok (fun _=>[2,6]) Tryz.func149 [.tmp 6] (h:=fun KF=>?_)
   unfold F1
   repeat' (first
    |(with_reducible first|refine nx ?_|refine t_seq fun K=>?_|refine t_br (fun hc=>?_) fun hc=>?_|refine t_bx ?_|apply And.intro|intro vr)
    |((with_reducible first|refine ny ?_|refine t_dwh (h:=fun K KL=>?_));intros;simp only [go_sem,geff]))
   all_goals try exact nd
   all_goals (refine nl ?_;simp only [go_sem])
   all_goals exact LeA.refl _
  ·skip
   refine pcR F1_ok (fun _=>[0,2,6]) Tryz.func151 [.tmp 6] (h:=fun KF=>?_)
   unfold F1
   repeat' (first
    |(with_reducible first|refine nx ?_|refine t_seq fun K=>?_|refine t_br (fun hc=>?_) fun hc=>?_|refine t_bx ?_|apply And.intro|intro vr)
    |((with_reducible first|refine ny ?_|refine t_dwh (h:=fun K KL=>?_));intros;simp only [go_sem,geff]))
   all_goals try exact nd
   all_goals (refine nl ?_;simp only [go_sem])
   all_goals exact LeA.refl _
theorem size_pc2 {ns:List Int} {num:Int}:PC Tryz.prog 124 [.sl false 1 (ints .i64 ns),.lit (.int .i64 num)] (.lit (.int .i64 (if ns=[] then num else ns.getD 0 0))):=by
  rcases ns with _|⟨a,t⟩
  ·skip
   refine pcR F1_ok (fun _=>[0,1,4,7]) Tryz.func124 [.tmp 4] (h:=fun KF=>?_)
   unfold F1
   repeat' (first
    |(with_reducible first|refine nx ?_|refine t_seq fun K=>?_|refine t_br (fun hc=>?_) fun hc=>?_|refine t_bx ?_|apply And.intro|intro vr)
    |((with_reducible first|refine ny ?_|refine t_dwh (h:=fun K KL=>?_));intros;simp only [go_sem,geff]))
   all_goals try exact nd
   all_goals (refine nl ?_;simp only [go_sem])
   all_goals exact LeA.refl _
  ·have h:decide (((a::t).length:Int)>0)=true:=decide_eq_true (by simp only [List.length_cons];omega)
   refine pcR F1_ok (fun _=>[0,1,4,7]) Tryz.func124 [.tmp 4] (h:=fun KF=>?_)
   unfold F1
   repeat' (first
    |(with_reducible first|refine nx ?_|refine t_seq fun K=>?_|refine t_br (fun hc=>?_) fun hc=>?_|refine t_bx ?_|apply And.intro|intro vr)
    |((with_reducible first|refine ny ?_|refine t_dwh (h:=fun K KL=>?_));intros;simp only [go_sem,geff,h]))
   all_goals try exact nd
   all_goals (refine nl ?_;simp only [go_sem])
   all_goals exact LeA.refl _
noncomputable def con124:PCon Tryz.prog where
  f:=124
  c:=fun
   |[xns,.lit (.int .i64 num)]=>match slK .i64 xns with|some ns=>some (True,.lit (.int .i64 (if ns=[] then num else ns.getD 0 0)))|_=>none
   |_=>none
  ok:=by
   intro args p r hc hp
   split at hc
   ·split at hc
    ·rename_i hns
     cases hc
     exact PC.weak size_pc2 ⟨slK_le hns,LeA.refl _,trivial⟩
    ·cases hc
   ·cases hc
  fk:=fk124
theorem con124_f:con124.f=124:=rfl
theorem con124_c {xns:AV} {num:Int}:con124.c [xns,.lit (.int .i64 num)]=match slK .i64 xns with|some ns=>some (True,.lit (.int .i64 (if ns=[] then num else ns.getD 0 0)))|_=>none:=rfl
def rkV (r:List Int×Bool):AV:= .tup [.sl false 1 (ints .i64 r.1),.lit (.bool r.2)]
theorem rkV_def {r:List Int×Bool}:rkV r= .tup [.sl false 1 (ints .i64 r.1),.lit (.bool r.2)]:=rfl
theorem rk_of {x:AV} {n:Bool} {l:List Int} {r:List Int×Bool} (h:slK .i64 x=some l) (e:r=(l,n)):LeA (.tup [x,.lit (.bool n)]) (rkV r):=by
  subst e;exact LeA.tup ⟨slK_le h,LeA.refl _,trivial⟩
def ranksI (op:ByteArray) (n:Int):List Int×Bool:=if (findS op n).2=false∨((findS op n).1.ranks.length:Int)≠n then ([],false) else ((findS op n).1.ranks,true)
set_option maxHeartbeats 2000000 in
theorem ranks_pc {op:ByteArray} {n:Int} (hn:n≤1000000):PC Tryz.prog 99 [.lit (.string op),.lit (.int .i64 n)] (rkV (ranksI op n)):=by
  generalize hR:ranksI op n=R
  unfold ranksI at hR
  generalize hF:findS op n=r at hR
  obtain ⟨⟨s,b,rk,o,p⟩,ok⟩:=r
  rcases o with _|g1<;>rcases p with _|g2
  all_goals simp only at hR
  ·skip
   refine pcR F6_ok (fun _=>[0,1,4,5,6,7,22]) Tryz.func99 [.tmp 4,.tmp 5] (h:=fun KF=>?_)
   unfold F6
   repeat' (first
    |(with_reducible first|refine nx ?_|refine t_seq fun K=>?_|refine t_bx ?_|apply And.intro|intro vr)
    |((with_reducible refine t_cond fun A B=>?_);simp only [go_sem,geff_true,geff_false,con118_f,con118_c,hF,eV_def,entV_def,fnV_none,fnV_some];first|(with_reducible refine A.h ?_)|(with_reducible refine B.h ?_)|(refine And.intro (fun hc=>A.h ?_) (fun hc=>B.h ?_)))
    |((with_reducible first|refine ny ?_|refine t_dwh (h:=fun K KL=>?_));intros;simp only [go_sem,geff_true,geff_false,con118_f,con118_c,hF,eV_def,entV_def,fnV_none,fnV_some])
    |((with_reducible refine t_geffS (fun hg=>?_) (fun hg=>?_))<;>((try simp only [Bool.not_eq_true',Bool.not_eq_false',Bool.and_eq_true,Bool.or_eq_false_iff] at hg);simp only [hg,go_sem,geff_true,geff_false,con118_f,con118_c,hF,eV_def,entV_def,fnV_none,fnV_some])))
   all_goals try exact nd
   all_goals (refine nl ?_;simp only [go_sem])
   all_goals refine rk_of (by first|exact slK_sl|rfl) ?_
   all_goals rw [←hR]
   all_goals simp_all
  ·skip
   refine pcR F6_ok (fun _=>[0,1,4,5,6,7,22]) Tryz.func99 [.tmp 4,.tmp 5] (h:=fun KF=>?_)
   unfold F6
   repeat' (first
    |(with_reducible first|refine nx ?_|refine t_seq fun K=>?_|refine t_bx ?_|apply And.intro|intro vr)
    |((with_reducible refine t_cond fun A B=>?_);simp only [go_sem,geff_true,geff_false,con118_f,con118_c,hF,eV_def,entV_def,fnV_none,fnV_some];first|(with_reducible refine A.h ?_)|(with_reducible refine B.h ?_)|(refine And.intro (fun hc=>A.h ?_) (fun hc=>B.h ?_)))
    |((with_reducible first|refine ny ?_|refine t_dwh (h:=fun K KL=>?_));intros;simp only [go_sem,geff_true,geff_false,con118_f,con118_c,hF,eV_def,entV_def,fnV_none,fnV_some])
    |((with_reducible refine t_geffS (fun hg=>?_) (fun hg=>?_))<;>((try simp only [Bool.not_eq_true',Bool.not_eq_false',Bool.and_eq_true,Bool.or_eq_false_iff] at hg);simp only [hg,go_sem,geff_true,geff_false,con118_f,con118_c,hF,eV_def,entV_def,fnV_none,fnV_some])))
   all_goals try exact nd
   all_goals (refine nl ?_;simp only [go_sem])
   all_goals refine rk_of (by first|exact slK_sl|rfl) ?_
   all_goals rw [←hR]
   all_goals simp_all
  ·skip
   refine pcR F6_ok (fun _=>[0,1,4,5,6,7,22]) Tryz.func99 [.tmp 4,.tmp 5] (h:=fun KF=>?_)
   unfold F6
   repeat' (first
    |(with_reducible first|refine nx ?_|refine t_seq fun K=>?_|refine t_bx ?_|apply And.intro|intro vr)
    |((with_reducible refine t_cond fun A B=>?_);simp only [go_sem,geff_true,geff_false,con118_f,con118_c,hF,eV_def,entV_def,fnV_none,fnV_some];first|(with_reducible refine A.h ?_)|(with_reducible refine B.h ?_)|(refine And.intro (fun hc=>A.h ?_) (fun hc=>B.h ?_)))
    |((with_reducible first|refine ny ?_|refine t_dwh (h:=fun K KL=>?_));intros;simp only [go_sem,geff_true,geff_false,con118_f,con118_c,hF,eV_def,entV_def,fnV_none,fnV_some])
    |((with_reducible refine t_geffS (fun hg=>?_) (fun hg=>?_))<;>((try simp only [Bool.not_eq_true',Bool.not_eq_false',Bool.and_eq_true,Bool.or_eq_false_iff] at hg);simp only [hg,go_sem,geff_true,geff_false,con118_f,con118_c,hF,eV_def,entV_def,fnV_none,fnV_some])))
   all_goals try exact nd
   all_goals (refine nl ?_;simp only [go_sem])
   all_goals refine rk_of (by first|exact slK_sl|rfl) ?_
   all_goals rw [←hR]
   all_goals simp_all
  ·skip
   refine pcR F6_ok (fun _=>[0,1,4,5,6,7,22]) Tryz.func99 [.tmp 4,.tmp 5] (h:=fun KF=>?_)
   unfold F6
   repeat' (first
    |(with_reducible first|refine nx ?_|refine t_seq fun K=>?_|refine t_bx ?_|apply And.intro|intro vr)
    |((with_reducible refine t_cond fun A B=>?_);simp only [go_sem,geff_true,geff_false,con118_f,con118_c,hF,eV_def,entV_def,fnV_none,fnV_some];first|(with_reducible refine A.h ?_)|(with_reducible refine B.h ?_)|(refine And.intro (fun hc=>A.h ?_) (fun hc=>B.h ?_)))
    |((with_reducible first|refine ny ?_|refine t_dwh (h:=fun K KL=>?_));intros;simp only [go_sem,geff_true,geff_false,con118_f,con118_c,hF,eV_def,entV_def,fnV_none,fnV_some])
    |((with_reducible refine t_geffS (fun hg=>?_) (fun hg=>?_))<;>((try simp only [Bool.not_eq_true',Bool.not_eq_false',Bool.and_eq_true,Bool.or_eq_false_iff] at hg);simp only [hg,go_sem,geff_true,geff_false,con118_f,con118_c,hF,eV_def,entV_def,fnV_none,fnV_some])))
   all_goals try exact nd
   all_goals (refine nl ?_;simp only [go_sem])
   all_goals refine rk_of (by first|exact slK_sl|rfl) ?_
   all_goals rw [←hR]
   all_goals simp_all
noncomputable def con99:PCon Tryz.prog where
  f:=99
  c:=fun
   |[.lit (.string op),.lit (.int .i64 n)]=>some (n≤1000000,rkV (ranksI op n))
   |_=>none
  ok:=by
   intro args p r hc hp
   split at hc
   ·cases hc;exact (ranks_pc hp)
   ·cases hc
  fk:=fk99
theorem con99_f:con99.f=99:=rfl
theorem con99_c {op:ByteArray} {n:Int}:con99.c [.lit (.string op),.lit (.int .i64 n)]=some (n≤1000000,rkV (ranksI op n)):=rfl
end Go.Proofs.YtcpjahmajkhchaaGreat.St

namespace Go.Proofs.YtcpjahmajkhchaaGreat.St
open Go.Proofs.YtcpjahmajkhchaaGreat
open Go Go.Fw
set_option maxRecDepth 20000
theorem size_any {l:List Int}:PC Tryz.prog 69 [.sl false 1 (ints .i64 l)] (szV (sizeS l)):=by
  by_cases h:l.length≤1000000
  ·exact size_pc h
  ·have h1:decide ((l.length:Int)>6)=true:=decide_eq_true (by omega)
   have h2:sizeS l=(0,13):=by unfold sizeS;rw [if_pos (by omega)]
   rw [h2]
   refine pcR F1_ok (fun _=>[0,2,3,5,6,8,11,12,13,14,15,23,26,27,28,29,30,37]) Tryz.func69 [.tmp 2,.tmp 3] (h:=fun KF=>?_)
   unfold F1
   repeat' (first
    |(with_reducible first|refine nx ?_|refine t_seq fun K=>?_|refine t_br (fun hc=>?_) fun hc=>?_|refine t_bx ?_|apply And.intro|intro vr)
    |((with_reducible first|refine ny ?_|refine t_dwh (h:=fun K KL=>?_));intros;simp only [go_sem,geff,h1]))
   all_goals (refine nl ?_;simp only [go_sem])
   exact LeA.refl _
noncomputable def con65b:PCon Tryz.prog:={con69 with
  c:=fun
   |[x]=>match slK .i64 x with|some l=>some (True,szV (sizeS l))|_=>none
   |_=>none
  ok:=by
   intro args p r hc hp
   split at hc
   ·split at hc
    ·rename_i hl
     cases hc
     exact PC.weak size_any ⟨slK_le hl,trivial⟩
    ·cases hc
   ·cases hc}
theorem con65b_f:con65b.f=69:=rfl
theorem con65b_c {x:AV}:con65b.c [x]=match slK .i64 x with|some l=>some (True,szV (sizeS l))|_=>none:=rfl
def isD (g:Nat):Bool:=[134,136,139,141,143,144,146,148,150,152,128].contains g
def famD (f:FuncId) (args:List AV):VR:=if isD f=true then (match args with
  |[.lit (.int .i64 k),x]=>match ilsOf x with
   |some ds=>some (ds.length≤1000000∧dimsP f ds∧ilBd ds,dV (dimsS f k ds))
   |none=>none
  |_=>none) else none
theorem famD_c {g:Nat} {k:Int} {x:AV} (h:isD g=true):famD g [.lit (.int .i64 k),x]=match ilsOf x with
    |some ds=>some (ds.length≤1000000∧dimsP g ds∧ilBd ds,dV (dimsS g k ds))
    |none=>none:=by unfold famD;rw [if_pos h]
theorem famD_no {g:Nat} {args:List AV} (h:isD g=false):famD g args=none:=by unfold famD;rw [h];rfl
theorem famD_ok:∀ f args p r,famD f args=some (p,r)→p→fok Tryz.prog f=true∧PC Tryz.prog f args r:=by
  intro f args p r h hp
  unfold famD at h
  split at h
  ·rename_i hf
   have hf':f∈[134,136,139,141,143,144,146,148,150,152,128]:=by simpa [isD] using hf
   split at h
   ·split at h
    ·rename_i hx
     cases h
     refine ⟨?_,PC.weak (dims_pc hf' hp.1 hp.2.1 hp.2.2) ⟨LeA.refl _,ilsOf_le hx,trivial⟩⟩
     simp only [List.mem_cons,List.not_mem_nil,or_false] at hf'
     rcases hf' with rfl|rfl|rfl|rfl|rfl|rfl|rfl|rfl|rfl|rfl|rfl
     ·exact fk134
     ·exact fk136
     ·exact fk139
     ·exact fk141
     ·exact fk143
     ·exact fk144
     ·exact fk146
     ·exact fk148
     ·exact fk150
     ·exact fk152
     ·exact fk128
    ·cases h
   ·cases h
  ·cases h
def rkBad:List (List Int)→List Int→Bool
  |d::ds,r::rs=>if (d.length:Int)≠r then true else rkBad ds rs
  |_,_=>false
def szErr:List (List Int)→Int
  |[]=>0
  |d::ds=>if (sizeS d).2≠0 then (sizeS d).2 else szErr ds
def sizeK (ns:List Int) (num:Int):Int:=if ns=[] then num else ns.getD 0 0
def dimsOf (e:Ent) (k:Int) (ds:List (List Int)):List Int×Int:=
  if (dimsS (e.dims.getD 0) k ds).2≠0 then ([],(dimsS (e.dims.getD 0) k ds).2)
  else if (sizeS (dimsS (e.dims.getD 0) k ds).1).2≠0 then ([],(sizeS (dimsS (e.dims.getD 0) k ds).1).2)
  else ((dimsS (e.dims.getD 0) k ds).1,0)
def dimsI (op:ByteArray) (ns:List Int) (num:Int) (ds:List (List Int)):List Int×Int:=
  if (givenS op ns.length num ds.length).2≠0 then ([],(givenS op ns.length num ds.length).2)
  else if rkBad ds (givenS op ns.length num ds.length).1.ranks=true then ([],13)
  else if szErr ds≠0 then ([],szErr ds)
  else dimsOf (givenS op ns.length num ds.length).1 (sizeK ns num) ds
theorem findG_mem:∀ {l:List Ent} {s:ByteArray} {e:Ent},findG l s=some e→e∈l∧eqS e.op s=true
  |[],_,_,h=>by cases h
  |a::l,s,e,h=>by
   unfold findG at h
   split at h
   ·rename_i he;cases h;exact ⟨by simp,he⟩
   ·exact ⟨by simp [(findG_mem h).1],(findG_mem h).2⟩
theorem given_ok {op:ByteArray} {ns num n:Int} {e:Ent} (h:givenS op ns num n=(e,0)):(e∈ents∨e=packE n)∧(e.ranks.length:Int)=n∧ns=wantS e∧(num=0∨eqS op n_chunk=true)∧eqS e.op op=true∧findS op n=(e,true):=by
  unfold givenS at h
  split at h
  ·cases h
  rename_i h1
  split at h
  ·cases h
  rename_i h2
  have he:(findS op n).1=e:=by injection h
  rw [he] at h2
  have h3:findS op n=(e,true):=Prod.ext he (by simpa using h1)
  refine ⟨?_,by omega,by omega,?_,?_,h3⟩
  ·unfold findS at h3
   split at h3
   ·right;injection h3 with a _;exact a.symm
   ·unfold foundS at h3
    split at h3
    ·rename_i hg;injection h3 with a _;subst a;exact .inl (findG_mem hg).1
    ·cases h3
  ·by_cases hn:num=0
   ·exact .inl hn
   ·right
    by_cases hc:eqS op n_chunk=true
    ·exact hc
    ·exact absurd (.inr (.inr ⟨hn,by simpa using hc⟩)) h2
  ·unfold findS at h3
   split at h3
   ·rename_i hp;injection h3 with a _;subst a;unfold packE;rw [eqS_iff.1 hp];exact eqS_refl _
   ·unfold foundS at h3
    split at h3
    ·rename_i hg;injection h3 with a _;subst a;exact (findG_mem hg).2
    ·cases h3
theorem dims_ok {e:Ent} {ds:List (List Int)} (he:e∈ents∨e=packE ds.length) (hl:(e.ranks.length:Int)=ds.length) (hr:rkBad ds e.ranks=false):∃ g,e.dims=some g∧isD g=true∧dimsP g ds:=by
  rcases he with he|rfl
  ·simp only [ents,List.mem_cons,List.not_mem_nil,or_false] at he
   rcases he with rfl|rfl|rfl|rfl|rfl|rfl|rfl|rfl|rfl|rfl|rfl|rfl<;>refine ⟨_,rfl,rfl,?_⟩<;>simp only [dimsP,List.length_cons,List.length_nil] at hl ⊢
   all_goals (first|trivial|(match ds,hl,hr with
     |[],hl,hr=>simp at hl
     |[a],hl,hr=>simp [rkBad] at hl hr ⊢<;>omega
     |[a,b],hl,hr=>simp [rkBad] at hl hr ⊢<;>omega
     |[a,b,c],hl,hr=>simp [rkBad] at hl hr ⊢<;>omega
     |_::_::_::_::_,hl,hr=>simp only [List.length_cons] at hl;omega))
  ·exact ⟨128,rfl,rfl,trivial⟩
theorem ofSz {ds:List (List Int)} (h:szErr ds=0):ilBd ds:=by
  induction ds with
  |nil=>intro d hd;cases hd
  |cons a t ih=>
   unfold szErr at h
   split at h
   ·rename_i hne;exact absurd h hne
   ·rename_i hz
    intro d hd
    rcases List.mem_cons.1 hd with rfl|hd
    ·exact (sizeS_ok (d:=d) (n:=(sizeS d).1) (Prod.ext rfl (by simpa using hz))).2.1
    ·exact ih h d hd
end Go.Proofs.YtcpjahmajkhchaaGreat.St

namespace Go.Proofs.YtcpjahmajkhchaaGreat.St
open Go.Proofs.YtcpjahmajkhchaaGreat
open Go Go.Fw
set_option maxRecDepth 20000
theorem no65:famD 69=fun _=>none:=by funext a;exact famD_no rfl
theorem no61:famD 71=fun _=>none:=by funext a;exact famD_no rfl
theorem no72:famD 119=fun _=>none:=by funext a;exact famD_no rfl
theorem no75:famD 124=fun _=>none:=by funext a;exact famD_no rfl
noncomputable def F7:Env:=envM (P:=Tryz.prog) famD jk2 zer (fun _=>false) (fun _=>false) [con65b,con71,con119,con124] []
theorem F7_ok:EnvOk Tryz.prog F7:=envMOk zer_ok fun f a p r h hp=> .inl (famD_ok f a p r h hp)
theorem sizeK_def {ns:List Int} {num:Int}:(if ns=[] then num else ns.getD 0 0)=sizeK ns num:=rfl
set_option maxRecDepth 20000 in
set_option maxHeartbeats 8000000 in
theorem dimsI_pc {op:ByteArray} {ns:List Int} {num:Int} {ds:List (List Int)} (hn:ds.length≤1000000):PC Tryz.prog 121 [.lit (.string op),.sl false 1 (ints .i64 ns),.lit (.int .i64 num),.sl false 1 (ils ds)] (dV (dimsI op ns num ds)):=by
  generalize hR:dimsI op ns num ds=R
  unfold dimsI at hR
  generalize hG:givenS op ns.length num ds.length=r at hR
  obtain ⟨e,er⟩:=r
  simp only at hR
  by_cases h0:er=0
  ·subst h0
   rw [if_neg (by simp)] at hR
   obtain ⟨he,hl, -, -, -, -⟩:=given_ok hG
   have hdo:=dims_ok he hl
   have hsz:(sizeS (dimsS (e.dims.getD 0) (sizeK ns num) ds).1).2=0→(dimsS (e.dims.getD 0) (sizeK ns num) ds).1.length≤1000000:=fun h=>by
     have:=(sizeS_ok (n:=(sizeS (dimsS (e.dims.getD 0) (sizeK ns num) ds).1).1) (Prod.ext rfl h)).1
     omega
   obtain ⟨s,b,rk,o,p⟩:=e
   simp only at hl hdo hR
   unfold dimsOf at hR
   simp only at hR hsz
   rcases p with _|g2
   ·skip
    refine pcR F7_ok (fun _=>[0,1,2,3,8,9,10,11,12,13,15,17,18,20,31,33,34,35,36,47,49,50,51,52,61,75,83]) Tryz.func121 [.tmp 8,.tmp 9] (h:=fun KF=>?_)
    unfold F7
    repeat' (first
     |(with_reducible first|refine nx ?_|refine t_seq fun K=>?_|refine t_br (fun hc=>?_) fun hc=>?_|refine t_bx ?_|apply And.intro|intro vr)
     |((with_reducible first|refine ny ?_|refine t_dwh (h:=fun K KL=>?_));intros;simp only [go_sem,geff,con65b_f,con71_f,con119_f,con124_f,con65b_c,con71_c,con119_c,con124_c,no65,no61,no72,no75,ils_length,slK_sl,hG,gV_def,entV_def,szV_def,fnV_none,fnV_some,sizeK_def]))
    all_goals try exact nd
    refine t_loopF (ι:={i:Nat // i≤ds.length∧rkBad (ds.drop i) (rk.drop i)=rkBad ds rk}) (fun i=>[(35,.lit (.int .i64 i.1))]) (fun i=>[AObj.box 143 [.lit (.string s),.lit (.bool b),.sl false 1 (ints .i64 rk),fnV o,.lit .nilFunc]]) (fun i=>ds.length - i.1) ⟨0,by omega,rfl⟩ ?_ ?_
    ·exact lf
    rintro ⟨i,hi,hF⟩ K0
    rcases Nat.lt_or_ge i ds.length with hc|hc
    ·rw [drop_getD [] hc,drop_getD 0 (show i<rk.length by omega),rkBad] at hF
     have g3:decide ((i:Int)<(ds.length:Int))=true:=decide_eq_true (by omega)
     repeat' (first
      |(with_reducible first|refine nx ?_|refine t_seq fun K=>?_|refine t_br (fun hc=>?_) fun hc=>?_|refine t_bx ?_|apply And.intro|intro vr)
      |((with_reducible first|refine ny ?_|refine t_dwh (h:=fun K KL=>?_));intros;simp only [go_sem,geff,g3,Int.toNat_natCast,con65b_f,con71_f,con119_f,con124_f,con65b_c,con71_c,con119_c,con124_c,no65,no61,no72,no75,ils_length,slK_sl,hG,gV_def,entV_def,szV_def,fnV_none,fnV_some,sizeK_def]))
     all_goals try exact nd
     ·skip
      all_goals (refine nl ?_;simp only [go_sem])
      rw [if_pos (by simpa using hc)] at hF
      rw [if_pos hF.symm] at hR
      exact dv_of rfl hR.symm
     ·skip
      exact ⟨⟨i+1,by omega,by rw [←hF,if_neg (by simpa using hc)]⟩,wf,lf⟩
    ·have g3:decide ((i:Int)<(ds.length:Int))=false:=decide_eq_false (by omega)
     rw [List.drop_eq_nil_of_le (by omega),rkBad] at hF
     ·obtain ⟨g,rfl,hg,hdp⟩:=hdo hF.symm
      rw [if_neg (by rw [←hF];simp)] at hR
      simp only [Option.getD_some] at hR hsz
      repeat' (first
       |(with_reducible first|refine nx ?_|refine t_seq fun K=>?_|refine t_br (fun hc=>?_) fun hc=>?_|refine t_bx ?_|apply And.intro|intro vr)
       |((with_reducible first|refine ny ?_|refine t_dwh (h:=fun K KL=>?_));intros;simp only [go_sem,geff,g3,Int.toNat_natCast,con65b_f,con71_f,con119_f,con124_f,con65b_c,con71_c,con119_c,con124_c,no65,no61,no72,no75,ils_length,slK_sl,hG,gV_def,entV_def,szV_def,fnV_none,fnV_some,sizeK_def]))
      all_goals try exact nd
      refine t_loopF (ι:={i:Nat // i≤ds.length∧szErr (ds.drop i)=szErr ds}) (fun i=>[(51,.lit (.int .i64 i.1))]) (fun i=>[AObj.box 143 [.lit (.string s),.lit (.bool b),.sl false 1 (ints .i64 rk),.fn (.func g) [] [],.lit .nilFunc]]) (fun i=>ds.length - i.1) ⟨0,by omega,rfl⟩ ?_ ?_
      ·exact lf
      rintro ⟨j,hj,hF2⟩ K1
      rcases Nat.lt_or_ge j ds.length with hc|hc
      ·rw [drop_getD [] hc,szErr] at hF2
       have g4:decide ((j:Int)<(ds.length:Int))=true:=decide_eq_true (by omega)
       repeat' (first
        |(with_reducible first|refine nx ?_|refine t_seq fun K=>?_|refine t_br (fun hc=>?_) fun hc=>?_|refine t_bx ?_|apply And.intro|intro vr)
        |((with_reducible first|refine ny ?_|refine t_dwh (h:=fun K KL=>?_));intros;simp only [go_sem,geff,g4,Int.toNat_natCast,con65b_f,con71_f,con119_f,con124_f,con65b_c,con71_c,con119_c,con124_c,no65,no61,no72,no75,ils_length,slK_sl,hG,gV_def,entV_def,szV_def,fnV_none,fnV_some,sizeK_def]))
       all_goals try exact nd
       ·skip
        all_goals (refine nl ?_;simp only [go_sem])
        rw [if_pos (by simpa using hc)] at hF2
        rw [if_pos (by rw [←hF2];simpa using hc),←hF2] at hR
        exact dv_of rfl hR.symm
       ·skip
        exact ⟨⟨j+1,by omega,by rw [←hF2,if_neg (by simpa using hc)]⟩,wf,lf⟩
      ·have g4:decide ((j:Int)<(ds.length:Int))=false:=decide_eq_false (by omega)
       rw [List.drop_eq_nil_of_le (by omega),szErr] at hF2
       rw [if_neg (by rw [←hF2];simp)] at hR
       have hbd:=ofSz hF2.symm
       repeat' (first
        |(with_reducible first|refine nx ?_|refine t_seq fun K=>?_|refine t_br (fun hc=>?_) fun hc=>?_|refine t_bx ?_|apply And.intro|intro vr)
        |((with_reducible first|refine ny ?_|refine t_dwh (h:=fun K KL=>?_));intros;simp only [go_sem,geff,g4,Int.toNat_natCast,famD_c hg,ilsOf_sl,dV_def,con65b_f,con71_f,con119_f,con124_f,con65b_c,con71_c,con119_c,con124_c,no65,no61,no72,no75,ils_length,slK_sl,hG,gV_def,entV_def,szV_def,fnV_none,fnV_some,sizeK_def]))
       all_goals try exact hdp
       all_goals try exact hbd
       all_goals try (exact hsz (by simpa using hc))
       all_goals try exact nd
       all_goals (refine nl ?_;simp only [go_sem])
       ·rw [if_pos (by simpa using hc)] at hR
        exact dv_of (by first|exact slK_sl|rfl) hR.symm
       ·rw [if_neg (by simp_all),if_pos (by simpa using hc)] at hR
        exact dv_of (by first|exact slK_sl|rfl) hR.symm
       ·rw [if_neg (by simp_all),if_neg (by simpa using hc)] at hR
        exact dv_of (by first|exact slK_sl|rfl) hR.symm
     ·intro _ _ _ _ h;cases h
   ·skip
    refine pcR F7_ok (fun _=>[0,1,2,3,8,9,10,11,12,13,15,17,18,20,31,33,34,35,36,47,49,50,51,52,61,75,83]) Tryz.func121 [.tmp 8,.tmp 9] (h:=fun KF=>?_)
    unfold F7
    repeat' (first
     |(with_reducible first|refine nx ?_|refine t_seq fun K=>?_|refine t_br (fun hc=>?_) fun hc=>?_|refine t_bx ?_|apply And.intro|intro vr)
     |((with_reducible first|refine ny ?_|refine t_dwh (h:=fun K KL=>?_));intros;simp only [go_sem,geff,con65b_f,con71_f,con119_f,con124_f,con65b_c,con71_c,con119_c,con124_c,no65,no61,no72,no75,ils_length,slK_sl,hG,gV_def,entV_def,szV_def,fnV_none,fnV_some,sizeK_def]))
    all_goals try exact nd
    refine t_loopF (ι:={i:Nat // i≤ds.length∧rkBad (ds.drop i) (rk.drop i)=rkBad ds rk}) (fun i=>[(35,.lit (.int .i64 i.1))]) (fun i=>[AObj.box 143 [.lit (.string s),.lit (.bool b),.sl false 1 (ints .i64 rk),fnV o,.fn (.func g2) [] []]]) (fun i=>ds.length - i.1) ⟨0,by omega,rfl⟩ ?_ ?_
    ·exact lf
    rintro ⟨i,hi,hF⟩ K0
    rcases Nat.lt_or_ge i ds.length with hc|hc
    ·rw [drop_getD [] hc,drop_getD 0 (show i<rk.length by omega),rkBad] at hF
     have g3:decide ((i:Int)<(ds.length:Int))=true:=decide_eq_true (by omega)
     repeat' (first
      |(with_reducible first|refine nx ?_|refine t_seq fun K=>?_|refine t_br (fun hc=>?_) fun hc=>?_|refine t_bx ?_|apply And.intro|intro vr)
      |((with_reducible first|refine ny ?_|refine t_dwh (h:=fun K KL=>?_));intros;simp only [go_sem,geff,g3,Int.toNat_natCast,con65b_f,con71_f,con119_f,con124_f,con65b_c,con71_c,con119_c,con124_c,no65,no61,no72,no75,ils_length,slK_sl,hG,gV_def,entV_def,szV_def,fnV_none,fnV_some,sizeK_def]))
     all_goals try exact nd
     ·skip
      all_goals (refine nl ?_;simp only [go_sem])
      rw [if_pos (by simpa using hc)] at hF
      rw [if_pos hF.symm] at hR
      exact dv_of rfl hR.symm
     ·skip
      exact ⟨⟨i+1,by omega,by rw [←hF,if_neg (by simpa using hc)]⟩,wf,lf⟩
    ·have g3:decide ((i:Int)<(ds.length:Int))=false:=decide_eq_false (by omega)
     rw [List.drop_eq_nil_of_le (by omega),rkBad] at hF
     ·obtain ⟨g,rfl,hg,hdp⟩:=hdo hF.symm
      rw [if_neg (by rw [←hF];simp)] at hR
      simp only [Option.getD_some] at hR hsz
      repeat' (first
       |(with_reducible first|refine nx ?_|refine t_seq fun K=>?_|refine t_br (fun hc=>?_) fun hc=>?_|refine t_bx ?_|apply And.intro|intro vr)
       |((with_reducible first|refine ny ?_|refine t_dwh (h:=fun K KL=>?_));intros;simp only [go_sem,geff,g3,Int.toNat_natCast,con65b_f,con71_f,con119_f,con124_f,con65b_c,con71_c,con119_c,con124_c,no65,no61,no72,no75,ils_length,slK_sl,hG,gV_def,entV_def,szV_def,fnV_none,fnV_some,sizeK_def]))
      all_goals try exact nd
      refine t_loopF (ι:={i:Nat // i≤ds.length∧szErr (ds.drop i)=szErr ds}) (fun i=>[(51,.lit (.int .i64 i.1))]) (fun i=>[AObj.box 143 [.lit (.string s),.lit (.bool b),.sl false 1 (ints .i64 rk),.fn (.func g) [] [],.fn (.func g2) [] []]]) (fun i=>ds.length - i.1) ⟨0,by omega,rfl⟩ ?_ ?_
      ·exact lf
      rintro ⟨j,hj,hF2⟩ K1
      rcases Nat.lt_or_ge j ds.length with hc|hc
      ·rw [drop_getD [] hc,szErr] at hF2
       have g4:decide ((j:Int)<(ds.length:Int))=true:=decide_eq_true (by omega)
       repeat' (first
        |(with_reducible first|refine nx ?_|refine t_seq fun K=>?_|refine t_br (fun hc=>?_) fun hc=>?_|refine t_bx ?_|apply And.intro|intro vr)
        |((with_reducible first|refine ny ?_|refine t_dwh (h:=fun K KL=>?_));intros;simp only [go_sem,geff,g4,Int.toNat_natCast,con65b_f,con71_f,con119_f,con124_f,con65b_c,con71_c,con119_c,con124_c,no65,no61,no72,no75,ils_length,slK_sl,hG,gV_def,entV_def,szV_def,fnV_none,fnV_some,sizeK_def]))
       all_goals try exact nd
       ·skip
        all_goals (refine nl ?_;simp only [go_sem])
        rw [if_pos (by simpa using hc)] at hF2
        rw [if_pos (by rw [←hF2];simpa using hc),←hF2] at hR
        exact dv_of rfl hR.symm
       ·skip
        exact ⟨⟨j+1,by omega,by rw [←hF2,if_neg (by simpa using hc)]⟩,wf,lf⟩
      ·have g4:decide ((j:Int)<(ds.length:Int))=false:=decide_eq_false (by omega)
       rw [List.drop_eq_nil_of_le (by omega),szErr] at hF2
       rw [if_neg (by rw [←hF2];simp)] at hR
       have hbd:=ofSz hF2.symm
       repeat' (first
        |(with_reducible first|refine nx ?_|refine t_seq fun K=>?_|refine t_br (fun hc=>?_) fun hc=>?_|refine t_bx ?_|apply And.intro|intro vr)
        |((with_reducible first|refine ny ?_|refine t_dwh (h:=fun K KL=>?_));intros;simp only [go_sem,geff,g4,Int.toNat_natCast,famD_c hg,ilsOf_sl,dV_def,con65b_f,con71_f,con119_f,con124_f,con65b_c,con71_c,con119_c,con124_c,no65,no61,no72,no75,ils_length,slK_sl,hG,gV_def,entV_def,szV_def,fnV_none,fnV_some,sizeK_def]))
       all_goals try exact hdp
       all_goals try exact hbd
       all_goals try (exact hsz (by simpa using hc))
       all_goals try exact nd
       all_goals (refine nl ?_;simp only [go_sem])
       ·rw [if_pos (by simpa using hc)] at hR
        exact dv_of (by first|exact slK_sl|rfl) hR.symm
       ·rw [if_neg (by simp_all),if_pos (by simpa using hc)] at hR
        exact dv_of (by first|exact slK_sl|rfl) hR.symm
       ·rw [if_neg (by simp_all),if_neg (by simpa using hc)] at hR
        exact dv_of (by first|exact slK_sl|rfl) hR.symm
     ·intro _ _ _ _ h;cases h
  ·rw [if_pos h0] at hR
   obtain ⟨s,b,rk,o,p⟩:=e
   have h0':(er !=0)=true:=by simpa using h0
   refine pcR F7_ok (fun _=>[0,1,2,3,8,9,10,11,12,13,15,17,18,20,31,33,34,35,36,47,49,50,51,52,61,75,83]) Tryz.func121 [.tmp 8,.tmp 9] (h:=fun KF=>?_)
   unfold F7
   repeat' (first
    |(with_reducible first|refine nx ?_|refine t_seq fun K=>?_|refine t_br (fun hc=>?_) fun hc=>?_|refine t_bx ?_|apply And.intro|intro vr)
    |((with_reducible first|refine ny ?_|refine t_dwh (h:=fun K KL=>?_));intros;simp only [go_sem,geff,h0',con65b_f,con71_f,con119_f,con124_f,con65b_c,con71_c,con119_c,con124_c,no65,no61,no72,no75,ils_length,slK_sl,hG,gV_def,entV_def,szV_def,fnV_none,fnV_some,sizeK_def]))
   all_goals try exact nd
   all_goals (refine nl ?_;simp only [go_sem])
   exact dv_of rfl hR.symm
noncomputable def con121:PCon Tryz.prog where
  f:=121
  c:=fun
   |[.lit (.string op),xns,.lit (.int .i64 num),xds]=>match slK .i64 xns,ilsOf xds with|some ns,some ds=>some (ds.length≤1000000,dV (dimsI op ns num ds))|_,_=>none
   |_=>none
  ok:=by
   intro args p r hc hp
   split at hc
   ·split at hc
    ·rename_i hns hds
     cases hc
     exact PC.weak (dimsI_pc hp) ⟨LeA.refl _,slK_le hns,LeA.refl _,ilsOf_le hds,trivial⟩
    ·cases hc
   ·cases hc
  fk:=fk121
theorem con121_f:con121.f=121:=rfl
theorem con121_c {op:ByteArray} {xns:AV} {num:Int} {xds:AV}:con121.c [.lit (.string op),xns,.lit (.int .i64 num),xds]=match slK .i64 xns,ilsOf xds with|some ns,some ds=>some (ds.length≤1000000,dV (dimsI op ns num ds))|_,_=>none:=rfl
end Go.Proofs.YtcpjahmajkhchaaGreat.St

namespace Go.Proofs.YtcpjahmajkhchaaGreat.St
open Go.Proofs.YtcpjahmajkhchaaGreat
open Go Go.Fw
set_option maxRecDepth 20000
theorem z0_0:eqS n_iota ⟨#[105,111,116,97]⟩=true:=rfl
theorem z0_1:eqS n_iota ⟨#[102,105,108,108]⟩=false:=rfl
theorem z0_2:eqS n_iota ⟨#[116,97,107,101]⟩=false:=rfl
theorem z0_3:eqS n_iota ⟨#[100,114,111,112]⟩=false:=rfl
theorem z0_4:eqS n_iota ⟨#[114,101,118,101,114,115,101]⟩=false:=rfl
theorem z0_5:eqS n_iota ⟨#[97,112,112,101,110,100]⟩=false:=rfl
theorem z0_6:eqS n_iota ⟨#[116,114,97,110,115,112,111,115,101]⟩=false:=rfl
theorem z0_7:eqS n_iota ⟨#[100,105,97,103,111,110,97,108]⟩=false:=rfl
theorem z0_8:eqS n_iota ⟨#[119,105,110,100,111,119,115]⟩=false:=rfl
theorem z0_9:eqS n_iota ⟨#[99,104,117,110,107]⟩=false:=rfl
theorem z0_10:eqS n_iota ⟨#[105,110,100,101,120]⟩=false:=rfl
theorem z0_11:eqS n_iota ⟨#[117,112,100,97,116,101]⟩=false:=rfl
theorem z0_12:eqS n_iota ⟨#[112,97,99,107]⟩=false:=rfl
theorem z1_0:eqS n_fill ⟨#[105,111,116,97]⟩=false:=rfl
theorem z1_1:eqS n_fill ⟨#[102,105,108,108]⟩=true:=rfl
theorem z1_2:eqS n_fill ⟨#[116,97,107,101]⟩=false:=rfl
theorem z1_3:eqS n_fill ⟨#[100,114,111,112]⟩=false:=rfl
theorem z1_4:eqS n_fill ⟨#[114,101,118,101,114,115,101]⟩=false:=rfl
theorem z1_5:eqS n_fill ⟨#[97,112,112,101,110,100]⟩=false:=rfl
theorem z1_6:eqS n_fill ⟨#[116,114,97,110,115,112,111,115,101]⟩=false:=rfl
theorem z1_7:eqS n_fill ⟨#[100,105,97,103,111,110,97,108]⟩=false:=rfl
theorem z1_8:eqS n_fill ⟨#[119,105,110,100,111,119,115]⟩=false:=rfl
theorem z1_9:eqS n_fill ⟨#[99,104,117,110,107]⟩=false:=rfl
theorem z1_10:eqS n_fill ⟨#[105,110,100,101,120]⟩=false:=rfl
theorem z1_11:eqS n_fill ⟨#[117,112,100,97,116,101]⟩=false:=rfl
theorem z1_12:eqS n_fill ⟨#[112,97,99,107]⟩=false:=rfl
theorem z2_0:eqS n_take ⟨#[105,111,116,97]⟩=false:=rfl
theorem z2_1:eqS n_take ⟨#[102,105,108,108]⟩=false:=rfl
theorem z2_2:eqS n_take ⟨#[116,97,107,101]⟩=true:=rfl
theorem z2_3:eqS n_take ⟨#[100,114,111,112]⟩=false:=rfl
theorem z2_4:eqS n_take ⟨#[114,101,118,101,114,115,101]⟩=false:=rfl
theorem z2_5:eqS n_take ⟨#[97,112,112,101,110,100]⟩=false:=rfl
theorem z2_6:eqS n_take ⟨#[116,114,97,110,115,112,111,115,101]⟩=false:=rfl
theorem z2_7:eqS n_take ⟨#[100,105,97,103,111,110,97,108]⟩=false:=rfl
theorem z2_8:eqS n_take ⟨#[119,105,110,100,111,119,115]⟩=false:=rfl
theorem z2_9:eqS n_take ⟨#[99,104,117,110,107]⟩=false:=rfl
theorem z2_10:eqS n_take ⟨#[105,110,100,101,120]⟩=false:=rfl
theorem z2_11:eqS n_take ⟨#[117,112,100,97,116,101]⟩=false:=rfl
theorem z2_12:eqS n_take ⟨#[112,97,99,107]⟩=false:=rfl
theorem z3_0:eqS n_drop ⟨#[105,111,116,97]⟩=false:=rfl
theorem z3_1:eqS n_drop ⟨#[102,105,108,108]⟩=false:=rfl
theorem z3_2:eqS n_drop ⟨#[116,97,107,101]⟩=false:=rfl
theorem z3_3:eqS n_drop ⟨#[100,114,111,112]⟩=true:=rfl
theorem z3_4:eqS n_drop ⟨#[114,101,118,101,114,115,101]⟩=false:=rfl
theorem z3_5:eqS n_drop ⟨#[97,112,112,101,110,100]⟩=false:=rfl
theorem z3_6:eqS n_drop ⟨#[116,114,97,110,115,112,111,115,101]⟩=false:=rfl
theorem z3_7:eqS n_drop ⟨#[100,105,97,103,111,110,97,108]⟩=false:=rfl
theorem z3_8:eqS n_drop ⟨#[119,105,110,100,111,119,115]⟩=false:=rfl
theorem z3_9:eqS n_drop ⟨#[99,104,117,110,107]⟩=false:=rfl
theorem z3_10:eqS n_drop ⟨#[105,110,100,101,120]⟩=false:=rfl
theorem z3_11:eqS n_drop ⟨#[117,112,100,97,116,101]⟩=false:=rfl
theorem z3_12:eqS n_drop ⟨#[112,97,99,107]⟩=false:=rfl
theorem z4_0:eqS n_reverse ⟨#[105,111,116,97]⟩=false:=rfl
theorem z4_1:eqS n_reverse ⟨#[102,105,108,108]⟩=false:=rfl
theorem z4_2:eqS n_reverse ⟨#[116,97,107,101]⟩=false:=rfl
theorem z4_3:eqS n_reverse ⟨#[100,114,111,112]⟩=false:=rfl
theorem z4_4:eqS n_reverse ⟨#[114,101,118,101,114,115,101]⟩=true:=rfl
theorem z4_5:eqS n_reverse ⟨#[97,112,112,101,110,100]⟩=false:=rfl
theorem z4_6:eqS n_reverse ⟨#[116,114,97,110,115,112,111,115,101]⟩=false:=rfl
theorem z4_7:eqS n_reverse ⟨#[100,105,97,103,111,110,97,108]⟩=false:=rfl
theorem z4_8:eqS n_reverse ⟨#[119,105,110,100,111,119,115]⟩=false:=rfl
theorem z4_9:eqS n_reverse ⟨#[99,104,117,110,107]⟩=false:=rfl
theorem z4_10:eqS n_reverse ⟨#[105,110,100,101,120]⟩=false:=rfl
theorem z4_11:eqS n_reverse ⟨#[117,112,100,97,116,101]⟩=false:=rfl
theorem z4_12:eqS n_reverse ⟨#[112,97,99,107]⟩=false:=rfl
theorem z5_0:eqS n_append ⟨#[105,111,116,97]⟩=false:=rfl
theorem z5_1:eqS n_append ⟨#[102,105,108,108]⟩=false:=rfl
theorem z5_2:eqS n_append ⟨#[116,97,107,101]⟩=false:=rfl
theorem z5_3:eqS n_append ⟨#[100,114,111,112]⟩=false:=rfl
theorem z5_4:eqS n_append ⟨#[114,101,118,101,114,115,101]⟩=false:=rfl
theorem z5_5:eqS n_append ⟨#[97,112,112,101,110,100]⟩=true:=rfl
theorem z5_6:eqS n_append ⟨#[116,114,97,110,115,112,111,115,101]⟩=false:=rfl
theorem z5_7:eqS n_append ⟨#[100,105,97,103,111,110,97,108]⟩=false:=rfl
theorem z5_8:eqS n_append ⟨#[119,105,110,100,111,119,115]⟩=false:=rfl
theorem z5_9:eqS n_append ⟨#[99,104,117,110,107]⟩=false:=rfl
theorem z5_10:eqS n_append ⟨#[105,110,100,101,120]⟩=false:=rfl
theorem z5_11:eqS n_append ⟨#[117,112,100,97,116,101]⟩=false:=rfl
theorem z5_12:eqS n_append ⟨#[112,97,99,107]⟩=false:=rfl
theorem z6_0:eqS n_transpose ⟨#[105,111,116,97]⟩=false:=rfl
theorem z6_1:eqS n_transpose ⟨#[102,105,108,108]⟩=false:=rfl
theorem z6_2:eqS n_transpose ⟨#[116,97,107,101]⟩=false:=rfl
theorem z6_3:eqS n_transpose ⟨#[100,114,111,112]⟩=false:=rfl
theorem z6_4:eqS n_transpose ⟨#[114,101,118,101,114,115,101]⟩=false:=rfl
theorem z6_5:eqS n_transpose ⟨#[97,112,112,101,110,100]⟩=false:=rfl
theorem z6_6:eqS n_transpose ⟨#[116,114,97,110,115,112,111,115,101]⟩=true:=rfl
theorem z6_7:eqS n_transpose ⟨#[100,105,97,103,111,110,97,108]⟩=false:=rfl
theorem z6_8:eqS n_transpose ⟨#[119,105,110,100,111,119,115]⟩=false:=rfl
theorem z6_9:eqS n_transpose ⟨#[99,104,117,110,107]⟩=false:=rfl
theorem z6_10:eqS n_transpose ⟨#[105,110,100,101,120]⟩=false:=rfl
theorem z6_11:eqS n_transpose ⟨#[117,112,100,97,116,101]⟩=false:=rfl
theorem z6_12:eqS n_transpose ⟨#[112,97,99,107]⟩=false:=rfl
theorem z7_0:eqS n_diagonal ⟨#[105,111,116,97]⟩=false:=rfl
theorem z7_1:eqS n_diagonal ⟨#[102,105,108,108]⟩=false:=rfl
theorem z7_2:eqS n_diagonal ⟨#[116,97,107,101]⟩=false:=rfl
theorem z7_3:eqS n_diagonal ⟨#[100,114,111,112]⟩=false:=rfl
theorem z7_4:eqS n_diagonal ⟨#[114,101,118,101,114,115,101]⟩=false:=rfl
theorem z7_5:eqS n_diagonal ⟨#[97,112,112,101,110,100]⟩=false:=rfl
theorem z7_6:eqS n_diagonal ⟨#[116,114,97,110,115,112,111,115,101]⟩=false:=rfl
theorem z7_7:eqS n_diagonal ⟨#[100,105,97,103,111,110,97,108]⟩=true:=rfl
theorem z7_8:eqS n_diagonal ⟨#[119,105,110,100,111,119,115]⟩=false:=rfl
theorem z7_9:eqS n_diagonal ⟨#[99,104,117,110,107]⟩=false:=rfl
theorem z7_10:eqS n_diagonal ⟨#[105,110,100,101,120]⟩=false:=rfl
theorem z7_11:eqS n_diagonal ⟨#[117,112,100,97,116,101]⟩=false:=rfl
theorem z7_12:eqS n_diagonal ⟨#[112,97,99,107]⟩=false:=rfl
theorem z8_0:eqS n_windows ⟨#[105,111,116,97]⟩=false:=rfl
theorem z8_1:eqS n_windows ⟨#[102,105,108,108]⟩=false:=rfl
theorem z8_2:eqS n_windows ⟨#[116,97,107,101]⟩=false:=rfl
theorem z8_3:eqS n_windows ⟨#[100,114,111,112]⟩=false:=rfl
theorem z8_4:eqS n_windows ⟨#[114,101,118,101,114,115,101]⟩=false:=rfl
theorem z8_5:eqS n_windows ⟨#[97,112,112,101,110,100]⟩=false:=rfl
theorem z8_6:eqS n_windows ⟨#[116,114,97,110,115,112,111,115,101]⟩=false:=rfl
theorem z8_7:eqS n_windows ⟨#[100,105,97,103,111,110,97,108]⟩=false:=rfl
theorem z8_8:eqS n_windows ⟨#[119,105,110,100,111,119,115]⟩=true:=rfl
theorem z8_9:eqS n_windows ⟨#[99,104,117,110,107]⟩=false:=rfl
theorem z8_10:eqS n_windows ⟨#[105,110,100,101,120]⟩=false:=rfl
theorem z8_11:eqS n_windows ⟨#[117,112,100,97,116,101]⟩=false:=rfl
theorem z8_12:eqS n_windows ⟨#[112,97,99,107]⟩=false:=rfl
theorem z9_0:eqS n_chunk ⟨#[105,111,116,97]⟩=false:=rfl
theorem z9_1:eqS n_chunk ⟨#[102,105,108,108]⟩=false:=rfl
theorem z9_2:eqS n_chunk ⟨#[116,97,107,101]⟩=false:=rfl
theorem z9_3:eqS n_chunk ⟨#[100,114,111,112]⟩=false:=rfl
theorem z9_4:eqS n_chunk ⟨#[114,101,118,101,114,115,101]⟩=false:=rfl
theorem z9_5:eqS n_chunk ⟨#[97,112,112,101,110,100]⟩=false:=rfl
theorem z9_6:eqS n_chunk ⟨#[116,114,97,110,115,112,111,115,101]⟩=false:=rfl
theorem z9_7:eqS n_chunk ⟨#[100,105,97,103,111,110,97,108]⟩=false:=rfl
theorem z9_8:eqS n_chunk ⟨#[119,105,110,100,111,119,115]⟩=false:=rfl
theorem z9_9:eqS n_chunk ⟨#[99,104,117,110,107]⟩=true:=rfl
theorem z9_10:eqS n_chunk ⟨#[105,110,100,101,120]⟩=false:=rfl
theorem z9_11:eqS n_chunk ⟨#[117,112,100,97,116,101]⟩=false:=rfl
theorem z9_12:eqS n_chunk ⟨#[112,97,99,107]⟩=false:=rfl
theorem z10_0:eqS n_index ⟨#[105,111,116,97]⟩=false:=rfl
theorem z10_1:eqS n_index ⟨#[102,105,108,108]⟩=false:=rfl
theorem z10_2:eqS n_index ⟨#[116,97,107,101]⟩=false:=rfl
theorem z10_3:eqS n_index ⟨#[100,114,111,112]⟩=false:=rfl
theorem z10_4:eqS n_index ⟨#[114,101,118,101,114,115,101]⟩=false:=rfl
theorem z10_5:eqS n_index ⟨#[97,112,112,101,110,100]⟩=false:=rfl
theorem z10_6:eqS n_index ⟨#[116,114,97,110,115,112,111,115,101]⟩=false:=rfl
theorem z10_7:eqS n_index ⟨#[100,105,97,103,111,110,97,108]⟩=false:=rfl
theorem z10_8:eqS n_index ⟨#[119,105,110,100,111,119,115]⟩=false:=rfl
theorem z10_9:eqS n_index ⟨#[99,104,117,110,107]⟩=false:=rfl
theorem z10_10:eqS n_index ⟨#[105,110,100,101,120]⟩=true:=rfl
theorem z10_11:eqS n_index ⟨#[117,112,100,97,116,101]⟩=false:=rfl
theorem z10_12:eqS n_index ⟨#[112,97,99,107]⟩=false:=rfl
theorem z11_0:eqS n_update ⟨#[105,111,116,97]⟩=false:=rfl
theorem z11_1:eqS n_update ⟨#[102,105,108,108]⟩=false:=rfl
theorem z11_2:eqS n_update ⟨#[116,97,107,101]⟩=false:=rfl
theorem z11_3:eqS n_update ⟨#[100,114,111,112]⟩=false:=rfl
theorem z11_4:eqS n_update ⟨#[114,101,118,101,114,115,101]⟩=false:=rfl
theorem z11_5:eqS n_update ⟨#[97,112,112,101,110,100]⟩=false:=rfl
theorem z11_6:eqS n_update ⟨#[116,114,97,110,115,112,111,115,101]⟩=false:=rfl
theorem z11_7:eqS n_update ⟨#[100,105,97,103,111,110,97,108]⟩=false:=rfl
theorem z11_8:eqS n_update ⟨#[119,105,110,100,111,119,115]⟩=false:=rfl
theorem z11_9:eqS n_update ⟨#[99,104,117,110,107]⟩=false:=rfl
theorem z11_10:eqS n_update ⟨#[105,110,100,101,120]⟩=false:=rfl
theorem z11_11:eqS n_update ⟨#[117,112,100,97,116,101]⟩=true:=rfl
theorem z11_12:eqS n_update ⟨#[112,97,99,107]⟩=false:=rfl
theorem z12_0:eqS n_pack ⟨#[105,111,116,97]⟩=false:=rfl
theorem z12_1:eqS n_pack ⟨#[102,105,108,108]⟩=false:=rfl
theorem z12_2:eqS n_pack ⟨#[116,97,107,101]⟩=false:=rfl
theorem z12_3:eqS n_pack ⟨#[100,114,111,112]⟩=false:=rfl
theorem z12_4:eqS n_pack ⟨#[114,101,118,101,114,115,101]⟩=false:=rfl
theorem z12_5:eqS n_pack ⟨#[97,112,112,101,110,100]⟩=false:=rfl
theorem z12_6:eqS n_pack ⟨#[116,114,97,110,115,112,111,115,101]⟩=false:=rfl
theorem z12_7:eqS n_pack ⟨#[100,105,97,103,111,110,97,108]⟩=false:=rfl
theorem z12_8:eqS n_pack ⟨#[119,105,110,100,111,119,115]⟩=false:=rfl
theorem z12_9:eqS n_pack ⟨#[99,104,117,110,107]⟩=false:=rfl
theorem z12_10:eqS n_pack ⟨#[105,110,100,101,120]⟩=false:=rfl
theorem z12_11:eqS n_pack ⟨#[117,112,100,97,116,101]⟩=false:=rfl
theorem z12_12:eqS n_pack ⟨#[112,97,99,107]⟩=true:=rfl
theorem op_cases (op:ByteArray):op=n_iota∨op=n_fill∨op=n_take∨op=n_drop∨op=n_reverse∨op=n_append∨op=n_transpose∨op=n_diagonal∨op=n_windows∨op=n_chunk∨op=n_index∨op=n_update∨op=n_pack∨(eqS op ⟨#[105,111,116,97]⟩=false∧eqS op ⟨#[102,105,108,108]⟩=false∧eqS op ⟨#[116,97,107,101]⟩=false∧eqS op ⟨#[100,114,111,112]⟩=false∧eqS op ⟨#[114,101,118,101,114,115,101]⟩=false∧eqS op ⟨#[97,112,112,101,110,100]⟩=false∧eqS op ⟨#[116,114,97,110,115,112,111,115,101]⟩=false∧eqS op ⟨#[100,105,97,103,111,110,97,108]⟩=false∧eqS op ⟨#[119,105,110,100,111,119,115]⟩=false∧eqS op ⟨#[99,104,117,110,107]⟩=false∧eqS op ⟨#[105,110,100,101,120]⟩=false∧eqS op ⟨#[117,112,100,97,116,101]⟩=false∧eqS op ⟨#[112,97,99,107]⟩=false):=by
  by_cases h0:op=n_iota
  ·exact .inl h0
  by_cases h1:op=n_fill
  ·exact .inr (.inl h1)
  by_cases h2:op=n_take
  ·exact .inr (.inr (.inl h2))
  by_cases h3:op=n_drop
  ·exact .inr (.inr (.inr (.inl h3)))
  by_cases h4:op=n_reverse
  ·exact .inr (.inr (.inr (.inr (.inl h4))))
  by_cases h5:op=n_append
  ·exact .inr (.inr (.inr (.inr (.inr (.inl h5)))))
  by_cases h6:op=n_transpose
  ·exact .inr (.inr (.inr (.inr (.inr (.inr (.inl h6))))))
  by_cases h7:op=n_diagonal
  ·exact .inr (.inr (.inr (.inr (.inr (.inr (.inr (.inl h7)))))))
  by_cases h8:op=n_windows
  ·exact .inr (.inr (.inr (.inr (.inr (.inr (.inr (.inr (.inl h8))))))))
  by_cases h9:op=n_chunk
  ·exact .inr (.inr (.inr (.inr (.inr (.inr (.inr (.inr (.inr (.inl h9)))))))))
  by_cases h10:op=n_index
  ·exact .inr (.inr (.inr (.inr (.inr (.inr (.inr (.inr (.inr (.inr (.inl h10))))))))))
  by_cases h11:op=n_update
  ·exact .inr (.inr (.inr (.inr (.inr (.inr (.inr (.inr (.inr (.inr (.inr (.inl h11)))))))))))
  by_cases h12:op=n_pack
  ·exact .inr (.inr (.inr (.inr (.inr (.inr (.inr (.inr (.inr (.inr (.inr (.inr (.inl h12))))))))))))
  exact .inr (.inr (.inr (.inr (.inr (.inr (.inr (.inr (.inr (.inr (.inr (.inr (.inr (⟨Bool.eq_false_iff.2 fun e=>h0 (eqS_iff.1 e),Bool.eq_false_iff.2 fun e=>h1 (eqS_iff.1 e),Bool.eq_false_iff.2 fun e=>h2 (eqS_iff.1 e),Bool.eq_false_iff.2 fun e=>h3 (eqS_iff.1 e),Bool.eq_false_iff.2 fun e=>h4 (eqS_iff.1 e),Bool.eq_false_iff.2 fun e=>h5 (eqS_iff.1 e),Bool.eq_false_iff.2 fun e=>h6 (eqS_iff.1 e),Bool.eq_false_iff.2 fun e=>h7 (eqS_iff.1 e),Bool.eq_false_iff.2 fun e=>h8 (eqS_iff.1 e),Bool.eq_false_iff.2 fun e=>h9 (eqS_iff.1 e),Bool.eq_false_iff.2 fun e=>h10 (eqS_iff.1 e),Bool.eq_false_iff.2 fun e=>h11 (eqS_iff.1 e),Bool.eq_false_iff.2 fun e=>h12 (eqS_iff.1 e)⟩)))))))))))))
def opI (op:ByteArray):Nat:=if eqS op n_iota=true then 0 else if eqS op n_fill=true then 1 else if eqS op n_take=true then 2 else if eqS op n_drop=true then 3 else if eqS op n_reverse=true then 4 else if eqS op n_append=true then 5 else if eqS op n_transpose=true then 6 else if eqS op n_diagonal=true then 7 else if eqS op n_windows=true then 8 else if eqS op n_chunk=true then 9 else if eqS op n_index=true then 10 else if eqS op n_update=true then 11 else if eqS op n_pack=true then 12 else 13
theorem opI_iota:opI n_iota=0:=rfl
theorem opI_fill:opI n_fill=1:=rfl
theorem opI_take:opI n_take=2:=rfl
theorem opI_drop:opI n_drop=3:=rfl
theorem opI_reverse:opI n_reverse=4:=rfl
theorem opI_append:opI n_append=5:=rfl
theorem opI_transpose:opI n_transpose=6:=rfl
theorem opI_diagonal:opI n_diagonal=7:=rfl
theorem opI_windows:opI n_windows=8:=rfl
theorem opI_chunk:opI n_chunk=9:=rfl
theorem opI_index:opI n_index=10:=rfl
theorem opI_update:opI n_update=11:=rfl
theorem opI_pack:opI n_pack=12:=rfl
theorem opI_no {op:ByteArray} (h:eqS op ⟨#[105,111,116,97]⟩=false∧eqS op ⟨#[102,105,108,108]⟩=false∧eqS op ⟨#[116,97,107,101]⟩=false∧eqS op ⟨#[100,114,111,112]⟩=false∧eqS op ⟨#[114,101,118,101,114,115,101]⟩=false∧eqS op ⟨#[97,112,112,101,110,100]⟩=false∧eqS op ⟨#[116,114,97,110,115,112,111,115,101]⟩=false∧eqS op ⟨#[100,105,97,103,111,110,97,108]⟩=false∧eqS op ⟨#[119,105,110,100,111,119,115]⟩=false∧eqS op ⟨#[99,104,117,110,107]⟩=false∧eqS op ⟨#[105,110,100,101,120]⟩=false∧eqS op ⟨#[117,112,100,97,116,101]⟩=false∧eqS op ⟨#[112,97,99,107]⟩=false):opI op=13:=by
  obtain ⟨q0,q1,q2,q3,q4,q5,q6,q7,q8,q9,q10,q11,q12⟩:=h
  unfold opI
  rw [if_neg (by rw [show eqS op n_iota=false from q0];decide),if_neg (by rw [show eqS op n_fill=false from q1];decide),if_neg (by rw [show eqS op n_take=false from q2];decide),if_neg (by rw [show eqS op n_drop=false from q3];decide),if_neg (by rw [show eqS op n_reverse=false from q4];decide),if_neg (by rw [show eqS op n_append=false from q5];decide),if_neg (by rw [show eqS op n_transpose=false from q6];decide),if_neg (by rw [show eqS op n_diagonal=false from q7];decide),if_neg (by rw [show eqS op n_windows=false from q8];decide),if_neg (by rw [show eqS op n_chunk=false from q9];decide),if_neg (by rw [show eqS op n_index=false from q10];decide),if_neg (by rw [show eqS op n_update=false from q11];decide),if_neg (by rw [show eqS op n_pack=false from q12];decide)]
def rankL:Nat→Int→Option (List Int)
  |0,_=>some []
  |1,_=>some [0]
  |2,_|3,_|4,_|8,_|9,_=>some [1]
  |5,_=>some [1,1]
  |6,_|7,_=>some [2]
  |10,_=>some [1,0]
  |11,_=>some [1,0,0]
  |12,n=>if 1≤n∧n≤4096 then some (List.replicate n.toNat 0) else none
  |_,_=>none
def ranksQ (op:ByteArray) (n:Int):List Int×Bool:=match rankL (opI op) n with
  |some l=>if (l.length:Int)≠n then ([],false) else (l,true)
  |none=>([],false)
set_option maxRecDepth 20000 in
set_option maxHeartbeats 8000000 in
theorem rranks_pc {op:ByteArray} {n:Int}:PC Tryz.prog 59 [.lit (.string op),.lit (.int .i64 n)] (rkV (ranksQ op n)):=by
  rcases op_cases op with rfl|rfl|rfl|rfl|rfl|rfl|rfl|rfl|rfl|rfl|rfl|rfl|rfl|hno
  ·skip
   unfold ranksQ
   rw [opI_iota]
   refine pcR F1_ok (fun _=>[0,1,4,5,6,7,8,10,13,20,23,27,30,33,40,46]) Tryz.func59 [.tmp 4,.tmp 5] (h:=fun KF=>?_)
   unfold F1
   repeat' (first
    |(with_reducible first|refine nx ?_|refine t_seq fun K=>?_|refine t_br (fun hc=>?_) fun hc=>?_|refine t_bx ?_|apply And.intro|intro vr)
    |((with_reducible first|refine ny ?_|refine t_dwh (h:=fun K KL=>?_));intros;simp only [go_sem,geff,z0_0,z0_1,z0_2,z0_3,z0_4,z0_5,z0_6,z0_7,z0_8,z0_9,z0_10,z0_11,z0_12,ints_replicate]))
   all_goals try exact nd
   all_goals (refine nl ?_;simp only [go_sem])
   all_goals refine rk_of (by first|exact slK_sl|rfl) ?_
   all_goals simp only [rankL]
   all_goals (first|rfl|(simp_all;done)|(simp_all;omega)|(rw [if_neg (by simpa using hc)]))
  ·skip
   unfold ranksQ
   rw [opI_fill]
   refine pcR F1_ok (fun _=>[0,1,4,5,6,7,8,10,13,20,23,27,30,33,40,46]) Tryz.func59 [.tmp 4,.tmp 5] (h:=fun KF=>?_)
   unfold F1
   repeat' (first
    |(with_reducible first|refine nx ?_|refine t_seq fun K=>?_|refine t_br (fun hc=>?_) fun hc=>?_|refine t_bx ?_|apply And.intro|intro vr)
    |((with_reducible first|refine ny ?_|refine t_dwh (h:=fun K KL=>?_));intros;simp only [go_sem,geff,z1_0,z1_1,z1_2,z1_3,z1_4,z1_5,z1_6,z1_7,z1_8,z1_9,z1_10,z1_11,z1_12,ints_replicate]))
   all_goals try exact nd
   all_goals (refine nl ?_;simp only [go_sem])
   all_goals refine rk_of (by first|exact slK_sl|rfl) ?_
   all_goals simp only [rankL]
   all_goals (first|rfl|(simp_all;done)|(simp_all;omega)|(rw [if_neg (by simpa using hc)]))
  ·skip
   unfold ranksQ
   rw [opI_take]
   refine pcR F1_ok (fun _=>[0,1,4,5,6,7,8,10,13,20,23,27,30,33,40,46]) Tryz.func59 [.tmp 4,.tmp 5] (h:=fun KF=>?_)
   unfold F1
   repeat' (first
    |(with_reducible first|refine nx ?_|refine t_seq fun K=>?_|refine t_br (fun hc=>?_) fun hc=>?_|refine t_bx ?_|apply And.intro|intro vr)
    |((with_reducible first|refine ny ?_|refine t_dwh (h:=fun K KL=>?_));intros;simp only [go_sem,geff,z2_0,z2_1,z2_2,z2_3,z2_4,z2_5,z2_6,z2_7,z2_8,z2_9,z2_10,z2_11,z2_12,ints_replicate]))
   all_goals try exact nd
   all_goals (refine nl ?_;simp only [go_sem])
   all_goals refine rk_of (by first|exact slK_sl|rfl) ?_
   all_goals simp only [rankL]
   all_goals (first|rfl|(simp_all;done)|(simp_all;omega)|(rw [if_neg (by simpa using hc)]))
  ·skip
   unfold ranksQ
   rw [opI_drop]
   refine pcR F1_ok (fun _=>[0,1,4,5,6,7,8,10,13,20,23,27,30,33,40,46]) Tryz.func59 [.tmp 4,.tmp 5] (h:=fun KF=>?_)
   unfold F1
   repeat' (first
    |(with_reducible first|refine nx ?_|refine t_seq fun K=>?_|refine t_br (fun hc=>?_) fun hc=>?_|refine t_bx ?_|apply And.intro|intro vr)
    |((with_reducible first|refine ny ?_|refine t_dwh (h:=fun K KL=>?_));intros;simp only [go_sem,geff,z3_0,z3_1,z3_2,z3_3,z3_4,z3_5,z3_6,z3_7,z3_8,z3_9,z3_10,z3_11,z3_12,ints_replicate]))
   all_goals try exact nd
   all_goals (refine nl ?_;simp only [go_sem])
   all_goals refine rk_of (by first|exact slK_sl|rfl) ?_
   all_goals simp only [rankL]
   all_goals (first|rfl|(simp_all;done)|(simp_all;omega)|(rw [if_neg (by simpa using hc)]))
  ·skip
   unfold ranksQ
   rw [opI_reverse]
   refine pcR F1_ok (fun _=>[0,1,4,5,6,7,8,10,13,20,23,27,30,33,40,46]) Tryz.func59 [.tmp 4,.tmp 5] (h:=fun KF=>?_)
   unfold F1
   repeat' (first
    |(with_reducible first|refine nx ?_|refine t_seq fun K=>?_|refine t_br (fun hc=>?_) fun hc=>?_|refine t_bx ?_|apply And.intro|intro vr)
    |((with_reducible first|refine ny ?_|refine t_dwh (h:=fun K KL=>?_));intros;simp only [go_sem,geff,z4_0,z4_1,z4_2,z4_3,z4_4,z4_5,z4_6,z4_7,z4_8,z4_9,z4_10,z4_11,z4_12,ints_replicate]))
   all_goals try exact nd
   all_goals (refine nl ?_;simp only [go_sem])
   all_goals refine rk_of (by first|exact slK_sl|rfl) ?_
   all_goals simp only [rankL]
   all_goals (first|rfl|(simp_all;done)|(simp_all;omega)|(rw [if_neg (by simpa using hc)]))
  ·skip
   unfold ranksQ
   rw [opI_append]
   refine pcR F1_ok (fun _=>[0,1,4,5,6,7,8,10,13,20,23,27,30,33,40,46]) Tryz.func59 [.tmp 4,.tmp 5] (h:=fun KF=>?_)
   unfold F1
   repeat' (first
    |(with_reducible first|refine nx ?_|refine t_seq fun K=>?_|refine t_br (fun hc=>?_) fun hc=>?_|refine t_bx ?_|apply And.intro|intro vr)
    |((with_reducible first|refine ny ?_|refine t_dwh (h:=fun K KL=>?_));intros;simp only [go_sem,geff,z5_0,z5_1,z5_2,z5_3,z5_4,z5_5,z5_6,z5_7,z5_8,z5_9,z5_10,z5_11,z5_12,ints_replicate]))
   all_goals try exact nd
   all_goals (refine nl ?_;simp only [go_sem])
   all_goals refine rk_of (by first|exact slK_sl|rfl) ?_
   all_goals simp only [rankL]
   all_goals (first|rfl|(simp_all;done)|(simp_all;omega)|(rw [if_neg (by simpa using hc)]))
  ·skip
   unfold ranksQ
   rw [opI_transpose]
   refine pcR F1_ok (fun _=>[0,1,4,5,6,7,8,10,13,20,23,27,30,33,40,46]) Tryz.func59 [.tmp 4,.tmp 5] (h:=fun KF=>?_)
   unfold F1
   repeat' (first
    |(with_reducible first|refine nx ?_|refine t_seq fun K=>?_|refine t_br (fun hc=>?_) fun hc=>?_|refine t_bx ?_|apply And.intro|intro vr)
    |((with_reducible first|refine ny ?_|refine t_dwh (h:=fun K KL=>?_));intros;simp only [go_sem,geff,z6_0,z6_1,z6_2,z6_3,z6_4,z6_5,z6_6,z6_7,z6_8,z6_9,z6_10,z6_11,z6_12,ints_replicate]))
   all_goals try exact nd
   all_goals (refine nl ?_;simp only [go_sem])
   all_goals refine rk_of (by first|exact slK_sl|rfl) ?_
   all_goals simp only [rankL]
   all_goals (first|rfl|(simp_all;done)|(simp_all;omega)|(rw [if_neg (by simpa using hc)]))
  ·skip
   unfold ranksQ
   rw [opI_diagonal]
   refine pcR F1_ok (fun _=>[0,1,4,5,6,7,8,10,13,20,23,27,30,33,40,46]) Tryz.func59 [.tmp 4,.tmp 5] (h:=fun KF=>?_)
   unfold F1
   repeat' (first
    |(with_reducible first|refine nx ?_|refine t_seq fun K=>?_|refine t_br (fun hc=>?_) fun hc=>?_|refine t_bx ?_|apply And.intro|intro vr)
    |((with_reducible first|refine ny ?_|refine t_dwh (h:=fun K KL=>?_));intros;simp only [go_sem,geff,z7_0,z7_1,z7_2,z7_3,z7_4,z7_5,z7_6,z7_7,z7_8,z7_9,z7_10,z7_11,z7_12,ints_replicate]))
   all_goals try exact nd
   all_goals (refine nl ?_;simp only [go_sem])
   all_goals refine rk_of (by first|exact slK_sl|rfl) ?_
   all_goals simp only [rankL]
   all_goals (first|rfl|(simp_all;done)|(simp_all;omega)|(rw [if_neg (by simpa using hc)]))
  ·skip
   unfold ranksQ
   rw [opI_windows]
   refine pcR F1_ok (fun _=>[0,1,4,5,6,7,8,10,13,20,23,27,30,33,40,46]) Tryz.func59 [.tmp 4,.tmp 5] (h:=fun KF=>?_)
   unfold F1
   repeat' (first
    |(with_reducible first|refine nx ?_|refine t_seq fun K=>?_|refine t_br (fun hc=>?_) fun hc=>?_|refine t_bx ?_|apply And.intro|intro vr)
    |((with_reducible first|refine ny ?_|refine t_dwh (h:=fun K KL=>?_));intros;simp only [go_sem,geff,z8_0,z8_1,z8_2,z8_3,z8_4,z8_5,z8_6,z8_7,z8_8,z8_9,z8_10,z8_11,z8_12,ints_replicate]))
   all_goals try exact nd
   all_goals (refine nl ?_;simp only [go_sem])
   all_goals refine rk_of (by first|exact slK_sl|rfl) ?_
   all_goals simp only [rankL]
   all_goals (first|rfl|(simp_all;done)|(simp_all;omega)|(rw [if_neg (by simpa using hc)]))
  ·skip
   unfold ranksQ
   rw [opI_chunk]
   refine pcR F1_ok (fun _=>[0,1,4,5,6,7,8,10,13,20,23,27,30,33,40,46]) Tryz.func59 [.tmp 4,.tmp 5] (h:=fun KF=>?_)
   unfold F1
   repeat' (first
    |(with_reducible first|refine nx ?_|refine t_seq fun K=>?_|refine t_br (fun hc=>?_) fun hc=>?_|refine t_bx ?_|apply And.intro|intro vr)
    |((with_reducible first|refine ny ?_|refine t_dwh (h:=fun K KL=>?_));intros;simp only [go_sem,geff,z9_0,z9_1,z9_2,z9_3,z9_4,z9_5,z9_6,z9_7,z9_8,z9_9,z9_10,z9_11,z9_12,ints_replicate]))
   all_goals try exact nd
   all_goals (refine nl ?_;simp only [go_sem])
   all_goals refine rk_of (by first|exact slK_sl|rfl) ?_
   all_goals simp only [rankL]
   all_goals (first|rfl|(simp_all;done)|(simp_all;omega)|(rw [if_neg (by simpa using hc)]))
  ·skip
   unfold ranksQ
   rw [opI_index]
   refine pcR F1_ok (fun _=>[0,1,4,5,6,7,8,10,13,20,23,27,30,33,40,46]) Tryz.func59 [.tmp 4,.tmp 5] (h:=fun KF=>?_)
   unfold F1
   repeat' (first
    |(with_reducible first|refine nx ?_|refine t_seq fun K=>?_|refine t_br (fun hc=>?_) fun hc=>?_|refine t_bx ?_|apply And.intro|intro vr)
    |((with_reducible first|refine ny ?_|refine t_dwh (h:=fun K KL=>?_));intros;simp only [go_sem,geff,z10_0,z10_1,z10_2,z10_3,z10_4,z10_5,z10_6,z10_7,z10_8,z10_9,z10_10,z10_11,z10_12,ints_replicate]))
   all_goals try exact nd
   all_goals (refine nl ?_;simp only [go_sem])
   all_goals refine rk_of (by first|exact slK_sl|rfl) ?_
   all_goals simp only [rankL]
   all_goals (first|rfl|(simp_all;done)|(simp_all;omega)|(rw [if_neg (by simpa using hc)]))
  ·skip
   unfold ranksQ
   rw [opI_update]
   refine pcR F1_ok (fun _=>[0,1,4,5,6,7,8,10,13,20,23,27,30,33,40,46]) Tryz.func59 [.tmp 4,.tmp 5] (h:=fun KF=>?_)
   unfold F1
   repeat' (first
    |(with_reducible first|refine nx ?_|refine t_seq fun K=>?_|refine t_br (fun hc=>?_) fun hc=>?_|refine t_bx ?_|apply And.intro|intro vr)
    |((with_reducible first|refine ny ?_|refine t_dwh (h:=fun K KL=>?_));intros;simp only [go_sem,geff,z11_0,z11_1,z11_2,z11_3,z11_4,z11_5,z11_6,z11_7,z11_8,z11_9,z11_10,z11_11,z11_12,ints_replicate]))
   all_goals try exact nd
   all_goals (refine nl ?_;simp only [go_sem])
   all_goals refine rk_of (by first|exact slK_sl|rfl) ?_
   all_goals simp only [rankL]
   all_goals (first|rfl|(simp_all;done)|(simp_all;omega)|(rw [if_neg (by simpa using hc)]))
  ·skip
   unfold ranksQ
   rw [opI_pack]
   refine pcR F1_ok (fun _=>[0,1,4,5,6,7,8,10,13,20,23,27,30,33,40,46]) Tryz.func59 [.tmp 4,.tmp 5] (h:=fun KF=>?_)
   unfold F1
   repeat' (first
    |(with_reducible first|refine nx ?_|refine t_seq fun K=>?_|refine t_br (fun hc=>?_) fun hc=>?_|refine t_bx ?_|apply And.intro|intro vr)
    |((with_reducible first|refine ny ?_|refine t_dwh (h:=fun K KL=>?_));intros;simp only [go_sem,geff,z12_0,z12_1,z12_2,z12_3,z12_4,z12_5,z12_6,z12_7,z12_8,z12_9,z12_10,z12_11,z12_12,ints_replicate]))
   all_goals try exact nd
   all_goals (refine nl ?_;simp only [go_sem])
   all_goals refine rk_of (by first|exact slK_sl|rfl) ?_
   all_goals simp only [rankL]
   all_goals (first|rfl|(simp_all;done)|(simp_all;omega)|(rw [if_neg (by simpa using hc)]))
  ·obtain ⟨q0,q1,q2,q3,q4,q5,q6,q7,q8,q9,q10,q11,q12⟩:=hno
   unfold ranksQ
   rw [opI_no ⟨q0,q1,q2,q3,q4,q5,q6,q7,q8,q9,q10,q11,q12⟩]
   refine pcR F1_ok (fun _=>[0,1,4,5,6,7,8,10,13,20,23,27,30,33,40,46]) Tryz.func59 [.tmp 4,.tmp 5] (h:=fun KF=>?_)
   unfold F1
   repeat' (first
    |(with_reducible first|refine nx ?_|refine t_seq fun K=>?_|refine t_br (fun hc=>?_) fun hc=>?_|refine t_bx ?_|apply And.intro|intro vr)
    |((with_reducible first|refine ny ?_|refine t_dwh (h:=fun K KL=>?_));intros;simp only [go_sem,geff,q0,q1,q2,q3,q4,q5,q6,q7,q8,q9,q10,q11,q12,ints_replicate]))
   all_goals try exact nd
   all_goals (refine nl ?_;simp only [go_sem])
   all_goals refine rk_of (by first|exact slK_sl|rfl) ?_
   all_goals simp only [rankL]
   all_goals (first|rfl|(simp_all;done)|(simp_all;omega)|(rw [if_neg (by simpa using hc)]))
noncomputable def con59:PCon Tryz.prog where
  f:=59
  c:=fun
   |[.lit (.string op),.lit (.int .i64 n)]=>some (True,rkV (ranksQ op n))
   |_=>none
  ok:=by
   intro args p r hc hp
   split at hc
   ·cases hc;exact rranks_pc
   ·cases hc
  fk:=fk59
end Go.Proofs.YtcpjahmajkhchaaGreat.St

namespace Go.Proofs.YtcpjahmajkhchaaGreat.St
open Go.Proofs.YtcpjahmajkhchaaGreat
open Go Go.Fw
set_option maxRecDepth 20000
end Go.Proofs.YtcpjahmajkhchaaGreat.St

namespace Go.Proofs
open Go.Shelf
def Tryz.laysNm224_ren:Go.Shelf.Ren:=⟨fun|24=>131|n=>n,fun|24=>42|9=>9|3=>3|4=>4|0=>0|n=>n,fun|n=>n⟩
theorem Tryz.laysNm224:Go.Proofs.Lays2.n24 Tryz.prog Tryz.laysNm224_ren:={
  mixed:=by kernel_rfl
  f24:=Tryz.func131.trans (congrArg some (by kernel_rfl))
  t0:=Tryz.underlying0
  a0:=Tryz.isAgg0
  z0:=Tryz.sizeOf0
  v0:=Tryz.zeroValue0
  t3:=Tryz.underlying3
  a3:=Tryz.isAgg3
  z3:=Tryz.sizeOf3
  v3:=Tryz.zeroValue3
  t4:=Tryz.underlying4
  a4:=Tryz.isAgg4
  z4:=Tryz.sizeOf4
  v4:=Tryz.zeroValue4
  t9:=Tryz.underlying9
  a9:=Tryz.isAgg9
  z9:=Tryz.sizeOf9
  v9:=Tryz.zeroValue9
  t24:=Tryz.underlying42
  a24:=Tryz.isAgg42
  z24:=Tryz.sizeOf42
  v24:=Tryz.zeroValue42
  i9:=by kernel_rfl}
open Go.RowKit Go.Lib Go.Sort in
open Go.RowKit Go.Lib Go.Sort in
theorem Tryz.slices_Delete_string (blk off cap i j:Nat) (zs:List (List UInt8)) (w:World) (hH:Holds encStr w blk off zs.toArray) (hcap:zs.length≤cap) (hm:cap≤9223372036854775807) (hij:i≤j) (hj:j≤zs.length):
    Calls Tryz.prog 131 #[.slice (some ⟨blk,off,none⟩) zs.length cap,.int .i64 i,.int .i64 j] w fun e w'=>e= .returned (.slice (some ⟨blk,off,none⟩) (zs.length - (j - i)) cap)∧∃ q,w'=putRow encStr (Sort.ahead w q) blk off (zs.take i++zs.drop j++List.replicate (j - i) []).toArray:=Any.slices_Delete_string Tryz.laysNm224 blk off cap i j zs w hH hcap hm hij hj
end Go.Proofs

namespace Go.Proofs.YtcpjahmajkhchaaGreat.St
open Go.Proofs.YtcpjahmajkhchaaGreat
open Go Go.Fw
set_option maxRecDepth 20000
set_option maxRecDepth 20000
theorem clones_ec {σ:List AObj} {l:List ByteArray} {k:AV→List AObj→Prop} (hl:l.length≤1000000) (hk:k (.arr σ.length 0) (σ++[.arr 9 1 (strs l) 0 false])):EC Tryz.prog 85 [.sl false 1 (strs l)] σ k:=by
  refine EC.nilArr 9 1 ?_
  refine ecR F1_ok (kp85) Tryz.func85 [.tmp 2] (h:=fun KF=>?_)
  unfold F1
  repeat' (first
   |(with_reducible first|refine nx ?_|refine t_seq fun K=>?_|refine t_br (fun hc=>?_) fun hc=>?_|refine t_bx ?_|apply And.intro|intro vr)
   |((with_reducible first|refine ny ?_|refine t_dwh (h:=fun K KL=>?_));intros;simp only [go_sem,kp85,geff]))
  all_goals try exact nd
  all_goals (refine nl ?_;simp only [go_sem])
  ·exact .inr (by simp_all [strs])
  ·exact .inl hk
noncomputable def ecn85:ECon Tryz.prog where
  f:=85
  c:=fun args σ k=>match args with
   |[xl]=>match slS xl with|some l=>l.length≤1000000∧k (.arr σ.length 0) (σ++[.arr 9 1 (strs l) 0 false])|_=>False
   |_=>False
  ok:=by
   intro args σ k h
   split at h
   ·split at h
    ·rename_i hl
     exact EC.weak (clones_ec h.1 h.2) (LeRL.cons (slS_leR hl) (LeRL.nil))
    ·exact h.elim
   ·exact h.elim
  fk:=fk85
theorem ecn85_f:ecn85.f=85:=rfl
theorem ecn85_c {xl:AV} {σ:List AObj} {k:AV→List AObj→Prop}:ecn85.c [xl] σ k=match slS xl with|some l=>l.length≤1000000∧k (.arr σ.length 0) (σ++[.arr 9 1 (strs l) 0 false])|_=>False:=rfl
def noEl (t:ByteArray):Bool:= !eqS t ⟨#[105,110,116]⟩&& !eqS t ⟨#[98,111,111,108]⟩
theorem noel_pc {t:ByteArray}:PC Tryz.prog 130 [.lit (.string t)] (.lit (.bool (noEl t))):=by
  refine pcR F1_ok (kp130) Tryz.func130 [.tmp 2] (h:=fun KF=>?_)
  unfold F1
  repeat' (first
   |(with_reducible first|refine nx ?_|refine t_seq fun K=>?_|refine t_br (fun hc=>?_) fun hc=>?_|refine t_bx ?_|apply And.intro|intro vr)
   |((with_reducible first|refine ny ?_|refine t_dwh (h:=fun K KL=>?_));intros;simp only [go_sem,kp130,geff]))
  all_goals try exact nd
  all_goals (refine nl ?_;simp only [go_sem])
  exact LeA.of_eq (by unfold noEl;rfl)
noncomputable def con130:PCon Tryz.prog where
  f:=130
  c:=fun
   |[.lit (.string t)]=>some (True,.lit (.bool (noEl t)))
   |_=>none
  ok:=by
   intro args p r hc hp
   split at hc
   ·cases hc;exact noel_pc
   ·cases hc
  fk:=fk130
theorem con130_f:con130.f=130:=rfl
theorem con130_c {t:ByteArray}:con130.c [.lit (.string t)]=some (True,.lit (.bool (noEl t))):=rfl
noncomputable def H1:Env:=envJ (P:=Tryz.prog) jk2 zer (fun _=>false) (fun _=>false) [con130] []
theorem H1_ok:EnvOk Tryz.prog H1:=envJOk zer_ok
theorem idxn_pc {l:List ByteArray} (hl:l.length≤1000000):PC Tryz.prog 153 [.sl false 1 (strs l),.fn (.func 130) [] []] (.lit (.int .i64 (idxB noEl l 0))):=by
  generalize hR:idxB noEl l 0=R
  refine pcR H1_ok (kp153) Tryz.func153 [.tmp 4] (h:=fun KF=>?_)
  unfold H1
  repeat' (first
   |(with_reducible first|refine nx ?_|refine t_seq fun K=>?_|refine t_br (fun hc=>?_) fun hc=>?_|refine t_bx ?_|apply And.intro|intro vr)
   |((with_reducible first|refine ny ?_|refine t_dwh (h:=fun K KL=>?_));intros;simp only [go_sem,kp153,geff,strs_length,con130_f]))
  refine t_loopF (ι:={i:Nat // i≤l.length∧idxB noEl (l.drop i) i=R}) (fun i=>[(8,.lit (.int .i64 i.1))]) (fun i=>[]) (fun i=>l.length - i.1) ⟨0,by omega,hR⟩ ?_ ?_
  ·exact lf
  rintro ⟨i,hi,hF⟩ K0
  rcases Nat.lt_or_ge i l.length with hc|hc
  ·rw [drop_getD ByteArray.empty hc,idxB] at hF
   have g3:decide ((i:Int)<(l.length:Int))=true:=decide_eq_true (by omega)
   repeat' (first
    |(with_reducible first|refine nx ?_|refine t_seq fun K=>?_|refine t_br (fun hc=>?_) fun hc=>?_|refine t_bx ?_|apply And.intro|intro vr)
    |((with_reducible first|refine ny ?_|refine t_dwh (h:=fun K KL=>?_));intros;simp only [go_sem,kp153,geff,g3,Int.toNat_natCast,strs_length,con130_f,con130_c]))
   all_goals try exact nd
   ·skip
    all_goals (refine nl ?_;simp only [go_sem])
    rw [if_pos hc] at hF
    exact LeA.of_eq (by rw [←hF])
   ·skip
    exact ⟨⟨i+1,by omega,by rw [if_neg (by rw [hc];decide)] at hF;rw [←hF];congr 1⟩,wf,lf⟩
  ·have g3:decide ((i:Int)<(l.length:Int))=false:=decide_eq_false (by omega)
   rw [List.drop_eq_nil_of_le (by omega),idxB] at hF
   repeat' (first
    |(with_reducible first|refine nx ?_|refine t_seq fun K=>?_|refine t_br (fun hc=>?_) fun hc=>?_|refine t_bx ?_|apply And.intro|intro vr)
    |((with_reducible first|refine ny ?_|refine t_dwh (h:=fun K KL=>?_));intros;simp only [go_sem,kp153,geff,g3,Int.toNat_natCast,strs_length,con130_f]))
   all_goals try exact nd
   all_goals (refine nl ?_;simp only [go_sem])
   exact LeA.of_eq (by rw [←hF])
noncomputable def con97n:PCon Tryz.prog where
  f:=153
  c:=fun
   |[x,.fn (.func 130) [] []]=>match slS x with|some l=>some (l.length≤1000000,.lit (.int .i64 (idxB noEl l 0)))|_=>none
   |_=>none
  ok:=by
   intro args p r hc hp
   split at hc
   ·split at hc
    ·rename_i hx
     cases hc
     exact PC.weak (idxn_pc hp) ⟨slS_le hx,LeA.refl _,trivial⟩
    ·cases hc
   ·cases hc
  fk:=fk153
theorem con97n_f:con97n.f=153:=rfl
theorem con97n_c {x:AV}:con97n.c [x,.fn (.func 130) [] []]=match slS x with|some l=>some (l.length≤1000000,.lit (.int .i64 (idxB noEl l 0)))|_=>none:=rfl
noncomputable def H2:Env:=envJ (P:=Tryz.prog) jk2 zer (fun _=>false) (fun _=>false) [con97n] []
theorem H2_ok:EnvOk Tryz.prog H2:=envJOk zer_ok
theorem anyn_pc {l:List ByteArray} (hl:l.length≤1000000):PC Tryz.prog 129 [.sl false 1 (strs l),.fn (.func 130) [] []] (.lit (.bool (l.any noEl))):=by
  rw [←idxB_any noEl l 0 (by omega)]
  refine pcR H2_ok (kp129) Tryz.func129 [.tmp 4] (h:=fun KF=>?_)
  unfold H2
  repeat' (first
   |(with_reducible first|refine nx ?_|refine t_seq fun K=>?_|refine t_br (fun hc=>?_) fun hc=>?_|refine t_bx ?_|apply And.intro|intro vr)
   |((with_reducible first|refine ny ?_|refine t_dwh (h:=fun K KL=>?_));intros;simp only [go_sem,kp129,geff,con97n_f,con97n_c,slS_sl]))
  all_goals try exact nd
  all_goals (refine nl ?_;simp only [go_sem])
  exact LeA.refl _
noncomputable def con79n:PCon Tryz.prog where
  f:=129
  c:=fun
   |[x,.fn (.func 130) [] []]=>match slS x with|some l=>some (l.length≤1000000,.lit (.bool (l.any noEl)))|_=>none
   |_=>none
  ok:=by
   intro args p r hc hp
   split at hc
   ·split at hc
    ·rename_i hx
     cases hc
     exact PC.weak (anyn_pc hp) ⟨slS_le hx,LeA.refl _,trivial⟩
    ·cases hc
   ·cases hc
  fk:=fk129
theorem con79n_f:con79n.f=129:=rfl
theorem con79n_c {x:AV}:con79n.c [x,.fn (.func 130) [] []]=match slS x with|some l=>some (l.length≤1000000,.lit (.bool (l.any noEl)))|_=>none:=rfl
theorem delete_ec {σ:List AObj} {l:List ByteArray} {o ver:Nat} {k:AV→List AObj→Prop} (hl:1<l.length) (ho:σ[o]? =some (.arr 9 1 (strs l) ver false))
    (hk:k (.arr o (ver+1)) (σ.set o (.arr 9 1 (strs (l.eraseIdx 1)) (ver+1) false))):EC Tryz.prog 131 [.arr o ver,.lit (.int .i64 1),.lit (.int .i64 2)] σ k:=by
  have e1:∀ l:List ByteArray,(l.map fun s:ByteArray=>s.data.toList).map (fun a=>AV.lit (encStr a))=strs l:=by
    intro l;simp [strs,encStr]
  refine EC.ofRow (α:=List UInt8) (enc:=encStr) (m:=l.length - 1) (rest:=[.int .i64 1,.int .i64 2]) (d:=l.map fun s:ByteArray=>s.data.toList)
    (d':=((l.map fun s:ByteArray=>s.data.toList).take 1++(l.map fun s:ByteArray=>s.data.toList).drop 2++List.replicate 1 [])) (fun _=>rfl) (by intro h;simp at h;subst h;simp at hl) (by simp;omega) (by simp) (by omega) ?_ (by rw [e1];exact ho) ?_
  ·intro g cap w hH hc hm
   have:=Tryz.slices_Delete_string g 0 cap 1 2 (l.map fun s:ByteArray=>s.data.toList) w hH hc (by unfold maxLen at hm;omega) (by omega) (by simp;omega)
   simp only [List.length_map] at this ⊢
   exact this
  ·have e2:((((l.map fun s:ByteArray=>s.data.toList).take 1++(l.map fun s:ByteArray=>s.data.toList).drop 2++List.replicate 1 [])).take (l.length - 1))=(l.eraseIdx 1).map fun s:ByteArray=>s.data.toList:=by
     match l,hl with
     |a::b::t,_=>simp [List.eraseIdx]
   rw [e2,e1]
   exact hk
end Go.Proofs.YtcpjahmajkhchaaGreat.St

namespace Go.Proofs.YtcpjahmajkhchaaGreat.St
open Go.Proofs.YtcpjahmajkhchaaGreat
open Go Go.Fw
set_option maxRecDepth 20000
set_option maxRecDepth 20000
def withS (xs:List AV) (p:List ByteArray→Prop):Prop:=match strsOf xs with
  |some l=>p l
  |none=>False
theorem withS_strs {l:List ByteArray} {p:List ByteArray→Prop}:withS (strs l) p=p l:=by unfold withS;rw [strsOf_strs]
theorem withS_inv {xs:List AV} {p:List ByteArray→Prop} (h:withS xs p):∃ l,xs=strs l∧p l:=by
  unfold withS at h
  split at h
  ·rename_i l hl;exact ⟨l,strsOf_inv hl,h⟩
  ·exact h.elim
attribute [go_sem] withS_strs
noncomputable def ecn131:ECon Tryz.prog where
  f:=131
  c:=fun args σ k=>match args with
   |[.arr o ver,.lit (.int .i64 1),.lit (.int .i64 2)]=>arrAt 9 1 σ o ver fun xs=>withS xs fun l=>1<l.length∧k (.arr o (ver+1)) (σ.set o (.arr 9 1 (strs (l.eraseIdx 1)) (ver+1) false))
   |_=>False
  ok:=by
   intro args σ k h
   split at h
   ·obtain ⟨xs,ho,h1⟩:=arrAt_inv h
    obtain ⟨l,hxs,h2⟩:=withS_inv h1
    subst hxs
    exact delete_ec h2.1 ho h2.2
   ·exact h.elim
  fk:=fk131
theorem ecn131_f:ecn131.f=131:=rfl
theorem ecn131_c {o ver:Nat} {σ:List AObj} {k:AV→List AObj→Prop}:ecn131.c [.arr o ver,.lit (.int .i64 1),.lit (.int .i64 2)] σ k=arrAt 9 1 σ o ver fun xs=>withS xs fun l=>1<l.length∧k (.arr o (ver+1)) (σ.set o (.arr 9 1 (strs (l.eraseIdx 1)) (ver+1) false)):=rfl
theorem differ_ec {σ:List AObj} {t:ByteArray} {l:List ByteArray} {o p ver:Nat} {k:AV→List AObj→Prop} (ho:σ[o]? =some (.box 42 [.arr p ver])) (hp:σ[p]? =some (.arr 9 1 (strs l) ver false)) (hl:0<l.length)
    (hk:k (.lit (.bool (!eqS t (l.getD 0 ByteArray.empty)))) σ):EC Tryz.prog 132 [.lit (.string t),.ref o 0] σ k:=by
  refine ecR F4_ok (kp132) Tryz.func132 [.tmp 3] (h:=fun KF=>?_)
  unfold F4
  repeat' (first
   |(with_reducible first|refine nx ?_|refine t_seq fun K=>?_|refine t_br (fun hc=>?_) fun hc=>?_|refine t_bx ?_|apply And.intro|intro vr)
   |((with_reducible first|refine ny ?_|refine t_dwh (h:=fun K KL=>?_));intros;simp only [go_sem,kp132,geff,ho,hp,strs_length,yes]))
  all_goals try exact nd
  all_goals (refine nl ?_;simp only [go_sem])
  exact hk
noncomputable def ecn132:ECon Tryz.prog where
  f:=132
  c:=fun args σ k=>match args with
   |[.lit (.string t),.ref o 0]=>match σ[o]? with
    |some (.box 42 [.arr p ver])=>arrAt 9 1 σ p ver fun xs=>withS xs fun l=>0<l.length∧k (.lit (.bool (!eqS t (l.getD 0 ByteArray.empty)))) σ
    |_=>False
   |_=>False
  ok:=by
   intro args σ k h
   split at h
   ·split at h
    ·rename_i ho
     obtain ⟨xs,hp,h⟩:=arrAt_inv h
     obtain ⟨l,hxs,h2⟩:=withS_inv h
     subst hxs
     exact differ_ec ho hp h2.1 h2.2
    ·exact h.elim
   ·exact h.elim
  fk:=fk132
theorem ecn132_f:ecn132.f=132:=rfl
theorem ecn132_c {t:ByteArray} {o:Nat} {σ:List AObj} {k:AV→List AObj→Prop}:ecn132.c [.lit (.string t),.ref o 0] σ k=match σ[o]? with
      |some (.box 42 [.arr p ver])=>arrAt 9 1 σ p ver fun xs=>withS xs fun l=>0<l.length∧k (.lit (.bool (!eqS t (l.getD 0 ByteArray.empty)))) σ
      |_=>False:=rfl
noncomputable def H3:Env:=envJ (P:=Tryz.prog) jk2 zer (fun _=>false) (fun _=>false) [] [ecn132]
theorem H3_ok:EnvOk Tryz.prog H3:=envJOk zer_ok
theorem idxd_ec {σ:List AObj} {l:List ByteArray} {o p ver:Nat} {k:AV→List AObj→Prop} (ho:σ[o]? =some (.box 42 [.arr p ver])) (hp:σ[p]? =some (.arr 9 1 (strs l) ver false)) (hl:0<l.length) (hb:l.length≤1000000)
    (hk:k (.lit (.int .i64 (idxB (fun t=> !eqS t (l.getD 0 ByteArray.empty)) l 0))) σ):EC Tryz.prog 153 [.arr p ver,.fn (.func 132) [] [.ref o 0]] σ k:=by
  generalize hz:l.getD 0 ByteArray.empty=z at hk
  generalize hR:idxB (fun t=> !eqS t z) l 0=R at hk
  refine ecR H3_ok (kp153) Tryz.func153 [.tmp 4] (h:=fun KF=>?_)
  unfold H3
  repeat' (first
   |(with_reducible first|refine nx ?_|refine t_seq fun K=>?_|refine t_br (fun hc=>?_) fun hc=>?_|refine t_bx ?_|apply And.intro|intro vr)
   |((with_reducible first|refine ny ?_|refine t_dwh (h:=fun K KL=>?_));intros;simp only [go_sem,kp153,geff,strs_length,ecn132_f,ho,hp]))
  refine t_loopF (ι:={i:Nat // i≤l.length∧idxB (fun t=> !eqS t z) (l.drop i) i=R}) (fun i=>[(8,.lit (.int .i64 i.1))]) (fun i=>σ) (fun i=>l.length - i.1) ⟨0,by omega,hR⟩ ?_ ?_
  ·exact lf
  rintro ⟨i,hi,hF⟩ K0
  rcases Nat.lt_or_ge i l.length with hc|hc
  ·rw [drop_getD ByteArray.empty hc,idxB] at hF
   have g3:decide ((i:Int)<(l.length:Int))=true:=decide_eq_true (by omega)
   repeat' (first
    |(with_reducible first|refine nx ?_|refine t_seq fun K=>?_|refine t_br (fun hc=>?_) fun hc=>?_|refine t_bx ?_|apply And.intro|intro vr)
    |((with_reducible first|refine ny ?_|refine t_dwh (h:=fun K KL=>?_));intros;simp only [go_sem,kp153,geff,g3,Int.toNat_natCast,strs_length,ecn132_f,ecn132_c,ho,hp,hz,yes]))
   all_goals try exact nd
   ·skip
    all_goals (refine nl ?_;simp only [go_sem])
    rw [if_pos hc] at hF
    rw [hF];exact hk
   ·skip
    exact ⟨⟨i+1,by omega,by rw [if_neg (by rw [hc];decide)] at hF;rw [←hF];congr 1⟩,wf,lf⟩
  ·have g3:decide ((i:Int)<(l.length:Int))=false:=decide_eq_false (by omega)
   rw [List.drop_eq_nil_of_le (by omega),idxB] at hF
   repeat' (first
    |(with_reducible first|refine nx ?_|refine t_seq fun K=>?_|refine t_br (fun hc=>?_) fun hc=>?_|refine t_bx ?_|apply And.intro|intro vr)
    |((with_reducible first|refine ny ?_|refine t_dwh (h:=fun K KL=>?_));intros;simp only [go_sem,kp153,geff,g3,Int.toNat_natCast,strs_length,ecn132_f,ho,hp]))
   all_goals try exact nd
   all_goals (refine nl ?_;simp only [go_sem])
   rw [hF];exact hk
noncomputable def ecn153:ECon Tryz.prog where
  f:=153
  c:=fun args σ k=>match args with
   |[.arr p ver,.fn (.func 132) [] [.ref o 0]]=>match σ[o]? with
    |some (.box 42 [.arr p' ver'])=>(p'=p∧ver'=ver)∧arrAt 9 1 σ p ver fun xs=>withS xs fun l=>0<l.length∧l.length≤1000000∧k (.lit (.int .i64 (idxB (fun t=> !eqS t (l.getD 0 ByteArray.empty)) l 0))) σ
    |_=>False
   |_=>False
  ok:=by
   intro args σ k h
   split at h
   ·split at h
    ·rename_i ho
     obtain ⟨⟨rfl,rfl⟩,h⟩:=h
     obtain ⟨xs,hp,h⟩:=arrAt_inv h
     obtain ⟨l,hxs,h2⟩:=withS_inv h
     subst hxs
     exact idxd_ec ho hp h2.1 h2.2.1 h2.2.2
    ·exact h.elim
   ·exact h.elim
  fk:=fk153
theorem ecn153_f:ecn153.f=153:=rfl
theorem ecn153_c {p ver o:Nat} {σ:List AObj} {k:AV→List AObj→Prop}:ecn153.c [.arr p ver,.fn (.func 132) [] [.ref o 0]] σ k=match σ[o]? with
      |some (.box 42 [.arr p' ver'])=>(p'=p∧ver'=ver)∧arrAt 9 1 σ p ver fun xs=>withS xs fun l=>0<l.length∧l.length≤1000000∧k (.lit (.int .i64 (idxB (fun t=> !eqS t (l.getD 0 ByteArray.empty)) l 0))) σ
      |_=>False:=rfl
noncomputable def H4:Env:=envJ (P:=Tryz.prog) jk2 zer (fun _=>false) (fun _=>false) [] [ecn153]
theorem H4_ok:EnvOk Tryz.prog H4:=envJOk zer_ok
theorem anyd_ec {σ:List AObj} {l:List ByteArray} {o p ver:Nat} {k:AV→List AObj→Prop} (ho:σ[o]? =some (.box 42 [.arr p ver])) (hp:σ[p]? =some (.arr 9 1 (strs l) ver false)) (hl:0<l.length) (hb:l.length≤1000000)
    (hk:k (.lit (.bool (l.any fun t=> !eqS t (l.getD 0 ByteArray.empty)))) σ):EC Tryz.prog 129 [.arr p ver,.fn (.func 132) [] [.ref o 0]] σ k:=by
  rw [←idxB_any _ l 0 (by omega)] at hk
  refine ecR H4_ok (kp129) Tryz.func129 [.tmp 4] (h:=fun KF=>?_)
  unfold H4
  repeat' (first
   |(with_reducible first|refine nx ?_|refine t_seq fun K=>?_|refine t_br (fun hc=>?_) fun hc=>?_|refine t_bx ?_|apply And.intro|intro vr)
   |((with_reducible first|refine ny ?_|refine t_dwh (h:=fun K KL=>?_));intros;simp only [go_sem,kp129,geff,ecn153_f,ecn153_c,ho,hp]))
  all_goals try exact nd
  all_goals (refine nl ?_;simp only [go_sem])
  exact hk
noncomputable def ecn129:ECon Tryz.prog where
  f:=129
  c:=fun args σ k=>match args with
   |[.arr p ver,.fn (.func 132) [] [.ref o 0]]=>match σ[o]? with
    |some (.box 42 [.arr p' ver'])=>(p'=p∧ver'=ver)∧arrAt 9 1 σ p ver fun xs=>withS xs fun l=>0<l.length∧l.length≤1000000∧k (.lit (.bool (l.any fun t=> !eqS t (l.getD 0 ByteArray.empty)))) σ
    |_=>False
   |_=>False
  ok:=by
   intro args σ k h
   split at h
   ·split at h
    ·rename_i ho
     obtain ⟨⟨rfl,rfl⟩,h⟩:=h
     obtain ⟨xs,hp,h⟩:=arrAt_inv h
     obtain ⟨l,hxs,h2⟩:=withS_inv h
     subst hxs
     exact anyd_ec ho hp h2.1 h2.2.1 h2.2.2
    ·exact h.elim
   ·exact h.elim
  fk:=fk129
theorem ecn129_f:ecn129.f=129:=rfl
theorem ecn129_c {p ver o:Nat} {σ:List AObj} {k:AV→List AObj→Prop}:ecn129.c [.arr p ver,.fn (.func 132) [] [.ref o 0]] σ k=match σ[o]? with
      |some (.box 42 [.arr p' ver'])=>(p'=p∧ver'=ver)∧arrAt 9 1 σ p ver fun xs=>withS xs fun l=>0<l.length∧l.length≤1000000∧k (.lit (.bool (l.any fun t=> !eqS t (l.getD 0 ByteArray.empty)))) σ
      |_=>False:=rfl
def selS (op:ByteArray):Bool:=eqS op n_index||eqS op n_update
def sameS (op:ByteArray) (l:List ByteArray):List ByteArray:=if selS op=true then l.eraseIdx 1 else l
def resultS (op:ByteArray) (l:List ByteArray):ByteArray×Bool:=
  if (ranksI op l.length).2=false∨l.any noEl=true then (ByteArray.empty,false)
  else if selS op=true∧eqS (l.getD 1 ByteArray.empty) sInt=false then (ByteArray.empty,false)
  else if sameS op l=[] then (sInt,true)
  else if ((sameS op l).any fun t=> !eqS t ((sameS op l).getD 0 ByteArray.empty))=true then (ByteArray.empty,false)
  else ((sameS op l).getD 0 ByteArray.empty,true)
def sbV (r:ByteArray×Bool):AV:= .tup [.lit (.string r.1),.lit (.bool r.2)]
theorem sbV_def {r:ByteArray×Bool}:sbV r= .tup [.lit (.string r.1),.lit (.bool r.2)]:=rfl
theorem sb_of {s:ByteArray} {b:Bool} {r:ByteArray×Bool} (h:r=(s,b)):LeA (.tup [.lit (.string s),.lit (.bool b)]) (sbV r):=by subst h;exact LeA.refl _
theorem sel_len {op:ByteArray} {n:Nat} (h:(ranksI op n).2=true) (hs:selS op=true):1<n:=by
  unfold selS at hs
  rw [Bool.or_eq_true] at hs
  rcases hs with hs|hs
  ·rw [eqS_iff.1 hs] at h
   unfold ranksI at h
   rw [show findS n_index n=(ents.getD 10 ent0,true) from rfl] at h
   split at h
   ·cases h
   ·rename_i hh;simp [ents] at hh;omega
  ·rw [eqS_iff.1 hs] at h
   unfold ranksI at h
   rw [show findS n_update n=(ents.getD 11 ent0,true) from rfl] at h
   split at h
   ·cases h
   ·rename_i hh;simp [ents] at hh;omega
noncomputable def H5:Env:=envJ (P:=Tryz.prog) jk2 zer (fun _=>false) (fun t=>t==20) [con99,con79n] [ecn129,ecn85,ecn131]
theorem H5_ok:EnvOk Tryz.prog H5:=envJOk zer_ok
set_option maxHeartbeats 4000000 in
theorem result_pc {op:ByteArray} {l:List ByteArray} (hl:l.length≤1000000):PC Tryz.prog 120 [.lit (.string op),.sl false 1 (strs l)] (sbV (resultS op l)):=by
  generalize hR:resultS op l=R
  unfold resultS at hR
  by_cases h1:(ranksI op l.length).2=false∨l.any noEl=true
  ·rw [if_pos h1] at hR
   have h1':(!(ranksI op l.length).2||l.any noEl)=true:=by simpa using h1
   subst hR
   cases hr:(ranksI op l.length).2 with
   |false=>
    refine pcR H5_ok (kp120) Tryz.func120 [.tmp 4,.tmp 5] (h:=fun KF=>?_)
    unfold H5
    repeat' (first
     |(with_reducible first|refine nx ?_|refine t_seq fun K=>?_|refine t_bx ?_|apply And.intro|intro vr)
     |((with_reducible refine t_cond fun A B=>?_);simp only [go_sem,kp120,geff_true,geff_false,con99_f,con79n_f,ecn129_f,ecn85_f,ecn131_f,con99_c,con79n_c,ecn129_c,ecn85_c,ecn131_c,strs_length,slS_sl,rkV_def,yes,hr];first|(with_reducible refine A.h ?_)|(with_reducible refine B.h ?_)|(refine And.intro (fun hc=>A.h ?_) (fun hc=>B.h ?_)))
     |((with_reducible first|refine ny ?_|refine t_dwh (h:=fun K KL=>?_));intros;simp only [go_sem,kp120,geff_true,geff_false,con99_f,con79n_f,ecn129_f,ecn85_f,ecn131_f,con99_c,con79n_c,ecn129_c,ecn85_c,ecn131_c,strs_length,slS_sl,rkV_def,yes,hr])
     |((with_reducible refine t_geffS (fun hg=>?_) (fun hg=>?_))<;>((try simp only [Bool.not_eq_true',Bool.not_eq_false',Bool.and_eq_true,Bool.or_eq_false_iff] at hg);simp only [hg,go_sem,kp120,geff_true,geff_false,con99_f,con79n_f,ecn129_f,ecn85_f,ecn131_f,con99_c,con79n_c,ecn129_c,ecn85_c,ecn131_c,strs_length,slS_sl,rkV_def,yes,hr])))
    all_goals try exact nd
    all_goals (refine nl ?_;simp only [go_sem])
    all_goals exact sb_of rfl
   |true=>
    have hn:l.any noEl=true:=by rcases h1 with h|h;rw [hr] at h;cases h;exact h
    refine pcR H5_ok (kp120) Tryz.func120 [.tmp 4,.tmp 5] (h:=fun KF=>?_)
    unfold H5
    repeat' (first
     |(with_reducible first|refine nx ?_|refine t_seq fun K=>?_|refine t_bx ?_|apply And.intro|intro vr)
     |((with_reducible refine t_cond fun A B=>?_);simp only [go_sem,kp120,geff_true,geff_false,con99_f,con79n_f,ecn129_f,ecn85_f,ecn131_f,con99_c,con79n_c,ecn129_c,ecn85_c,ecn131_c,strs_length,slS_sl,rkV_def,yes,hr,hn];first|(with_reducible refine A.h ?_)|(with_reducible refine B.h ?_)|(refine And.intro (fun hc=>A.h ?_) (fun hc=>B.h ?_)))
     |((with_reducible first|refine ny ?_|refine t_dwh (h:=fun K KL=>?_));intros;simp only [go_sem,kp120,geff_true,geff_false,con99_f,con79n_f,ecn129_f,ecn85_f,ecn131_f,con99_c,con79n_c,ecn129_c,ecn85_c,ecn131_c,strs_length,slS_sl,rkV_def,yes,hr,hn])
     |((with_reducible refine t_geffS (fun hg=>?_) (fun hg=>?_))<;>((try simp only [Bool.not_eq_true',Bool.not_eq_false',Bool.and_eq_true,Bool.or_eq_false_iff] at hg);simp only [hg,go_sem,kp120,geff_true,geff_false,con99_f,con79n_f,ecn129_f,ecn85_f,ecn131_f,con99_c,con79n_c,ecn129_c,ecn85_c,ecn131_c,strs_length,slS_sl,rkV_def,yes,hr,hn])))
    all_goals try exact nd
    all_goals (refine nl ?_;simp only [go_sem])
    all_goals exact sb_of rfl
  ·rw [if_neg h1] at hR
   have hr:(ranksI op l.length).2=true:=by
     cases h:(ranksI op l.length).2 with
     |true=>rfl
     |false=>exact absurd (.inl h) h1
   have hn:l.any noEl=false:=by
     cases h:l.any noEl with
     |false=>rfl
     |true=>exact absurd (.inr h) h1
   have hlen:=sel_len (op:=op) (n:=l.length) hr
   by_cases hs:selS op=true
   ·have hs':(eqS op ⟨#[105,110,100,101,120]⟩||eqS op ⟨#[117,112,100,97,116,101]⟩)=true:=hs
    have hlen:=hlen hs
    unfold sameS at hR
    simp only [hs,if_true,true_and] at hR
    cases he:eqS (l.getD 1 ByteArray.empty) ⟨#[105,110,116]⟩ with
    |false=>
     rw [if_pos (show eqS (l.getD 1 ByteArray.empty) sInt=false from he)] at hR
     refine pcR H5_ok (kp120) Tryz.func120 [.tmp 4,.tmp 5] (h:=fun KF=>?_)
     unfold H5
     repeat' (first
      |(with_reducible first|refine nx ?_|refine t_seq fun K=>?_|refine t_bx ?_|apply And.intro|intro vr)
      |((with_reducible refine t_cond fun A B=>?_);simp only [go_sem,kp120,geff_true,geff_false,con99_f,con79n_f,ecn129_f,ecn85_f,ecn131_f,con99_c,con79n_c,ecn129_c,ecn85_c,ecn131_c,strs_length,slS_sl,rkV_def,yes,hr,hn,hs',he];first|(with_reducible refine A.h ?_)|(with_reducible refine B.h ?_)|(refine And.intro (fun hc=>A.h ?_) (fun hc=>B.h ?_)))
      |((with_reducible first|refine ny ?_|refine t_dwh (h:=fun K KL=>?_));intros;simp only [go_sem,kp120,geff_true,geff_false,con99_f,con79n_f,ecn129_f,ecn85_f,ecn131_f,con99_c,con79n_c,ecn129_c,ecn85_c,ecn131_c,strs_length,slS_sl,rkV_def,yes,hr,hn,hs',he])
      |((with_reducible refine t_geffS (fun hg=>?_) (fun hg=>?_))<;>((try simp only [Bool.not_eq_true',Bool.not_eq_false',Bool.and_eq_true,Bool.or_eq_false_iff] at hg);simp only [hg,go_sem,kp120,geff_true,geff_false,con99_f,con79n_f,ecn129_f,ecn85_f,ecn131_f,con99_c,con79n_c,ecn129_c,ecn85_c,ecn131_c,strs_length,slS_sl,rkV_def,yes,hr,hn,hs',he])))
     all_goals try exact nd
     all_goals (refine nl ?_;simp only [go_sem])
     all_goals exact sb_of hR.symm
    |true=>
     rw [if_neg (by rw [show eqS (l.getD 1 ByteArray.empty) sInt=true from he];decide)] at hR
     have hll:(l.eraseIdx 1).length=l.length - 1:=by rw [List.length_eraseIdx,if_pos hlen]
     have hz:(((l.eraseIdx 1).length:Int)==0)=false:=by rw [beq_eq_false_iff_ne];omega
     rw [if_neg (by intro h;rw [h] at hll;simp at hll;omega)] at hR
     have hb:(l.eraseIdx 1).length≤1000000:=by omega
     have hp:0<(l.eraseIdx 1).length:=by omega
     refine pcR H5_ok (kp120) Tryz.func120 [.tmp 4,.tmp 5] (h:=fun KF=>?_)
     unfold H5
     repeat' (first
      |(with_reducible first|refine nx ?_|refine t_seq fun K=>?_|refine t_bx ?_|apply And.intro|intro vr)
      |((with_reducible refine t_cond fun A B=>?_);simp only [go_sem,kp120,geff_true,geff_false,con99_f,con79n_f,ecn129_f,ecn85_f,ecn131_f,con99_c,con79n_c,ecn129_c,ecn85_c,ecn131_c,strs_length,slS_sl,rkV_def,yes,hr,hn,hs',he,hz];first|(with_reducible refine A.h ?_)|(with_reducible refine B.h ?_)|(refine And.intro (fun hc=>A.h ?_) (fun hc=>B.h ?_)))
      |((with_reducible first|refine ny ?_|refine t_dwh (h:=fun K KL=>?_));intros;simp only [go_sem,kp120,geff_true,geff_false,con99_f,con79n_f,ecn129_f,ecn85_f,ecn131_f,con99_c,con79n_c,ecn129_c,ecn85_c,ecn131_c,strs_length,slS_sl,rkV_def,yes,hr,hn,hs',he,hz])
      |((with_reducible refine t_geffS (fun hg=>?_) (fun hg=>?_))<;>((try simp only [Bool.not_eq_true',Bool.not_eq_false',Bool.and_eq_true,Bool.or_eq_false_iff] at hg);simp only [hg,go_sem,kp120,geff_true,geff_false,con99_f,con79n_f,ecn129_f,ecn85_f,ecn131_f,con99_c,con79n_c,ecn129_c,ecn85_c,ecn131_c,strs_length,slS_sl,rkV_def,yes,hr,hn,hs',he,hz])))
     all_goals try exact nd
     all_goals (refine nl ?_;simp only [go_sem])
     ·rw [if_pos hc] at hR
      exact sb_of hR.symm
     ·rw [if_neg (by rw [hc];decide)] at hR
      exact sb_of hR.symm
   ·have hs':(eqS op ⟨#[105,110,100,101,120]⟩||eqS op ⟨#[117,112,100,97,116,101]⟩)=false:=Bool.eq_false_iff.2 hs
    unfold sameS at hR
    simp only [hs,reduceCtorEq,if_false,false_and] at hR
    refine pcR H5_ok (kp120) Tryz.func120 [.tmp 4,.tmp 5] (h:=fun KF=>?_)
    unfold H5
    repeat' (first
     |(with_reducible first|refine nx ?_|refine t_seq fun K=>?_|refine t_bx ?_|apply And.intro|intro vr)
     |((with_reducible refine t_cond fun A B=>?_);simp only [go_sem,kp120,geff_true,geff_false,con99_f,con79n_f,ecn129_f,ecn85_f,ecn131_f,con99_c,con79n_c,ecn129_c,ecn85_c,ecn131_c,strs_length,slS_sl,rkV_def,yes,hr,hn,hs'];first|(with_reducible refine A.h ?_)|(with_reducible refine B.h ?_)|(refine And.intro (fun hc=>A.h ?_) (fun hc=>B.h ?_)))
     |((with_reducible first|refine ny ?_|refine t_dwh (h:=fun K KL=>?_));intros;simp only [go_sem,kp120,geff_true,geff_false,con99_f,con79n_f,ecn129_f,ecn85_f,ecn131_f,con99_c,con79n_c,ecn129_c,ecn85_c,ecn131_c,strs_length,slS_sl,rkV_def,yes,hr,hn,hs'])
     |((with_reducible refine t_geffS (fun hg=>?_) (fun hg=>?_))<;>((try simp only [Bool.not_eq_true',Bool.not_eq_false',Bool.and_eq_true,Bool.or_eq_false_iff] at hg);simp only [hg,go_sem,kp120,geff_true,geff_false,con99_f,con79n_f,ecn129_f,ecn85_f,ecn131_f,con99_c,con79n_c,ecn129_c,ecn85_c,ecn131_c,strs_length,slS_sl,rkV_def,yes,hr,hn,hs'])))
    all_goals try exact nd
    all_goals (refine nl ?_;simp only [go_sem])
    ·have hl0:l=[]:=List.eq_nil_of_length_eq_zero (by have:=beq_iff_eq.1 hc;omega)
     rw [if_pos hl0] at hR
     exact sb_of hR.symm
    ·rw [if_neg (by intro h;subst h;simp_all),if_pos hc] at hR
     exact sb_of hR.symm
    ·rw [if_neg (by intro h;subst h;simp_all),if_neg (by rw [hc];decide)] at hR
     exact sb_of hR.symm
noncomputable def con120:PCon Tryz.prog where
  f:=120
  c:=fun
   |[.lit (.string op),xl]=>match slS xl with|some l=>some (l.length≤1000000,sbV (resultS op l))|_=>none
   |_=>none
  ok:=by
   intro args p r hc hp
   split at hc
   ·split at hc
    ·rename_i hl
     cases hc
     exact PC.weak (result_pc hp) ⟨LeA.refl _,slS_le hl,trivial⟩
    ·cases hc
   ·cases hc
  fk:=fk120
theorem con120_f:con120.f=120:=rfl
theorem con120_c {op:ByteArray} {xl:AV}:con120.c [.lit (.string op),xl]=match slS xl with|some l=>some (l.length≤1000000,sbV (resultS op l))|_=>none:=rfl
end Go.Proofs.YtcpjahmajkhchaaGreat.St

namespace Go.Proofs.YtcpjahmajkhchaaGreat.St
open Go.Proofs.YtcpjahmajkhchaaGreat
open Go Go.Fw
set_option maxRecDepth 20000
set_option maxRecDepth 20000
end Go.Proofs.YtcpjahmajkhchaaGreat.St

namespace Go.Proofs.YtcpjahmajkhchaaGreat.St
open Go.Proofs.YtcpjahmajkhchaaGreat
open Go Go.Fw
set_option maxRecDepth 20000
theorem find_no {op:ByteArray} {n:Int} (hno:eqS op ⟨#[105,111,116,97]⟩=false∧eqS op ⟨#[102,105,108,108]⟩=false∧eqS op ⟨#[116,97,107,101]⟩=false∧eqS op ⟨#[100,114,111,112]⟩=false∧eqS op ⟨#[114,101,118,101,114,115,101]⟩=false∧eqS op ⟨#[97,112,112,101,110,100]⟩=false∧eqS op ⟨#[116,114,97,110,115,112,111,115,101]⟩=false∧eqS op ⟨#[100,105,97,103,111,110,97,108]⟩=false∧eqS op ⟨#[119,105,110,100,111,119,115]⟩=false∧eqS op ⟨#[99,104,117,110,107]⟩=false∧eqS op ⟨#[105,110,100,101,120]⟩=false∧eqS op ⟨#[117,112,100,97,116,101]⟩=false∧eqS op ⟨#[112,97,99,107]⟩=false):(findS op n).2=false:=by
  obtain ⟨q0,q1,q2,q3,q4,q5,q6,q7,q8,q9,q10,q11,q12⟩:=hno
  simp only [findS,findG,ents,eqS_symm _ op]
  simp only [n_iota,n_fill,n_take,n_drop,n_reverse,n_append,n_transpose,n_diagonal,n_windows,n_chunk,n_index,n_update,n_pack,q0,q1,q2,q3,q4,q5,q6,q7,q8,q9,q10,q11,q12]
  rfl
theorem ranks_eq {op:ByteArray} {n:Int} (h0:0≤n) (hn:n≤4096):ranksQ op n=ranksI op n:=by
  rcases op_cases op with rfl|rfl|rfl|rfl|rfl|rfl|rfl|rfl|rfl|rfl|rfl|rfl|rfl|hno
  ·have e2:findS n_iota n=(ents.getD 0 ent0,true):=rfl
   unfold ranksQ ranksI
   rw [e2,opI_iota]
   simp only [rankL,ents,List.getD_cons_zero,List.getD_cons_succ]
   simp
  ·have e2:findS n_fill n=(ents.getD 1 ent0,true):=rfl
   unfold ranksQ ranksI
   rw [e2,opI_fill]
   simp only [rankL,ents,List.getD_cons_zero,List.getD_cons_succ]
   simp
  ·have e2:findS n_take n=(ents.getD 2 ent0,true):=rfl
   unfold ranksQ ranksI
   rw [e2,opI_take]
   simp only [rankL,ents,List.getD_cons_zero,List.getD_cons_succ]
   simp
  ·have e2:findS n_drop n=(ents.getD 3 ent0,true):=rfl
   unfold ranksQ ranksI
   rw [e2,opI_drop]
   simp only [rankL,ents,List.getD_cons_zero,List.getD_cons_succ]
   simp
  ·have e2:findS n_reverse n=(ents.getD 4 ent0,true):=rfl
   unfold ranksQ ranksI
   rw [e2,opI_reverse]
   simp only [rankL,ents,List.getD_cons_zero,List.getD_cons_succ]
   simp
  ·have e2:findS n_append n=(ents.getD 5 ent0,true):=rfl
   unfold ranksQ ranksI
   rw [e2,opI_append]
   simp only [rankL,ents,List.getD_cons_zero,List.getD_cons_succ]
   simp
  ·have e2:findS n_transpose n=(ents.getD 6 ent0,true):=rfl
   unfold ranksQ ranksI
   rw [e2,opI_transpose]
   simp only [rankL,ents,List.getD_cons_zero,List.getD_cons_succ]
   simp
  ·have e2:findS n_diagonal n=(ents.getD 7 ent0,true):=rfl
   unfold ranksQ ranksI
   rw [e2,opI_diagonal]
   simp only [rankL,ents,List.getD_cons_zero,List.getD_cons_succ]
   simp
  ·have e2:findS n_windows n=(ents.getD 8 ent0,true):=rfl
   unfold ranksQ ranksI
   rw [e2,opI_windows]
   simp only [rankL,ents,List.getD_cons_zero,List.getD_cons_succ]
   simp
  ·have e2:findS n_chunk n=(ents.getD 9 ent0,true):=rfl
   unfold ranksQ ranksI
   rw [e2,opI_chunk]
   simp only [rankL,ents,List.getD_cons_zero,List.getD_cons_succ]
   simp
  ·have e2:findS n_index n=(ents.getD 10 ent0,true):=rfl
   unfold ranksQ ranksI
   rw [e2,opI_index]
   simp only [rankL,ents,List.getD_cons_zero,List.getD_cons_succ]
   simp
  ·have e2:findS n_update n=(ents.getD 11 ent0,true):=rfl
   unfold ranksQ ranksI
   rw [e2,opI_update]
   simp only [rankL,ents,List.getD_cons_zero,List.getD_cons_succ]
   simp
  ·have e2:findS n_pack n=(packE n,true):=rfl
   unfold ranksQ ranksI
   rw [e2,opI_pack]
   simp only [rankL,packE]
   by_cases h1:1≤n
   ·have hm:maxI n 1=n:=by unfold maxI;rw [if_neg (by omega)]
    rw [if_pos ⟨h1,hn⟩]
    simp only [hm]
    simp
   ·have hm:maxI n 1=1:=by unfold maxI;rw [if_pos (by omega)]
    rw [if_neg (by omega)]
    simp only [hm]
    rw [if_pos (by right;simp;omega)]
  ·unfold ranksQ ranksI
   rw [opI_no hno]
   have e2:(findS op n).2=false:=by
     obtain ⟨q0,q1,q2,q3,q4,q5,q6,q7,q8,q9,q10,q11,q12⟩:=hno
     simp only [findS,findG,ents,eqS_symm _ op]
     simp only [n_iota,n_fill,n_take,n_drop,n_reverse,n_append,n_transpose,n_diagonal,n_windows,n_chunk,n_index,n_update,n_pack,q0,q1,q2,q3,q4,q5,q6,q7,q8,q9,q10,q11,q12]
     rfl
   rw [if_pos (.inl e2)]
   rfl
theorem shape0 {ds:List (List Int)} (hl:((([]:List Int).length:Nat):Int)=ds.length):ds=[]:=by
  match ds,hl with
  |[],_=>rfl
  |_::_,hl=>simp at hl;omega
theorem shape1 {r:Int} {ds:List (List Int)} (hl:([r].length:Int)=ds.length) (hr:rkBad ds [r]=false):∃ a,ds=[a]∧(a.length:Int)=r:=by
  match ds,hl,hr with
  |[a],_,hr=>exact ⟨a,rfl,by simpa [rkBad] using hr⟩
  |[],hl,_=>simp at hl
  |_::_::_,hl,_=>simp only [List.length_cons,List.length_nil] at hl;omega
theorem shape2 {r s:Int} {ds:List (List Int)} (hl:([r,s].length:Int)=ds.length) (hr:rkBad ds [r,s]=false):∃ a b,ds=[a,b]∧(a.length:Int)=r∧(b.length:Int)=s:=by
  match ds,hl,hr with
  |[a,b],_,hr=>exact ⟨a,b,rfl,by simpa [rkBad] using hr⟩
  |[],hl,_=>simp at hl
  |[_],hl,_=>simp at hl
  |_::_::_::_,hl,_=>simp only [List.length_cons,List.length_nil] at hl;omega
theorem shape3 {r s t:Int} {ds:List (List Int)} (hl:([r,s,t].length:Int)=ds.length) (hr:rkBad ds [r,s,t]=false):∃ a b c,ds=[a,b,c]∧(a.length:Int)=r∧(b.length:Int)=s∧(c.length:Int)=t:=by
  match ds,hl,hr with
  |[a,b,c],_,hr=>exact ⟨a,b,c,rfl,by simpa [rkBad] using hr⟩
  |[],hl,_=>simp at hl
  |[_],hl,_=>simp at hl
  |[_,_],hl,_=>simp only [List.length_cons,List.length_nil] at hl;omega
  |_::_::_::_::_,hl,_=>simp only [List.length_cons,List.length_nil] at hl;omega
theorem len0 {a:List Int} (h:(a.length:Int)=0):a=[]:=List.eq_nil_of_length_eq_zero (by omega)
theorem len1' {a:List Int} (h:(a.length:Int)=1):∃ x,a=[x]:=by
  match a,h with
  |[x],_=>exact ⟨x,rfl⟩
  |[],h=>simp at h
  |_::_::_,h=>simp only [List.length_cons] at h;omega
theorem len2' {a:List Int} (h:(a.length:Int)=2):∃ x y,a=[x,y]:=by
  match a,h with
  |[x,y],_=>exact ⟨x,y,rfl⟩
  |[],h=>simp at h
  |[_],h=>simp at h
  |_::_::_::_,h=>simp only [List.length_cons] at h;omega
theorem giv_e {op:ByteArray} {n:Int} {e e':Ent} (h:findS op n=(e,true)) (h':findS op n=(e',true)):e=e':=by rw [h] at h';injection h'
end Go.Proofs.YtcpjahmajkhchaaGreat.St

namespace Go.Proofs.YtcpjahmajkhchaaGreat.St
open Go.Proofs.YtcpjahmajkhchaaGreat
open Go Go.Fw
set_option maxRecDepth 20000
end Go.Proofs.YtcpjahmajkhchaaGreat.St

namespace Go.Proofs.YtcpjahmajkhchaaGreat.St
open Go.Proofs.YtcpjahmajkhchaaGreat
open Go Go.Fw
set_option maxRecDepth 20000
def dm (n:Int):Prop:=0≤n∧n≤4096
inductive Shp:ByteArray→List Int→Int→List (List Int)→List Int→Prop
  |iota (k:Int):dm k→Shp n_iota [k] 0 [] [k]
  |fill (k:Int):dm k→Shp n_fill [k] 0 [[]] [k]
  |take (k n:Int):dm k→dm n→k≤n→Shp n_take [k] 0 [[n]] [k]
  |drop (k n:Int):dm k→dm n→k≤n→Shp n_drop [k] 0 [[n]] [n - k]
  |reverse (n:Int):dm n→Shp n_reverse [] 0 [[n]] [n]
  |append (m n:Int):dm m→dm n→Shp n_append [] 0 [[m],[n]] [m+n]
  |transpose (m n:Int):dm m→dm n→Shp n_transpose [] 0 [[m,n]] [n,m]
  |diagonal (n:Int):dm n→Shp n_diagonal [] 0 [[n,n]] [n]
  |windows (k n:Int):dm k→dm n→k≤n→Shp n_windows [k] 0 [[n]] [n - k+1,k]
  |chunk (c q:Int):1≤c→c≤64→dm q→dm (q*c)→Shp n_chunk [] c [[q*c]] [q,c]
  |index (n:Int):dm n→Shp n_index [] 0 [[n],[]] []
  |update (n:Int):dm n→Shp n_update [] 0 [[n],[],[]] [n]
  |pack (m:Nat):1≤m→m≤4096→Shp n_pack [] 0 (List.replicate m []) [(m:Int)]
theorem w64_dm {n:Int} (h: -9000000000000≤n∧n≤9000000000000):w64 n=n:=wrap_i64 (by unfold inI64;omega)
theorem partS_ok {k n:Int} (h:partS k n=0):0≤k∧k≤n:=by
  unfold partS at h
  split at h
  ·cases h
  ·omega
theorem rk_pack:∀ {ds:List (List Int)},rkBad ds (List.replicate ds.length 0)=false→ds=List.replicate ds.length []
  |[],_=>rfl
  |a::ds,h=>by
   rw [List.length_cons,List.replicate_succ,rkBad] at h
   split at h
   ·cases h
   ·rename_i hne
    have ha:a=[]:=len0 (by simpa using hne)
    rw [List.length_cons,List.replicate_succ,←rk_pack h,ha]
set_option maxHeartbeats 1000000 in
theorem shp_of {op:ByteArray} {ns:List Int} {num:Int} {ds:List (List Int)} {d:List Int} (h:dimsI op ns num ds=(d,0)):
    Shp op ns num ds d∧(sizeS d).2=0∧szErr ds=0∧∃ e,givenS op ns.length num ds.length=(e,0):=by
  unfold dimsI at h
  generalize hG:givenS op ns.length num ds.length=r at h
  obtain ⟨e,er⟩:=r
  simp only at h
  by_cases h0:er=0
  ·subst h0
   rw [if_neg (by simp)] at h
   obtain ⟨-,hl,hw,hnum, -,hfs⟩:=given_ok hG
   by_cases hr:rkBad ds e.ranks=true
   ·rw [if_pos hr] at h;cases h
   rw [if_neg hr] at h
   by_cases hz:szErr ds=0
   ·rw [if_neg (by simpa using hz)] at h
    have hr:rkBad ds e.ranks=false:=by simpa using hr
    have hbd:=ofSz hz
    unfold dimsOf at h
    by_cases h3:(dimsS (e.dims.getD 0) (sizeK ns num) ds).2=0
    ·rw [if_neg (by simpa using h3)] at h
     by_cases h4:(sizeS (dimsS (e.dims.getD 0) (sizeK ns num) ds).1).2=0
     ·rw [if_neg (by simpa using h4)] at h
      injection h with hd _
      subst hd
      refine ⟨?_,h4,hz,e,rfl⟩
      have hb4:=(sizeS_ok (n:=(sizeS (dimsS (e.dims.getD 0) (sizeK ns num) ds).1).1) (Prod.ext rfl h4)).2.1
      clear h4 hG
      rcases op_cases op with rfl|rfl|rfl|rfl|rfl|rfl|rfl|rfl|rfl|rfl|rfl|rfl|rfl|hno
      ·obtain rfl:=giv_e hfs (show findS n_iota ds.length=(ents.getD 0 ent0,true) from rfl)
       simp only [ents,List.getD_cons_zero,List.getD_cons_succ,wantS,Option.getD_some,dimsS] at hl hw hr h3 hb4 ⊢
       obtain ⟨k,rfl⟩:=len1' (a:=ns) (by simpa using hw)
       obtain rfl:num=0:=by rcases hnum with h|h;exact h;cases h
       obtain rfl:=shape0 hl
       simp only [sizeK,reduceCtorEq,if_false,List.getD_cons_zero,List.getD_cons_succ] at h3 hb4 ⊢
       have hk:=hb4 k (by simp)
       exact .iota k hk
      ·obtain rfl:=giv_e hfs (show findS n_fill ds.length=(ents.getD 1 ent0,true) from rfl)
       simp only [ents,List.getD_cons_zero,List.getD_cons_succ,wantS,Option.getD_some,dimsS] at hl hw hr h3 hb4 ⊢
       obtain ⟨k,rfl⟩:=len1' (a:=ns) (by simpa using hw)
       obtain rfl:num=0:=by rcases hnum with h|h;exact h;cases h
       obtain ⟨a,rfl,ha⟩:=shape1 hl hr
       obtain rfl:=len0 ha
       simp only [sizeK,reduceCtorEq,if_false,List.getD_cons_zero,List.getD_cons_succ] at h3 hb4 ⊢
       have hk:=hb4 k (by simp)
       exact .fill k hk
      ·obtain rfl:=giv_e hfs (show findS n_take ds.length=(ents.getD 2 ent0,true) from rfl)
       simp only [ents,List.getD_cons_zero,List.getD_cons_succ,wantS,Option.getD_some,dimsS] at hl hw hr h3 hb4 ⊢
       obtain ⟨k,rfl⟩:=len1' (a:=ns) (by simpa using hw)
       obtain rfl:num=0:=by rcases hnum with h|h;exact h;cases h
       obtain ⟨a,rfl,ha⟩:=shape1 hl hr
       obtain ⟨n,rfl⟩:=len1' ha
       have hn:=hbd [n] (by simp) n (by simp)
       simp only [sizeK,reduceCtorEq,if_false,List.getD_cons_zero,List.getD_cons_succ] at h3 hb4 ⊢
       have hk:=hb4 k (by simp)
       have hp:=partS_ok h3
       exact .take k n hk hn hp.2
      ·obtain rfl:=giv_e hfs (show findS n_drop ds.length=(ents.getD 3 ent0,true) from rfl)
       simp only [ents,List.getD_cons_zero,List.getD_cons_succ,wantS,Option.getD_some,dimsS] at hl hw hr h3 hb4 ⊢
       obtain ⟨k,rfl⟩:=len1' (a:=ns) (by simpa using hw)
       obtain rfl:num=0:=by rcases hnum with h|h;exact h;cases h
       obtain ⟨a,rfl,ha⟩:=shape1 hl hr
       obtain ⟨n,rfl⟩:=len1' ha
       have hn:=hbd [n] (by simp) n (by simp)
       simp only [sizeK,reduceCtorEq,if_false,List.getD_cons_zero,List.getD_cons_succ] at h3 hb4 ⊢
       have hp:=partS_ok h3
       rw [w64_dm (by omega)]
       exact .drop k n ⟨hp.1,by omega⟩ hn hp.2
      ·obtain rfl:=giv_e hfs (show findS n_reverse ds.length=(ents.getD 4 ent0,true) from rfl)
       simp only [ents,List.getD_cons_zero,List.getD_cons_succ,wantS,Option.getD_some,dimsS] at hl hw hr h3 hb4 ⊢
       obtain rfl:=len0 (a:=ns) (by simpa using hw)
       obtain rfl:num=0:=by rcases hnum with h|h;exact h;cases h
       obtain ⟨a,rfl,ha⟩:=shape1 hl hr
       obtain ⟨n,rfl⟩:=len1' ha
       have hn:=hbd [n] (by simp) n (by simp)
       try simp only [sizeK,reduceIte,List.getD_cons_zero,List.getD_cons_succ] at h3 hb4 ⊢
       exact .reverse n hn
      ·obtain rfl:=giv_e hfs (show findS n_append ds.length=(ents.getD 5 ent0,true) from rfl)
       simp only [ents,List.getD_cons_zero,List.getD_cons_succ,wantS,Option.getD_some,dimsS] at hl hw hr h3 hb4 ⊢
       obtain rfl:=len0 (a:=ns) (by simpa using hw)
       obtain rfl:num=0:=by rcases hnum with h|h;exact h;cases h
       obtain ⟨a,b,rfl,ha,hb⟩:=shape2 hl hr
       obtain ⟨m,rfl⟩:=len1' ha
       obtain ⟨n,rfl⟩:=len1' hb
       have hm:=hbd [m] (by simp) m (by simp)
       have hn:=hbd [n] (by simp) n (by simp)
       try simp only [sizeK,reduceIte,List.getD_cons_zero,List.getD_cons_succ] at h3 hb4 ⊢
       exact .append m n hm hn
      ·obtain rfl:=giv_e hfs (show findS n_transpose ds.length=(ents.getD 6 ent0,true) from rfl)
       simp only [ents,List.getD_cons_zero,List.getD_cons_succ,wantS,Option.getD_some,dimsS] at hl hw hr h3 hb4 ⊢
       obtain rfl:=len0 (a:=ns) (by simpa using hw)
       obtain rfl:num=0:=by rcases hnum with h|h;exact h;cases h
       obtain ⟨a,rfl,ha⟩:=shape1 hl hr
       obtain ⟨m,n,rfl⟩:=len2' ha
       have hm:=hbd [m,n] (by simp) m (by simp)
       have hn:=hbd [m,n] (by simp) n (by simp)
       try simp only [sizeK,reduceIte,List.getD_cons_zero,List.getD_cons_succ] at h3 hb4 ⊢
       exact .transpose m n hm hn
      ·obtain rfl:=giv_e hfs (show findS n_diagonal ds.length=(ents.getD 7 ent0,true) from rfl)
       simp only [ents,List.getD_cons_zero,List.getD_cons_succ,wantS,Option.getD_some,dimsS] at hl hw hr h3 hb4 ⊢
       obtain rfl:=len0 (a:=ns) (by simpa using hw)
       obtain rfl:num=0:=by rcases hnum with h|h;exact h;cases h
       obtain ⟨a,rfl,ha⟩:=shape1 hl hr
       obtain ⟨m,n,rfl⟩:=len2' ha
       have hm:=hbd [m,n] (by simp) m (by simp)
       have hn:=hbd [m,n] (by simp) n (by simp)
       try simp only [sizeK,reduceIte,List.getD_cons_zero,List.getD_cons_succ] at h3 hb4 ⊢
       by_cases he:m=n
       ·subst he
        rw [if_neg (by simp)]
        exact .diagonal m hm
       ·rw [if_pos he] at h3;cases h3
      ·obtain rfl:=giv_e hfs (show findS n_windows ds.length=(ents.getD 8 ent0,true) from rfl)
       simp only [ents,List.getD_cons_zero,List.getD_cons_succ,wantS,Option.getD_some,dimsS] at hl hw hr h3 hb4 ⊢
       obtain ⟨k,rfl⟩:=len1' (a:=ns) (by simpa using hw)
       obtain rfl:num=0:=by rcases hnum with h|h;exact h;cases h
       obtain ⟨a,rfl,ha⟩:=shape1 hl hr
       obtain ⟨n,rfl⟩:=len1' ha
       have hn:=hbd [n] (by simp) n (by simp)
       simp only [sizeK,reduceCtorEq,if_false,List.getD_cons_zero,List.getD_cons_succ] at h3 hb4 ⊢
       have hp:=partS_ok h3
       rw [w64_dm (n:=n - k) (by omega),w64_dm (by omega)]
       exact .windows k n ⟨hp.1,by omega⟩ hn hp.2
      ·obtain rfl:=giv_e hfs (show findS n_chunk ds.length=(ents.getD 9 ent0,true) from rfl)
       simp only [ents,List.getD_cons_zero,List.getD_cons_succ,wantS,Option.getD_some,dimsS] at hl hw hr h3 hb4 ⊢
       obtain rfl:=len0 (a:=ns) (by simpa using hw)
       obtain ⟨a,rfl,ha⟩:=shape1 hl hr
       obtain ⟨n,rfl⟩:=len1' ha
       have hn:=hbd [n] (by simp) n (by simp)
       try simp only [sizeK,reduceIte,List.getD_cons_zero,List.getD_cons_succ] at h3 hb4 ⊢
       by_cases hc:num<1∨num>64
       ·rw [if_pos hc] at h3;cases h3
       by_cases hm:n.tmod num=0
       ·rw [if_neg hc,if_neg (by simpa using hm)] at hb4 ⊢
        have hq:=hb4 (n.tdiv num) (by simp)
        have e:n=n.tdiv num*num:=by have:=Int.tmod_add_mul_tdiv n num;rw [hm,Int.mul_comm] at this;omega
        generalize n.tdiv num=q at hq e
        subst e
        exact .chunk num q (by omega) (by omega) hq hn
       ·rw [if_neg hc,if_pos (by simpa using hm)] at h3;cases h3
      ·obtain rfl:=giv_e hfs (show findS n_index ds.length=(ents.getD 10 ent0,true) from rfl)
       simp only [ents,List.getD_cons_zero,List.getD_cons_succ,wantS,Option.getD_some,dimsS] at hl hw hr h3 hb4 ⊢
       obtain rfl:=len0 (a:=ns) (by simpa using hw)
       obtain rfl:num=0:=by rcases hnum with h|h;exact h;cases h
       obtain ⟨a,b,rfl,ha,hb⟩:=shape2 hl hr
       obtain ⟨n,rfl⟩:=len1' ha
       obtain rfl:=len0 hb
       have hn:=hbd [n] (by simp) n (by simp)
       try simp only [sizeK,reduceIte,List.getD_cons_zero,List.getD_cons_succ] at h3 hb4 ⊢
       exact .index n hn
      ·obtain rfl:=giv_e hfs (show findS n_update ds.length=(ents.getD 11 ent0,true) from rfl)
       simp only [ents,List.getD_cons_zero,List.getD_cons_succ,wantS,Option.getD_some,dimsS] at hl hw hr h3 hb4 ⊢
       obtain rfl:=len0 (a:=ns) (by simpa using hw)
       obtain rfl:num=0:=by rcases hnum with h|h;exact h;cases h
       obtain ⟨a,b,c,rfl,ha,hb,hc⟩:=shape3 hl hr
       obtain ⟨n,rfl⟩:=len1' ha
       obtain rfl:=len0 hb
       obtain rfl:=len0 hc
       have hn:=hbd [n] (by simp) n (by simp)
       try simp only [sizeK,reduceIte,List.getD_cons_zero,List.getD_cons_succ] at h3 hb4 ⊢
       exact .update n hn
      ·obtain rfl:=giv_e hfs (show findS n_pack ds.length=(packE ds.length,true) from rfl)
       simp only [ents,List.getD_cons_zero,List.getD_cons_succ,wantS,Option.getD_some,dimsS,packE] at hl hw hr h3 hb4 ⊢
       obtain rfl:=len0 (a:=ns) (by simpa using hw)
       obtain rfl:num=0:=by rcases hnum with h|h;exact h;cases h
       have hlen:=hb4 (ds.length:Int) (by simp)
       have e:(maxI (ds.length:Int) 1).toNat=ds.length:=by simp only [List.length_replicate] at hl;omega
       rw [e] at hr
       have hds:=rk_pack hr
       have h1:1≤ds.length:=by unfold maxI at e;split at e<;>omega
       rw [hds]
       simp only [List.length_replicate]
       exact .pack _ h1 (by omega)
      ·exfalso
       have e2:=find_no (n:=ds.length) hno
       rw [hfs] at e2
       cases e2
     ·rw [if_pos (by simpa using h4)] at h;injection h with _ h2;exact absurd h2 h4
    ·rw [if_pos (by simpa using h3)] at h;injection h with _ h2;exact absurd h2 h3
   ·rw [if_pos (by simpa using hz)] at h;injection h with _ h2;exact absurd h2 hz
  ·rw [if_pos h0] at h;injection h with _ h2;exact absurd h2 h0
end Go.Proofs.YtcpjahmajkhchaaGreat.St

namespace Go.Proofs.YtcpjahmajkhchaaGreat.St
open Go.Proofs.YtcpjahmajkhchaaGreat
open Go Go.Fw
def digR:List Int→Int→List Int
  |[],_=>[]
  |d::t,o=>o.tmod d::digR t (o.tdiv d)
def idxS (d:List Int) (o:Int):List Int×Int:=if (sizeS d).2≠0 then ([],(sizeS d).2) else if o<0∨o≥(sizeS d).1 then ([],2) else ((digR d.reverse o).reverse,0)
def ixV (p:List Int×Int):AV:= .tup [.sl false 1 (ints .i64 p.1),.lit (.int .i64 p.2)]
theorem ixV_def {p:List Int×Int}:ixV p= .tup [.sl false 1 (ints .i64 p.1),.lit (.int .i64 p.2)]:=rfl
theorem ixE_le {e:Int}:LeA (.tup [.lit (.slice none 0 0),.lit (.int .i64 e)]) (ixV ([],e)):=LeA.tup ⟨LeA.nil _ _,LeA.refl _,trivial⟩
theorem digR_len:∀ (l:List Int) (o:Int),(digR l o).length=l.length
  |[],_=>rfl
  |d::t,o=>by simp [digR,digR_len t]
theorem ints_set' (l:List Int) (i:Nat) (v:Int):(ints .i64 l).set i (.lit (.int .i64 v))=ints .i64 (l.set i v):=by simp [ints,List.map_set]
theorem set_rep (m:Nat) (T:List Int) (v:Int):(List.replicate (m+1) 0++T).set m v=List.replicate m 0++v::T:=by
  rw [List.replicate_succ',List.append_assoc,List.set_append_right _ _ (by simp)]
  simp
theorem getD_mem {α:Type} {l:List α} {i:Nat} (z:α) (h:i<l.length):l.getD i z∈l:=by
  rw [List.getD_eq_getElem?_getD,List.getElem?_eq_getElem h];exact List.getElem_mem _
theorem tdm {o d:Int} (ho:0≤o) (hd:1≤d):0≤o.tdiv d∧o.tdiv d≤o∧0≤o.tmod d∧o.tmod d<d:=by
  rw [Int.tdiv_eq_ediv_of_nonneg ho,Int.tmod_eq_emod_of_nonneg ho]
  exact ⟨Int.ediv_nonneg ho (by omega),Int.ediv_le_self _ ho,Int.emod_nonneg _ (by omega),Int.emod_lt_of_pos _ (by omega)⟩
theorem dims_pos {d:List Int} {n o:Int} (hS:sizeS d=(n,0)) (ho:0≤o) (hn:o<n):∀ x∈d,1≤x:=by
  obtain ⟨_,h2,h3,_⟩:=sizeS_ok hS
  exact not_any_zero h2 fun h=>by rw [h3,prI_zero h] at hn;omega
structure Li (d:List Int) (G:List Int) where
  i:Nat
  o:Int
  T:List Int
  hi:i≤d.length
  ho:0≤o∧o≤4096
  hT:T.length=i
  hF:(digR (d.reverse.drop i) o).reverse++T=G
noncomputable def E42:Env:=envOf (P:=Tryz.prog) zer (fun _=>false) (fun _=>false) [con69] []
theorem E42_ok:EnvOk Tryz.prog E42:=envOk zer_ok
set_option maxRecDepth 20000 in
set_option maxHeartbeats 4000000 in
theorem idx_pc {d:List Int} {o:Int} (hl:d.length≤1000000):PC Tryz.prog 110 [.sl false 1 (ints .i64 d),.lit (.int .i64 o)] (ixV (idxS d o)):=by
  unfold idxS
  generalize hS:sizeS d=s
  obtain ⟨n,er⟩:=s
  simp only
  by_cases e0:er=0
  ·subst e0
   rw [if_neg (by simp)]
   by_cases o1:o<0
   ·have o1':decide (o<0)=true:=decide_eq_true o1
    rw [if_pos (.inl o1)]
    refine pcO E42_ok (fun _=>[0,1,4,5,6,7,8,9,10,17,25,30,31,32]) Tryz.func110 (h:=fun KF=>?_)
    unfold E42
    repeat' (first
     |(with_reducible first|refine nx ?_|refine t_seq fun K=>?_|refine t_br (fun hc=>?_) fun hc=>?_|refine t_bx ?_|apply And.intro|intro vr)
     |((with_reducible first|refine ny ?_|refine t_dwh (h:=fun K KL=>?_));intros;simp only [go_sem,geff,con69_f,con69_c,slK_sl,hS,szV_def,o1']))
    all_goals try exact om
    refine end_ret rfl ?_
    simp only [fin,go_sem]
    exact ixE_le
   ·have o1':decide (o<0)=false:=decide_eq_false o1
    by_cases o2:o≥n
    ·have o2':decide (o≥n)=true:=decide_eq_true o2
     rw [if_pos (.inr o2)]
     refine pcO E42_ok (fun _=>[0,1,4,5,6,7,8,9,10,17,25,30,31,32]) Tryz.func110 (h:=fun KF=>?_)
     unfold E42
     repeat' (first
      |(with_reducible first|refine nx ?_|refine t_seq fun K=>?_|refine t_br (fun hc=>?_) fun hc=>?_|refine t_bx ?_|apply And.intro|intro vr)
      |((with_reducible first|refine ny ?_|refine t_dwh (h:=fun K KL=>?_));intros;simp only [go_sem,geff,con69_f,con69_c,slK_sl,hS,szV_def,o1',o2']))
     all_goals try exact om
     refine end_ret rfl ?_
     simp only [fin,go_sem]
     exact ixE_le
    ·have o2':decide (o≥n)=false:=decide_eq_false o2
     rw [if_neg (by omega)]
     have hn:=(sizeS_ok hS).2.2.2
     have hp:=dims_pos hS (by omega) (show o<n by omega)
     generalize hG:(digR d.reverse o).reverse=G
     refine pcO E42_ok (fun _=>[0,1,4,5,6,7,8,9,10,17,25,30,31,32]) Tryz.func110 (h:=fun KF=>?_)
     unfold E42
     repeat' (first
      |(with_reducible first|refine nx ?_|refine t_seq fun K=>?_|refine t_br (fun hc=>?_) fun hc=>?_|refine t_bx ?_|apply And.intro|intro vr)
      |((with_reducible first|refine ny ?_|refine t_dwh (h:=fun K KL=>?_));intros;simp only [go_sem,geff,con69_f,con69_c,slK_sl,hS,szV_def,o1',o2',rep_ints,Int.toNat_natCast]))
     all_goals try exact om
     refine t_loop (ι:=Li d G) (fun i=>⟨upd (upd (upd (upd (upd topF 8 (.arr 0 0)) 1 (.lit (.int .i64 i.o))) 0 (.sl false 1 (ints .i64 d))) 31 (.lit (.int .i64 i.i))) 30 (.lit (.int .i64 d.length)),[.arr 3 1 (ints .i64 (List.replicate (d.length - i.i) 0++i.T)) 0 false]⟩) (fun i=>d.length - i.i) ⟨0,o,[],by omega,by omega,rfl,by simpa using hG⟩ ?_ ?_
     ·skip
      (refine Le.frameS ?gs1 ?_;rotate_left;repeat' (first|exact leF_top _|(with_reducible refine leF_sl ?_ ?_)|(refine leF_upd (LeR.of_eq ?_) ?_)))<;>(try (simp only [go_sem];try rfl))
      all_goals (first|omega|simp)
     ·rintro ⟨i,v,T,hi,hv,hT,hF⟩ K0
      rcases Nat.lt_or_ge i d.length with hc|hc
      ·have g1:decide ((i:Int)<(d.length:Int))=true:=decide_eq_true (by omega)
       have hi1:((d.length:Int) - 1 - (i:Int)).toNat=d.length - 1 - i:=by omega
       have g2:=ints_getD .i64 d (d.length - 1 - i) (by omega)
       have hq:=hp _ (getD_mem 0 (show d.length - 1 - i<d.length by omega))
       have hrv:d.reverse.drop i=d.getD (d.length - 1 - i) 0::d.reverse.drop (i+1):=by
         rw [List.drop_eq_getElem_cons (by simpa using hc),List.getElem_reverse,List.getD_eq_getElem?_getD,List.getElem?_eq_getElem (by omega)]
         rfl
       rw [hrv,digR,List.reverse_cons,List.append_assoc] at hF
       generalize d.getD (d.length - 1 - i) 0=q at g2 hq hF
       have z1:(q==0)=false:=by rw [beq_eq_false_iff_ne];omega
       have ht:=tdm hv.1 hq
       have hst:(List.replicate (d.length - i) 0++T).set (d.length - 1 - i) (v.tmod q)=List.replicate (d.length - (i+1)) 0++v.tmod q::T:=by
         have:=set_rep (d.length - 1 - i) T (v.tmod q)
         rwa [show d.length - 1 - i+1=d.length - i by omega,show List.replicate (d.length - 1 - i) (0:Int)=List.replicate (d.length - (i+1)) 0 by congr 1;omega] at this
       have hln:(List.replicate (d.length - i) (0:Int)++T).length=d.length:=by simp [hT];omega
       repeat' (first
        |(with_reducible first|refine nx ?_|refine t_seq fun K=>?_|refine t_br (fun hc=>?_) fun hc=>?_|refine t_bx ?_|apply And.intro|intro vr)
        |((with_reducible first|refine ny ?_|refine t_dwh (h:=fun K KL=>?_));intros;simp only [go_sem,geff,con69_f,g1,hi1,g2,z1,ints_set',hst,hln,ints_length,Int.toNat_natCast]))
       all_goals try exact om
       refine ⟨⟨i+1,v.tdiv q,v.tmod q::T,by omega,by omega,by simp [hT],hF⟩,by simp only;omega,?_⟩
       (refine Le.frame ?_;repeat' (first|exact leF_top _|(with_reducible refine leF_sl ?_ ?_)|(refine leF_upd (LeR.of_eq ?_) ?_)))<;>(try (simp only [go_sem];try rfl))
      ·have g1:decide ((i:Int)<(d.length:Int))=false:=decide_eq_false (by omega)
       have:i=d.length:=by omega
       subst this
       rw [List.drop_eq_nil_of_le (by simp),digR] at hF
       simp only [List.reverse_nil,List.nil_append] at hF
       subst hF
       repeat' (first
        |(with_reducible first|refine nx ?_|refine t_seq fun K=>?_|refine t_br (fun hc=>?_) fun hc=>?_|refine t_bx ?_|apply And.intro|intro vr)
        |((with_reducible first|refine ny ?_|refine t_dwh (h:=fun K KL=>?_));intros;simp only [go_sem,geff,con69_f,g1,Nat.sub_self,List.replicate_zero]))
       refine end_ret rfl ?_
       simp only [fin,go_sem]
       exact LeA.refl _
  ·have e1:(er !=0)=true:=bne_iff_ne.2 e0
   rw [if_pos e0]
   refine pcO E42_ok (fun _=>[0,1,4,5,6,7,8,9,10,17,25,30,31,32]) Tryz.func110 (h:=fun KF=>?_)
   unfold E42
   repeat' (first
    |(with_reducible first|refine nx ?_|refine t_seq fun K=>?_|refine t_br (fun hc=>?_) fun hc=>?_|refine t_bx ?_|apply And.intro|intro vr)
    |((with_reducible first|refine ny ?_|refine t_dwh (h:=fun K KL=>?_));intros;simp only [go_sem,geff,con69_f,con69_c,slK_sl,hS,szV_def,e1]))
   all_goals try exact om
   refine end_ret rfl ?_
   simp only [fin,go_sem]
   exact ixE_le
noncomputable def con110:PCon Tryz.prog where
  f:=110
  c:=fun
   |[xd,.lit (.int .i64 o)]=>match slK .i64 xd with|some d=>some (d.length≤1000000,ixV (idxS d o))|_=>none
   |_=>none
  ok:=by
   intro args p r hc hp
   split at hc
   ·split at hc
    ·rename_i hd
     cases hc
     exact PC.weak ((fun hp:_=>idx_pc hp) hp) ⟨slK_le hd,LeA.refl _,trivial⟩
    ·cases hc
   ·cases hc
  fk:=fk110
theorem con110_f:con110.f=110:=rfl
theorem con110_c {xd:AV} {o:Int}:con110.c [xd,.lit (.int .i64 o)]=match slK .i64 xd with|some d=>some (d.length≤1000000,ixV (idxS d o))|_=>none:=rfl
end Go.Proofs.YtcpjahmajkhchaaGreat.St

namespace Go.Proofs.YtcpjahmajkhchaaGreat.St
open Go.Proofs.YtcpjahmajkhchaaGreat
open Go Go.Fw
def digF:List Int→Int→List Int
  |[],_=>[]
  |_::t,o=>o / prI t::digF t (o % prI t)
theorem prI_rev:∀ l:List Int,prI l.reverse=prI l
  |[]=>rfl
  |d::t=>by rw [List.reverse_cons,prI_app,prI_rev t,prI,prI,prI,Int.mul_one,Int.mul_comm]
theorem digR_app:∀ (l:List Int) (d o:Int),(∀ x∈l,1≤x)→0≤o→digR (l++[d]) o=digR l o++[(o / prI l).tmod d]
  |[],d,o,_,h=>by simp [digR,prI]
  |x::l,d,o,hl,h=>by
   have hx:=hl x (by simp)
   have h1:o.tdiv x=o / x:=Int.tdiv_eq_ediv_of_nonneg h
   have h2:0≤o / x:=Int.ediv_nonneg h (by omega)
   rw [List.cons_append,digR,digR,List.cons_append,h1,digR_app l d _ (fun y hy=>hl y (by simp [hy])) h2,prI,Int.ediv_ediv_of_nonneg (by omega)]
theorem digR_mod:∀ (l:List Int) (o:Int),(∀ x∈l,1≤x)→0≤o→digR l (o % prI l)=digR l o
  |[],_,_,_=>rfl
  |x::l,o,hl,h=>by
   have hx:=hl x (by simp)
   have ht:∀ y∈l,1≤y:=fun y hy=>hl y (by simp [hy])
   have hp:=prI_pos ht
   have h0:0≤o % (x*prI l):=Int.emod_nonneg _ (by have:=Int.mul_pos (show 0<x by omega) (show 0<prI l by omega);omega)
   rw [prI,digR,digR,Int.tmod_eq_emod_of_nonneg h0,Int.tmod_eq_emod_of_nonneg h,Int.tdiv_eq_ediv_of_nonneg h0,Int.tdiv_eq_ediv_of_nonneg h,Int.emod_emod_of_dvd o ⟨prI l,rfl⟩]
   have e:o % (x*prI l) / x=(o / x) % prI l:=by
     have h1:=Int.emod_add_mul_ediv o (x*prI l)
     have h2:=Int.emod_add_mul_ediv (o / x) (prI l)
     rw [Int.ediv_ediv_of_nonneg (by omega)] at h2
     have h3:o=o % (x*prI l)+x*(prI l*(o / (x*prI l))):=by rw [←Int.mul_assoc];omega
     have h4:o / x=o % (x*prI l) / x+prI l*(o / (x*prI l)):=by
       conv=>lhs;rw [h3]
       rw [Int.add_mul_ediv_left _ _ (by omega)]
     omega
   rw [e,digR_mod l _ ht (Int.ediv_nonneg h (by omega))]
theorem dig_eq:∀ (d:List Int) (o:Int),(∀ x∈d,1≤x)→0≤o→o<prI d→(digR d.reverse o).reverse=digF d o
  |[],_,_,_,_=>rfl
  |d::t,o,hl,h,hb=>by
   have hd:=hl d (by simp)
   have ht:∀ y∈t,1≤y:=fun y hy=>hl y (by simp [hy])
   have hr:∀ y∈t.reverse,1≤y:=fun y hy=>ht y (List.mem_reverse.1 hy)
   have hp:=prI_pos ht
   have h1:0≤o / prI t:=Int.ediv_nonneg h (by omega)
   have h2:o / prI t<d:=Int.ediv_lt_of_lt_mul (by omega) hb
   rw [List.reverse_cons,digR_app _ _ _ hr h,List.reverse_append,prI_rev]
   have e:digR t.reverse o=digR t.reverse (o % prI t):=by
     have:=digR_mod t.reverse o hr h
     rw [prI_rev] at this;exact this.symm
   rw [e,digF,List.reverse_cons,List.reverse_nil,List.nil_append,List.singleton_append,Int.tmod_eq_emod_of_nonneg h1,Int.emod_eq_of_lt h1 h2,
    dig_eq t _ ht (Int.emod_nonneg _ (by omega)) (Int.emod_lt_of_pos _ (by omega))]
theorem digF_len:∀ (d:List Int) (o:Int),(digF d o).length=d.length
  |[],_=>rfl
  |_::t,o=>by simp [digF,digF_len t]
theorem atS_dig:∀ (d:List Int) (o k:Int),(∀ x∈d,1≤x)→0≤o→o<prI d→atS d (digF d o) k=some (k*prI d+o)
  |[],o,k,_,h,hb=>by simp only [prI] at hb;simp only [digF,atS,prI];congr 1;omega
  |d::t,o,k,hl,h,hb=>by
   have hd:=hl d (by simp)
   have ht:∀ y∈t,1≤y:=fun y hy=>hl y (by simp [hy])
   have hp:=prI_pos ht
   have h1:0≤o / prI t:=Int.ediv_nonneg h (by omega)
   have h2:o / prI t<d:=Int.ediv_lt_of_lt_mul (by omega) hb
   rw [digF,atS,if_neg (by omega),atS_dig t _ _ ht (Int.emod_nonneg _ (by omega)) (Int.emod_lt_of_pos _ (by omega))]
   congr 1
   have e:=Int.emod_add_mul_ediv o (prI t)
   rw [Int.add_mul,prI,←Int.mul_assoc,Int.mul_comm (o / prI t)]
   omega
theorem idx_ok {d:List Int} {n p:Int} (hS:sizeS d=(n,0)) (h:0≤p) (hb:p<n):idxS d p=(digF d p,0)∧(∀ x∈d,1≤x)∧n=prI d:=by
  have hn:=(sizeS_ok hS).2.2.1
  have hp:=dims_pos hS h hb
  refine ⟨?_,hp,hn⟩
  unfold idxS
  rw [hS]
  simp only
  rw [if_neg (by simp),if_neg (by omega),dig_eq d p hp h (by omega)]
end Go.Proofs.YtcpjahmajkhchaaGreat.St

namespace Go.Proofs.YtcpjahmajkhchaaGreat.St
open Go.Proofs.YtcpjahmajkhchaaGreat
open Go Go.Fw
set_option maxRecDepth 20000
set_option maxRecDepth 20000
theorem cloneI_ec {σ:List AObj} {l:List Int} {k:AV→List AObj→Prop} (hl:l.length≤1000000) (hk:k (.arr σ.length 0) (σ++[.arr 3 1 (ints .i64 l) 0 false])):EC Tryz.prog 71 [.sl false 1 (ints .i64 l)] σ k:=by
  refine EC.nilArr 3 1 ?_
  refine ecR F1_ok (kp71) Tryz.func71 [.tmp 2] (h:=fun KF=>?_)
  unfold F1
  repeat' (first
   |(with_reducible first|refine nx ?_|refine t_seq fun K=>?_|refine t_br (fun hc=>?_) fun hc=>?_|refine t_bx ?_|apply And.intro|intro vr)
   |((with_reducible first|refine ny ?_|refine t_dwh (h:=fun K KL=>?_));intros;simp only [go_sem,kp71,geff]))
  all_goals try exact nd
  all_goals (refine nl ?_;simp only [go_sem])
  ·exact .inr (by simp_all [ints])
  ·exact .inl hk
noncomputable def ecn71:ECon Tryz.prog where
  f:=71
  c:=fun args σ k=>match args with
   |[xl]=>match slK .i64 xl with|some l=>l.length≤1000000∧k (.arr σ.length 0) (σ++[.arr 3 1 (ints .i64 l) 0 false])|_=>False
   |_=>False
  ok:=by
   intro args σ k h
   split at h
   ·split at h
    ·rename_i hl
     exact EC.weak (cloneI_ec h.1 h.2) (LeRL.cons (slK_leR hl) (LeRL.nil))
    ·exact h.elim
   ·exact h.elim
  fk:=fk71
theorem ecn71_f:ecn71.f=71:=rfl
theorem ecn71_c {xl:AV} {σ:List AObj} {k:AV→List AObj→Prop}:ecn71.c [xl] σ k=match slK .i64 xl with|some l=>l.length≤1000000∧k (.arr σ.length 0) (σ++[.arr 3 1 (ints .i64 l) 0 false])|_=>False:=rfl
def ibV (r:List Int×Bool):AV:= .tup [.sl false 1 (ints .i64 r.1),.lit (.bool r.2)]
theorem ib_of {x:AV} {n:Bool} {l:List Int} {r:List Int×Bool} (h:slK .i64 x=some l) (e:r=(l,n)):LeA (.tup [x,.lit (.bool n)]) (ibV r):=by
  subst e;exact LeA.tup ⟨slK_le h,LeA.refl _,trivial⟩
theorem ibV_def {r:List Int×Bool}:ibV r= .tup [.sl false 1 (ints .i64 r.1),.lit (.bool r.2)]:=rfl
def outS (a b:Arr):Bool:=decide (b.x.getD 0 0<0)||decide (b.x.getD 0 0≥(a.x.length:Int))
def checkedS (op:ByteArray) (cs:List Arr):List Int×Bool:=
  let a:=cs.getD 0 nilA
  let b:=cs.getD 1 nilA
  if (eqS op n_index&&outS a b)=true then ([0],true)
  else if eqS op n_index=true then ([a.x.getD (b.x.getD 0 0).toNat 0],false)
  else if outS a b=true then (a.x,true)
  else (a.x.set (b.x.getD 0 0).toNat ((cs.getD 2 nilA).x.getD 0 0),false)
theorem arrV_def' {a:Arr}:arrV a= .agg [.lit (.string a.e),.sl false 1 (ints .i64 a.d),.sl false 1 (ints .i64 a.x)]:=rfl
noncomputable def I1:Env:=envJ (P:=Tryz.prog) jk2 zer (fun _=>false) (fun _=>false) [] [ecn71]
theorem I1_ok:EnvOk Tryz.prog I1:=envJOk zer_ok
set_option maxHeartbeats 4000000 in
theorem checked_pc {op:ByteArray} {cs:List Arr} (h2:2≤cs.length) (h3:eqS op n_index=false→3≤cs.length∧0<(cs.getD 2 nilA).x.length) (hb:0<(cs.getD 1 nilA).x.length) (ha:(cs.getD 0 nilA).x.length≤1000000):
    PC Tryz.prog 122 [.lit (.string op),.sl false 3 (arrs cs)] (ibV (checkedS op cs)):=by
  generalize hR:checkedS op cs=R
  unfold checkedS at hR
  simp only [show outS (cs.getD 0 nilA) (cs.getD 1 nilA)=(decide ((cs.getD 1 nilA).x.getD 0 0<0)||decide ((cs.getD 1 nilA).x.getD 0 0≥((cs.getD 0 nilA).x.length:Int))) from rfl] at hR
  cases hi:eqS op n_index with
  |true=>
   have hi':eqS op ⟨#[105,110,100,101,120]⟩=true:=hi
   refine pcR I1_ok (kp122) Tryz.func122 [.tmp 4,.tmp 5] (h:=fun KF=>?_)
   unfold I1
   repeat' (first
    |(with_reducible first|refine nx ?_|refine t_seq fun K=>?_|refine t_br (fun hc=>?_) fun hc=>?_|refine t_bx ?_|apply And.intro|intro vr)
    |((with_reducible first|refine ny ?_|refine t_dwh (h:=fun K KL=>?_));intros;simp only [go_sem,kp122,geff,ecn71_f,ecn71_c,arrs_length,arrV_def',slK_sl,hi']))
   all_goals try exact nd
   all_goals (refine nl ?_;simp only [go_sem])
   ·rw [hi,if_pos (by rw [hc];rfl)] at hR
    exact ib_of (by first|exact slK_sl|rfl) hR.symm
   ·rw [hi,if_neg (by rw [hc];decide),if_pos rfl] at hR
    exact ib_of (by first|exact slK_sl|rfl) hR.symm
  |false=>
   have hi':eqS op ⟨#[105,110,100,101,120]⟩=false:=hi
   obtain ⟨h3,hc⟩:=h3 hi
   refine pcR I1_ok (kp122) Tryz.func122 [.tmp 4,.tmp 5] (h:=fun KF=>?_)
   unfold I1
   repeat' (first
    |(with_reducible first|refine nx ?_|refine t_seq fun K=>?_|refine t_br (fun hc=>?_) fun hc=>?_|refine t_bx ?_|apply And.intro|intro vr)
    |((with_reducible first|refine ny ?_|refine t_dwh (h:=fun K KL=>?_));intros;simp only [go_sem,kp122,geff,ecn71_f,ecn71_c,arrs_length,arrV_def',slK_sl,hi']))
   all_goals try exact nd
   all_goals (refine nl ?_;simp only [go_sem])
   ·rw [hi,if_neg (by simp),if_neg (by simp),if_pos hc] at hR
    exact ib_of (by first|exact slK_sl|rfl) hR.symm
   ·rw [hi,if_neg (by simp),if_neg (by simp),if_neg (by rw [hc];decide)] at hR
    exact ib_of (by first|exact slK_sl|rfl) hR.symm
end Go.Proofs.YtcpjahmajkhchaaGreat.St

namespace Go.Proofs.YtcpjahmajkhchaaGreat.St
open Go.Proofs.YtcpjahmajkhchaaGreat
open Go Go.Fw
set_option maxRecDepth 20000
set_option maxRecDepth 20000
def isF (g:Nat):Bool:=[135,138,140,142,145,147,149,151].contains g
def famF (f:FuncId) (args:List AV):VR:=if isF f=true then (match args with
  |[.lit (.int .i64 k),x,y]=>match slK .i64 x,slK .i64 y with
   |some d,some ix=>some (fromP f d ix∧liBd d∧liBd ix∧0≤k∧k≤4096,.lit (.int .i64 (fromS f k d ix)))
   |_,_=>none
  |_=>none) else none
theorem famF_c {g:Nat} {k:Int} {x y:AV} (h:isF g=true):famF g [.lit (.int .i64 k),x,y]=match slK .i64 x,slK .i64 y with
    |some d,some ix=>some (fromP g d ix∧liBd d∧liBd ix∧0≤k∧k≤4096,.lit (.int .i64 (fromS g k d ix)))
    |_,_=>none:=by unfold famF;rw [if_pos h]
theorem famF_ok:∀ f args p r,famF f args=some (p,r)→p→fok Tryz.prog f=true∧PC Tryz.prog f args r:=by
  intro f args p r h hp
  unfold famF at h
  split at h
  ·rename_i hf
   have hf':f∈[135,138,140,142,145,147,149,151]:=by simpa [isF] using hf
   split at h
   ·split at h
    ·rename_i hx hy
     cases h
     refine ⟨?_,PC.weak (from_pc hf' hp.1 hp.2.1 hp.2.2.1 hp.2.2.2) ⟨LeA.refl _,slK_le hx,slK_le hy,trivial⟩⟩
     simp only [List.mem_cons,List.not_mem_nil,or_false] at hf'
     rcases hf' with rfl|rfl|rfl|rfl|rfl|rfl|rfl|rfl
     ·exact fk135
     ·exact fk138
     ·exact fk140
     ·exact fk142
     ·exact fk145
     ·exact fk147
     ·exact fk149
     ·exact fk151
    ·cases h
   ·cases h
  ·cases h
noncomputable def J1:Env:=envM (P:=Tryz.prog) famF jk2 zer (fun _=>false) (fun _=>false) [] []
theorem J1_ok:EnvOk Tryz.prog J1:=envMOk zer_ok fun f a p r h hp=> .inl (famF_ok f a p r h hp)
set_option maxHeartbeats 4000000 in
theorem element_ec {σ:List AObj} {ix:List Int} {s e:ByteArray} {b:Bool} {rk d x:List Int} {y:AV} {g:Nat} {kk:Int} {oa ox ok:Nat} {k:AV→List AObj→Prop} (hg:isF g=true)
    (ha:σ[oa]? =some (.box 31 [.lit (.string e),.sl false 1 (ints .i64 d),.sl false 1 (ints .i64 x)])) (hx:σ[ox]? =some (.box 143 [.lit (.string s),.lit (.bool b),.sl false 1 (ints .i64 rk),y,.fn (.func g) [] []])) (hk:σ[ok]? =some (.box 3 [.lit (.int .i64 kk)]))
    (hp:fromP g d ix) (hd:liBd d) (hi:liBd ix) (hkk:0≤kk∧kk≤4096) (h0:0≤fromS g kk d ix) (h1:fromS g kk d ix<x.length)
    (hq:k (.lit (.int .i64 (x.getD (fromS g kk d ix).toNat 0))) σ):EC Tryz.prog 133 [.sl false 1 (ints .i64 ix),.ref oa 0,.ref ox 0,.ref ok 0] σ k:=by
  refine ecR J1_ok (kp133) Tryz.func133 [.tmp 5] (h:=fun KF=>?_)
  unfold J1
  repeat' (first
   |(with_reducible first|refine nx ?_|refine t_seq fun K=>?_|refine t_br (fun hc=>?_) fun hc=>?_|refine t_bx ?_|apply And.intro|intro vr)
   |((with_reducible first|refine ny ?_|refine t_dwh (h:=fun K KL=>?_));intros;simp only [go_sem,kp133,geff,ha,hx,hk,famF_c hg,slK_sl]))
  all_goals try exact hp
  all_goals try exact hd
  all_goals try exact hi
  all_goals try exact nd
  all_goals (refine nl ?_;simp only [go_sem])
  exact hq
noncomputable def ecn133:ECon Tryz.prog where
  f:=133
  c:=fun args σ k=>match args with
   |[x',.ref oa 0,.ref ox 0,.ref ok 0]=>match slK .i64 x',σ[oa]?,σ[ox]?,σ[ok]? with
    |some ix,some (.box 31 [.lit (.string _),.sl false 1 d',.sl false 1 y']),some (.box 143 [.lit (.string _),.lit (.bool _),.sl false 1 rk',_,.fn (.func g) [] []]),some (.box 3 [.lit (.int .i64 kk)])=>
     withK .i64 d' fun d=>withK .i64 y' fun x=>withK .i64 rk' fun _=>isF g=true∧fromP g d ix∧liBd d∧liBd ix∧(0≤kk∧kk≤4096)∧0≤fromS g kk d ix∧fromS g kk d ix<x.length∧k (.lit (.int .i64 (x.getD (fromS g kk d ix).toNat 0))) σ
    |_,_,_,_=>False
   |_=>False
  ok:=by
   intro args σ k h
   split at h
   ·split at h
    ·rename_i hx ha hxx hk
     obtain ⟨d,hd,h1⟩:=withK_inv h
     obtain ⟨x,hxe,h2⟩:=withK_inv h1
     obtain ⟨rk,hrk,h3⟩:=withK_inv h2
     subst hd hxe hrk
     exact EC.weak (element_ec h3.1 ha hxx hk h3.2.1 h3.2.2.1 h3.2.2.2.1 h3.2.2.2.2.1 h3.2.2.2.2.2.1 h3.2.2.2.2.2.2.1 h3.2.2.2.2.2.2.2) (LeRL.cons (slK_leR hx) (LeRL.cons (LeR.refl _) (LeRL.cons (LeR.refl _) (LeRL.cons (LeR.refl _) LeRL.nil))))
    ·exact h.elim
   ·exact h.elim
  fk:=fk133
theorem ecn133_f:ecn133.f=133:=rfl
theorem ecn133_c {x':AV} {oa ox ok:Nat} {σ:List AObj} {k:AV→List AObj→Prop}:ecn133.c [x',.ref oa 0,.ref ox 0,.ref ok 0] σ k=match slK .i64 x',σ[oa]?,σ[ox]?,σ[ok]? with
      |some ix,some (.box 31 [.lit (.string _),.sl false 1 d',.sl false 1 y']),some (.box 143 [.lit (.string _),.lit (.bool _),.sl false 1 rk',_,.fn (.func g) [] []]),some (.box 3 [.lit (.int .i64 kk)])=>
       withK .i64 d' fun d=>withK .i64 y' fun x=>withK .i64 rk' fun _=>isF g=true∧fromP g d ix∧liBd d∧liBd ix∧(0≤kk∧kk≤4096)∧0≤fromS g kk d ix∧fromS g kk d ix<x.length∧k (.lit (.int .i64 (x.getD (fromS g kk d ix).toNat 0))) σ
      |_,_,_,_=>False:=rfl
end Go.Proofs.YtcpjahmajkhchaaGreat.St

namespace Go.Proofs.YtcpjahmajkhchaaGreat.St
open Go.Proofs.YtcpjahmajkhchaaGreat
open Go Go.Fw
set_option maxRecDepth 20000
set_option maxRecDepth 20000
def gatherS (g:Nat) (k:Int) (out:List Int) (a:Arr) (n:Nat):List Int:=(List.range n).map fun (j:Nat)=>a.x.getD (fromS g k a.d (digF out (j:Int))).toNat 0
theorem gatherS_zero {g:Nat} {k:Int} {out:List Int} {a:Arr}:gatherS g k out a 0=[]:=rfl
theorem gatherS_len {g:Nat} {k:Int} {out:List Int} {a:Arr} {n:Nat}:(gatherS g k out a n).length=n:=by simp [gatherS]
theorem ints_nil {t:IntKind}:ints t []=[]:=rfl
theorem gatherS_succ {g:Nat} {k:Int} {out:List Int} {a:Arr} {n:Nat}:gatherS g k out a (n+1)=gatherS g k out a n++[a.x.getD (fromS g k a.d (digF out n)).toNat 0]:=by
  simp [gatherS,List.range_succ]
noncomputable def J2:Env:=envJ (P:=Tryz.prog) jk2 zer (fun _=>false) (fun _=>false) [con65b,con110] [ecn133]
theorem J2_ok:EnvOk Tryz.prog J2:=envJOk zer_ok
set_option maxHeartbeats 4000000 in
theorem gathered_pc {s:ByteArray} {b:Bool} {rk out:List Int} {o:Option Nat} {g:Nat} {k n:Int} {a:Arr} (hg:isF g=true) (hS:sizeS out=(n,0)) (hd:liBd a.d) (hk:0≤k∧k≤4096)
    (hp:∀ p:Nat,(p:Int)<n→fromP g a.d (digF out p)∧liBd (digF out p)∧0≤fromS g k a.d (digF out p)∧fromS g k a.d (digF out p)<a.x.length):
    PC Tryz.prog 123 [entV ⟨s,b,rk,o,some g⟩,.lit (.int .i64 k),.sl false 1 (ints .i64 out),arrV a] (.sl false 1 (ints .i64 (gatherS g k out a n.toNat))):=by
  have hz:=sizeS_bd out
  rw [hS] at hz
  simp only at hz
  have hol:=(sizeS_ok hS).1
  rcases o with _|g2
  ·skip
   refine pcR J2_ok (kp123) Tryz.func123 [.tmp 8] (h:=fun KF=>?_)
   unfold J2
   repeat' (first
    |(with_reducible first|refine nx ?_|refine t_seq fun K=>?_|refine t_br (fun hc=>?_) fun hc=>?_|refine t_bx ?_|apply And.intro|intro vr)
    |((with_reducible first|refine ny ?_|refine t_dwh (h:=fun K KL=>?_));intros;simp only [go_sem,kp123,geff,con65b_f,con110_f,ecn133_f,con65b_c,hS,szV_def,slK_sl,entV_def,arrV_def,fnV_none,fnV_some]))
   all_goals try exact nd
   refine t_loopF (ι:={i:Gat // (i.i:Int)≤n}) (fun i=>[(23,.lit (.int .i64 i.1.i)),(9,.arr 3 i.1.v)]) (fun i=>[.box 143 [.lit (.string s),.lit (.bool b),.sl false 1 (ints .i64 rk),.lit .nilFunc,.fn (.func g) [] []],.box 3 [.lit (.int .i64 k)],.box 31 [.lit (.string a.e),.sl false 1 (ints .i64 a.d),.sl false 1 (ints .i64 a.x)],.arr 3 1 (ints .i64 (gatherS g k out a i.1.i)) i.1.v false]) (fun i=>n.toNat - i.1.i) ⟨⟨0,0⟩,by simpa using hz.1⟩ ?_ ?_
   ·refine (le_nil 9 3 1 rfl).trans ?_
    simp only [updL_nil,updL_cons,delF_top,delF_upd,Nat.reduceEqDiff,reduceIte]
    simp only [gatherS_zero,ints_nil]
    refine Le.frameS (by first|rfl|(simp only [go_sem];try rfl)) ?_
    repeat' (first|exact leF_top _|exact (fun _=>LeR.refl _)|(with_reducible refine leF_sl ?_ ?_)|(refine leF_upd ?_ ?_))
    all_goals (first|exact LeR.top _|exact LeR.refl _|(refine LeR.of_eq ?_;(try simp only [go_sem]);try rfl)|((try simp only [go_sem]);try rfl))
   rintro ⟨⟨i,v⟩,hi⟩ K0
   simp only at hi
   by_cases hc:(i:Int)<n
   ·have g3:decide ((i:Int)<n)=true:=decide_eq_true hc
    obtain ⟨e1, -, -⟩:=idx_ok hS (by omega) hc
    obtain ⟨p1,p2,p3,p4⟩:=hp i hc
    repeat' (first
     |(with_reducible first|refine nx ?_|refine t_seq fun K=>?_|refine t_br (fun hc=>?_) fun hc=>?_|refine t_bx ?_|apply And.intro|intro vr)
     |((with_reducible first|refine ny ?_|refine t_dwh (h:=fun K KL=>?_));intros;simp only [go_sem,kp123,geff,g3,Int.toNat_natCast,con65b_f,con110_f,ecn133_f,con110_c,ecn133_c,ixV_def,e1,slK_sl]))
    all_goals try exact hg
    all_goals try exact p1
    all_goals try exact p2
    all_goals try exact hd
    all_goals try exact nd
    ·rw [gatherS_len];omega
    ·simp only [←gatherS_succ]
     exact ⟨⟨⟨i+1,v+1⟩,by show ((i+1:Nat):Int)≤n;omega⟩,wf,lf⟩
   ·obtain rfl:n=(i:Int):=by omega
    have g3:decide ((i:Int)<(i:Int))=false:=decide_eq_false hc
    repeat' (first
     |(with_reducible first|refine nx ?_|refine t_seq fun K=>?_|refine t_br (fun hc=>?_) fun hc=>?_|refine t_bx ?_|apply And.intro|intro vr)
     |((with_reducible first|refine ny ?_|refine t_dwh (h:=fun K KL=>?_));intros;simp only [go_sem,kp123,geff,g3,Int.toNat_natCast,con65b_f,con110_f,ecn133_f]))
    all_goals (refine nl ?_;simp only [go_sem])
    exact LeA.refl _
  ·skip
   refine pcR J2_ok (kp123) Tryz.func123 [.tmp 8] (h:=fun KF=>?_)
   unfold J2
   repeat' (first
    |(with_reducible first|refine nx ?_|refine t_seq fun K=>?_|refine t_br (fun hc=>?_) fun hc=>?_|refine t_bx ?_|apply And.intro|intro vr)
    |((with_reducible first|refine ny ?_|refine t_dwh (h:=fun K KL=>?_));intros;simp only [go_sem,kp123,geff,con65b_f,con110_f,ecn133_f,con65b_c,hS,szV_def,slK_sl,entV_def,arrV_def,fnV_none,fnV_some]))
   all_goals try exact nd
   refine t_loopF (ι:={i:Gat // (i.i:Int)≤n}) (fun i=>[(23,.lit (.int .i64 i.1.i)),(9,.arr 3 i.1.v)]) (fun i=>[.box 143 [.lit (.string s),.lit (.bool b),.sl false 1 (ints .i64 rk),.fn (.func g2) [] [],.fn (.func g) [] []],.box 3 [.lit (.int .i64 k)],.box 31 [.lit (.string a.e),.sl false 1 (ints .i64 a.d),.sl false 1 (ints .i64 a.x)],.arr 3 1 (ints .i64 (gatherS g k out a i.1.i)) i.1.v false]) (fun i=>n.toNat - i.1.i) ⟨⟨0,0⟩,by simpa using hz.1⟩ ?_ ?_
   ·refine (le_nil 9 3 1 rfl).trans ?_
    simp only [updL_nil,updL_cons,delF_top,delF_upd,Nat.reduceEqDiff,reduceIte]
    simp only [gatherS_zero,ints_nil]
    refine Le.frameS (by first|rfl|(simp only [go_sem];try rfl)) ?_
    repeat' (first|exact leF_top _|exact (fun _=>LeR.refl _)|(with_reducible refine leF_sl ?_ ?_)|(refine leF_upd ?_ ?_))
    all_goals (first|exact LeR.top _|exact LeR.refl _|(refine LeR.of_eq ?_;(try simp only [go_sem]);try rfl)|((try simp only [go_sem]);try rfl))
   rintro ⟨⟨i,v⟩,hi⟩ K0
   simp only at hi
   by_cases hc:(i:Int)<n
   ·have g3:decide ((i:Int)<n)=true:=decide_eq_true hc
    obtain ⟨e1, -, -⟩:=idx_ok hS (by omega) hc
    obtain ⟨p1,p2,p3,p4⟩:=hp i hc
    repeat' (first
     |(with_reducible first|refine nx ?_|refine t_seq fun K=>?_|refine t_br (fun hc=>?_) fun hc=>?_|refine t_bx ?_|apply And.intro|intro vr)
     |((with_reducible first|refine ny ?_|refine t_dwh (h:=fun K KL=>?_));intros;simp only [go_sem,kp123,geff,g3,Int.toNat_natCast,con65b_f,con110_f,ecn133_f,con110_c,ecn133_c,ixV_def,e1,slK_sl]))
    all_goals try exact hg
    all_goals try exact p1
    all_goals try exact p2
    all_goals try exact hd
    all_goals try exact nd
    ·rw [gatherS_len];omega
    ·simp only [←gatherS_succ]
     exact ⟨⟨⟨i+1,v+1⟩,by show ((i+1:Nat):Int)≤n;omega⟩,wf,lf⟩
   ·obtain rfl:n=(i:Int):=by omega
    have g3:decide ((i:Int)<(i:Int))=false:=decide_eq_false hc
    repeat' (first
     |(with_reducible first|refine nx ?_|refine t_seq fun K=>?_|refine t_br (fun hc=>?_) fun hc=>?_|refine t_bx ?_|apply And.intro|intro vr)
     |((with_reducible first|refine ny ?_|refine t_dwh (h:=fun K KL=>?_));intros;simp only [go_sem,kp123,geff,g3,Int.toNat_natCast,con65b_f,con110_f,ecn133_f]))
    all_goals (refine nl ?_;simp only [go_sem])
    exact LeA.refl _
end Go.Proofs.YtcpjahmajkhchaaGreat.St

namespace Go.Proofs.YtcpjahmajkhchaaGreat.St
open Go.Proofs.YtcpjahmajkhchaaGreat
open Go Go.Fw
set_option maxRecDepth 20000
def gatP (e:Ent) (k:Int) (out:List Int) (a:Arr):Prop:=
  ∃ g,e.from_=some g∧isF g=true∧(sizeS out).2=0∧liBd a.d∧(0≤k∧k≤4096)∧
    ∀ p:Nat,(p:Int)<(sizeS out).1→fromP g a.d (digF out p)∧liBd (digF out p)∧0≤fromS g k a.d (digF out p)∧fromS g k a.d (digF out p)<a.x.length
inductive Cls (op:ByteArray) (k:Int) (cs:List Arr) (d:List Int) (e:Ent):Prop
  |iota (n:Int):eqS op n_iota=true→d=[n]→dm n→Cls op k cs d e
  |join:eqS op n_iota=false→(eqS op n_append||eqS op n_pack)=true→(cs.flatMap (·.x)).length≤1000000→Cls op k cs d e
  |pick:eqS op n_iota=false→eqS op n_append=false→eqS op n_pack=false→selS op=true→2≤cs.length→(eqS op n_index=false→3≤cs.length∧0<(cs.getD 2 nilA).x.length)→0<(cs.getD 1 nilA).x.length→
     (cs.getD 0 nilA).x.length≤1000000→Cls op k cs d e
  |move:eqS op n_iota=false→eqS op n_append=false→eqS op n_pack=false→selS op=false→0<cs.length→gatP e k d (cs.getD 0 nilA)→Cls op k cs d e
theorem map0 {cs:List Arr} (h:cs.map Arr.d=[]):cs=[]:=by cases cs with|nil=>rfl|cons _ _=>cases h
theorem map1 {cs:List Arr} {x:List Int} (h:cs.map Arr.d=[x]):∃ a,cs=[a]∧a.d=x:=by
  match cs,h with
  |[a],h=>exact ⟨a,rfl,by simpa using h⟩
  |[],h=>cases h
  |_::_::_,h=>simp at h
theorem map2 {cs:List Arr} {x y:List Int} (h:cs.map Arr.d=[x,y]):∃ a b,cs=[a,b]∧a.d=x∧b.d=y:=by
  match cs,h with
  |[a,b],h=>exact ⟨a,b,rfl,by simpa using h⟩
  |[],h=>cases h
  |[_],h=>simp at h
  |_::_::_::_,h=>simp at h
theorem map3 {cs:List Arr} {x y z:List Int} (h:cs.map Arr.d=[x,y,z]):∃ a b c,cs=[a,b,c]∧a.d=x∧b.d=y∧c.d=z:=by
  match cs,h with
  |[a,b,c],h=>exact ⟨a,b,c,rfl,by simpa using h⟩
  |[],h=>cases h
  |[_],h=>simp at h
  |[_,_],h=>simp at h
  |_::_::_::_::_,h=>simp at h
theorem val_len {a:Arr} (h:ofE a=0):(a.x.length:Int)=prI a.d∧a.x.length≤4096:=by
  have h1:=(ofE_inv h).2.1
  have:=sizeS_ok h1
  omega
theorem val_len0 {a:Arr} (h:ofE a=0) (hd:a.d=[]):a.x.length=1:=by
  have:=(val_len h).1
  rw [hd,prI] at this;omega
theorem val_len1 {a:Arr} {n:Int} (h:ofE a=0) (hd:a.d=[n]):(a.x.length:Int)=n:=by
  have:=(val_len h).1
  rw [hd,prI,prI] at this;omega
theorem val_len2 {a:Arr} {m n:Int} (h:ofE a=0) (hd:a.d=[m,n]):(a.x.length:Int)=m*n:=by
  have:=(val_len h).1
  rw [hd,prI,prI,prI,Int.mul_one] at this;omega
theorem digF_bd:∀ (d:List Int) (o:Int),liBd d→(∀ x∈d,1≤x)→0≤o→o<prI d→liBd (digF d o)
  |[],_,_,_,_,_=>by intro x hx;cases hx
  |d::t,o,hb,hl,h,hlt=>by
   have hd:=hb d (by simp)
   have ht:∀ y∈t,1≤y:=fun y hy=>hl y (by simp [hy])
   have hp:=prI_pos ht
   have h1:0≤o / prI t:=Int.ediv_nonneg h (by omega)
   have h2:o / prI t<d:=Int.ediv_lt_of_lt_mul (by omega) hlt
   intro x hx
   rcases List.mem_cons.1 hx with rfl|hx
   ·omega
   ·exact digF_bd t _ (fun y hy=>hb y (by simp [hy])) ht (Int.emod_nonneg _ (by omega)) (Int.emod_lt_of_pos _ (by omega)) x hx
theorem dig1 {n o:Int}:digF [n] o=[o]:=by simp [digF,prI]
theorem dig2 {m n o:Int}:digF [m,n] o=[o / n,o % n]:=by simp [digF,prI]
theorem sum_len {cs:List Arr} (h:∀ a∈cs,a.x.length≤4096):(cs.flatMap (·.x)).length≤4096*cs.length:=by
  induction cs with
  |nil=>simp
  |cons a t ih=>
   have h1:=h a (by simp)
   have h2:=ih fun b hb=>h b (by simp [hb])
   simp only [List.flatMap_cons,List.length_append,List.length_cons]
   omega
theorem giv_f {op:ByteArray} {n:Int} {e:Ent} {e':Ent} {ns num:Int} (h:givenS op ns num n=(e,0)) (h':findS op n=(e',true)):e=e':=giv_e (given_ok h).2.2.2.2.2 h'
theorem getD1 {a b:Int}:([a,b]:List Int).getD 1 0=b:=rfl
theorem getD0 {a:Int} {l:List Int}:(a::l).getD 0 0=a:=rfl
set_option maxHeartbeats 1000000 in
theorem cls_of {op:ByteArray} {ns:List Int} {num:Int} {cs:List Arr} {d:List Int} {e:Ent} (hs:Shp op ns num (cs.map Arr.d) d) (hv:∀ a∈cs,ofE a=0) (hd:(sizeS d).2=0) (hg:givenS op ns.length num cs.length=(e,0)):
    Cls op (sizeK ns num) cs d e:=by
  obtain ⟨-,hdm,hN, -⟩:=sizeS_ok (d:=d) (n:=(sizeS d).1) (Prod.ext rfl hd)
  have pos:∀ p:Nat,(p:Int)<(sizeS d).1→∀ x∈d,1≤x:=fun p hp=>dims_pos (d:=d) (n:=(sizeS d).1) (Prod.ext rfl hd) (by omega) hp
  have dbd:∀ p:Nat,(p:Int)<(sizeS d).1→liBd (digF d p):=fun p hp=>digF_bd d p hdm (pos p hp) (by omega) (by omega)
  have bdl:∀ a∈cs,a.x.length≤4096:=fun a ha=>(val_len (hv a ha)).2
  have bdd:∀ a∈cs,liBd a.d:=fun a ha=>(sizeS_ok (ofE_inv (hv a ha)).2.1).2.1
  generalize hds:cs.map Arr.d=ds at hs
  cases hs with
  |iota k hk=>exact .iota k rfl rfl hk
  |fill k hk=>
   obtain ⟨a,rfl,ha⟩:=map1 hds
   refine .move rfl rfl rfl rfl (by simp) ⟨135,?_,rfl,hd,bdd a (by simp),by simpa [sizeK,dm] using hk,fun p hp=>⟨trivial,dbd p hp,?_,?_⟩⟩
   ·rw [giv_f hg (show findS n_fill _=(ents.getD 1 ent0,true) from rfl)];rfl
   ·simp [fromS]
   ·have:=val_len0 (hv a (by simp)) ha
    simp only [fromS,List.getD_cons_zero];omega
  |take k n hk hn hkn=>
   obtain ⟨a,rfl,ha⟩:=map1 hds
   have hl:=val_len1 (hv a (by simp)) ha
   rw [prI,prI] at hN
   refine .move rfl rfl rfl rfl (by simp) ⟨138,?_,rfl,hd,bdd a (by simp),by simpa [sizeK,dm] using hk,fun p hp=>⟨?_,dbd p hp,?_,?_⟩⟩
   ·rw [giv_f hg (show findS n_take _=(ents.getD 2 ent0,true) from rfl)];rfl
   ·rw [dig1];simp [fromP]
   ·simp only [fromS,dig1,getD0];omega
   ·simp only [fromS,dig1,getD0,List.getD_cons_zero];omega
  |drop k n hk hn hkn=>
   obtain ⟨a,rfl,ha⟩:=map1 hds
   have hl:=val_len1 (hv a (by simp)) ha
   rw [prI,prI] at hN
   have e1:sizeK [k] 0=k:=by simp [sizeK]
   rw [e1]
   refine .move rfl rfl rfl rfl (by simp) ⟨140,?_,rfl,hd,bdd a (by simp),hk,fun p hp=>⟨?_,dbd p hp,?_,?_⟩⟩
   ·rw [giv_f hg (show findS n_drop _=(ents.getD 3 ent0,true) from rfl)];rfl
   ·rw [dig1];simp [fromP]
   ·simp only [fromS,dig1,getD0];have:=hk.1;omega
   ·simp only [fromS,dig1,getD0,List.getD_cons_zero];omega
  |reverse n hn=>
   obtain ⟨a,rfl,ha⟩:=map1 hds
   have hl:=val_len1 (hv a (by simp)) ha
   rw [prI,prI] at hN
   refine .move rfl rfl rfl rfl (by simp) ⟨142,?_,rfl,hd,bdd a (by simp),by simp [sizeK],fun p hp=>⟨?_,dbd p hp,?_,?_⟩⟩
   ·rw [giv_f hg (show findS n_reverse _=(ents.getD 4 ent0,true) from rfl)];rfl
   ·rw [dig1];simp [fromP,ha]
   ·simp only [fromS,dig1,getD0,List.getD_cons_zero,ha];omega
   ·simp only [fromS,dig1,getD0,List.getD_cons_zero,ha];omega
  |append m n hm hn=>
   refine .join rfl rfl ?_
   have:=sum_len bdl
   have:cs.length=2:=by have:=congrArg List.length hds;simpa using this
   omega
  |transpose m n hm hn=>
   obtain ⟨a,rfl,ha⟩:=map1 hds
   have hl:=val_len2 (hv a (by simp)) ha
   rw [prI,prI,prI,Int.mul_one] at hN
   have key:∀ p:Nat,(p:Int)<(sizeS [n,m]).1→0≤(p:Int) % m*n+(p:Int) / m∧(p:Int) % m*n+(p:Int) / m<m*n:=by
     intro p hp
     have hm1:=pos p hp m (by simp)
     have hn1:=pos p hp n (by simp)
     have a1:=Int.emod_nonneg (p:Int) (show m≠0 by omega)
     have a2:=Int.emod_lt_of_pos (p:Int) (show 0<m by omega)
     have a3:0≤(p:Int) / m:=Int.ediv_nonneg (by omega) (by omega)
     have a4:(p:Int) / m<n:=Int.ediv_lt_of_lt_mul (by omega) (by omega)
     have a5:0≤(p:Int) % m*n:=Int.mul_nonneg a1 (by omega)
     have a6:((p:Int) % m+1)*n≤m*n:=Int.mul_le_mul_of_nonneg_right (by omega) (by omega)
     rw [Int.add_mul,Int.one_mul] at a6
     omega
   refine .move rfl rfl rfl rfl (by simp) ⟨145,?_,rfl,hd,bdd a (by simp),by simp [sizeK],fun p hp=>⟨?_,dbd p hp,?_,?_⟩⟩
   ·rw [giv_f hg (show findS n_transpose _=(ents.getD 6 ent0,true) from rfl)];rfl
   ·rw [dig2];simp [fromP,ha]
   ·simp only [fromS,dig2,getD0,getD1,List.getD_cons_zero,ha];exact (key p hp).1
   ·simp only [fromS,dig2,getD0,getD1,List.getD_cons_zero,ha];rw [hl];exact (key p hp).2
  |diagonal n hn=>
   obtain ⟨a,rfl,ha⟩:=map1 hds
   have hl:=val_len2 (hv a (by simp)) ha
   rw [prI,prI,Int.mul_one] at hN
   have key:∀ p:Nat,(p:Int)<(sizeS [n]).1→0≤(p:Int)*n+p∧(p:Int)*n+p<n*n:=by
     intro p hp
     have a5:0≤(p:Int)*n:=Int.mul_nonneg (by omega) hn.1
     have a6:((p:Int)+1)*n≤n*n:=Int.mul_le_mul_of_nonneg_right (by omega) hn.1
     rw [Int.add_mul,Int.one_mul] at a6
     omega
   refine .move rfl rfl rfl rfl (by simp) ⟨147,?_,rfl,hd,bdd a (by simp),by simp [sizeK],fun p hp=>⟨?_,dbd p hp,?_,?_⟩⟩
   ·rw [giv_f hg (show findS n_diagonal _=(ents.getD 7 ent0,true) from rfl)];rfl
   ·rw [dig1];simp [fromP,ha]
   ·simp only [fromS,dig1,getD0,getD1,List.getD_cons_zero,ha];exact (key p hp).1
   ·simp only [fromS,dig1,getD0,getD1,List.getD_cons_zero,ha];rw [hl];exact (key p hp).2
  |windows k n hk hn hkn=>
   obtain ⟨a,rfl,ha⟩:=map1 hds
   have hl:=val_len1 (hv a (by simp)) ha
   rw [prI,prI,prI,Int.mul_one] at hN
   have key:∀ p:Nat,(p:Int)<(sizeS [n - k+1,k]).1→0≤(p:Int) / k+(p:Int) % k∧(p:Int) / k+(p:Int) % k<n:=by
     intro p hp
     have hm1:=pos p hp k (by simp)
     have a1:=Int.emod_nonneg (p:Int) (show k≠0 by omega)
     have a2:=Int.emod_lt_of_pos (p:Int) (show 0<k by omega)
     have a3:0≤(p:Int) / k:=Int.ediv_nonneg (by omega) (by omega)
     have a4:(p:Int) / k<n - k+1:=Int.ediv_lt_of_lt_mul (by omega) (by omega)
     omega
   refine .move rfl rfl rfl rfl (by simp) ⟨149,?_,rfl,hd,bdd a (by simp),by simpa [sizeK,dm] using hk,fun p hp=>⟨?_,dbd p hp,?_,?_⟩⟩
   ·rw [giv_f hg (show findS n_windows _=(ents.getD 8 ent0,true) from rfl)];rfl
   ·rw [dig2];simp [fromP]
   ·simp only [fromS,dig2,getD0,getD1,List.getD_cons_zero];exact (key p hp).1
   ·simp only [fromS,dig2,getD0,getD1,List.getD_cons_zero];rw [hl];exact (key p hp).2
  |chunk c q hc1 hc2 hq hn=>
   obtain ⟨a,rfl,ha⟩:=map1 hds
   have hl:=val_len1 (hv a (by simp)) ha
   rw [prI,prI,prI,Int.mul_one] at hN
   have e1:sizeK [] num=num:=rfl
   have key:∀ p:Nat,(p:Int) / num*num+(p:Int) % num=p:=fun p=>by
     have:=Int.emod_add_mul_ediv (p:Int) num
     rw [Int.mul_comm] at this;omega
   rw [e1]
   refine .move rfl rfl rfl rfl (by simp) ⟨151,?_,rfl,hd,bdd a (by simp),by omega,fun p hp=>⟨?_,dbd p hp,?_,?_⟩⟩
   ·rw [giv_f hg (show findS n_chunk _=(ents.getD 9 ent0,true) from rfl)];rfl
   ·rw [dig2];simp [fromP]
   ·simp only [fromS,dig2,getD0,getD1,List.getD_cons_zero];rw [key];omega
   ·simp only [fromS,dig2,getD0,getD1,List.getD_cons_zero];rw [key,hl];omega
  |index n hn=>
   obtain ⟨a,b,rfl,ha,hb⟩:=map2 hds
   have hl:=val_len0 (hv b (by simp)) hb
   refine .pick rfl rfl rfl rfl (by simp) (fun h=>by cases h) (by simp;omega) ?_
   have:=bdl a (by simp)
   simp only [List.getD_cons_zero];omega
  |update n hn=>
   obtain ⟨a,b,c,rfl,ha,hb,hc⟩:=map3 hds
   have hl:=val_len0 (hv b (by simp)) hb
   have hl2:=val_len0 (hv c (by simp)) hc
   refine .pick rfl rfl rfl rfl (by simp) (fun h=>⟨by simp,by simp;omega⟩) (by simp;omega) ?_
   have:=bdl a (by simp)
   simp only [List.getD_cons_zero];omega
  |pack m hm1 hm2=>
   refine .join rfl rfl ?_
   have h0:∀ a∈cs,a.x.length≤1:=fun a ha=>by
     have:a.d∈cs.map Arr.d:=List.mem_map_of_mem ha
     rw [hds] at this
     have:=val_len0 (hv a ha) (List.eq_of_mem_replicate this)
     omega
   have hlen:cs.length=m:=by have:=congrArg List.length hds;simpa using this
   have:∀ (l:List Arr),(∀ a∈l,a.x.length≤1)→(l.flatMap (·.x)).length≤l.length:=by
     intro l hl
     induction l with
     |nil=>simp
     |cons a t ih=>
      have:=ih fun b hb=>hl b (by simp [hb])
      have:=hl a (by simp)
      simp only [List.flatMap_cons,List.length_append,List.length_cons];omega
   have:=this cs h0
   omega
end Go.Proofs.YtcpjahmajkhchaaGreat.St

namespace Go.Proofs.YtcpjahmajkhchaaGreat.St
open Go.Proofs.YtcpjahmajkhchaaGreat
open Go Go.Fw
set_option maxRecDepth 20000
set_option maxRecDepth 20000
theorem gathP_pc {e:Ent} {k:Int} {out:List Int} {a:Arr} (h:gatP e k out a):PC Tryz.prog 123 [entV e,.lit (.int .i64 k),.sl false 1 (ints .i64 out),arrV a] (.sl false 1 (ints .i64 (gatherS (e.from_.getD 0) k out a (sizeS out).1.toNat))):=by
  obtain ⟨g,hg,hf,hS,hd,hk,hp⟩:=h
  obtain ⟨s,b,rk,o,p⟩:=e
  simp only at hg
  subst hg
  exact gathered_pc hf (n:=(sizeS out).1) (Prod.ext rfl hS) hd hk hp
theorem entOf_le {x:AV} {e:Ent} (h:entOf x=some e):LeA x (entV e):=by
  unfold entOf at h
  split at h
  ·split at h
   ·rename_i hr
    split at h<;>first|(cases h;done)|(cases h;exact LeA.agg ⟨LeA.refl _,LeA.refl _,slK_le hr,LeA.refl _,LeA.refl _,trivial⟩)
   ·cases h
  ·cases h
theorem entOf_mv {s:ByteArray} {b:Bool} {x:AV} {g h:Nat}:entOf (.agg [.lit (.string s),.lit (.bool b),x,.fn (.func g) [] [],.fn (.func h) [] []])=match slK .i64 x with
    |some r=>some ⟨s,b,r,some g,some h⟩
    |none=>none:=rfl
noncomputable def con123:PCon Tryz.prog where
  f:=123
  c:=fun
   |[xe,.lit (.int .i64 k),xout,xa]=>match entOf xe,slK .i64 xout,arrOf xa with|some e,some out,some a=>some (gatP e k out a,.sl false 1 (ints .i64 (gatherS (e.from_.getD 0) k out a (sizeS out).1.toNat)))|_,_,_=>none
   |_=>none
  ok:=by
   intro args p r hc hp
   split at hc
   ·split at hc
    ·rename_i he hout ha
     cases hc
     exact PC.weak (gathP_pc hp) ⟨entOf_le he,LeA.refl _,slK_le hout,arrOf_le ha,trivial⟩
    ·cases hc
   ·cases hc
  fk:=fk123
theorem con123_f:con123.f=123:=rfl
theorem con123_c {xe:AV} {k:Int} {xout:AV} {xa:AV}:con123.c [xe,.lit (.int .i64 k),xout,xa]=match entOf xe,slK .i64 xout,arrOf xa with|some e,some out,some a=>some (gatP e k out a,.sl false 1 (ints .i64 (gatherS (e.from_.getD 0) k out a (sizeS out).1.toNat)))|_,_,_=>none:=rfl
noncomputable def con122:PCon Tryz.prog where
  f:=122
  c:=fun
   |[.lit (.string op),xcs]=>match arrsOf xcs with|some cs=>some (2≤cs.length∧(eqS op n_index=false→3≤cs.length∧0<(cs.getD 2 nilA).x.length)∧0<(cs.getD 1 nilA).x.length∧(cs.getD 0 nilA).x.length≤1000000,ibV (checkedS op cs))|_=>none
   |_=>none
  ok:=by
   intro args p r hc hp
   split at hc
   ·split at hc
    ·rename_i hcs
     cases hc
     exact PC.weak ((fun hp:_∧_∧_∧_=>checked_pc hp.1 hp.2.1 hp.2.2.1 hp.2.2.2) hp) ⟨LeA.refl _,arrsOf_le hcs,trivial⟩
    ·cases hc
   ·cases hc
  fk:=fk122
theorem con122_f:con122.f=122:=rfl
theorem con122_c {op:ByteArray} {xcs:AV}:con122.c [.lit (.string op),xcs]=match arrsOf xcs with|some cs=>some (2≤cs.length∧(eqS op n_index=false→3≤cs.length∧0<(cs.getD 2 nilA).x.length)∧0<(cs.getD 1 nilA).x.length∧(cs.getD 0 nilA).x.length≤1000000,ibV (checkedS op cs))|_=>none:=rfl
theorem con123_d {s:ByteArray} {b:Bool} {x y z:AV} {g h:Nat} {k:Int}:con123.c [.agg [.lit (.string s),.lit (.bool b),x,.fn (.func g) [] [],.fn (.func h) [] []],.lit (.int .i64 k),y,z]=match slK .i64 x,slK .i64 y,arrOf z with
    |some r,some out,some a=>some (gatP ⟨s,b,r,some g,some h⟩ k out a,.sl false 1 (ints .i64 (gatherS h k out a (sizeS out).1.toNat)))
    |_,_,_=>none:=by
  rw [con123_c,entOf_mv]
  cases slK .i64 x with
  |none=>rfl
  |some r=>cases slK .i64 y with
   |none=>rfl
   |some out=>cases arrOf z with
    |none=>rfl
    |some a=>rfl
def valA (a:Arr):Bool:=ofE a==0
def rangeS (n:Nat):List Int:=(List.range n).map fun (i:Nat)=>(i:Int)
def dataS (op:ByteArray) (k:Int) (d:List Int) (cs:List Arr) (g:Nat):List Int×Bool:=
  if eqS op n_iota=true then (rangeS (d.getD 0 0).toNat,false)
  else if (eqS op n_append||eqS op n_pack)=true then (cs.flatMap (·.x),false)
  else if selS op=true then checkedS op cs
  else (gatherS g k d (cs.getD 0 nilA) (sizeS d).1.toNat,false)
def applyT (op:ByteArray) (k:Int) (cs:List Arr) (g:Nat) (r:ByteArray×Bool) (D:List Int×Int):Arr×Bool×Int:=
  if r.2=false then (nilA,false,12)
  else if D.2≠0 then (nilA,false,D.2)
  else (⟨r.1,D.1,(dataS op k D.1 cs g).1⟩,(dataS op k D.1 cs g).2,0)
def applyS (op:ByteArray) (ns:List Int) (num:Int) (cs:List Arr):Arr×Bool×Int:=
  if (givenS op ns.length num cs.length).2≠0 then (nilA,false,(givenS op ns.length num cs.length).2)
  else if cs.all valA=false then (nilA,false,1)
  else applyT op (sizeK ns num) cs ((givenS op ns.length num cs.length).1.from_.getD 0) (resultS op (cs.map (·.e))) (dimsI op ns num (cs.map (·.d)))
theorem cls_full {op:ByteArray} {ns:List Int} {num:Int} {cs:List Arr} {e:Ent} (hG:givenS op ns.length num cs.length=(e,0)) (hv:∀ a∈cs,ofE a=0) (h:(dimsI op ns num (cs.map (·.d))).2=0):
    Cls op (sizeK ns num) cs (dimsI op ns num (cs.map (·.d))).1 e:=by
  generalize hD:dimsI op ns num (cs.map (·.d))=D at h ⊢
  obtain ⟨d,de⟩:=D
  simp only at h
  subst h
  obtain ⟨h1,h2,h3,_⟩:=shp_of hD
  exact cls_of h1 hv h2 hG
def appV (r:Arr×Bool×Int):AV:= .tup [arrV r.1,.lit (.bool r.2.1),.lit (.int .i64 r.2.2)]
theorem app_of {e:ByteArray} {x y:AV} {b:Bool} {n:Int} {d w:List Int} {r:Arr×Bool×Int} (hx:slK .i64 x=some d) (hy:slK .i64 y=some w) (h:r=(⟨e,d,w⟩,b,n)):LeA (.tup [.agg [.lit (.string e),x,y],.lit (.bool b),.lit (.int .i64 n)]) (appV r):=by
  subst h
  exact LeA.tup ⟨LeA.agg ⟨LeA.refl _,slK_le hx,slK_le hy,trivial⟩,LeA.refl _,LeA.refl _,trivial⟩
def elT (cs:List Arr) (i:Nat):List ByteArray:=(cs.take i).map (·.e)
def dmT (cs:List Arr) (i:Nat):List (List Int):=(cs.take i).map (·.d)
def xsT (cs:List Arr) (i:Nat):List Int:=(cs.take i).flatMap (·.x)
theorem take_getD {cs:List Arr} {i:Nat} (h:i<cs.length):cs.take (i+1)=cs.take i++[cs.getD i nilA]:=by
  rw [List.take_add_one,List.getElem?_eq_getElem h,List.getD_eq_getElem?_getD,List.getElem?_eq_getElem h];rfl
theorem elT_succ {cs:List Arr} {i:Nat} (h:i<cs.length):elT cs (i+1)=elT cs i++[(cs.getD i nilA).e]:=by simp only [elT,take_getD h,List.map_append,List.map_cons,List.map_nil]
theorem dmT_succ {cs:List Arr} {i:Nat} (h:i<cs.length):dmT cs (i+1)=dmT cs i++[(cs.getD i nilA).d]:=by simp only [dmT,take_getD h,List.map_append,List.map_cons,List.map_nil]
theorem xsT_succ {cs:List Arr} {i:Nat} (h:i<cs.length):xsT cs (i+1)=xsT cs i++(cs.getD i nilA).x:=by simp only [xsT,take_getD h,List.flatMap_append,List.flatMap_cons,List.flatMap_nil,List.append_nil]
theorem elT_all {cs:List Arr}:elT cs cs.length=cs.map (·.e):=by simp [elT]
theorem dmT_all {cs:List Arr}:dmT cs cs.length=cs.map (·.d):=by simp [dmT]
theorem xsT_all {cs:List Arr}:xsT cs cs.length=cs.flatMap (·.x):=by simp [xsT]
theorem elT_len {cs:List Arr} {i:Nat} (h:i≤cs.length):(elT cs i).length=i:=by simp [elT];omega
theorem dmT_len {cs:List Arr} {i:Nat} (h:i≤cs.length):(dmT cs i).length=i:=by simp [dmT];omega
theorem xsT_zero {cs:List Arr}:xsT cs 0=[]:=rfl
theorem rangeS_zero:rangeS 0=[]:=rfl
theorem rangeS_succ {n:Nat}:rangeS (n+1)=rangeS n++[(n:Int)]:=by simp [rangeS,List.range_succ]
theorem rangeS_len (n:Nat):(rangeS n).length=n:=by simp [rangeS]
theorem xsT_le (cs:List Arr) (i:Nat):(xsT cs i).length≤(cs.flatMap (·.x)).length:=by
  have h:cs.flatMap (·.x)=xsT cs i++(cs.drop i).flatMap (·.x):=by
    unfold xsT
    rw [←List.flatMap_append,List.take_append_drop]
  rw [h,List.length_append];omega
theorem ents_dims {e:Ent} {n:Int} (h:e∈ents∨e=packE n):∃ g,e.dims=some g:=by
  rcases h with h|rfl
  ·simp only [ents,List.mem_cons,List.not_mem_nil,or_false] at h
   rcases h with rfl|rfl|rfl|rfl|rfl|rfl|rfl|rfl|rfl|rfl|rfl|rfl<;>exact ⟨_,rfl⟩
  ·exact ⟨_,rfl⟩
theorem ils_nil':ils []=[]:=rfl
theorem all_drop {cs:List Arr} {i:Nat} (h:i<cs.length):(cs.drop i).all valA=(valA (cs.getD i nilA)&&(cs.drop (i+1)).all valA):=by
  rw [drop_getD nilA h,List.all_cons]
noncomputable def K1:Env:=envJ (P:=Tryz.prog) jk2 zer (fun _=>false) (fun _=>false) [con120,con121,con45,con119,con122,con123,con124] []
theorem K1_ok:EnvOk Tryz.prog K1:=envJOk zer_ok
theorem low_fnV {n:Nat} {p:Option Nat}:low1 n (fnV p)=true:=by cases p<;>rfl
structure Two where
  i:Nat
  v:Nat
  u:Nat
set_option maxHeartbeats 8000000 in
theorem apply_pc {op:ByteArray} {ns:List Int} {num:Int} {cs:List Arr} (hn:cs.length≤4096) (ho:∀ a∈cs,okA a):PC Tryz.prog 101 [.lit (.string op),.sl false 1 (ints .i64 ns),.lit (.int .i64 num),.sl false 3 (arrs cs)] (appV (applyS op ns num cs)):=by
  generalize hR:applyS op ns num cs=R
  unfold applyS at hR
  generalize hG:givenS op ns.length num cs.length=r at hR
  obtain ⟨e,er⟩:=r
  simp only at hR
  by_cases h0:er=0
  ·subst h0
   rw [if_neg (by simp)] at hR
   obtain ⟨s,b,rk,o,p⟩:=e
   have hcl:(∀ a∈cs,ofE a=0)→(dimsI op ns num (cs.map (·.d))).2=0→Cls op (sizeK ns num) cs (dimsI op ns num (cs.map (·.d))).1 ⟨s,b,rk,o,p⟩:=fun hv h=>cls_full hG hv h
   obtain ⟨g1,ho1⟩:=ents_dims (given_ok hG).1
   simp only at ho1
   have hl1:(cs.map (·.e)).length=cs.length:=List.length_map ..
   have hl2:(cs.map (·.d)).length=cs.length:=List.length_map ..
   generalize hr:resultS op (cs.map (·.e))=q at hR
   generalize hD:dimsI op ns num (cs.map (·.d))=D at hR hcl
   generalize hA:cs.all valA=AA at hR
   obtain ⟨el,okk⟩:=q
   obtain ⟨d,de⟩:=D
   simp only at hR hcl
   refine pcR K1_ok (kp101) Tryz.func101 [.cell 8 31,.tmp 9,.tmp 10] (h:=fun KF=>?_)
   unfold K1
   repeat' (first
    |(with_reducible first|refine nx ?_|refine t_seq fun K=>?_|refine t_br (fun hc=>?_) fun hc=>?_|refine t_bx ?_|apply And.intro|intro vr)|exact kpd
    |((with_reducible first|refine ny ?_|refine t_kLF ?_ ?_|refine t_drawE (id:=11) (fun _=>true) [(0,1),(1,1),(2,1),(3,1),(5,1),(6,1),(7,1),(8,1),(4,0),(9,0),(10,1),(11,1)] (by kernel_rfl) fun K=>?_|refine t_drawE (id:=21) (fun i=>i==1) [(0,1),(1,1),(2,1),(4,1),(5,1),(6,1),(7,1),(3,0),(8,0),(9,1),(10,0)] (by kernel_rfl) fun K=>?_|refine t_dwh (h:=fun K KL=>?_));intros;simp only [go_sem,kp101,geff,con120_f,con121_f,con45_f,con119_f,con122_f,con123_f,con124_f,con119_c,arrs_length,slK_sl,gV_def,hG,entV_def]))
   all_goals try exact nd
   refine t_loopF (ι:={i:Two // i.i≤cs.length∧(cs.drop i.i).all valA=AA}) (fun i=>[(38,.lit (.int .i64 i.1.i)),(12,.arr 2 i.1.v),(13,.arr 3 i.1.u)]) (fun i=>[.box 31 [.lit (.string ByteArray.empty),.sl true 1 [],.sl true 1 []],.box 143 [.lit (.string s),.lit (.bool b),.sl false 1 (ints .i64 rk),fnV o,fnV p],.arr 9 1 (strs (elT cs i.1.i)) i.1.v false,.arr 23 1 (ils (dmT cs i.1.i)) i.1.u false]) (fun i=>cs.length - i.1.i) ⟨⟨0,0,0⟩,by simp,hA⟩ ?_ ?_
   ·refine (le_nil 12 9 1 rfl).trans ((le_nil 13 23 1 rfl).trans ?_)
    simp only [updL_nil,updL_cons,delF_top,delF_upd,Nat.reduceEqDiff,reduceIte]
    simp only [elT,dmT,List.take_zero,List.map_nil,strs_nil',ils_nil']
    refine Le.frameS (by first|rfl|(simp only [go_sem];try rfl)) ?_
    repeat' (first|exact leF_top _|exact (fun _=>LeR.refl _)|(with_reducible refine leF_sl ?_ ?_)|(refine leF_upd ?_ ?_))
    all_goals (first|exact LeR.top _|exact LeR.refl _|(refine LeR.of_eq ?_;(try simp only [go_sem]);try rfl)|((try simp only [go_sem]);try rfl))
   rintro ⟨⟨i,v,u⟩,hi,hF⟩ K0
   simp only at hi hF
   rcases Nat.lt_or_ge i cs.length with hc|hc
   ·rw [all_drop hc] at hF
    have g3:decide ((i:Int)<(cs.length:Int))=true:=decide_eq_true (by omega)
    have hm:cs.getD i nilA∈cs:=by rw [List.getD_eq_getElem?_getD,List.getElem?_eq_getElem hc];exact List.getElem_mem hc
    have o1:=(ho _ hm).1
    have o2:=(ho _ hm).2
    have hl3:=elT_len (cs:=cs) (i:=i) (by omega)
    have hl4:=dmT_len (cs:=cs) (i:=i) (by omega)
    cases hv:(ofE (cs.getD i nilA)==0) with
    |false=>
     rw [show valA (cs.getD i nilA)=false from hv,Bool.false_and] at hF
     rw [if_pos hF.symm] at hR
     repeat' (first
      |(with_reducible first|refine nx ?_|refine t_seq fun K=>?_|refine t_br (fun hc=>?_) fun hc=>?_|refine t_bx ?_|apply And.intro|intro vr)|exact kpd
      |((with_reducible first|refine ny ?_|refine t_kLF ?_ ?_|refine t_drawE (id:=11) (fun _=>true) [(0,1),(1,1),(2,1),(3,1),(5,1),(6,1),(7,1),(8,1),(4,0),(9,0),(10,1),(11,1)] (by kernel_rfl) fun K=>?_|refine t_drawE (id:=21) (fun i=>i==1) [(0,1),(1,1),(2,1),(4,1),(5,1),(6,1),(7,1),(3,0),(8,0),(9,1),(10,0)] (by kernel_rfl) fun K=>?_|refine t_dwh (h:=fun K KL=>?_));intros;simp only [go_sem,kp101,geff,g3,hv,Int.toNat_natCast,con120_f,con121_f,con45_f,con119_f,con122_f,con123_f,con124_f,con45_c,arrs_length,arrV_def',arrOf_agg,slK_sl,strs_length,ils_length,strs_append1,ils_app]))
     all_goals try exact nd
     all_goals (refine nl ?_;simp only [go_sem])
     exact app_of rfl rfl hR.symm
    |true=>
     rw [show valA (cs.getD i nilA)=true from hv,Bool.true_and] at hF
     repeat' (first
      |(with_reducible first|refine nx ?_|refine t_seq fun K=>?_|refine t_br (fun hc=>?_) fun hc=>?_|refine t_bx ?_|apply And.intro|intro vr)|exact kpd
      |((with_reducible first|refine ny ?_|refine t_kLF ?_ ?_|refine t_drawE (id:=11) (fun _=>true) [(0,1),(1,1),(2,1),(3,1),(5,1),(6,1),(7,1),(8,1),(4,0),(9,0),(10,1),(11,1)] (by kernel_rfl) fun K=>?_|refine t_drawE (id:=21) (fun i=>i==1) [(0,1),(1,1),(2,1),(4,1),(5,1),(6,1),(7,1),(3,0),(8,0),(9,1),(10,0)] (by kernel_rfl) fun K=>?_|refine t_dwh (h:=fun K KL=>?_));intros;simp only [go_sem,kp101,geff,g3,hv,Int.toNat_natCast,con120_f,con121_f,con45_f,con119_f,con122_f,con123_f,con124_f,con45_c,arrs_length,arrV_def',arrOf_agg,slK_sl,strs_length,ils_length,strs_append1,ils_app]))
     all_goals try exact nd
     simp only [←elT_succ hc,←dmT_succ hc]
     refine ⟨⟨⟨i+1,v+1,u+1⟩,by simp only;omega,hF⟩,by first|(simp only;omega)|omega,?_⟩
     simp only [updL_nil,updL_cons,delF_top,delF_upd,Nat.reduceEqDiff,reduceIte]
     refine le_backD (by first|rfl|(simp only [go_sem];try rfl)) (by first|exact Nat.zero_le _|simp) (by first|rfl|simp [lowO,low_lit,low_sl,low_ref,low_arr,low_fnV]) ?_ ?_
     ·repeat' (first|exact low_top|(refine low_upd rfl ?_))
     repeat' (first|exact leF_top _|exact (fun _=>LeR.refl _)|(with_reducible refine leF_sl ?_ ?_)|(refine leF_upd ?_ ?_))
     all_goals (first|exact LeR.top _|exact LeR.refl _|(refine LeR.of_eq ?_;(try simp only [go_sem]);try rfl)|((try simp only [go_sem]);try rfl))
   ·have hie:i=cs.length:=by omega
    rw [hie,List.drop_eq_nil_of_le (by omega),List.all_nil] at hF
    rw [if_neg (by rw [←hF];simp)] at hR
    have g3:decide ((cs.length:Int)<(cs.length:Int))=false:=decide_eq_false (by omega)
    unfold applyT at hR
    have hv:∀ a∈cs,ofE a=0:=fun a ha=>by
      rw [←hF,List.all_eq_true] at hA
      exact beq_iff_eq.1 (hA a ha)
    have hcl:=hcl hv
    cases okk with
    |false=>
     rw [if_pos rfl] at hR
     repeat' (first
      |(with_reducible first|refine nx ?_|refine t_seq fun K=>?_|refine t_br (fun hc=>?_) fun hc=>?_|refine t_bx ?_|apply And.intro|intro vr)|exact kpd
      |((with_reducible first|refine ny ?_|refine t_kLF ?_ ?_|refine t_drawE (id:=11) (fun _=>true) [(0,1),(1,1),(2,1),(3,1),(5,1),(6,1),(7,1),(8,1),(4,0),(9,0),(10,1),(11,1)] (by kernel_rfl) fun K=>?_|refine t_drawE (id:=21) (fun i=>i==1) [(0,1),(1,1),(2,1),(4,1),(5,1),(6,1),(7,1),(3,0),(8,0),(9,1),(10,0)] (by kernel_rfl) fun K=>?_|refine t_dwh (h:=fun K KL=>?_));intros;simp only [go_sem,kp101,geff,hie,g3,hr,Int.toNat_natCast,con120_f,con121_f,con45_f,con119_f,con122_f,con123_f,con124_f,con120_c,slS_sl,elT_all,dmT_all,sbV_def]))
     all_goals try exact nd
     all_goals (refine nl ?_;simp only [go_sem])
     exact app_of rfl rfl hR.symm
    |true=>
     rw [if_neg (by simp)] at hR
     by_cases hde:de=0
     ·subst hde
      rw [if_neg (by simp)] at hR
      have hcl:=hcl rfl
      cases hcl with
      |iota n q1 hd hn=>
       subst hd
       have q1':eqS op ⟨#[105,111,116,97]⟩=true:=q1
       unfold dataS at hR
       rw [q1,if_pos rfl] at hR
       simp only [List.getD_cons_zero] at hR
       repeat' (first
        |(with_reducible first|refine nx ?_|refine t_seq fun K=>?_|refine t_br (fun hc=>?_) fun hc=>?_|refine t_bx ?_|apply And.intro|intro vr)|exact kpd
        |((with_reducible first|refine ny ?_|refine t_kLF ?_ ?_|refine t_drawE (id:=11) (fun _=>true) [(0,1),(1,1),(2,1),(3,1),(5,1),(6,1),(7,1),(8,1),(4,0),(9,0),(10,1),(11,1)] (by kernel_rfl) fun K=>?_|refine t_drawE (id:=21) (fun i=>i==1) [(0,1),(1,1),(2,1),(4,1),(5,1),(6,1),(7,1),(3,0),(8,0),(9,1),(10,0)] (by kernel_rfl) fun K=>?_|refine t_dwh (h:=fun K KL=>?_));intros;simp only [go_sem,kp101,geff,hie,g3,hr,hD,q1',Int.toNat_natCast,con120_f,con121_f,con45_f,con119_f,con122_f,con123_f,con124_f,con120_c,con121_c,slS_sl,slK_sl,ilsOf_sl,elT_all,dmT_all,sbV_def,dV_def,List.getD_cons_zero]))
       all_goals try exact nd
       have hn1:=hn.1
       have hn2:=hn.2
       refine t_loopF (ι:={i:Gat // (i.i:Int)≤n}) (fun i=>[(97,.lit (.int .i64 i.1.i))]) (fun i=>[.box 31 [.lit (.string ByteArray.empty),.sl true 1 [],.sl true 1 []],.box 143 [.lit (.string s),.lit (.bool b),.sl false 1 (ints .i64 rk),fnV o,fnV p],.arr 9 1 (strs (cs.map (·.e))) v false,.arr 23 1 (ils (cs.map (·.d))) u true,.box 31 [.lit (.string el),.sl false 1 (ints .i64 [n]),.arr 5 i.1.v],.arr 3 1 (ints .i64 (rangeS i.1.i)) i.1.v false]) (fun i=>n.toNat - i.1.i) ⟨⟨0,0⟩,by simpa using hn1⟩ ?_ ?_
       ·refine (le_nilB 4 2 3 1 (cs:=[.lit (.string el),.sl false 1 (ints .i64 [n]),.sl true 1 []]) rfl (by simp) nil_sl).trans ?_
        simp only [updL_nil,updL_cons,delF_top,delF_upd,Nat.reduceEqDiff,reduceIte]
        simp only [rangeS_zero,ints_nil]
        refine Le.frameS (by first|rfl|(simp only [go_sem];try rfl)) ?_
        repeat' (first|exact leF_top _|exact (fun _=>LeR.refl _)|(with_reducible refine leF_sl ?_ ?_)|(refine leF_upd ?_ ?_))
        all_goals (first|exact LeR.top _|exact LeR.refl _|(refine LeR.of_eq ?_;(try simp only [go_sem]);try rfl)|((try simp only [go_sem]);try rfl))
       rintro ⟨⟨j,w⟩,hj⟩ K1
       simp only at hj
       by_cases hc2:(j:Int)<n
       ·have g4:decide ((j:Int)<n)=true:=decide_eq_true hc2
        have hb:=rangeS_len j
        repeat' (first
         |(with_reducible first|refine nx ?_|refine t_seq fun K=>?_|refine t_br (fun hc=>?_) fun hc=>?_|refine t_bx ?_|apply And.intro|intro vr)|exact kpd
         |((with_reducible first|refine ny ?_|refine t_kLF ?_ ?_|refine t_drawE (id:=11) (fun _=>true) [(0,1),(1,1),(2,1),(3,1),(5,1),(6,1),(7,1),(8,1),(4,0),(9,0),(10,1),(11,1)] (by kernel_rfl) fun K=>?_|refine t_drawE (id:=21) (fun i=>i==1) [(0,1),(1,1),(2,1),(4,1),(5,1),(6,1),(7,1),(3,0),(8,0),(9,1),(10,0)] (by kernel_rfl) fun K=>?_|refine t_dwh (h:=fun K KL=>?_));intros;simp only [go_sem,kp101,geff,g4,Int.toNat_natCast,con120_f,con121_f,con45_f,con119_f,con122_f,con123_f,con124_f]))
        all_goals try exact nd
        simp only [←rangeS_succ]
        exact ⟨⟨⟨j+1,w+1⟩,by simp only;omega⟩,wf,lf⟩
       ·have hje:n=(j:Int):=by omega
        have g4:decide ((j:Int)<(j:Int))=false:=decide_eq_false (by omega)
        rw [hje] at hR
        repeat' (first
         |(with_reducible first|refine nx ?_|refine t_seq fun K=>?_|refine t_br (fun hc=>?_) fun hc=>?_|refine t_bx ?_|apply And.intro|intro vr)|exact kpd
         |((with_reducible first|refine ny ?_|refine t_kLF ?_ ?_|refine t_drawE (id:=11) (fun _=>true) [(0,1),(1,1),(2,1),(3,1),(5,1),(6,1),(7,1),(8,1),(4,0),(9,0),(10,1),(11,1)] (by kernel_rfl) fun K=>?_|refine t_drawE (id:=21) (fun i=>i==1) [(0,1),(1,1),(2,1),(4,1),(5,1),(6,1),(7,1),(3,0),(8,0),(9,1),(10,0)] (by kernel_rfl) fun K=>?_|refine t_dwh (h:=fun K KL=>?_));intros;simp only [go_sem,kp101,geff,hje,g4,Int.toNat_natCast,con120_f,con121_f,con45_f,con119_f,con122_f,con123_f,con124_f]))
        all_goals try exact nd
        all_goals (refine nl ?_;simp only [go_sem])
        exact app_of (by first|exact slK_sl|rfl) slK_sl hR.symm
      |join q1 q2 hl=>
       have q1':eqS op ⟨#[105,111,116,97]⟩=false:=q1
       unfold dataS at hR
       rw [q1,if_neg (by simp),if_pos q2] at hR
       have xsT_le:=fun (l:List Arr) (i:Nat)=>Nat.le_trans (xsT_le l i) (show (l.flatMap (·.x)).length≤(l.flatMap (·.x)).length from Nat.le_refl _)
       rcases Bool.eq_false_or_eq_true (eqS op n_append) with qa|qa
       ·have qa':eqS op ⟨#[97,112,112,101,110,100]⟩=true:=qa
        repeat' (first
         |(with_reducible first|refine nx ?_|refine t_seq fun K=>?_|refine t_br (fun hc=>?_) fun hc=>?_|refine t_bx ?_|apply And.intro|intro vr)|exact kpd
         |((with_reducible first|refine ny ?_|refine t_kLF ?_ ?_|refine t_drawE (id:=11) (fun _=>true) [(0,1),(1,1),(2,1),(3,1),(5,1),(6,1),(7,1),(8,1),(4,0),(9,0),(10,1),(11,1)] (by kernel_rfl) fun K=>?_|refine t_drawE (id:=21) (fun i=>i==1) [(0,1),(1,1),(2,1),(4,1),(5,1),(6,1),(7,1),(3,0),(8,0),(9,1),(10,0)] (by kernel_rfl) fun K=>?_|refine t_dwh (h:=fun K KL=>?_));intros;simp only [go_sem,kp101,geff,qa',q1',hie,g3,hr,hD,arrs_length,Int.toNat_natCast,con120_f,con121_f,con45_f,con119_f,con122_f,con123_f,con124_f,con120_c,con121_c,slS_sl,slK_sl,ilsOf_sl,elT_all,dmT_all,sbV_def,dV_def,List.getD_cons_zero]))
        all_goals try exact nd
        refine t_loopF (ι:={i:Gat // i.i≤cs.length}) (fun i=>[(112,.lit (.int .i64 i.1.i))]) (fun i=>[.box 31 [.lit (.string ByteArray.empty),.sl true 1 [],.sl true 1 []],.box 143 [.lit (.string s),.lit (.bool b),.sl false 1 (ints .i64 rk),fnV o,fnV p],.arr 9 1 (strs (cs.map (·.e))) v false,.arr 23 1 (ils (cs.map (·.d))) u true,.box 31 [.lit (.string el),.sl false 1 (ints .i64 d),.arr 5 i.1.v],.arr 3 1 (ints .i64 (xsT cs i.1.i)) i.1.v false]) (fun i=>cs.length - i.1.i) ⟨⟨0,0⟩,by simp⟩ ?_ ?_
        ·refine (le_nilB 4 2 3 1 (cs:=[.lit (.string el),.sl false 1 (ints .i64 d),.sl true 1 []]) rfl (by simp) nil_sl).trans ?_
         simp only [updL_nil,updL_cons,delF_top,delF_upd,Nat.reduceEqDiff,reduceIte]
         simp only [xsT_zero,ints_nil]
         refine Le.frameS (by first|rfl|(simp only [go_sem];try rfl)) ?_
         repeat' (first|exact leF_top _|exact (fun _=>LeR.refl _)|(with_reducible refine leF_sl ?_ ?_)|(refine leF_upd ?_ ?_))
         all_goals (first|exact LeR.top _|exact LeR.refl _|(refine LeR.of_eq ?_;(try simp only [go_sem]);try rfl)|((try simp only [go_sem]);try rfl))
        rintro ⟨⟨j,w⟩,hj⟩ K1
        simp only at hj
        rcases Nat.lt_or_ge j cs.length with hc2|hc2
        ·have g4:decide ((j:Int)<(cs.length:Int))=true:=decide_eq_true (by omega)
         have hb:=xsT_le cs j
         have hb2:=xsT_le cs (j+1)
         rw [xsT_succ hc2,List.length_append] at hb2
         repeat' (first
          |(with_reducible first|refine nx ?_|refine t_seq fun K=>?_|refine t_br (fun hc=>?_) fun hc=>?_|refine t_bx ?_|apply And.intro|intro vr)|exact kpd
          |((with_reducible first|refine ny ?_|refine t_kLF ?_ ?_|refine t_drawE (id:=11) (fun _=>true) [(0,1),(1,1),(2,1),(3,1),(5,1),(6,1),(7,1),(8,1),(4,0),(9,0),(10,1),(11,1)] (by kernel_rfl) fun K=>?_|refine t_drawE (id:=21) (fun i=>i==1) [(0,1),(1,1),(2,1),(4,1),(5,1),(6,1),(7,1),(3,0),(8,0),(9,1),(10,0)] (by kernel_rfl) fun K=>?_|refine t_dwh (h:=fun K KL=>?_));intros;simp only [go_sem,kp101,geff,g4,Int.toNat_natCast,con120_f,con121_f,con45_f,con119_f,con122_f,con123_f,con124_f,arrs_length,arrV_def']))
         all_goals try exact nd
         simp only [ints_append,←xsT_succ hc2]
         refine ⟨⟨⟨j+1,w+1⟩,by simp only;omega⟩,by first|(simp only;omega)|omega,?_⟩
         simp only [updL_nil,updL_cons,delF_top,delF_upd,Nat.reduceEqDiff,reduceIte]
         refine le_backD (by first|rfl|(simp only [go_sem];try rfl)) (by first|exact Nat.zero_le _|simp) (by first|rfl|simp [lowO,low_lit,low_sl,low_ref,low_arr,low_fnV]) ?_ ?_
         ·repeat' (first|exact low_top|(refine low_upd rfl ?_))
         repeat' (first|exact leF_top _|exact (fun _=>LeR.refl _)|(with_reducible refine leF_sl ?_ ?_)|(refine leF_upd ?_ ?_))
         all_goals (first|exact LeR.top _|exact LeR.refl _|(refine LeR.of_eq ?_;(try simp only [go_sem]);try rfl)|((try simp only [go_sem]);try rfl))
        ·have hje:j=cs.length:=by omega
         have g4:decide ((cs.length:Int)<(cs.length:Int))=false:=decide_eq_false (by omega)
         repeat' (first
          |(with_reducible first|refine nx ?_|refine t_seq fun K=>?_|refine t_br (fun hc=>?_) fun hc=>?_|refine t_bx ?_|apply And.intro|intro vr)|exact kpd
          |((with_reducible first|refine ny ?_|refine t_kLF ?_ ?_|refine t_drawE (id:=11) (fun _=>true) [(0,1),(1,1),(2,1),(3,1),(5,1),(6,1),(7,1),(8,1),(4,0),(9,0),(10,1),(11,1)] (by kernel_rfl) fun K=>?_|refine t_drawE (id:=21) (fun i=>i==1) [(0,1),(1,1),(2,1),(4,1),(5,1),(6,1),(7,1),(3,0),(8,0),(9,1),(10,0)] (by kernel_rfl) fun K=>?_|refine t_dwh (h:=fun K KL=>?_));intros;simp only [go_sem,kp101,geff,hje,g4,Int.toNat_natCast,con120_f,con121_f,con45_f,con119_f,con122_f,con123_f,con124_f]))
         all_goals try exact nd
         all_goals (refine nl ?_;simp only [go_sem])
         rw [xsT_all]
         exact app_of (by first|exact slK_sl|rfl) slK_sl hR.symm
       ·have qa':eqS op ⟨#[97,112,112,101,110,100]⟩=false:=qa
        have qp':eqS op ⟨#[112,97,99,107]⟩=true:=by rw [qa,Bool.false_or] at q2;exact q2
        repeat' (first
         |(with_reducible first|refine nx ?_|refine t_seq fun K=>?_|refine t_br (fun hc=>?_) fun hc=>?_|refine t_bx ?_|apply And.intro|intro vr)|exact kpd
         |((with_reducible first|refine ny ?_|refine t_kLF ?_ ?_|refine t_drawE (id:=11) (fun _=>true) [(0,1),(1,1),(2,1),(3,1),(5,1),(6,1),(7,1),(8,1),(4,0),(9,0),(10,1),(11,1)] (by kernel_rfl) fun K=>?_|refine t_drawE (id:=21) (fun i=>i==1) [(0,1),(1,1),(2,1),(4,1),(5,1),(6,1),(7,1),(3,0),(8,0),(9,1),(10,0)] (by kernel_rfl) fun K=>?_|refine t_dwh (h:=fun K KL=>?_));intros;simp only [go_sem,kp101,geff,qa',qp',q1',hie,g3,hr,hD,arrs_length,Int.toNat_natCast,con120_f,con121_f,con45_f,con119_f,con122_f,con123_f,con124_f,con120_c,con121_c,slS_sl,slK_sl,ilsOf_sl,elT_all,dmT_all,sbV_def,dV_def,List.getD_cons_zero]))
        all_goals try exact nd
        refine t_loopF (ι:={i:Gat // i.i≤cs.length}) (fun i=>[(112,.lit (.int .i64 i.1.i))]) (fun i=>[.box 31 [.lit (.string ByteArray.empty),.sl true 1 [],.sl true 1 []],.box 143 [.lit (.string s),.lit (.bool b),.sl false 1 (ints .i64 rk),fnV o,fnV p],.arr 9 1 (strs (cs.map (·.e))) v false,.arr 23 1 (ils (cs.map (·.d))) u true,.box 31 [.lit (.string el),.sl false 1 (ints .i64 d),.arr 5 i.1.v],.arr 3 1 (ints .i64 (xsT cs i.1.i)) i.1.v false]) (fun i=>cs.length - i.1.i) ⟨⟨0,0⟩,by simp⟩ ?_ ?_
        ·refine (le_nilB 4 2 3 1 (cs:=[.lit (.string el),.sl false 1 (ints .i64 d),.sl true 1 []]) rfl (by simp) nil_sl).trans ?_
         simp only [updL_nil,updL_cons,delF_top,delF_upd,Nat.reduceEqDiff,reduceIte]
         simp only [xsT_zero,ints_nil]
         refine Le.frameS (by first|rfl|(simp only [go_sem];try rfl)) ?_
         repeat' (first|exact leF_top _|exact (fun _=>LeR.refl _)|(with_reducible refine leF_sl ?_ ?_)|(refine leF_upd ?_ ?_))
         all_goals (first|exact LeR.top _|exact LeR.refl _|(refine LeR.of_eq ?_;(try simp only [go_sem]);try rfl)|((try simp only [go_sem]);try rfl))
        rintro ⟨⟨j,w⟩,hj⟩ K1
        simp only at hj
        rcases Nat.lt_or_ge j cs.length with hc2|hc2
        ·have g4:decide ((j:Int)<(cs.length:Int))=true:=decide_eq_true (by omega)
         have hb:=xsT_le cs j
         have hb2:=xsT_le cs (j+1)
         rw [xsT_succ hc2,List.length_append] at hb2
         repeat' (first
          |(with_reducible first|refine nx ?_|refine t_seq fun K=>?_|refine t_br (fun hc=>?_) fun hc=>?_|refine t_bx ?_|apply And.intro|intro vr)|exact kpd
          |((with_reducible first|refine ny ?_|refine t_kLF ?_ ?_|refine t_drawE (id:=11) (fun _=>true) [(0,1),(1,1),(2,1),(3,1),(5,1),(6,1),(7,1),(8,1),(4,0),(9,0),(10,1),(11,1)] (by kernel_rfl) fun K=>?_|refine t_drawE (id:=21) (fun i=>i==1) [(0,1),(1,1),(2,1),(4,1),(5,1),(6,1),(7,1),(3,0),(8,0),(9,1),(10,0)] (by kernel_rfl) fun K=>?_|refine t_dwh (h:=fun K KL=>?_));intros;simp only [go_sem,kp101,geff,g4,Int.toNat_natCast,con120_f,con121_f,con45_f,con119_f,con122_f,con123_f,con124_f,arrs_length,arrV_def']))
         all_goals try exact nd
         simp only [ints_append,←xsT_succ hc2]
         refine ⟨⟨⟨j+1,w+1⟩,by simp only;omega⟩,by first|(simp only;omega)|omega,?_⟩
         simp only [updL_nil,updL_cons,delF_top,delF_upd,Nat.reduceEqDiff,reduceIte]
         refine le_backD (by first|rfl|(simp only [go_sem];try rfl)) (by first|exact Nat.zero_le _|simp) (by first|rfl|simp [lowO,low_lit,low_sl,low_ref,low_arr,low_fnV]) ?_ ?_
         ·repeat' (first|exact low_top|(refine low_upd rfl ?_))
         repeat' (first|exact leF_top _|exact (fun _=>LeR.refl _)|(with_reducible refine leF_sl ?_ ?_)|(refine leF_upd ?_ ?_))
         all_goals (first|exact LeR.top _|exact LeR.refl _|(refine LeR.of_eq ?_;(try simp only [go_sem]);try rfl)|((try simp only [go_sem]);try rfl))
        ·have hje:j=cs.length:=by omega
         have g4:decide ((cs.length:Int)<(cs.length:Int))=false:=decide_eq_false (by omega)
         repeat' (first
          |(with_reducible first|refine nx ?_|refine t_seq fun K=>?_|refine t_br (fun hc=>?_) fun hc=>?_|refine t_bx ?_|apply And.intro|intro vr)|exact kpd
          |((with_reducible first|refine ny ?_|refine t_kLF ?_ ?_|refine t_drawE (id:=11) (fun _=>true) [(0,1),(1,1),(2,1),(3,1),(5,1),(6,1),(7,1),(8,1),(4,0),(9,0),(10,1),(11,1)] (by kernel_rfl) fun K=>?_|refine t_drawE (id:=21) (fun i=>i==1) [(0,1),(1,1),(2,1),(4,1),(5,1),(6,1),(7,1),(3,0),(8,0),(9,1),(10,0)] (by kernel_rfl) fun K=>?_|refine t_dwh (h:=fun K KL=>?_));intros;simp only [go_sem,kp101,geff,hje,g4,Int.toNat_natCast,con120_f,con121_f,con45_f,con119_f,con122_f,con123_f,con124_f]))
         all_goals try exact nd
         all_goals (refine nl ?_;simp only [go_sem])
         rw [xsT_all]
         exact app_of (by first|exact slK_sl|rfl) slK_sl hR.symm
      |pick q1 q2 q3 q4 hc2 hc3 hc1 hc0=>
       have q1':eqS op ⟨#[105,111,116,97]⟩=false:=q1
       have q2':eqS op ⟨#[97,112,112,101,110,100]⟩=false:=q2
       have q3':eqS op ⟨#[112,97,99,107]⟩=false:=q3
       unfold dataS at hR
       rw [q1,if_neg (by simp),q2,q3,if_neg (by simp),if_pos q4] at hR
       generalize hch:checkedS op cs=ch at hR
       rcases Bool.eq_false_or_eq_true (eqS op n_index) with qa|qa
       ·have qa':eqS op ⟨#[105,110,100,101,120]⟩=true:=qa
        repeat' (first
         |(with_reducible first|refine nx ?_|refine t_seq fun K=>?_|refine t_br (fun hc=>?_) fun hc=>?_|refine t_bx ?_|apply And.intro|intro vr)|exact kpd
         |((with_reducible first|refine ny ?_|refine t_kLF ?_ ?_|refine t_drawE (id:=11) (fun _=>true) [(0,1),(1,1),(2,1),(3,1),(5,1),(6,1),(7,1),(8,1),(4,0),(9,0),(10,1),(11,1)] (by kernel_rfl) fun K=>?_|refine t_drawE (id:=21) (fun i=>i==1) [(0,1),(1,1),(2,1),(4,1),(5,1),(6,1),(7,1),(3,0),(8,0),(9,1),(10,0)] (by kernel_rfl) fun K=>?_|refine t_dwh (h:=fun K KL=>?_));intros;simp only [go_sem,kp101,geff,qa',q1',q2',q3',hch,con122_c,arrsOf_sl,ibV_def,hie,g3,hr,hD,arrs_length,Int.toNat_natCast,con120_f,con121_f,con45_f,con119_f,con122_f,con123_f,con124_f,con120_c,con121_c,slS_sl,slK_sl,ilsOf_sl,elT_all,dmT_all,sbV_def,dV_def,List.getD_cons_zero]))
        all_goals try (first|exact (hc3 (by assumption)).1|exact (hc3 (by assumption)).2)
        all_goals try exact nd
        all_goals (refine nl ?_;simp only [go_sem])
        exact app_of (by first|exact slK_sl|rfl) slK_sl hR.symm
       ·have qa':eqS op ⟨#[105,110,100,101,120]⟩=false:=qa
        have qp':eqS op ⟨#[117,112,100,97,116,101]⟩=true:=by unfold selS at q4;rw [qa,Bool.false_or] at q4;exact q4
        repeat' (first
         |(with_reducible first|refine nx ?_|refine t_seq fun K=>?_|refine t_br (fun hc=>?_) fun hc=>?_|refine t_bx ?_|apply And.intro|intro vr)|exact kpd
         |((with_reducible first|refine ny ?_|refine t_kLF ?_ ?_|refine t_drawE (id:=11) (fun _=>true) [(0,1),(1,1),(2,1),(3,1),(5,1),(6,1),(7,1),(8,1),(4,0),(9,0),(10,1),(11,1)] (by kernel_rfl) fun K=>?_|refine t_drawE (id:=21) (fun i=>i==1) [(0,1),(1,1),(2,1),(4,1),(5,1),(6,1),(7,1),(3,0),(8,0),(9,1),(10,0)] (by kernel_rfl) fun K=>?_|refine t_dwh (h:=fun K KL=>?_));intros;simp only [go_sem,kp101,geff,qa',qp',q1',q2',q3',hch,con122_c,arrsOf_sl,ibV_def,hie,g3,hr,hD,arrs_length,Int.toNat_natCast,con120_f,con121_f,con45_f,con119_f,con122_f,con123_f,con124_f,con120_c,con121_c,slS_sl,slK_sl,ilsOf_sl,elT_all,dmT_all,sbV_def,dV_def,List.getD_cons_zero]))
        all_goals try (first|exact (hc3 (by assumption)).1|exact (hc3 (by assumption)).2)
        all_goals try exact nd
        all_goals (refine nl ?_;simp only [go_sem])
        exact app_of (by first|exact slK_sl|rfl) slK_sl hR.symm
      |move q1 q2 q3 q4 hc1 hgt=>
       have q1':eqS op ⟨#[105,111,116,97]⟩=false:=q1
       have q2':eqS op ⟨#[97,112,112,101,110,100]⟩=false:=q2
       have q3':eqS op ⟨#[112,97,99,107]⟩=false:=q3
       have q5':eqS op ⟨#[105,110,100,101,120]⟩=false:=by unfold selS at q4;exact (Bool.or_eq_false_iff.1 q4).1
       have q6':eqS op ⟨#[117,112,100,97,116,101]⟩=false:=by unfold selS at q4;exact (Bool.or_eq_false_iff.1 q4).2
       unfold dataS at hR
       rw [q1,if_neg (by simp),q2,q3,if_neg (by simp),q4,if_neg (by simp)] at hR
       obtain ⟨g,hg,hgt⟩:=hgt
       have hgt':gatP ⟨s,b,rk,some g1,some g⟩ (sizeK ns num) d (cs.getD 0 nilA):=⟨g,rfl,hgt⟩
       simp only at hg
       simp only [hg,Option.getD_some] at hR
       repeat' (first
        |(with_reducible first|refine nx ?_|refine t_seq fun K=>?_|refine t_br (fun hc=>?_) fun hc=>?_|refine t_bx ?_|apply And.intro|intro vr)|exact kpd
        |((with_reducible first|refine ny ?_|refine t_kLF ?_ ?_|refine t_drawE (id:=11) (fun _=>true) [(0,1),(1,1),(2,1),(3,1),(5,1),(6,1),(7,1),(8,1),(4,0),(9,0),(10,1),(11,1)] (by kernel_rfl) fun K=>?_|refine t_drawE (id:=21) (fun i=>i==1) [(0,1),(1,1),(2,1),(4,1),(5,1),(6,1),(7,1),(3,0),(8,0),(9,1),(10,0)] (by kernel_rfl) fun K=>?_|refine t_dwh (h:=fun K KL=>?_));intros;simp only [go_sem,kp101,geff,ho1,hg,fnV_some,q1',q2',q3',q5',q6',con123_d,con124_c,sizeK_def,arrV_def',arrOf_agg,hie,g3,hr,hD,arrs_length,Int.toNat_natCast,con120_f,con121_f,con45_f,con119_f,con122_f,con123_f,con124_f,con120_c,con121_c,slS_sl,slK_sl,ilsOf_sl,elT_all,dmT_all,sbV_def,dV_def,List.getD_cons_zero]))
       all_goals try exact hgt'
       all_goals try exact nd
       all_goals (refine nl ?_;simp only [go_sem])
       exact app_of (by first|exact slK_sl|rfl) slK_sl hR.symm
     ·rw [if_pos hde] at hR
      have hde':(de !=0)=true:=by simpa using hde
      repeat' (first
       |(with_reducible first|refine nx ?_|refine t_seq fun K=>?_|refine t_br (fun hc=>?_) fun hc=>?_|refine t_bx ?_|apply And.intro|intro vr)|exact kpd
       |((with_reducible first|refine ny ?_|refine t_kLF ?_ ?_|refine t_drawE (id:=11) (fun _=>true) [(0,1),(1,1),(2,1),(3,1),(5,1),(6,1),(7,1),(8,1),(4,0),(9,0),(10,1),(11,1)] (by kernel_rfl) fun K=>?_|refine t_drawE (id:=21) (fun i=>i==1) [(0,1),(1,1),(2,1),(4,1),(5,1),(6,1),(7,1),(3,0),(8,0),(9,1),(10,0)] (by kernel_rfl) fun K=>?_|refine t_dwh (h:=fun K KL=>?_));intros;simp only [go_sem,kp101,geff,hie,g3,hr,hD,hde',Int.toNat_natCast,con120_f,con121_f,con45_f,con119_f,con122_f,con123_f,con124_f,con120_c,con121_c,slS_sl,slK_sl,ilsOf_sl,elT_all,dmT_all,sbV_def,dV_def]))
      all_goals try exact nd
      all_goals (refine nl ?_;simp only [go_sem])
      exact app_of rfl rfl hR.symm
  ·rw [if_pos h0] at hR
   obtain ⟨s,b,rk,o,p⟩:=e
   have h0':(er !=0)=true:=by simpa using h0
   refine pcR K1_ok (kp101) Tryz.func101 [.cell 8 31,.tmp 9,.tmp 10] (h:=fun KF=>?_)
   unfold K1
   repeat' (first
    |(with_reducible first|refine nx ?_|refine t_seq fun K=>?_|refine t_br (fun hc=>?_) fun hc=>?_|refine t_bx ?_|apply And.intro|intro vr)|exact kpd
    |((with_reducible first|refine ny ?_|refine t_kLF ?_ ?_|refine t_drawE (id:=11) (fun _=>true) [(0,1),(1,1),(2,1),(3,1),(5,1),(6,1),(7,1),(8,1),(4,0),(9,0),(10,1),(11,1)] (by kernel_rfl) fun K=>?_|refine t_drawE (id:=21) (fun i=>i==1) [(0,1),(1,1),(2,1),(4,1),(5,1),(6,1),(7,1),(3,0),(8,0),(9,1),(10,0)] (by kernel_rfl) fun K=>?_|refine t_dwh (h:=fun K KL=>?_));intros;simp only [go_sem,kp101,geff,con120_f,con121_f,con45_f,con119_f,con122_f,con123_f,con124_f,con119_c,arrs_length,slK_sl,gV_def,hG,entV_def,h0']))
   all_goals try exact nd
   all_goals (refine nl ?_;simp only [go_sem])
   exact app_of rfl rfl hR.symm
noncomputable def con101:PCon Tryz.prog where
  f:=101
  c:=fun
   |[.lit (.string op),xns,.lit (.int .i64 num),xcs]=>match slK .i64 xns,arrsOf xcs with|some ns,some cs=>some (cs.length≤4096∧(∀ a∈cs,okA a),appV (applyS op ns num cs))|_,_=>none
   |_=>none
  ok:=by
   intro args p r hc hp
   split at hc
   ·split at hc
    ·rename_i hns hcs
     cases hc
     exact PC.weak ((fun hp:_∧_=>apply_pc hp.1 hp.2) hp) ⟨LeA.refl _,slK_le hns,LeA.refl _,arrsOf_le hcs,trivial⟩
    ·cases hc
   ·cases hc
  fk:=fk101
end Go.Proofs.YtcpjahmajkhchaaGreat.St
