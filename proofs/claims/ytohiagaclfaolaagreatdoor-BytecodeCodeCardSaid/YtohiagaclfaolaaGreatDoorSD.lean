import Derived.Test.YtohiagaclfaolaaGreatDoorSC
import Derived.Test.YtohiagaclfaolaaGreatDoorSB
import Derived.Test.YtohiagaclfaolaaGreatDoorSA
import Derived.Test.YtohiagaclfaolaaGreatDoorRows
import Derived.OpenShut

set_option linter.all false

namespace Go.Proofs.YtohiagaclfaolaaGreatDoor.Tx
open Go.Proofs.YtohiagaclfaolaaGreatDoor
open Go Go.Fw Bm
set_option maxRecDepth 20000
abbrev oBe15_0:List (Nat×Nat):=[(0,1),(1,1),(2,1),(3,1),(4,1),(5,1),(6,0),(7,1)]
abbrev oBe15_1:List (Nat×Nat):=[(0,1),(1,1),(2,1),(3,1),(4,1),(5,1),(6,1),(7,1),(8,1),(9,0),(10,1),(11,0),(12,1),(13,0),(14,1),(15,0)]
abbrev oBe15_2:List (Nat×Nat):=[(0,1),(1,1),(2,1),(3,1),(4,1),(5,1),(6,1),(7,1),(8,1),(9,0),(10,1)]
attribute [go_sem] oBe15_0 oBe15_1 oBe15_2
def lastC (N:List UInt8):Nat→Int
  |0=>0
  |c+1=>if c=0 then 0 else if (ul (namL (c:Int))==N)=true then (c:Int) else lastC N c
theorem idxF_no {nm:Nat→ByteArray} {w:List UInt8}:∀ (f i:Nat),(∀ j,j<i+f→eqS (nm j) (bs w)=false)→idxF nm w f i= -1
  |0,_,_=>rfl
  |f+1,i,h=>by
   rw [idxF,if_neg (by rw [h i (by omega)];decide)]
   exact idxF_no f (i+1) fun j hj=>h j (by omega)
theorem nm_all:∀ j:Fin 16,ul (nmB j.val)=ul (namL (j.val:Int)):=by decide+kernel
theorem last_all:∀ j:Fin 16,lastC (ul (nmB j.val)) 16=rcode (ul (nmB j.val)):=by decide+kernel
theorem lastC_no {N:List UInt8} (h:∀ j:Nat,j<16→ul (namL (j:Int))≠N):∀ c,c≤16→lastC N c=0
  |0,_=>rfl
  |c+1,hc=>by
   rw [lastC]
   split
   ·rfl
   ·rw [if_neg (by simpa using h c (by omega))];exact lastC_no h c (by omega)
theorem code_eq (N:List UInt8):lastC N 16=rcode N:=by
  by_cases h:∃ j:Fin 16,N=ul (nmB j.val)
  ·obtain ⟨j,rfl⟩:=h;exact last_all j
  ·have hn:∀ j,j<16→ul (nmB j)≠N:=fun j hj e=>h ⟨⟨j,hj⟩,e.symm⟩
   rw [lastC_no (fun j hj=>by rw [←nm_all ⟨j,hj⟩];exact hn j hj) 16 (Nat.le_refl _)]
   unfold rcode
   rw [idxF_no 16 0 fun j hj=>?_]
   ·rfl
   ·rw [←bs_ul (nmB j),eqS_bs]
    simpa using hn j (by omega)
def rrW (s:List UInt8) (k:Int) (p:List UInt8) (R:List (List UInt8)):AV:=match formS (mkI k p []) with
    |none=> .tup [opV nilI,.lit (.bool false)]
    |some f=>if R.length≠f.length then .tup [opV nilI,.lit (.bool false)] else
     .tup [opV (mkI k p (rnums f R)),.lit (.bool (rightS (mkI k p (rnums f R)) 200&&(lineB (mkI k p (rnums f R))==s)))]
def rreadV (s:List UInt8):AV:=match splitW 32 s with
  |[]=> .top
  |w::ws=>rrW s (rcode w) (hdP (rcode w) ws) (tlP (rcode w) ws)
theorem rreadV_spec (s:List UInt8):∃ y b,rreadV s= .tup [opV y,.lit (.bool b)]∧(b=true→rreadS s=some y)∧(b=false→rreadS s=none):=by
  unfold rreadV rreadS
  cases h:splitW 32 s with
  |nil=>exact absurd h (splitW_ne 32 s)
  |cons w ws=>
   simp only [rreadW,rrW]
   cases hF:formS (mkI (rcode w) (hdP (rcode w) ws) []) with
   |none=>exact ⟨_,_,rfl,fun h=>(by cases h),fun _=>rfl⟩
   |some f=>
    simp only
    by_cases hl:(tlP (rcode w) ws).length≠f.length
    ·rw [if_pos hl,if_pos hl];exact ⟨_,_,rfl,fun h=>(by cases h),fun _=>rfl⟩
    ·rw [if_neg hl,if_neg hl]
     refine ⟨_,_,rfl,fun h=>?_,fun h=>?_⟩
     ·simp only [Bool.and_eq_true,beq_iff_eq] at h
      unfold accS
      rw [if_pos h]
     ·unfold accS
      rw [if_neg]
      intro hh
      rw [hh.1,hh.2] at h
      simp at h
noncomputable def con90:PCon Tryz.prog where
  f:=90
  c:=fun
   |[.lit (.string s)]=>some ((ul s).length≤1000000,.sl false 1 (txs (splitW 32 (ul s))))
   |_=>none
  ok:=by
   intro args p r hc hp
   split at hc
   ·rename_i s
    obtain ⟨l,rfl⟩:=bs_ex s
    cases hc;rw [ul_bs] at*;exact words_pc hp
   ·cases hc
  fk:=fk90
theorem con90_f:con90.f=90:=rfl
theorem con90_c {l:List UInt8}:con90.c [.lit (.string (bs l))]=some (l.length≤1000000,.sl false 1 (txs (splitW 32 l))):=by
  show some ((ul (bs l)).length≤1000000,AV.sl false 1 (txs (splitW 32 (ul (bs l)))))=_
  rw [ul_bs]
noncomputable def con91:PCon Tryz.prog where
  f:=91
  c:=fun
   |[.lit (.string s)]=>some ((ul s).length≤1000000,.lit (.int .i64 (numS (ul s))))
   |_=>none
  ok:=by
   intro args p r hc hp
   split at hc
   ·rename_i s
    obtain ⟨l,rfl⟩:=bs_ex s
    cases hc;rw [ul_bs] at*;exact number_pc hp
   ·cases hc
  fk:=fk91
theorem con91_f:con91.f=91:=rfl
theorem con91_c {l:List UInt8}:con91.c [.lit (.string (bs l))]=some (l.length≤1000000,.lit (.int .i64 (numS l))):=by
  show some ((ul (bs l)).length≤1000000,AV.lit (.int .i64 (numS (ul (bs l)))))=_
  rw [ul_bs]
noncomputable def con51:PCon Tryz.prog where
  f:=51
  c:=fun
   |[x]=>match opOf x with
    |some x=>some (rightS x 200=true,.lit (.string (bs (lineB x))))
    |none=>none
   |_=>none
  ok:=by
   intro args p r hc hp
   split at hc
   ·split at hc
    ·rename_i x hx
     cases hc
     rw [opOf_inv hx]
     obtain ⟨f,h⟩:=right_rti hp
     exact rline_pc h
    ·cases hc
   ·cases hc
  fk:=fk51
theorem con51_f:con51.f=51:=rfl
theorem con51_c {x:AV}:con51.c [x]=match opOf x with
      |some x=>some (rightS x 200=true,.lit (.string (bs (lineB x))))
      |none=>none:=rfl
attribute [go_sem] con90_f con90_c con91_f con91_c con51_f con51_c con50_f con50_c
noncomputable def Y15:Env:=envJ (P:=Tryz.prog) jkV zer (fun _=>false) (fun _=>false) [con50,con51,con83,con85,con90,con91] []
theorem Y15_ok:EnvOk Tryz.prog Y15:=envJOk zer_ok
theorem rn_at {f:List Bool} {R:List (List UInt8)} {j:Nat}:(rnums f R).getD j 0=oc (fun j=>numS (if f.getD j false=true then (R.getD j []).tail else R.getD j [])) f.length j:=by
  unfold rnums oc;exact range_get
set_option maxHeartbeats 32000000 in
theorem rread_pc {s:List UInt8} (hs:s.length≤100000):PC Tryz.prog 54 [.lit (.string (bs s))] (rreadV s):=by
  obtain ⟨N,R0,hsp⟩:∃ N R0,splitW 32 s=N::R0:=by
    cases h:splitW 32 s with
    |nil=>exact absurd h (splitW_ne 32 s)
    |cons a b=>exact ⟨a,b,rfl⟩
  have hsl:=splitW_len (c:=32) s
  have hcl:s.count 32≤s.length:=List.count_le_length
  have hln:∀ i,(R0.getD i []).length≤100000:=fun i=>by
    have:= @splitW_le 32 s (i+1)
    rw [hsp,List.getD_cons_succ] at this
    omega
  rw [hsp,List.length_cons] at hsl
  have hP:rreadV s=rrW s (rcode N) (hdP (rcode N) R0) (tlP (rcode N) R0):=by unfold rreadV;rw [hsp]
  rw [hP]
  clear hP
  have htk:∀ (A:List UInt8) (B:List (List UInt8)),List.take (B.length+1) (txs (A::B))=txs (A::B):=fun A B=>by rw [←List.length_cons (a:=A),←txs_length];exact take_all _
  have hdr:∀ (A:List UInt8) (B:List (List UInt8)),List.drop 1 (txs (A::B))=txs B:=fun _ _=>rfl
  have hcd:=code_eq N
  generalize hK:rcode N=k at*
  have nil0:opV nilI= .agg [.lit (.int .i64 0),.lit (.string (bs [])),.lit (.int .i64 0),.lit (.int .i64 0),.lit (.int .i64 0),.lit (.int .i64 0)]:=rfl
  by_cases hk:k=5
  ·have hk5:((5:Int)==5)=true:=rfl
   have hcd5:lastC N 16=5:=by rw [hcd,hk]
   clear hcd
   subst hk
   cases R0 with
   |nil=>
    show PC _ _ _ (rrW s 5 [] [])
    generalize hR:rrW s 5 [] []=RES
    have hcd:=hcd5
    have gz:decide ((0:Int)>0)=false:=by decide
    have hlr:∀ i,(([]:List (List UInt8)).getD i []).length≤100000:=fun i=>by simp
    have htk2:List.take (0+1) (txs [N])=txs [N]:=rfl
    have htk3:List.take 1 (txs [N])=txs [N]:=rfl
    refine pcR Y15_ok (kp54) Tryz.func54 [.cell 2 50,.tmp 3] (h:=fun KF=>?_)
    unfold Y15
    repeat' first|(with_reducible first|(refine nx ?_;intros)|apply And.intro|intro vr)|exact kpd|((with_reducible first|refine ny ?_|refine t_kLF ?_ ?_|refine t_dO 10 (fun i=>i==0) oBe15_0 fun K=>?_|refine t_dO 22 (fun i=>i==2) oBe15_1 fun K=>?_|refine t_dO 23 (fun i=>i==1) oBe15_2 fun K=>?_|refine t_dwh (h:=fun K KL=>?_));intros;simp only [go_sem,kp54,geff,hsp,txs_length,List.length_cons,yes])
    all_goals try exact nd
    refine t_loopF (ι:={c:Nat // 1≤c∧c≤16}) (fun i=>[(6,.lit (.int .i64 (i.1:Int)))]) (fun i=>[.box 50 [.lit (.int .i64 0),.lit (.string (bs [])),.lit (.int .i64 0),.lit (.int .i64 0),.lit (.int .i64 0),.lit (.int .i64 0)],.box 50 [.lit (.int .i64 (lastC N i.1)),.lit (.string (bs [])),.lit (.int .i64 0),.lit (.int .i64 0),.lit (.int .i64 0),.lit (.int .i64 0)]]) (fun i=>17 - i.1) ⟨1,by omega,by omega⟩ ?_ ?_
    ·exact lf
    rintro ⟨c,hc1,hc2⟩ K0
    rcases Nat.lt_or_ge c 16 with hcc|hcc
    ·have w1:decide ((c:Int)≤15)=true:=decide_eq_true (by omega)
     have w3:(0:Int)<((([]:List (List UInt8)).length+1:Nat):Int):=by omega
     have hlc:lastC N (c+1)=if (ul (namL (c:Int))==N)=true then (c:Int) else lastC N c:=by rw [lastC,if_neg (by omega)]
     cases hcn:(ul (namL (c:Int))==N) with
     |true=>
      rw [if_pos hcn] at hlc
      repeat' first|(with_reducible first|(refine nx ?_;intros)|apply And.intro|intro vr)|exact kpd|((with_reducible first|refine ny ?_|refine t_kLF ?_ ?_|refine t_dO 10 (fun i=>i==0) oBe15_0 fun K=>?_|refine t_dO 22 (fun i=>i==2) oBe15_1 fun K=>?_|refine t_dO 23 (fun i=>i==1) oBe15_2 fun K=>?_|refine t_dwh (h:=fun K KL=>?_));intros;simp only [go_sem,kp54,geff,w1,hcn,txs_hd0,txs_length,List.length_cons,yes])
      all_goals try exact nd
      refine ⟨⟨c+1,by omega,by omega⟩,by simp only;omega,?_⟩
      simp only [hlc]
      first|exact lf|(refine Le.frameS (by first|rfl|(simp only [go_sem];try rfl)) ?_;repeat' (first|exact leF_top _|exact (fun _=>LeR.refl _)|(with_reducible refine leF_sl ?_ ?_)|(refine leF_upd ?_ ?_)))<;>(first|exact LeR.top _|exact LeR.refl _|(refine LeR.of_eq ?_;(try simp only [go_sem]);try rfl)|((try simp only [go_sem]);try rfl))
     |false=>
      rw [if_neg (by rw [hcn];decide)] at hlc
      repeat' first|(with_reducible first|(refine nx ?_;intros)|apply And.intro|intro vr)|exact kpd|((with_reducible first|refine ny ?_|refine t_kLF ?_ ?_|refine t_dO 10 (fun i=>i==0) oBe15_0 fun K=>?_|refine t_dO 22 (fun i=>i==2) oBe15_1 fun K=>?_|refine t_dO 23 (fun i=>i==1) oBe15_2 fun K=>?_|refine t_dwh (h:=fun K KL=>?_));intros;simp only [go_sem,kp54,geff,w1,hcn,txs_hd0,txs_length,List.length_cons,yes])
      all_goals try exact nd
      refine ⟨⟨c+1,by omega,by omega⟩,by simp only;omega,?_⟩
      simp only [hlc]
      first|exact lf|(refine Le.frameS (by first|rfl|(simp only [go_sem];try rfl)) ?_;repeat' (first|exact leF_top _|exact (fun _=>LeR.refl _)|(with_reducible refine leF_sl ?_ ?_)|(refine leF_upd ?_ ?_)))<;>(first|exact LeR.top _|exact LeR.refl _|(refine LeR.of_eq ?_;(try simp only [go_sem]);try rfl)|((try simp only [go_sem]);try rfl))
    obtain rfl:c=16:=by omega
    have w1:decide (((16:Nat):Int)≤15)=false:=by decide
    cases hF:formS (mkI 5 ([]:List UInt8) []) with
    |none=>
     have hV:formV ⟨5,bs ([]:List UInt8),0,0,0,0⟩=_:=formV_none hF
     repeat' first|(with_reducible first|(refine nx ?_;intros)|apply And.intro|intro vr)|exact kpd|((with_reducible first|refine ny ?_|refine t_kLF ?_ ?_|refine t_dO 10 (fun i=>i==0) oBe15_0 fun K=>?_|refine t_dO 22 (fun i=>i==2) oBe15_1 fun K=>?_|refine t_dO 23 (fun i=>i==1) oBe15_2 fun K=>?_|refine t_dwh (h:=fun K KL=>?_));intros;simp only [go_sem,kp54,geff,w1,hcd,hk5,hV,gz,htk2,htk3,List.length_nil,hdr,htk,txs_hd0,txs_length,List.length_cons,yes])
     all_goals try exact nd
     all_goals (refine nl ?_;simp only [go_sem])
     exact LeA.of_eq (by rw [←hR];simp only [rrW,hF];rfl)
    |some f=>
     have hV:formV ⟨5,bs ([]:List UInt8),0,0,0,0⟩=_:=formV_some hF
     have hsz:=frB_size f
     have hf4:=formS_len hF
     by_cases hlen:(([]:List (List UInt8))).length≠f.length
     ·have g4:(((([]:List (List UInt8))).length:Int) !=(f.length:Int))=true:=by rw [bne_iff_ne];omega
      have hl0:f.length≠0:=fun e=>hlen (by rw [e];rfl)
      have g4':((0:Int) !=(f.length:Int))=true:=by rw [bne_iff_ne];omega
      repeat' first|(with_reducible first|(refine nx ?_;intros)|apply And.intro|intro vr)|exact kpd|((with_reducible first|refine ny ?_|refine t_kLF ?_ ?_|refine t_dO 10 (fun i=>i==0) oBe15_0 fun K=>?_|refine t_dO 22 (fun i=>i==2) oBe15_1 fun K=>?_|refine t_dO 23 (fun i=>i==1) oBe15_2 fun K=>?_|refine t_dwh (h:=fun K KL=>?_));intros;simp only [go_sem,kp54,geff,w1,hcd,hk5,hV,hsz,g4,g4',gz,htk2,htk3,List.length_nil,hdr,htk,txs_hd0,txs_length,List.length_cons,yes])
      all_goals try exact nd
      all_goals (refine nl ?_;simp only [go_sem])
      exact LeA.of_eq (by rw [←hR];simp only [rrW,hF,if_pos hlen];rfl)
     have hle:(([]:List (List UInt8))).length=f.length:=by omega
     have g4:(((([]:List (List UInt8))).length:Int) !=(f.length:Int))=false:=by rw [bne_eq_false_iff_eq];omega
     have hl0:f.length=0:=by simpa using hle.symm
     have g4':((0:Int) !=(f.length:Int))=false:=by rw [bne_eq_false_iff_eq];omega
     generalize hvv:(fun j=>numS (if f.getD j false=true then ((([]:List (List UInt8))).getD j []).tail else (([]:List (List UInt8))).getD j []))=v
     have hmk:mkI 5 ([]:List UInt8) (rnums f (([]:List (List UInt8))))=⟨5,bs ([]:List UInt8),oc v f.length 0,oc v f.length 1,oc v f.length 2,oc v f.length 3⟩:=by unfold mkI;rw [rn_at,rn_at,rn_at,rn_at,hvv]
     have hR2:AV.tup [opV ⟨5,bs ([]:List UInt8),oc v f.length 0,oc v f.length 1,oc v f.length 2,oc v f.length 3⟩,.lit (.bool (rightS ⟨5,bs ([]:List UInt8),oc v f.length 0,oc v f.length 1,oc v f.length 2,oc v f.length 3⟩ 200&&(lineB ⟨5,bs ([]:List UInt8),oc v f.length 0,oc v f.length 1,oc v f.length 2,oc v f.length 3⟩==s)))]=RES:=by rw [←hR];simp only [rrW,hF,if_neg hlen,hmk]
     clear hmk hR
     repeat' first|(with_reducible first|(refine nx ?_;intros)|apply And.intro|intro vr)|exact kpd|((with_reducible first|refine ny ?_|refine t_kLF ?_ ?_|refine t_dO 10 (fun i=>i==0) oBe15_0 fun K=>?_|refine t_dO 22 (fun i=>i==2) oBe15_1 fun K=>?_|refine t_dO 23 (fun i=>i==1) oBe15_2 fun K=>?_|refine t_dwh (h:=fun K KL=>?_));intros;simp only [go_sem,kp54,geff,w1,hcd,hk5,hV,hsz,g4,g4',gz,htk2,htk3,List.length_nil,hdr,htk,txs_hd0,txs_length,List.length_cons,yes])
     all_goals try exact nd
     refine t_loopF (ι:={q:Nat // q≤f.length}) (fun i=>[(10,.lit (.int .i64 (i.1:Int)))]) (fun i=>[.box 50 [.lit (.int .i64 0),.lit (.string (bs [])),.lit (.int .i64 0),.lit (.int .i64 0),.lit (.int .i64 0),.lit (.int .i64 0)],.box 50 [.lit (.int .i64 5),.lit (.string (bs ([]:List UInt8))),.lit (.int .i64 0),.lit (.int .i64 0),.lit (.int .i64 0),.lit (.int .i64 0)],.box 114 [.lit (.int .i64 (oc v i.1 0)),.lit (.int .i64 (oc v i.1 1)),.lit (.int .i64 (oc v i.1 2)),.lit (.int .i64 (oc v i.1 3))]]) (fun i=>f.length - i.1) ⟨0,by omega⟩ ?_ ?_
     ·exact lf
     rintro ⟨i,hi⟩ K1
     have hdx:∀ i,List.getD (txs (([]:List (List UInt8)))) i (.lit (.string (bs [])))= .lit (.string (bs ((([]:List (List UInt8))).getD i []))):=fun i=>txs_getJ _ i
     rcases Nat.lt_or_ge i f.length with hc|hc
     ·exact absurd hc (by omega)
     ·have hiL:i=f.length:=by omega
      subst hiL
      clear hvv
      generalize oc v f.length 0=c0 at*
      generalize oc v f.length 1=c1 at*
      generalize oc v f.length 2=c2 at*
      generalize oc v f.length 3=c3 at*
      have g2:decide ((f.length:Int)<(f.length:Int))=false:=decide_eq_false (by omega)
      cases hri:rightS ⟨5,bs ([]:List UInt8),c0,c1,c2,c3⟩ 200 with
      |false=>
       repeat' first|(with_reducible first|(refine nx ?_;intros)|apply And.intro|intro vr)|exact kpd|((with_reducible first|refine ny ?_|refine t_kLF ?_ ?_|refine t_dO 10 (fun i=>i==0) oBe15_0 fun K=>?_|refine t_dO 22 (fun i=>i==2) oBe15_1 fun K=>?_|refine t_dO 23 (fun i=>i==1) oBe15_2 fun K=>?_|refine t_dwh (h:=fun K KL=>?_));intros;simp only [go_sem,kp54,geff,hsz,g2,hri,yes])
       all_goals try exact nd
       all_goals (refine nl ?_;simp only [go_sem])
       exact LeA.of_eq (by rw [←hR2,hri];rfl)
      |true=>
       repeat' first|(with_reducible first|(refine nx ?_;intros)|apply And.intro|intro vr)|exact kpd|((with_reducible first|refine ny ?_|refine t_kLF ?_ ?_|refine t_dO 10 (fun i=>i==0) oBe15_0 fun K=>?_|refine t_dO 22 (fun i=>i==2) oBe15_1 fun K=>?_|refine t_dO 23 (fun i=>i==1) oBe15_2 fun K=>?_|refine t_dwh (h:=fun K KL=>?_));intros;simp only [go_sem,kp54,geff,hsz,g2,hri,yes])
       all_goals try exact nd
       all_goals (refine nl ?_;simp only [go_sem])
       exact LeA.of_eq (by rw [←hR2,hri,Bool.true_and];rfl)
   |cons q R1=>
    show PC _ _ _ (rrW s 5 q R1)
    generalize hR:rrW s 5 q R1=RES
    have hcd:=hcd5
    have gz:decide (((R1.length+1:Nat):Int)>0)=true:=decide_eq_true (by omega)
    have htk2:List.take (R1.length+1+1) (txs (N::q::R1))=txs (N::q::R1):=htk N (q::R1)
    have htk3:List.take (R1.length+1) (txs (q::R1))=txs (q::R1):=htk q R1
    have gx:(0:Int)<((R1.length+1:Nat):Int):=by omega
    have hlr:∀ i,(R1.getD i []).length≤100000:=fun i=>hln (i+1)
    refine pcR Y15_ok (kp54) Tryz.func54 [.cell 2 50,.tmp 3] (h:=fun KF=>?_)
    unfold Y15
    repeat' first|(with_reducible first|(refine nx ?_;intros)|apply And.intro|intro vr)|exact kpd|((with_reducible first|refine ny ?_|refine t_kLF ?_ ?_|refine t_dO 10 (fun i=>i==0) oBe15_0 fun K=>?_|refine t_dO 22 (fun i=>i==2) oBe15_1 fun K=>?_|refine t_dO 23 (fun i=>i==1) oBe15_2 fun K=>?_|refine t_dwh (h:=fun K KL=>?_));intros;simp only [go_sem,kp54,geff,hsp,txs_length,List.length_cons,yes])
    all_goals try exact nd
    refine t_loopF (ι:={c:Nat // 1≤c∧c≤16}) (fun i=>[(6,.lit (.int .i64 (i.1:Int)))]) (fun i=>[.box 50 [.lit (.int .i64 0),.lit (.string (bs [])),.lit (.int .i64 0),.lit (.int .i64 0),.lit (.int .i64 0),.lit (.int .i64 0)],.box 50 [.lit (.int .i64 (lastC N i.1)),.lit (.string (bs [])),.lit (.int .i64 0),.lit (.int .i64 0),.lit (.int .i64 0),.lit (.int .i64 0)]]) (fun i=>17 - i.1) ⟨1,by omega,by omega⟩ ?_ ?_
    ·exact lf
    rintro ⟨c,hc1,hc2⟩ K0
    rcases Nat.lt_or_ge c 16 with hcc|hcc
    ·have w1:decide ((c:Int)≤15)=true:=decide_eq_true (by omega)
     have w3:(0:Int)<(((q::R1).length+1:Nat):Int):=by omega
     have hlc:lastC N (c+1)=if (ul (namL (c:Int))==N)=true then (c:Int) else lastC N c:=by rw [lastC,if_neg (by omega)]
     cases hcn:(ul (namL (c:Int))==N) with
     |true=>
      rw [if_pos hcn] at hlc
      repeat' first|(with_reducible first|(refine nx ?_;intros)|apply And.intro|intro vr)|exact kpd|((with_reducible first|refine ny ?_|refine t_kLF ?_ ?_|refine t_dO 10 (fun i=>i==0) oBe15_0 fun K=>?_|refine t_dO 22 (fun i=>i==2) oBe15_1 fun K=>?_|refine t_dO 23 (fun i=>i==1) oBe15_2 fun K=>?_|refine t_dwh (h:=fun K KL=>?_));intros;simp only [go_sem,kp54,geff,w1,hcn,txs_hd0,txs_length,List.length_cons,yes])
      all_goals try exact nd
      refine ⟨⟨c+1,by omega,by omega⟩,by simp only;omega,?_⟩
      simp only [hlc]
      first|exact lf|(refine Le.frameS (by first|rfl|(simp only [go_sem];try rfl)) ?_;repeat' (first|exact leF_top _|exact (fun _=>LeR.refl _)|(with_reducible refine leF_sl ?_ ?_)|(refine leF_upd ?_ ?_)))<;>(first|exact LeR.top _|exact LeR.refl _|(refine LeR.of_eq ?_;(try simp only [go_sem]);try rfl)|((try simp only [go_sem]);try rfl))
     |false=>
      rw [if_neg (by rw [hcn];decide)] at hlc
      repeat' first|(with_reducible first|(refine nx ?_;intros)|apply And.intro|intro vr)|exact kpd|((with_reducible first|refine ny ?_|refine t_kLF ?_ ?_|refine t_dO 10 (fun i=>i==0) oBe15_0 fun K=>?_|refine t_dO 22 (fun i=>i==2) oBe15_1 fun K=>?_|refine t_dO 23 (fun i=>i==1) oBe15_2 fun K=>?_|refine t_dwh (h:=fun K KL=>?_));intros;simp only [go_sem,kp54,geff,w1,hcn,txs_hd0,txs_length,List.length_cons,yes])
      all_goals try exact nd
      refine ⟨⟨c+1,by omega,by omega⟩,by simp only;omega,?_⟩
      simp only [hlc]
      first|exact lf|(refine Le.frameS (by first|rfl|(simp only [go_sem];try rfl)) ?_;repeat' (first|exact leF_top _|exact (fun _=>LeR.refl _)|(with_reducible refine leF_sl ?_ ?_)|(refine leF_upd ?_ ?_)))<;>(first|exact LeR.top _|exact LeR.refl _|(refine LeR.of_eq ?_;(try simp only [go_sem]);try rfl)|((try simp only [go_sem]);try rfl))
    obtain rfl:c=16:=by omega
    have w1:decide (((16:Nat):Int)≤15)=false:=by decide
    cases hF:formS (mkI 5 (q) []) with
    |none=>
     have hV:formV ⟨5,bs (q),0,0,0,0⟩=_:=formV_none hF
     repeat' first|(with_reducible first|(refine nx ?_;intros)|apply And.intro|intro vr)|exact kpd|((with_reducible first|refine ny ?_|refine t_kLF ?_ ?_|refine t_dO 10 (fun i=>i==0) oBe15_0 fun K=>?_|refine t_dO 22 (fun i=>i==2) oBe15_1 fun K=>?_|refine t_dO 23 (fun i=>i==1) oBe15_2 fun K=>?_|refine t_dwh (h:=fun K KL=>?_));intros;simp only [go_sem,kp54,geff,w1,hcd,hk5,hV,gz,htk2,htk3,hdr,htk,txs_hd0,txs_length,List.length_cons,yes])
     all_goals try exact nd
     all_goals (refine nl ?_;simp only [go_sem])
     exact LeA.of_eq (by rw [←hR];simp only [rrW,hF];rfl)
    |some f=>
     have hV:formV ⟨5,bs (q),0,0,0,0⟩=_:=formV_some hF
     have hsz:=frB_size f
     have hf4:=formS_len hF
     by_cases hlen:(R1).length≠f.length
     ·have g4:(((R1).length:Int) !=(f.length:Int))=true:=by rw [bne_iff_ne];omega
      repeat' first|(with_reducible first|(refine nx ?_;intros)|apply And.intro|intro vr)|exact kpd|((with_reducible first|refine ny ?_|refine t_kLF ?_ ?_|refine t_dO 10 (fun i=>i==0) oBe15_0 fun K=>?_|refine t_dO 22 (fun i=>i==2) oBe15_1 fun K=>?_|refine t_dO 23 (fun i=>i==1) oBe15_2 fun K=>?_|refine t_dwh (h:=fun K KL=>?_));intros;simp only [go_sem,kp54,geff,w1,hcd,hk5,hV,hsz,g4,gz,htk2,htk3,hdr,htk,txs_hd0,txs_length,List.length_cons,yes])
      all_goals try exact nd
      all_goals (refine nl ?_;simp only [go_sem])
      exact LeA.of_eq (by rw [←hR];simp only [rrW,hF,if_pos hlen];rfl)
     have hle:(R1).length=f.length:=by omega
     have g4:(((R1).length:Int) !=(f.length:Int))=false:=by rw [bne_eq_false_iff_eq];omega
     generalize hvv:(fun j=>numS (if f.getD j false=true then ((R1).getD j []).tail else (R1).getD j []))=v
     have hmk:mkI 5 (q) (rnums f (R1))=⟨5,bs (q),oc v f.length 0,oc v f.length 1,oc v f.length 2,oc v f.length 3⟩:=by unfold mkI;rw [rn_at,rn_at,rn_at,rn_at,hvv]
     have hR2:AV.tup [opV ⟨5,bs (q),oc v f.length 0,oc v f.length 1,oc v f.length 2,oc v f.length 3⟩,.lit (.bool (rightS ⟨5,bs (q),oc v f.length 0,oc v f.length 1,oc v f.length 2,oc v f.length 3⟩ 200&&(lineB ⟨5,bs (q),oc v f.length 0,oc v f.length 1,oc v f.length 2,oc v f.length 3⟩==s)))]=RES:=by rw [←hR];simp only [rrW,hF,if_neg hlen,hmk]
     clear hmk hR
     repeat' first|(with_reducible first|(refine nx ?_;intros)|apply And.intro|intro vr)|exact kpd|((with_reducible first|refine ny ?_|refine t_kLF ?_ ?_|refine t_dO 10 (fun i=>i==0) oBe15_0 fun K=>?_|refine t_dO 22 (fun i=>i==2) oBe15_1 fun K=>?_|refine t_dO 23 (fun i=>i==1) oBe15_2 fun K=>?_|refine t_dwh (h:=fun K KL=>?_));intros;simp only [go_sem,kp54,geff,w1,hcd,hk5,hV,hsz,g4,gz,htk2,htk3,hdr,htk,txs_hd0,txs_length,List.length_cons,yes])
     all_goals try exact nd
     refine t_loopF (ι:={q:Nat // q≤f.length}) (fun i=>[(10,.lit (.int .i64 (i.1:Int)))]) (fun i=>[.box 50 [.lit (.int .i64 0),.lit (.string (bs [])),.lit (.int .i64 0),.lit (.int .i64 0),.lit (.int .i64 0),.lit (.int .i64 0)],.box 50 [.lit (.int .i64 5),.lit (.string (bs (q))),.lit (.int .i64 0),.lit (.int .i64 0),.lit (.int .i64 0),.lit (.int .i64 0)],.box 114 [.lit (.int .i64 (oc v i.1 0)),.lit (.int .i64 (oc v i.1 1)),.lit (.int .i64 (oc v i.1 2)),.lit (.int .i64 (oc v i.1 3))]]) (fun i=>f.length - i.1) ⟨0,by omega⟩ ?_ ?_
     ·exact lf
     rintro ⟨i,hi⟩ K1
     have hdx:∀ i,List.getD (txs (R1)) i (.lit (.string (bs [])))= .lit (.string (bs ((R1).getD i []))):=fun i=>txs_getJ _ i
     rcases Nat.lt_or_ge i f.length with hc|hc
     ·have hil:((R1).getD i []).length≤100000:=hlr i
      have hvi:numS (if f.getD i false=true then ((R1).getD i []).tail else (R1).getD i [])=v i:=by rw [←hvv]
      have hoc:∀ j,j≠i→oc v (i+1) j=oc v i j:=fun j hj=>by
        unfold oc;by_cases h:j<i
        ·rw [if_pos (by omega),if_pos h]
        ·rw [if_neg (by omega),if_neg h]
      have hoi:oc v (i+1) i=v i:=by unfold oc;rw [if_pos (by omega)]
      rcases (show i=0∨i=1∨i=2∨i=3 by omega) with rfl|rfl|rfl|rfl
      ·have hi0:((((0:Nat):Int)):Int)=0:=rfl
       have g2:decide ((0:Int)<(f.length:Int))=true:=decide_eq_true (by omega)
       have g3:(0:Int)<((R1).length:Int):=by omega
       have o0:=hoi
       have o1:=hoc 1 (by decide)
       have o2:=hoc 2 (by decide)
       have o3:=hoc 3 (by decide)
       generalize hT:(R1).getD 0 []=T at*
       cases hr:f.getD 0 false with
       |true=>
        have g5:strAt (frB f) 0=114:=by rw [frB_at f 0 hc,hr];rfl
        rw [if_pos hr] at hvi
        cases T with
        |nil=>
         have g6:decide ((0:Int)>0)=false:=by decide
         have hvi2:numS []=v 0:=hvi
         repeat' first|(with_reducible first|(refine nx ?_;intros)|apply And.intro|intro vr)|exact kpd|((with_reducible first|refine ny ?_|refine t_kLF ?_ ?_|refine t_dO 10 (fun i=>i==0) oBe15_0 fun K=>?_|refine t_dO 22 (fun i=>i==2) oBe15_1 fun K=>?_|refine t_dO 23 (fun i=>i==1) oBe15_2 fun K=>?_|refine t_dwh (h:=fun K KL=>?_));intros;simp only [go_sem,kp54,geff,hsz,hi0,g2,g5,g6,hT,hvi2,List.length_nil,yes])
         all_goals try exact nd
         refine ⟨⟨1,by omega⟩,by simp only;omega,?_⟩
         simp only [o0,o1,o2,o3]
         first|exact lf|(refine Le.frameS (by first|rfl|(simp only [go_sem];try rfl)) ?_;repeat' (first|exact leF_top _|exact (fun _=>LeR.refl _)|(with_reducible refine leF_sl ?_ ?_)|(refine leF_upd ?_ ?_)))<;>(first|exact LeR.top _|exact LeR.refl _|(refine LeR.of_eq ?_;(try simp only [go_sem]);try rfl)|((try simp only [go_sem]);try rfl))
        |cons c0 T=>
         have g6:decide (((T.length+1:Nat):Int)>0)=true:=decide_eq_true (by omega)
         have g7:List.drop 1 (List.take (T.length+1) (c0::T))=T:=by rw [←List.length_cons (a:=c0),List.take_length];rfl
         have hvi2:numS T=v 0:=hvi
         have hTl:T.length+1≤100000:=hil
         repeat' first|(with_reducible first|(refine nx ?_;intros)|apply And.intro|intro vr)|exact kpd|((with_reducible first|refine ny ?_|refine t_kLF ?_ ?_|refine t_dO 10 (fun i=>i==0) oBe15_0 fun K=>?_|refine t_dO 22 (fun i=>i==2) oBe15_1 fun K=>?_|refine t_dO 23 (fun i=>i==1) oBe15_2 fun K=>?_|refine t_dwh (h:=fun K KL=>?_));intros;simp only [go_sem,kp54,geff,hsz,hi0,g2,g5,g6,g7,hT,hvi2,List.length_cons,yes])
         all_goals try exact nd
         refine ⟨⟨1,by omega⟩,by simp only;omega,?_⟩
         simp only [o0,o1,o2,o3]
         first|exact lf|(refine Le.frameS (by first|rfl|(simp only [go_sem];try rfl)) ?_;repeat' (first|exact leF_top _|exact (fun _=>LeR.refl _)|(with_reducible refine leF_sl ?_ ?_)|(refine leF_upd ?_ ?_)))<;>(first|exact LeR.top _|exact LeR.refl _|(refine LeR.of_eq ?_;(try simp only [go_sem]);try rfl)|((try simp only [go_sem]);try rfl))
       |false=>
        have g5:strAt (frB f) 0=110:=by rw [frB_at f 0 hc,hr];rfl
        rw [if_neg (by rw [hr];decide)] at hvi
        repeat' first|(with_reducible first|(refine nx ?_;intros)|apply And.intro|intro vr)|exact kpd|((with_reducible first|refine ny ?_|refine t_kLF ?_ ?_|refine t_dO 10 (fun i=>i==0) oBe15_0 fun K=>?_|refine t_dO 22 (fun i=>i==2) oBe15_1 fun K=>?_|refine t_dO 23 (fun i=>i==1) oBe15_2 fun K=>?_|refine t_dwh (h:=fun K KL=>?_));intros;simp only [go_sem,kp54,geff,hsz,hi0,g2,g5,hT,hvi,yes])
        all_goals try exact nd
        refine ⟨⟨1,by omega⟩,by simp only;omega,?_⟩
        simp only [o0,o1,o2,o3]
        first|exact lf|(refine Le.frameS (by first|rfl|(simp only [go_sem];try rfl)) ?_;repeat' (first|exact leF_top _|exact (fun _=>LeR.refl _)|(with_reducible refine leF_sl ?_ ?_)|(refine leF_upd ?_ ?_)))<;>(first|exact LeR.top _|exact LeR.refl _|(refine LeR.of_eq ?_;(try simp only [go_sem]);try rfl)|((try simp only [go_sem]);try rfl))
      ·have hi0:((((1:Nat):Int)):Int)=1:=rfl
       have g2:decide ((1:Int)<(f.length:Int))=true:=decide_eq_true (by omega)
       have g3:(1:Int)<((R1).length:Int):=by omega
       have o0:=hoc 0 (by decide)
       have o1:=hoi
       have o2:=hoc 2 (by decide)
       have o3:=hoc 3 (by decide)
       generalize hT:(R1).getD 1 []=T at*
       cases hr:f.getD 1 false with
       |true=>
        have g5:strAt (frB f) 1=114:=by rw [frB_at f 1 hc,hr];rfl
        rw [if_pos hr] at hvi
        cases T with
        |nil=>
         have g6:decide ((0:Int)>0)=false:=by decide
         have hvi2:numS []=v 1:=hvi
         repeat' first|(with_reducible first|(refine nx ?_;intros)|apply And.intro|intro vr)|exact kpd|((with_reducible first|refine ny ?_|refine t_kLF ?_ ?_|refine t_dO 10 (fun i=>i==0) oBe15_0 fun K=>?_|refine t_dO 22 (fun i=>i==2) oBe15_1 fun K=>?_|refine t_dO 23 (fun i=>i==1) oBe15_2 fun K=>?_|refine t_dwh (h:=fun K KL=>?_));intros;simp only [go_sem,kp54,geff,hsz,hi0,g2,g5,g6,hT,hvi2,List.length_nil,yes])
         all_goals try exact nd
         refine ⟨⟨2,by omega⟩,by simp only;omega,?_⟩
         simp only [o0,o1,o2,o3]
         first|exact lf|(refine Le.frameS (by first|rfl|(simp only [go_sem];try rfl)) ?_;repeat' (first|exact leF_top _|exact (fun _=>LeR.refl _)|(with_reducible refine leF_sl ?_ ?_)|(refine leF_upd ?_ ?_)))<;>(first|exact LeR.top _|exact LeR.refl _|(refine LeR.of_eq ?_;(try simp only [go_sem]);try rfl)|((try simp only [go_sem]);try rfl))
        |cons c0 T=>
         have g6:decide (((T.length+1:Nat):Int)>0)=true:=decide_eq_true (by omega)
         have g7:List.drop 1 (List.take (T.length+1) (c0::T))=T:=by rw [←List.length_cons (a:=c0),List.take_length];rfl
         have hvi2:numS T=v 1:=hvi
         have hTl:T.length+1≤100000:=hil
         repeat' first|(with_reducible first|(refine nx ?_;intros)|apply And.intro|intro vr)|exact kpd|((with_reducible first|refine ny ?_|refine t_kLF ?_ ?_|refine t_dO 10 (fun i=>i==0) oBe15_0 fun K=>?_|refine t_dO 22 (fun i=>i==2) oBe15_1 fun K=>?_|refine t_dO 23 (fun i=>i==1) oBe15_2 fun K=>?_|refine t_dwh (h:=fun K KL=>?_));intros;simp only [go_sem,kp54,geff,hsz,hi0,g2,g5,g6,g7,hT,hvi2,List.length_cons,yes])
         all_goals try exact nd
         refine ⟨⟨2,by omega⟩,by simp only;omega,?_⟩
         simp only [o0,o1,o2,o3]
         first|exact lf|(refine Le.frameS (by first|rfl|(simp only [go_sem];try rfl)) ?_;repeat' (first|exact leF_top _|exact (fun _=>LeR.refl _)|(with_reducible refine leF_sl ?_ ?_)|(refine leF_upd ?_ ?_)))<;>(first|exact LeR.top _|exact LeR.refl _|(refine LeR.of_eq ?_;(try simp only [go_sem]);try rfl)|((try simp only [go_sem]);try rfl))
       |false=>
        have g5:strAt (frB f) 1=110:=by rw [frB_at f 1 hc,hr];rfl
        rw [if_neg (by rw [hr];decide)] at hvi
        repeat' first|(with_reducible first|(refine nx ?_;intros)|apply And.intro|intro vr)|exact kpd|((with_reducible first|refine ny ?_|refine t_kLF ?_ ?_|refine t_dO 10 (fun i=>i==0) oBe15_0 fun K=>?_|refine t_dO 22 (fun i=>i==2) oBe15_1 fun K=>?_|refine t_dO 23 (fun i=>i==1) oBe15_2 fun K=>?_|refine t_dwh (h:=fun K KL=>?_));intros;simp only [go_sem,kp54,geff,hsz,hi0,g2,g5,hT,hvi,yes])
        all_goals try exact nd
        refine ⟨⟨2,by omega⟩,by simp only;omega,?_⟩
        simp only [o0,o1,o2,o3]
        first|exact lf|(refine Le.frameS (by first|rfl|(simp only [go_sem];try rfl)) ?_;repeat' (first|exact leF_top _|exact (fun _=>LeR.refl _)|(with_reducible refine leF_sl ?_ ?_)|(refine leF_upd ?_ ?_)))<;>(first|exact LeR.top _|exact LeR.refl _|(refine LeR.of_eq ?_;(try simp only [go_sem]);try rfl)|((try simp only [go_sem]);try rfl))
      ·have hi0:((((2:Nat):Int)):Int)=2:=rfl
       have g2:decide ((2:Int)<(f.length:Int))=true:=decide_eq_true (by omega)
       have g3:(2:Int)<((R1).length:Int):=by omega
       have o0:=hoc 0 (by decide)
       have o1:=hoc 1 (by decide)
       have o2:=hoi
       have o3:=hoc 3 (by decide)
       generalize hT:(R1).getD 2 []=T at*
       cases hr:f.getD 2 false with
       |true=>
        have g5:strAt (frB f) 2=114:=by rw [frB_at f 2 hc,hr];rfl
        rw [if_pos hr] at hvi
        cases T with
        |nil=>
         have g6:decide ((0:Int)>0)=false:=by decide
         have hvi2:numS []=v 2:=hvi
         repeat' first|(with_reducible first|(refine nx ?_;intros)|apply And.intro|intro vr)|exact kpd|((with_reducible first|refine ny ?_|refine t_kLF ?_ ?_|refine t_dO 10 (fun i=>i==0) oBe15_0 fun K=>?_|refine t_dO 22 (fun i=>i==2) oBe15_1 fun K=>?_|refine t_dO 23 (fun i=>i==1) oBe15_2 fun K=>?_|refine t_dwh (h:=fun K KL=>?_));intros;simp only [go_sem,kp54,geff,hsz,hi0,g2,g5,g6,hT,hvi2,List.length_nil,yes])
         all_goals try exact nd
         refine ⟨⟨3,by omega⟩,by simp only;omega,?_⟩
         simp only [o0,o1,o2,o3]
         first|exact lf|(refine Le.frameS (by first|rfl|(simp only [go_sem];try rfl)) ?_;repeat' (first|exact leF_top _|exact (fun _=>LeR.refl _)|(with_reducible refine leF_sl ?_ ?_)|(refine leF_upd ?_ ?_)))<;>(first|exact LeR.top _|exact LeR.refl _|(refine LeR.of_eq ?_;(try simp only [go_sem]);try rfl)|((try simp only [go_sem]);try rfl))
        |cons c0 T=>
         have g6:decide (((T.length+1:Nat):Int)>0)=true:=decide_eq_true (by omega)
         have g7:List.drop 1 (List.take (T.length+1) (c0::T))=T:=by rw [←List.length_cons (a:=c0),List.take_length];rfl
         have hvi2:numS T=v 2:=hvi
         have hTl:T.length+1≤100000:=hil
         repeat' first|(with_reducible first|(refine nx ?_;intros)|apply And.intro|intro vr)|exact kpd|((with_reducible first|refine ny ?_|refine t_kLF ?_ ?_|refine t_dO 10 (fun i=>i==0) oBe15_0 fun K=>?_|refine t_dO 22 (fun i=>i==2) oBe15_1 fun K=>?_|refine t_dO 23 (fun i=>i==1) oBe15_2 fun K=>?_|refine t_dwh (h:=fun K KL=>?_));intros;simp only [go_sem,kp54,geff,hsz,hi0,g2,g5,g6,g7,hT,hvi2,List.length_cons,yes])
         all_goals try exact nd
         refine ⟨⟨3,by omega⟩,by simp only;omega,?_⟩
         simp only [o0,o1,o2,o3]
         first|exact lf|(refine Le.frameS (by first|rfl|(simp only [go_sem];try rfl)) ?_;repeat' (first|exact leF_top _|exact (fun _=>LeR.refl _)|(with_reducible refine leF_sl ?_ ?_)|(refine leF_upd ?_ ?_)))<;>(first|exact LeR.top _|exact LeR.refl _|(refine LeR.of_eq ?_;(try simp only [go_sem]);try rfl)|((try simp only [go_sem]);try rfl))
       |false=>
        have g5:strAt (frB f) 2=110:=by rw [frB_at f 2 hc,hr];rfl
        rw [if_neg (by rw [hr];decide)] at hvi
        repeat' first|(with_reducible first|(refine nx ?_;intros)|apply And.intro|intro vr)|exact kpd|((with_reducible first|refine ny ?_|refine t_kLF ?_ ?_|refine t_dO 10 (fun i=>i==0) oBe15_0 fun K=>?_|refine t_dO 22 (fun i=>i==2) oBe15_1 fun K=>?_|refine t_dO 23 (fun i=>i==1) oBe15_2 fun K=>?_|refine t_dwh (h:=fun K KL=>?_));intros;simp only [go_sem,kp54,geff,hsz,hi0,g2,g5,hT,hvi,yes])
        all_goals try exact nd
        refine ⟨⟨3,by omega⟩,by simp only;omega,?_⟩
        simp only [o0,o1,o2,o3]
        first|exact lf|(refine Le.frameS (by first|rfl|(simp only [go_sem];try rfl)) ?_;repeat' (first|exact leF_top _|exact (fun _=>LeR.refl _)|(with_reducible refine leF_sl ?_ ?_)|(refine leF_upd ?_ ?_)))<;>(first|exact LeR.top _|exact LeR.refl _|(refine LeR.of_eq ?_;(try simp only [go_sem]);try rfl)|((try simp only [go_sem]);try rfl))
      ·have hi0:((((3:Nat):Int)):Int)=3:=rfl
       have g2:decide ((3:Int)<(f.length:Int))=true:=decide_eq_true (by omega)
       have g3:(3:Int)<((R1).length:Int):=by omega
       have o0:=hoc 0 (by decide)
       have o1:=hoc 1 (by decide)
       have o2:=hoc 2 (by decide)
       have o3:=hoi
       generalize hT:(R1).getD 3 []=T at*
       cases hr:f.getD 3 false with
       |true=>
        have g5:strAt (frB f) 3=114:=by rw [frB_at f 3 hc,hr];rfl
        rw [if_pos hr] at hvi
        cases T with
        |nil=>
         have g6:decide ((0:Int)>0)=false:=by decide
         have hvi2:numS []=v 3:=hvi
         repeat' first|(with_reducible first|(refine nx ?_;intros)|apply And.intro|intro vr)|exact kpd|((with_reducible first|refine ny ?_|refine t_kLF ?_ ?_|refine t_dO 10 (fun i=>i==0) oBe15_0 fun K=>?_|refine t_dO 22 (fun i=>i==2) oBe15_1 fun K=>?_|refine t_dO 23 (fun i=>i==1) oBe15_2 fun K=>?_|refine t_dwh (h:=fun K KL=>?_));intros;simp only [go_sem,kp54,geff,hsz,hi0,g2,g5,g6,hT,hvi2,List.length_nil,yes])
         all_goals try exact nd
         refine ⟨⟨4,by omega⟩,by simp only;omega,?_⟩
         simp only [o0,o1,o2,o3]
         first|exact lf|(refine Le.frameS (by first|rfl|(simp only [go_sem];try rfl)) ?_;repeat' (first|exact leF_top _|exact (fun _=>LeR.refl _)|(with_reducible refine leF_sl ?_ ?_)|(refine leF_upd ?_ ?_)))<;>(first|exact LeR.top _|exact LeR.refl _|(refine LeR.of_eq ?_;(try simp only [go_sem]);try rfl)|((try simp only [go_sem]);try rfl))
        |cons c0 T=>
         have g6:decide (((T.length+1:Nat):Int)>0)=true:=decide_eq_true (by omega)
         have g7:List.drop 1 (List.take (T.length+1) (c0::T))=T:=by rw [←List.length_cons (a:=c0),List.take_length];rfl
         have hvi2:numS T=v 3:=hvi
         have hTl:T.length+1≤100000:=hil
         repeat' first|(with_reducible first|(refine nx ?_;intros)|apply And.intro|intro vr)|exact kpd|((with_reducible first|refine ny ?_|refine t_kLF ?_ ?_|refine t_dO 10 (fun i=>i==0) oBe15_0 fun K=>?_|refine t_dO 22 (fun i=>i==2) oBe15_1 fun K=>?_|refine t_dO 23 (fun i=>i==1) oBe15_2 fun K=>?_|refine t_dwh (h:=fun K KL=>?_));intros;simp only [go_sem,kp54,geff,hsz,hi0,g2,g5,g6,g7,hT,hvi2,List.length_cons,yes])
         all_goals try exact nd
         refine ⟨⟨4,by omega⟩,by simp only;omega,?_⟩
         simp only [o0,o1,o2,o3]
         first|exact lf|(refine Le.frameS (by first|rfl|(simp only [go_sem];try rfl)) ?_;repeat' (first|exact leF_top _|exact (fun _=>LeR.refl _)|(with_reducible refine leF_sl ?_ ?_)|(refine leF_upd ?_ ?_)))<;>(first|exact LeR.top _|exact LeR.refl _|(refine LeR.of_eq ?_;(try simp only [go_sem]);try rfl)|((try simp only [go_sem]);try rfl))
       |false=>
        have g5:strAt (frB f) 3=110:=by rw [frB_at f 3 hc,hr];rfl
        rw [if_neg (by rw [hr];decide)] at hvi
        repeat' first|(with_reducible first|(refine nx ?_;intros)|apply And.intro|intro vr)|exact kpd|((with_reducible first|refine ny ?_|refine t_kLF ?_ ?_|refine t_dO 10 (fun i=>i==0) oBe15_0 fun K=>?_|refine t_dO 22 (fun i=>i==2) oBe15_1 fun K=>?_|refine t_dO 23 (fun i=>i==1) oBe15_2 fun K=>?_|refine t_dwh (h:=fun K KL=>?_));intros;simp only [go_sem,kp54,geff,hsz,hi0,g2,g5,hT,hvi,yes])
        all_goals try exact nd
        refine ⟨⟨4,by omega⟩,by simp only;omega,?_⟩
        simp only [o0,o1,o2,o3]
        first|exact lf|(refine Le.frameS (by first|rfl|(simp only [go_sem];try rfl)) ?_;repeat' (first|exact leF_top _|exact (fun _=>LeR.refl _)|(with_reducible refine leF_sl ?_ ?_)|(refine leF_upd ?_ ?_)))<;>(first|exact LeR.top _|exact LeR.refl _|(refine LeR.of_eq ?_;(try simp only [go_sem]);try rfl)|((try simp only [go_sem]);try rfl))
     ·have hiL:i=f.length:=by omega
      subst hiL
      clear hvv
      generalize oc v f.length 0=c0 at*
      generalize oc v f.length 1=c1 at*
      generalize oc v f.length 2=c2 at*
      generalize oc v f.length 3=c3 at*
      have g2:decide ((f.length:Int)<(f.length:Int))=false:=decide_eq_false (by omega)
      cases hri:rightS ⟨5,bs (q),c0,c1,c2,c3⟩ 200 with
      |false=>
       repeat' first|(with_reducible first|(refine nx ?_;intros)|apply And.intro|intro vr)|exact kpd|((with_reducible first|refine ny ?_|refine t_kLF ?_ ?_|refine t_dO 10 (fun i=>i==0) oBe15_0 fun K=>?_|refine t_dO 22 (fun i=>i==2) oBe15_1 fun K=>?_|refine t_dO 23 (fun i=>i==1) oBe15_2 fun K=>?_|refine t_dwh (h:=fun K KL=>?_));intros;simp only [go_sem,kp54,geff,hsz,g2,hri,yes])
       all_goals try exact nd
       all_goals (refine nl ?_;simp only [go_sem])
       exact LeA.of_eq (by rw [←hR2,hri];rfl)
      |true=>
       repeat' first|(with_reducible first|(refine nx ?_;intros)|apply And.intro|intro vr)|exact kpd|((with_reducible first|refine ny ?_|refine t_kLF ?_ ?_|refine t_dO 10 (fun i=>i==0) oBe15_0 fun K=>?_|refine t_dO 22 (fun i=>i==2) oBe15_1 fun K=>?_|refine t_dO 23 (fun i=>i==1) oBe15_2 fun K=>?_|refine t_dwh (h:=fun K KL=>?_));intros;simp only [go_sem,kp54,geff,hsz,g2,hri,yes])
       all_goals try exact nd
       all_goals (refine nl ?_;simp only [go_sem])
       exact LeA.of_eq (by rw [←hR2,hri,Bool.true_and];rfl)
  ·have hk5:(k==5)=false:=by simpa using hk
   rw [show tlP k R0=R0 by rw [tlP,if_neg hk],show hdP k R0=([]:List UInt8) by rw [hdP,if_neg hk]]
   generalize hR:rrW s k [] R0=RES
   have hlr:=hln
   refine pcR Y15_ok (kp54) Tryz.func54 [.cell 2 50,.tmp 3] (h:=fun KF=>?_)
   unfold Y15
   repeat' first|(with_reducible first|(refine nx ?_;intros)|apply And.intro|intro vr)|exact kpd|((with_reducible first|refine ny ?_|refine t_kLF ?_ ?_|refine t_dO 10 (fun i=>i==0) oBe15_0 fun K=>?_|refine t_dO 22 (fun i=>i==2) oBe15_1 fun K=>?_|refine t_dO 23 (fun i=>i==1) oBe15_2 fun K=>?_|refine t_dwh (h:=fun K KL=>?_));intros;simp only [go_sem,kp54,geff,hsp,txs_length,List.length_cons,yes])
   all_goals try exact nd
   refine t_loopF (ι:={c:Nat // 1≤c∧c≤16}) (fun i=>[(6,.lit (.int .i64 (i.1:Int)))]) (fun i=>[.box 50 [.lit (.int .i64 0),.lit (.string (bs [])),.lit (.int .i64 0),.lit (.int .i64 0),.lit (.int .i64 0),.lit (.int .i64 0)],.box 50 [.lit (.int .i64 (lastC N i.1)),.lit (.string (bs [])),.lit (.int .i64 0),.lit (.int .i64 0),.lit (.int .i64 0),.lit (.int .i64 0)]]) (fun i=>17 - i.1) ⟨1,by omega,by omega⟩ ?_ ?_
   ·exact lf
   rintro ⟨c,hc1,hc2⟩ K0
   rcases Nat.lt_or_ge c 16 with hcc|hcc
   ·have w1:decide ((c:Int)≤15)=true:=decide_eq_true (by omega)
    have w3:(0:Int)<((R0.length+1:Nat):Int):=by omega
    have hlc:lastC N (c+1)=if (ul (namL (c:Int))==N)=true then (c:Int) else lastC N c:=by rw [lastC,if_neg (by omega)]
    cases hcn:(ul (namL (c:Int))==N) with
    |true=>
     rw [if_pos hcn] at hlc
     repeat' first|(with_reducible first|(refine nx ?_;intros)|apply And.intro|intro vr)|exact kpd|((with_reducible first|refine ny ?_|refine t_kLF ?_ ?_|refine t_dO 10 (fun i=>i==0) oBe15_0 fun K=>?_|refine t_dO 22 (fun i=>i==2) oBe15_1 fun K=>?_|refine t_dO 23 (fun i=>i==1) oBe15_2 fun K=>?_|refine t_dwh (h:=fun K KL=>?_));intros;simp only [go_sem,kp54,geff,w1,hcn,txs_hd0,txs_length,List.length_cons,yes])
     all_goals try exact nd
     refine ⟨⟨c+1,by omega,by omega⟩,by simp only;omega,?_⟩
     simp only [hlc]
     first|exact lf|(refine Le.frameS (by first|rfl|(simp only [go_sem];try rfl)) ?_;repeat' (first|exact leF_top _|exact (fun _=>LeR.refl _)|(with_reducible refine leF_sl ?_ ?_)|(refine leF_upd ?_ ?_)))<;>(first|exact LeR.top _|exact LeR.refl _|(refine LeR.of_eq ?_;(try simp only [go_sem]);try rfl)|((try simp only [go_sem]);try rfl))
    |false=>
     rw [if_neg (by rw [hcn];decide)] at hlc
     repeat' first|(with_reducible first|(refine nx ?_;intros)|apply And.intro|intro vr)|exact kpd|((with_reducible first|refine ny ?_|refine t_kLF ?_ ?_|refine t_dO 10 (fun i=>i==0) oBe15_0 fun K=>?_|refine t_dO 22 (fun i=>i==2) oBe15_1 fun K=>?_|refine t_dO 23 (fun i=>i==1) oBe15_2 fun K=>?_|refine t_dwh (h:=fun K KL=>?_));intros;simp only [go_sem,kp54,geff,w1,hcn,txs_hd0,txs_length,List.length_cons,yes])
     all_goals try exact nd
     refine ⟨⟨c+1,by omega,by omega⟩,by simp only;omega,?_⟩
     simp only [hlc]
     first|exact lf|(refine Le.frameS (by first|rfl|(simp only [go_sem];try rfl)) ?_;repeat' (first|exact leF_top _|exact (fun _=>LeR.refl _)|(with_reducible refine leF_sl ?_ ?_)|(refine leF_upd ?_ ?_)))<;>(first|exact LeR.top _|exact LeR.refl _|(refine LeR.of_eq ?_;(try simp only [go_sem]);try rfl)|((try simp only [go_sem]);try rfl))
   obtain rfl:c=16:=by omega
   have w1:decide (((16:Nat):Int)≤15)=false:=by decide
   cases hF:formS (mkI k ([]:List UInt8) []) with
   |none=>
    have hV:formV ⟨k,bs ([]:List UInt8),0,0,0,0⟩=_:=formV_none hF
    repeat' first|(with_reducible first|(refine nx ?_;intros)|apply And.intro|intro vr)|exact kpd|((with_reducible first|refine ny ?_|refine t_kLF ?_ ?_|refine t_dO 10 (fun i=>i==0) oBe15_0 fun K=>?_|refine t_dO 22 (fun i=>i==2) oBe15_1 fun K=>?_|refine t_dO 23 (fun i=>i==1) oBe15_2 fun K=>?_|refine t_dwh (h:=fun K KL=>?_));intros;simp only [go_sem,kp54,geff,w1,hcd,hk5,hV,hdr,htk,txs_hd0,txs_length,List.length_cons,yes])
    all_goals try exact nd
    all_goals (refine nl ?_;simp only [go_sem])
    exact LeA.of_eq (by rw [←hR];simp only [rrW,hF];rfl)
   |some f=>
    have hV:formV ⟨k,bs ([]:List UInt8),0,0,0,0⟩=_:=formV_some hF
    have hsz:=frB_size f
    have hf4:=formS_len hF
    by_cases hlen:(R0).length≠f.length
    ·have g4:(((R0).length:Int) !=(f.length:Int))=true:=by rw [bne_iff_ne];omega
     repeat' first|(with_reducible first|(refine nx ?_;intros)|apply And.intro|intro vr)|exact kpd|((with_reducible first|refine ny ?_|refine t_kLF ?_ ?_|refine t_dO 10 (fun i=>i==0) oBe15_0 fun K=>?_|refine t_dO 22 (fun i=>i==2) oBe15_1 fun K=>?_|refine t_dO 23 (fun i=>i==1) oBe15_2 fun K=>?_|refine t_dwh (h:=fun K KL=>?_));intros;simp only [go_sem,kp54,geff,w1,hcd,hk5,hV,hsz,g4,hdr,htk,txs_hd0,txs_length,List.length_cons,yes])
     all_goals try exact nd
     all_goals (refine nl ?_;simp only [go_sem])
     exact LeA.of_eq (by rw [←hR];simp only [rrW,hF,if_pos hlen];rfl)
    have hle:(R0).length=f.length:=by omega
    have g4:(((R0).length:Int) !=(f.length:Int))=false:=by rw [bne_eq_false_iff_eq];omega
    generalize hvv:(fun j=>numS (if f.getD j false=true then ((R0).getD j []).tail else (R0).getD j []))=v
    have hmk:mkI k ([]:List UInt8) (rnums f (R0))=⟨k,bs ([]:List UInt8),oc v f.length 0,oc v f.length 1,oc v f.length 2,oc v f.length 3⟩:=by unfold mkI;rw [rn_at,rn_at,rn_at,rn_at,hvv]
    have hR2:AV.tup [opV ⟨k,bs ([]:List UInt8),oc v f.length 0,oc v f.length 1,oc v f.length 2,oc v f.length 3⟩,.lit (.bool (rightS ⟨k,bs ([]:List UInt8),oc v f.length 0,oc v f.length 1,oc v f.length 2,oc v f.length 3⟩ 200&&(lineB ⟨k,bs ([]:List UInt8),oc v f.length 0,oc v f.length 1,oc v f.length 2,oc v f.length 3⟩==s)))]=RES:=by rw [←hR];simp only [rrW,hF,if_neg hlen,hmk]
    clear hmk hR
    repeat' first|(with_reducible first|(refine nx ?_;intros)|apply And.intro|intro vr)|exact kpd|((with_reducible first|refine ny ?_|refine t_kLF ?_ ?_|refine t_dO 10 (fun i=>i==0) oBe15_0 fun K=>?_|refine t_dO 22 (fun i=>i==2) oBe15_1 fun K=>?_|refine t_dO 23 (fun i=>i==1) oBe15_2 fun K=>?_|refine t_dwh (h:=fun K KL=>?_));intros;simp only [go_sem,kp54,geff,w1,hcd,hk5,hV,hsz,g4,hdr,htk,txs_hd0,txs_length,List.length_cons,yes])
    all_goals try exact nd
    refine t_loopF (ι:={q:Nat // q≤f.length}) (fun i=>[(10,.lit (.int .i64 (i.1:Int)))]) (fun i=>[.box 50 [.lit (.int .i64 0),.lit (.string (bs [])),.lit (.int .i64 0),.lit (.int .i64 0),.lit (.int .i64 0),.lit (.int .i64 0)],.box 50 [.lit (.int .i64 k),.lit (.string (bs ([]:List UInt8))),.lit (.int .i64 0),.lit (.int .i64 0),.lit (.int .i64 0),.lit (.int .i64 0)],.box 114 [.lit (.int .i64 (oc v i.1 0)),.lit (.int .i64 (oc v i.1 1)),.lit (.int .i64 (oc v i.1 2)),.lit (.int .i64 (oc v i.1 3))]]) (fun i=>f.length - i.1) ⟨0,by omega⟩ ?_ ?_
    ·exact lf
    rintro ⟨i,hi⟩ K1
    have hdx:∀ i,List.getD (txs (R0)) i (.lit (.string (bs [])))= .lit (.string (bs ((R0).getD i []))):=fun i=>txs_getJ _ i
    rcases Nat.lt_or_ge i f.length with hc|hc
    ·have hil:((R0).getD i []).length≤100000:=hlr i
     have hvi:numS (if f.getD i false=true then ((R0).getD i []).tail else (R0).getD i [])=v i:=by rw [←hvv]
     have hoc:∀ j,j≠i→oc v (i+1) j=oc v i j:=fun j hj=>by
       unfold oc;by_cases h:j<i
       ·rw [if_pos (by omega),if_pos h]
       ·rw [if_neg (by omega),if_neg h]
     have hoi:oc v (i+1) i=v i:=by unfold oc;rw [if_pos (by omega)]
     rcases (show i=0∨i=1∨i=2∨i=3 by omega) with rfl|rfl|rfl|rfl
     ·have hi0:((((0:Nat):Int)):Int)=0:=rfl
      have g2:decide ((0:Int)<(f.length:Int))=true:=decide_eq_true (by omega)
      have g3:(0:Int)<((R0).length:Int):=by omega
      have o0:=hoi
      have o1:=hoc 1 (by decide)
      have o2:=hoc 2 (by decide)
      have o3:=hoc 3 (by decide)
      generalize hT:(R0).getD 0 []=T at*
      cases hr:f.getD 0 false with
      |true=>
       have g5:strAt (frB f) 0=114:=by rw [frB_at f 0 hc,hr];rfl
       rw [if_pos hr] at hvi
       cases T with
       |nil=>
        have g6:decide ((0:Int)>0)=false:=by decide
        have hvi2:numS []=v 0:=hvi
        repeat' first|(with_reducible first|(refine nx ?_;intros)|apply And.intro|intro vr)|exact kpd|((with_reducible first|refine ny ?_|refine t_kLF ?_ ?_|refine t_dO 10 (fun i=>i==0) oBe15_0 fun K=>?_|refine t_dO 22 (fun i=>i==2) oBe15_1 fun K=>?_|refine t_dO 23 (fun i=>i==1) oBe15_2 fun K=>?_|refine t_dwh (h:=fun K KL=>?_));intros;simp only [go_sem,kp54,geff,hsz,hi0,g2,g5,g6,hT,hvi2,List.length_nil,yes])
        all_goals try exact nd
        refine ⟨⟨1,by omega⟩,by simp only;omega,?_⟩
        simp only [o0,o1,o2,o3]
        first|exact lf|(refine Le.frameS (by first|rfl|(simp only [go_sem];try rfl)) ?_;repeat' (first|exact leF_top _|exact (fun _=>LeR.refl _)|(with_reducible refine leF_sl ?_ ?_)|(refine leF_upd ?_ ?_)))<;>(first|exact LeR.top _|exact LeR.refl _|(refine LeR.of_eq ?_;(try simp only [go_sem]);try rfl)|((try simp only [go_sem]);try rfl))
       |cons c0 T=>
        have g6:decide (((T.length+1:Nat):Int)>0)=true:=decide_eq_true (by omega)
        have g7:List.drop 1 (List.take (T.length+1) (c0::T))=T:=by rw [←List.length_cons (a:=c0),List.take_length];rfl
        have hvi2:numS T=v 0:=hvi
        have hTl:T.length+1≤100000:=hil
        repeat' first|(with_reducible first|(refine nx ?_;intros)|apply And.intro|intro vr)|exact kpd|((with_reducible first|refine ny ?_|refine t_kLF ?_ ?_|refine t_dO 10 (fun i=>i==0) oBe15_0 fun K=>?_|refine t_dO 22 (fun i=>i==2) oBe15_1 fun K=>?_|refine t_dO 23 (fun i=>i==1) oBe15_2 fun K=>?_|refine t_dwh (h:=fun K KL=>?_));intros;simp only [go_sem,kp54,geff,hsz,hi0,g2,g5,g6,g7,hT,hvi2,List.length_cons,yes])
        all_goals try exact nd
        refine ⟨⟨1,by omega⟩,by simp only;omega,?_⟩
        simp only [o0,o1,o2,o3]
        first|exact lf|(refine Le.frameS (by first|rfl|(simp only [go_sem];try rfl)) ?_;repeat' (first|exact leF_top _|exact (fun _=>LeR.refl _)|(with_reducible refine leF_sl ?_ ?_)|(refine leF_upd ?_ ?_)))<;>(first|exact LeR.top _|exact LeR.refl _|(refine LeR.of_eq ?_;(try simp only [go_sem]);try rfl)|((try simp only [go_sem]);try rfl))
      |false=>
       have g5:strAt (frB f) 0=110:=by rw [frB_at f 0 hc,hr];rfl
       rw [if_neg (by rw [hr];decide)] at hvi
       repeat' first|(with_reducible first|(refine nx ?_;intros)|apply And.intro|intro vr)|exact kpd|((with_reducible first|refine ny ?_|refine t_kLF ?_ ?_|refine t_dO 10 (fun i=>i==0) oBe15_0 fun K=>?_|refine t_dO 22 (fun i=>i==2) oBe15_1 fun K=>?_|refine t_dO 23 (fun i=>i==1) oBe15_2 fun K=>?_|refine t_dwh (h:=fun K KL=>?_));intros;simp only [go_sem,kp54,geff,hsz,hi0,g2,g5,hT,hvi,yes])
       all_goals try exact nd
       refine ⟨⟨1,by omega⟩,by simp only;omega,?_⟩
       simp only [o0,o1,o2,o3]
       first|exact lf|(refine Le.frameS (by first|rfl|(simp only [go_sem];try rfl)) ?_;repeat' (first|exact leF_top _|exact (fun _=>LeR.refl _)|(with_reducible refine leF_sl ?_ ?_)|(refine leF_upd ?_ ?_)))<;>(first|exact LeR.top _|exact LeR.refl _|(refine LeR.of_eq ?_;(try simp only [go_sem]);try rfl)|((try simp only [go_sem]);try rfl))
     ·have hi0:((((1:Nat):Int)):Int)=1:=rfl
      have g2:decide ((1:Int)<(f.length:Int))=true:=decide_eq_true (by omega)
      have g3:(1:Int)<((R0).length:Int):=by omega
      have o0:=hoc 0 (by decide)
      have o1:=hoi
      have o2:=hoc 2 (by decide)
      have o3:=hoc 3 (by decide)
      generalize hT:(R0).getD 1 []=T at*
      cases hr:f.getD 1 false with
      |true=>
       have g5:strAt (frB f) 1=114:=by rw [frB_at f 1 hc,hr];rfl
       rw [if_pos hr] at hvi
       cases T with
       |nil=>
        have g6:decide ((0:Int)>0)=false:=by decide
        have hvi2:numS []=v 1:=hvi
        repeat' first|(with_reducible first|(refine nx ?_;intros)|apply And.intro|intro vr)|exact kpd|((with_reducible first|refine ny ?_|refine t_kLF ?_ ?_|refine t_dO 10 (fun i=>i==0) oBe15_0 fun K=>?_|refine t_dO 22 (fun i=>i==2) oBe15_1 fun K=>?_|refine t_dO 23 (fun i=>i==1) oBe15_2 fun K=>?_|refine t_dwh (h:=fun K KL=>?_));intros;simp only [go_sem,kp54,geff,hsz,hi0,g2,g5,g6,hT,hvi2,List.length_nil,yes])
        all_goals try exact nd
        refine ⟨⟨2,by omega⟩,by simp only;omega,?_⟩
        simp only [o0,o1,o2,o3]
        first|exact lf|(refine Le.frameS (by first|rfl|(simp only [go_sem];try rfl)) ?_;repeat' (first|exact leF_top _|exact (fun _=>LeR.refl _)|(with_reducible refine leF_sl ?_ ?_)|(refine leF_upd ?_ ?_)))<;>(first|exact LeR.top _|exact LeR.refl _|(refine LeR.of_eq ?_;(try simp only [go_sem]);try rfl)|((try simp only [go_sem]);try rfl))
       |cons c0 T=>
        have g6:decide (((T.length+1:Nat):Int)>0)=true:=decide_eq_true (by omega)
        have g7:List.drop 1 (List.take (T.length+1) (c0::T))=T:=by rw [←List.length_cons (a:=c0),List.take_length];rfl
        have hvi2:numS T=v 1:=hvi
        have hTl:T.length+1≤100000:=hil
        repeat' first|(with_reducible first|(refine nx ?_;intros)|apply And.intro|intro vr)|exact kpd|((with_reducible first|refine ny ?_|refine t_kLF ?_ ?_|refine t_dO 10 (fun i=>i==0) oBe15_0 fun K=>?_|refine t_dO 22 (fun i=>i==2) oBe15_1 fun K=>?_|refine t_dO 23 (fun i=>i==1) oBe15_2 fun K=>?_|refine t_dwh (h:=fun K KL=>?_));intros;simp only [go_sem,kp54,geff,hsz,hi0,g2,g5,g6,g7,hT,hvi2,List.length_cons,yes])
        all_goals try exact nd
        refine ⟨⟨2,by omega⟩,by simp only;omega,?_⟩
        simp only [o0,o1,o2,o3]
        first|exact lf|(refine Le.frameS (by first|rfl|(simp only [go_sem];try rfl)) ?_;repeat' (first|exact leF_top _|exact (fun _=>LeR.refl _)|(with_reducible refine leF_sl ?_ ?_)|(refine leF_upd ?_ ?_)))<;>(first|exact LeR.top _|exact LeR.refl _|(refine LeR.of_eq ?_;(try simp only [go_sem]);try rfl)|((try simp only [go_sem]);try rfl))
      |false=>
       have g5:strAt (frB f) 1=110:=by rw [frB_at f 1 hc,hr];rfl
       rw [if_neg (by rw [hr];decide)] at hvi
       repeat' first|(with_reducible first|(refine nx ?_;intros)|apply And.intro|intro vr)|exact kpd|((with_reducible first|refine ny ?_|refine t_kLF ?_ ?_|refine t_dO 10 (fun i=>i==0) oBe15_0 fun K=>?_|refine t_dO 22 (fun i=>i==2) oBe15_1 fun K=>?_|refine t_dO 23 (fun i=>i==1) oBe15_2 fun K=>?_|refine t_dwh (h:=fun K KL=>?_));intros;simp only [go_sem,kp54,geff,hsz,hi0,g2,g5,hT,hvi,yes])
       all_goals try exact nd
       refine ⟨⟨2,by omega⟩,by simp only;omega,?_⟩
       simp only [o0,o1,o2,o3]
       first|exact lf|(refine Le.frameS (by first|rfl|(simp only [go_sem];try rfl)) ?_;repeat' (first|exact leF_top _|exact (fun _=>LeR.refl _)|(with_reducible refine leF_sl ?_ ?_)|(refine leF_upd ?_ ?_)))<;>(first|exact LeR.top _|exact LeR.refl _|(refine LeR.of_eq ?_;(try simp only [go_sem]);try rfl)|((try simp only [go_sem]);try rfl))
     ·have hi0:((((2:Nat):Int)):Int)=2:=rfl
      have g2:decide ((2:Int)<(f.length:Int))=true:=decide_eq_true (by omega)
      have g3:(2:Int)<((R0).length:Int):=by omega
      have o0:=hoc 0 (by decide)
      have o1:=hoc 1 (by decide)
      have o2:=hoi
      have o3:=hoc 3 (by decide)
      generalize hT:(R0).getD 2 []=T at*
      cases hr:f.getD 2 false with
      |true=>
       have g5:strAt (frB f) 2=114:=by rw [frB_at f 2 hc,hr];rfl
       rw [if_pos hr] at hvi
       cases T with
       |nil=>
        have g6:decide ((0:Int)>0)=false:=by decide
        have hvi2:numS []=v 2:=hvi
        repeat' first|(with_reducible first|(refine nx ?_;intros)|apply And.intro|intro vr)|exact kpd|((with_reducible first|refine ny ?_|refine t_kLF ?_ ?_|refine t_dO 10 (fun i=>i==0) oBe15_0 fun K=>?_|refine t_dO 22 (fun i=>i==2) oBe15_1 fun K=>?_|refine t_dO 23 (fun i=>i==1) oBe15_2 fun K=>?_|refine t_dwh (h:=fun K KL=>?_));intros;simp only [go_sem,kp54,geff,hsz,hi0,g2,g5,g6,hT,hvi2,List.length_nil,yes])
        all_goals try exact nd
        refine ⟨⟨3,by omega⟩,by simp only;omega,?_⟩
        simp only [o0,o1,o2,o3]
        first|exact lf|(refine Le.frameS (by first|rfl|(simp only [go_sem];try rfl)) ?_;repeat' (first|exact leF_top _|exact (fun _=>LeR.refl _)|(with_reducible refine leF_sl ?_ ?_)|(refine leF_upd ?_ ?_)))<;>(first|exact LeR.top _|exact LeR.refl _|(refine LeR.of_eq ?_;(try simp only [go_sem]);try rfl)|((try simp only [go_sem]);try rfl))
       |cons c0 T=>
        have g6:decide (((T.length+1:Nat):Int)>0)=true:=decide_eq_true (by omega)
        have g7:List.drop 1 (List.take (T.length+1) (c0::T))=T:=by rw [←List.length_cons (a:=c0),List.take_length];rfl
        have hvi2:numS T=v 2:=hvi
        have hTl:T.length+1≤100000:=hil
        repeat' first|(with_reducible first|(refine nx ?_;intros)|apply And.intro|intro vr)|exact kpd|((with_reducible first|refine ny ?_|refine t_kLF ?_ ?_|refine t_dO 10 (fun i=>i==0) oBe15_0 fun K=>?_|refine t_dO 22 (fun i=>i==2) oBe15_1 fun K=>?_|refine t_dO 23 (fun i=>i==1) oBe15_2 fun K=>?_|refine t_dwh (h:=fun K KL=>?_));intros;simp only [go_sem,kp54,geff,hsz,hi0,g2,g5,g6,g7,hT,hvi2,List.length_cons,yes])
        all_goals try exact nd
        refine ⟨⟨3,by omega⟩,by simp only;omega,?_⟩
        simp only [o0,o1,o2,o3]
        first|exact lf|(refine Le.frameS (by first|rfl|(simp only [go_sem];try rfl)) ?_;repeat' (first|exact leF_top _|exact (fun _=>LeR.refl _)|(with_reducible refine leF_sl ?_ ?_)|(refine leF_upd ?_ ?_)))<;>(first|exact LeR.top _|exact LeR.refl _|(refine LeR.of_eq ?_;(try simp only [go_sem]);try rfl)|((try simp only [go_sem]);try rfl))
      |false=>
       have g5:strAt (frB f) 2=110:=by rw [frB_at f 2 hc,hr];rfl
       rw [if_neg (by rw [hr];decide)] at hvi
       repeat' first|(with_reducible first|(refine nx ?_;intros)|apply And.intro|intro vr)|exact kpd|((with_reducible first|refine ny ?_|refine t_kLF ?_ ?_|refine t_dO 10 (fun i=>i==0) oBe15_0 fun K=>?_|refine t_dO 22 (fun i=>i==2) oBe15_1 fun K=>?_|refine t_dO 23 (fun i=>i==1) oBe15_2 fun K=>?_|refine t_dwh (h:=fun K KL=>?_));intros;simp only [go_sem,kp54,geff,hsz,hi0,g2,g5,hT,hvi,yes])
       all_goals try exact nd
       refine ⟨⟨3,by omega⟩,by simp only;omega,?_⟩
       simp only [o0,o1,o2,o3]
       first|exact lf|(refine Le.frameS (by first|rfl|(simp only [go_sem];try rfl)) ?_;repeat' (first|exact leF_top _|exact (fun _=>LeR.refl _)|(with_reducible refine leF_sl ?_ ?_)|(refine leF_upd ?_ ?_)))<;>(first|exact LeR.top _|exact LeR.refl _|(refine LeR.of_eq ?_;(try simp only [go_sem]);try rfl)|((try simp only [go_sem]);try rfl))
     ·have hi0:((((3:Nat):Int)):Int)=3:=rfl
      have g2:decide ((3:Int)<(f.length:Int))=true:=decide_eq_true (by omega)
      have g3:(3:Int)<((R0).length:Int):=by omega
      have o0:=hoc 0 (by decide)
      have o1:=hoc 1 (by decide)
      have o2:=hoc 2 (by decide)
      have o3:=hoi
      generalize hT:(R0).getD 3 []=T at*
      cases hr:f.getD 3 false with
      |true=>
       have g5:strAt (frB f) 3=114:=by rw [frB_at f 3 hc,hr];rfl
       rw [if_pos hr] at hvi
       cases T with
       |nil=>
        have g6:decide ((0:Int)>0)=false:=by decide
        have hvi2:numS []=v 3:=hvi
        repeat' first|(with_reducible first|(refine nx ?_;intros)|apply And.intro|intro vr)|exact kpd|((with_reducible first|refine ny ?_|refine t_kLF ?_ ?_|refine t_dO 10 (fun i=>i==0) oBe15_0 fun K=>?_|refine t_dO 22 (fun i=>i==2) oBe15_1 fun K=>?_|refine t_dO 23 (fun i=>i==1) oBe15_2 fun K=>?_|refine t_dwh (h:=fun K KL=>?_));intros;simp only [go_sem,kp54,geff,hsz,hi0,g2,g5,g6,hT,hvi2,List.length_nil,yes])
        all_goals try exact nd
        refine ⟨⟨4,by omega⟩,by simp only;omega,?_⟩
        simp only [o0,o1,o2,o3]
        first|exact lf|(refine Le.frameS (by first|rfl|(simp only [go_sem];try rfl)) ?_;repeat' (first|exact leF_top _|exact (fun _=>LeR.refl _)|(with_reducible refine leF_sl ?_ ?_)|(refine leF_upd ?_ ?_)))<;>(first|exact LeR.top _|exact LeR.refl _|(refine LeR.of_eq ?_;(try simp only [go_sem]);try rfl)|((try simp only [go_sem]);try rfl))
       |cons c0 T=>
        have g6:decide (((T.length+1:Nat):Int)>0)=true:=decide_eq_true (by omega)
        have g7:List.drop 1 (List.take (T.length+1) (c0::T))=T:=by rw [←List.length_cons (a:=c0),List.take_length];rfl
        have hvi2:numS T=v 3:=hvi
        have hTl:T.length+1≤100000:=hil
        repeat' first|(with_reducible first|(refine nx ?_;intros)|apply And.intro|intro vr)|exact kpd|((with_reducible first|refine ny ?_|refine t_kLF ?_ ?_|refine t_dO 10 (fun i=>i==0) oBe15_0 fun K=>?_|refine t_dO 22 (fun i=>i==2) oBe15_1 fun K=>?_|refine t_dO 23 (fun i=>i==1) oBe15_2 fun K=>?_|refine t_dwh (h:=fun K KL=>?_));intros;simp only [go_sem,kp54,geff,hsz,hi0,g2,g5,g6,g7,hT,hvi2,List.length_cons,yes])
        all_goals try exact nd
        refine ⟨⟨4,by omega⟩,by simp only;omega,?_⟩
        simp only [o0,o1,o2,o3]
        first|exact lf|(refine Le.frameS (by first|rfl|(simp only [go_sem];try rfl)) ?_;repeat' (first|exact leF_top _|exact (fun _=>LeR.refl _)|(with_reducible refine leF_sl ?_ ?_)|(refine leF_upd ?_ ?_)))<;>(first|exact LeR.top _|exact LeR.refl _|(refine LeR.of_eq ?_;(try simp only [go_sem]);try rfl)|((try simp only [go_sem]);try rfl))
      |false=>
       have g5:strAt (frB f) 3=110:=by rw [frB_at f 3 hc,hr];rfl
       rw [if_neg (by rw [hr];decide)] at hvi
       repeat' first|(with_reducible first|(refine nx ?_;intros)|apply And.intro|intro vr)|exact kpd|((with_reducible first|refine ny ?_|refine t_kLF ?_ ?_|refine t_dO 10 (fun i=>i==0) oBe15_0 fun K=>?_|refine t_dO 22 (fun i=>i==2) oBe15_1 fun K=>?_|refine t_dO 23 (fun i=>i==1) oBe15_2 fun K=>?_|refine t_dwh (h:=fun K KL=>?_));intros;simp only [go_sem,kp54,geff,hsz,hi0,g2,g5,hT,hvi,yes])
       all_goals try exact nd
       refine ⟨⟨4,by omega⟩,by simp only;omega,?_⟩
       simp only [o0,o1,o2,o3]
       first|exact lf|(refine Le.frameS (by first|rfl|(simp only [go_sem];try rfl)) ?_;repeat' (first|exact leF_top _|exact (fun _=>LeR.refl _)|(with_reducible refine leF_sl ?_ ?_)|(refine leF_upd ?_ ?_)))<;>(first|exact LeR.top _|exact LeR.refl _|(refine LeR.of_eq ?_;(try simp only [go_sem]);try rfl)|((try simp only [go_sem]);try rfl))
    ·have hiL:i=f.length:=by omega
     subst hiL
     clear hvv
     generalize oc v f.length 0=c0 at*
     generalize oc v f.length 1=c1 at*
     generalize oc v f.length 2=c2 at*
     generalize oc v f.length 3=c3 at*
     have g2:decide ((f.length:Int)<(f.length:Int))=false:=decide_eq_false (by omega)
     cases hri:rightS ⟨k,bs ([]:List UInt8),c0,c1,c2,c3⟩ 200 with
     |false=>
      repeat' first|(with_reducible first|(refine nx ?_;intros)|apply And.intro|intro vr)|exact kpd|((with_reducible first|refine ny ?_|refine t_kLF ?_ ?_|refine t_dO 10 (fun i=>i==0) oBe15_0 fun K=>?_|refine t_dO 22 (fun i=>i==2) oBe15_1 fun K=>?_|refine t_dO 23 (fun i=>i==1) oBe15_2 fun K=>?_|refine t_dwh (h:=fun K KL=>?_));intros;simp only [go_sem,kp54,geff,hsz,g2,hri,yes])
      all_goals try exact nd
      all_goals (refine nl ?_;simp only [go_sem])
      exact LeA.of_eq (by rw [←hR2,hri];rfl)
     |true=>
      repeat' first|(with_reducible first|(refine nx ?_;intros)|apply And.intro|intro vr)|exact kpd|((with_reducible first|refine ny ?_|refine t_kLF ?_ ?_|refine t_dO 10 (fun i=>i==0) oBe15_0 fun K=>?_|refine t_dO 22 (fun i=>i==2) oBe15_1 fun K=>?_|refine t_dO 23 (fun i=>i==1) oBe15_2 fun K=>?_|refine t_dwh (h:=fun K KL=>?_));intros;simp only [go_sem,kp54,geff,hsz,g2,hri,yes])
      all_goals try exact nd
      all_goals (refine nl ?_;simp only [go_sem])
      exact LeA.of_eq (by rw [←hR2,hri,Bool.true_and];rfl)
end Go.Proofs.YtohiagaclfaolaaGreatDoor.Tx

namespace Go.Proofs.YtohiagaclfaolaaGreatDoor.Tx
open Go.Proofs.YtohiagaclfaolaaGreatDoor
open Go Go.Fw Bm
set_option maxRecDepth 20000
noncomputable def con54:PCon Tryz.prog where
  f:=54
  c:=fun
   |[.lit (.string s)]=>some ((ul s).length≤100000,rreadV (ul s))
   |_=>none
  ok:=by
   intro args p r hc hp
   split at hc
   ·rename_i s
    obtain ⟨l,rfl⟩:=bs_ex s
    cases hc;rw [ul_bs] at*;exact rread_pc hp
   ·cases hc
  fk:=fk54
theorem con54_f:con54.f=54:=rfl
theorem con54_c {l:List UInt8}:con54.c [.lit (.string (bs l))]=some (l.length≤100000,rreadV l):=by
  show some ((ul (bs l)).length≤100000,rreadV (ul (bs l)))=_
  rw [ul_bs]
attribute [go_sem] con54_f con54_c
noncomputable def Y16:Env:=envJ (P:=Tryz.prog) jkV zer (fun _=>false) (fun _=>false) [con50,con51,con54] []
theorem Y16_ok:EnvOk Tryz.prog Y16:=envJOk zer_ok
theorem pre_at {a r:List UInt8} {k:Nat} (h:k<a.length):bt (a++r) k=((a.getD k 0).toNat:Int):=by
  unfold bt
  rw [List.getD_eq_getElem?_getD,List.getElem?_append_left h,←List.getD_eq_getElem?_getD]
theorem not10 {a:List UInt8} (h:(10:UInt8) ∉ a) {k:Nat} (hk:k<a.length):(((a.getD k 0).toNat:Int) !=10)=true:=by
  rw [bne_iff_ne]
  intro e
  apply h
  have:a.getD k 0=10:=UInt8.toNat_inj.1 (by have h10:(10:UInt8).toNat=10:=rfl;omega)
  rw [←this,List.getD_eq_getElem?_getD,List.getElem?_eq_getElem hk];exact List.getElem_mem _
set_option maxHeartbeats 16000000 in
theorem rparse_pc {s:List UInt8} (hs:s.length≤4990):PC Tryz.prog 21 [.lit (.string (bs s))] (parseV (parseS s)):=by
  generalize hR:parseS s=R
  unfold parseS at hR
  refine pcR Y16_ok (kp21) Tryz.func21 [.tmp 2,.tmp 3,.tmp 4] (h:=fun KF=>?_)
  unfold Y16
  with_reducible repeat' first|(refine nx ?_;intros)|apply And.intro|intro vr|(refine ny ?_;intros;simp only [go_sem,kp21,geff])
  all_goals try exact nd
  refine t_loopF (ι:=Pz s R) (fun i=>[(0,.lit (.string (bs i.rest))),(2,.arr 0 i.v)]) (fun i=>[.arr 50 6 (opsV i.acc) i.v false]) (fun i=>i.rest.length) ⟨s,[],0,s.length+1,by omega,by simp,hR⟩ ?_ ?_
  ·refine (le_nil 2 50 6 rfl).trans ?_
   exact lf
  rintro ⟨rest,acc,v,n,hn,hl,hF⟩ K0
  obtain ⟨n,rfl⟩:∃ m,n=m+1:=⟨n - 1,by omega⟩
  have hol:(opsV acc).length=acc.length:=opsV_length acc
  have hq:(((acc.length:Nat):Int)==5000)=false:=by simp;omega
  have hrl:rest.length≤100000:=by omega
  simp only [parseG] at hF
  by_cases hr:rest=[]
  ·subst hr
   rw [if_pos rfl] at hF
   have hn0:(([]:List UInt8)==[])=true:=rfl
   with_reducible repeat' first|(refine nx ?_;intros)|apply And.intro|intro vr|(refine ny ?_;intros;simp only [go_sem,kp21,geff,hn0,yes])
   all_goals try exact nd
   all_goals (refine nl ?_;simp only [go_sem])
   exact le_ok hF
  ·rw [if_neg hr] at hF
   have hn0:(rest==[])=false:=by simpa using hr
   cases hc:cutS 10 rest with
   |none=>
    rw [hc] at hF
    simp only at hF
    obtain ⟨_,h3⟩:=cutS_none hc
    with_reducible repeat' first|(refine nx ?_;intros)|apply And.intro|intro vr|(refine ny ?_;intros;simp only [go_sem,kp21,geff,hn0,yes])
    all_goals try exact nd
    refine t_loopF (ι:={k:Nat // k≤rest.length}) (fun i=>[(5,.lit (.int .i64 (i.1:Int)))]) (fun i=>[.arr 50 6 (opsV acc) v false]) (fun i=>rest.length - i.1) ⟨0,by omega⟩ ?_ ?_
    ·exact lf
    rintro ⟨k,hk⟩ K1
    rcases Nat.lt_or_ge k rest.length with hkc|hkc
    ·have g1:decide ((k:Int)<(rest.length:Int))=true:=decide_eq_true (by omega)
     have hbt:bt rest k=((rest.getD k 0).toNat:Int):=rfl
     have g2:(bt rest k !=10)=true:=by rw [hbt];exact not10 h3 hkc
     with_reducible repeat' first|(refine nx ?_;intros)|apply And.intro|intro vr|(refine ny ?_;intros;simp only [go_sem,kp21,geff,g1,g2,Int.toNat_natCast,yes])
     all_goals try exact nd
     exact ⟨⟨k+1,by omega⟩,wf,lf⟩
    ·obtain rfl:k=rest.length:=by omega
     have g1:decide ((rest.length:Int)<(rest.length:Int))=false:=decide_eq_false (by omega)
     have g3:((rest.length:Int)==(rest.length:Int))=true:=by simp
     obtain ⟨y,b,hy,_,_⟩:=rreadV_spec rest
     obtain ⟨yk,yp,ya,yb,yc,yd⟩:=y
     have hy2:rreadV rest= .tup [.agg [.lit (.int .i64 yk),.lit (.string yp),.lit (.int .i64 ya),.lit (.int .i64 yb),.lit (.int .i64 yc),.lit (.int .i64 yd)],.lit (.bool b)]:=hy
     with_reducible repeat' first|(refine nx ?_;intros)|apply And.intro|intro vr|(refine ny ?_;intros;simp only [go_sem,kp21,geff,g1,g3,hy2,hol,Int.toNat_natCast,yes])
     all_goals try exact nd
     all_goals (refine nl ?_;simp only [go_sem])
     exact le_err hF
   |some w=>
    obtain ⟨a0,b0⟩:=w
    rw [hc] at hF
    obtain ⟨_,h2,h3⟩:=cutS_some hc
    have hl2:rest.length=a0.length+(b0.length+1):=by rw [h2];simp
    have hal:a0.length≤100000:=by omega
    simp only at hF
    with_reducible repeat' first|(refine nx ?_;intros)|apply And.intro|intro vr|(refine ny ?_;intros;simp only [go_sem,kp21,geff,hn0,yes])
    all_goals try exact nd
    refine t_loopF (ι:={k:Nat // k≤a0.length}) (fun i=>[(5,.lit (.int .i64 (i.1:Int)))]) (fun i=>[.arr 50 6 (opsV acc) v false]) (fun i=>a0.length - i.1) ⟨0,by omega⟩ ?_ ?_
    ·exact lf
    rintro ⟨k,hk⟩ K1
    have g1:decide ((k:Int)<(rest.length:Int))=true:=decide_eq_true (by omega)
    rcases Nat.lt_or_ge k a0.length with hkc|hkc
    ·have hbt:bt rest k=((a0.getD k 0).toNat:Int):=by rw [h2];exact pre_at hkc
     have g2:(bt rest k !=10)=true:=by rw [hbt];exact not10 h3 hkc
     with_reducible repeat' first|(refine nx ?_;intros)|apply And.intro|intro vr|(refine ny ?_;intros;simp only [go_sem,kp21,geff,g1,g2,Int.toNat_natCast,yes])
     all_goals try exact nd
     exact ⟨⟨k+1,by omega⟩,wf,lf⟩
    ·obtain rfl:k=a0.length:=by omega
     have g2:(bt rest a0.length !=10)=false:=by
       unfold bt
       rw [h2,List.getD_eq_getElem?_getD,List.getElem?_append_right (Nat.le_refl _),Nat.sub_self];rfl
     have g3:((a0.length:Int)==(rest.length:Int))=false:=by simp;omega
     have e1:List.take a0.length rest=a0:=by rw [h2];simp
     have e2:List.drop (a0.length+1) rest=b0:=by rw [h2];simp
     have e3:((a0.length:Int)+1).toNat=a0.length+1:=by omega
     have e4:List.take rest.length rest=rest:=List.take_length
     obtain ⟨y,b,hy,hy1,hy0⟩:=rreadV_spec a0
     obtain ⟨yk,yp,ya,yb,yc,yd⟩:=y
     have hy2:rreadV a0= .tup [.agg [.lit (.int .i64 yk),.lit (.string yp),.lit (.int .i64 ya),.lit (.int .i64 yb),.lit (.int .i64 yc),.lit (.int .i64 yd)],.lit (.bool b)]:=hy
     rw [←read_eq a0] at hF
     cases b with
     |false=>
      rw [hy0 rfl] at hF
      with_reducible repeat' first|(refine nx ?_;intros)|apply And.intro|intro vr|(refine ny ?_;intros;simp only [go_sem,kp21,geff,g1,g2,g3,e1,hy2,hol,Int.toNat_natCast,yes])
      all_goals try exact nd
      all_goals (refine nl ?_;simp only [go_sem])
      exact le_err hF
     |true=>
      rw [hy1 rfl] at hF
      have hap:=opsV_app1 acc yk ya yb yc yd yp
      with_reducible repeat' first|(refine nx ?_;intros)|apply And.intro|intro vr|(refine ny ?_;intros;simp only [go_sem,kp21,geff,g1,g2,g3,e1,e2,e3,e4,hy2,hol,hq,hap,Int.toNat_natCast,yes])
      all_goals try exact nd
      refine ⟨⟨b0,acc++[⟨yk,yp,ya,yb,yc,yd⟩],v+1,n,by omega,by rw [List.length_append,List.length_singleton];omega,hF⟩,by simp only;omega,?_⟩
      try simp only [updL_nil,updL_cons,delF_top,delF_upd,Nat.reduceEqDiff,reduceIte]
      refine le_backD (by first|rfl|(simp only [go_sem];try rfl)) (by first|exact Nat.zero_le _|simp) (by first|rfl|simp [lowO,low_lit,low_sl,low_ref,low_arr,low_sub,low_mp]) ?_ ?_
      ·repeat' (first|exact low_top|(refine low_upd rfl ?_))
      exact lq
theorem eqS_self (p:ByteArray):eqS p p=true:=by simp [eqS]
theorem drop_getO {l:List Ins} {i:Nat} (h:i<l.length):l.take (i+1)=l.take i++[l.getD i nilI]:=by
  rw [List.take_add_one,List.getElem?_eq_getElem h,List.getD_eq_getElem?_getD,List.getElem?_eq_getElem h];rfl
set_option maxHeartbeats 4000000 in
theorem rprint_pc {l:List Ins} (hl:l.length≤1000):PC Tryz.prog 18 [.sl false 6 (opsV l)] (printV l):=by
  unfold printV
  have hol:(opsV l).length=l.length:=opsV_length l
  have z5:decide ((l.length:Int)>5000)=false:=decide_eq_false (by omega)
  generalize hR:(if (l.all fun x=>rightS x 200)=true then AV.tup [.lit (.string (bs (textB l))),.lit (.int .i64 0)] else .tup [.lit (.string (bs [])),.lit (.int .i64 22)])=R
  refine pcR Y16_ok (kp18) Tryz.func18 [.tmp 2,.tmp 3] (h:=fun KF=>?_)
  unfold Y16
  with_reducible repeat' first|(refine nx ?_;intros)|apply And.intro|intro vr|(refine ny ?_;intros;simp only [go_sem,kp18,geff])
  all_goals try exact nd
  refine t_loopF (ι:={i:Nat // i≤l.length∧allR (l.take i)}) (fun i=>[(4,.lit (.int .i64 (i.1:Int)))]) (fun i=>[]) (fun i=>l.length - i.1) ⟨0,by omega,fun y hy=>by simp at hy⟩ ?_ ?_
  ·exact lf
  rintro ⟨i,hi,hall⟩ K0
  rcases Nat.lt_or_ge i l.length with hc|hc
  ·have g1:decide ((i:Int)<(l.length:Int))=true:=decide_eq_true (by omega)
   have htk:=drop_getO hc
   have hmem:l.getD i nilI∈l:=by rw [List.getD_eq_getElem?_getD,List.getElem?_eq_getElem hc];exact List.getElem_mem _
   generalize hx:l.getD i nilI=x at htk hmem
   cases hr:rightS x 200 with
   |false=>
    have hf:(l.all fun x=>rightS x 200)=false:=by rw [List.all_eq_false];exact ⟨x,hmem,by rw [hr];decide⟩
    rw [hf,if_neg (by decide)] at hR
    obtain ⟨k,p,a,b,c,d⟩:=x
    with_reducible repeat' first|(refine nx ?_;intros)|apply And.intro|intro vr|(refine ny ?_;intros;simp only [go_sem,kp18,geff,g1,hol,hx,hr,Int.toNat_natCast,yes])
    all_goals try exact nd
    all_goals (refine nl ?_;simp only [go_sem])
    exact LeA.of_eq (by rw [←hR])
   |true=>
    have hall2:allR (l.take (i+1)):=by
      rw [htk]
      intro y hy
      rcases List.mem_append.1 hy with hy|hy
      ·exact hall y hy
      ·simp only [List.mem_singleton] at hy;subst hy;exact hr
    obtain ⟨k,p,a,b,c,d⟩:=x
    with_reducible repeat' first|(refine nx ?_;intros)|apply And.intro|intro vr|(refine ny ?_;intros;simp only [go_sem,kp18,geff,g1,hol,hx,hr,Int.toNat_natCast,yes])
    all_goals try exact nd
    exact ⟨⟨i+1,by omega,hall2⟩,wf,lf⟩
  ·obtain rfl:i=l.length:=by omega
   rw [List.take_length] at hall
   have hf:(l.all fun x=>rightS x 200)=true:=by rw [List.all_eq_true];exact hall
   rw [hf,if_pos rfl] at hR
   have g1:decide ((l.length:Int)<(l.length:Int))=false:=decide_eq_false (by omega)
   with_reducible repeat' first|(refine nx ?_;intros)|apply And.intro|intro vr|(refine ny ?_;intros;simp only [go_sem,kp18,geff,g1,hol,z5])
   all_goals try exact nd
   refine t_loopF (ι:={i:Nat // i≤l.length}) (fun i=>[(6,.lit (.int .i64 (i.1:Int))),(5,.lit (.string (bs (textB (l.take i.1)))))]) (fun i=>[]) (fun i=>l.length - i.1) ⟨0,by omega⟩ ?_ ?_
   ·exact lf
   rintro ⟨i,hi⟩ K1
   rcases Nat.lt_or_ge i l.length with hc|hc
   ·have g2:decide ((i:Int)<(l.length:Int))=true:=decide_eq_true (by omega)
    have htk:=drop_getO hc
    have hmem:l.getD i nilI∈l:=by rw [List.getD_eq_getElem?_getD,List.getElem?_eq_getElem hc];exact List.getElem_mem _
    have hr:=hall _ hmem
    have hlen:(textB (l.take i)).length≤139*1000:=by
      have:=text_len (l:=l.take i) fun y hy=>hall y (List.mem_of_mem_take hy)
      rw [List.length_take] at this
      omega
    generalize hx:l.getD i nilI=x at htk hr
    have hts:textB (l.take i)++(lineB x++[10])=textB (l.take (i+1)):=by rw [htk];simp [textB]
    obtain ⟨f,hrt⟩:=right_rti hr
    have hll:=line_len hrt
    obtain ⟨k,p,a,b,c,d⟩:=x
    with_reducible repeat' first|(refine nx ?_;intros)|apply And.intro|intro vr|(refine ny ?_;intros;simp only [go_sem,kp18,geff,g2,hol,hx,hts,Int.toNat_natCast,List.length_append,List.length_cons,List.length_nil,yes])
    all_goals try exact nd
    exact ⟨⟨i+1,by omega⟩,wf,lf⟩
   ·obtain rfl:i=l.length:=by omega
    have g2:decide ((l.length:Int)<(l.length:Int))=false:=decide_eq_false (by omega)
    have hte:textB (l.take l.length)=textB l:=by rw [List.take_length]
    with_reducible repeat' first|(refine nx ?_;intros)|apply And.intro|intro vr|(refine ny ?_;intros;simp only [go_sem,kp18,geff,g2,hol,hte])
    all_goals try exact nd
    all_goals (refine nl ?_;simp only [go_sem])
    exact LeA.of_eq (by rw [←hR])
set_option maxHeartbeats 4000000 in
theorem sameops_pc {l:List Ins} (hl:l.length≤1000000):PC Tryz.prog 20 [.sl false 6 (opsV l),.sl false 6 (opsV l)] (.lit (.bool true)):=by
  have hol:(opsV l).length=l.length:=opsV_length l
  have g0:((l.length:Int) !=(l.length:Int))=false:=by simp
  refine pcR Y16_ok (kp20) Tryz.func20 [.tmp 4] (h:=fun KF=>?_)
  unfold Y16
  with_reducible repeat' first|(refine nx ?_;intros)|apply And.intro|intro vr|((first|refine ny ?_|refine t_dwh (h:=fun K KL=>?_));intros;simp only [go_sem,kp20,geff,hol,g0])
  all_goals try exact nd
  refine t_loopF (ι:={i:Nat // i≤l.length}) (fun i=>[(5,.lit (.int .i64 (i.1:Int)))]) (fun i=>[]) (fun i=>l.length - i.1) ⟨0,by omega⟩ ?_ ?_
  ·exact lf
  rintro ⟨i,hi⟩ K0
  rcases Nat.lt_or_ge i l.length with hc|hc
  ·have g2:decide ((i:Int)<(l.length:Int))=true:=decide_eq_true (by omega)
   generalize hx:l.getD i nilI=x
   obtain ⟨k,p,a,b,c,d⟩:=x
   with_reducible repeat' first|(refine nx ?_;intros)|apply And.intro|intro vr|((first|refine ny ?_|refine t_dwh (h:=fun K KL=>?_));intros;simp only [go_sem,kp20,geff,g2,hol,hx,eqS_self,beq_self_eq_true,Bool.and_self,Bool.not_true,Int.toNat_natCast,yes])
   all_goals try exact nd
   exact ⟨⟨i+1,by omega⟩,wf,lf⟩
  ·obtain rfl:i=l.length:=by omega
   have g2:decide ((l.length:Int)<(l.length:Int))=false:=decide_eq_false (by omega)
   with_reducible repeat' first|(refine nx ?_;intros)|apply And.intro|intro vr|((first|refine ny ?_|refine t_dwh (h:=fun K KL=>?_));intros;simp only [go_sem,kp20,geff,g2,hol])
   all_goals try exact nd
   all_goals (refine nl ?_;simp only [go_sem])
   exact LeA.refl _
end Go.Proofs.YtohiagaclfaolaaGreatDoor.Tx

namespace Go.Proofs.YtohiagaclfaolaaGreatDoor.Cd
open Go.Proofs.YtohiagaclfaolaaGreatDoor
open Go Go.Fw Bm Tx
set_option maxRecDepth 20000
noncomputable def con18:PCon Tryz.prog where
  f:=18
  c:=fun
   |[xl]=>match opsOf xl with|some l=>some (l.length≤1000,printV l)|_=>none
   |_=>none
  ok:=by
   intro args p r hc hp
   split at hc
   ·split at hc
    ·rename_i hl
     cases hc
     exact PC.weak (Tx.rprint_pc hp) ⟨opsOf_le hl,trivial⟩
    ·cases hc
   ·cases hc
  fk:=fk18
theorem con18_f:con18.f=18:=rfl
theorem con18_c {xl:AV}:con18.c [xl]=match opsOf xl with|some l=>some (l.length≤1000,printV l)|_=>none:=rfl
attribute [go_sem] con18_f con18_c
noncomputable def Yf:Env:=envJ (P:=Tryz.prog) jkV zer (fun _=>false) (fun _=>false) [con15,con18,con28,con29,con30,con31] []
theorem Yf_ok:EnvOk Tryz.prog Yf:=envJOk zer_ok
set_option maxHeartbeats 8000000 in
theorem rencode_pc {B:Prg} (h:EncP B):PC Tryz.prog 9 [bcV B] (encV (encodeS B)):=by
  have hO:=h.ok
  unfold encodeS
  cases hv:validS B with
  |false=>
   rw [if_neg (by decide)]
   simp only [bcV]
   refine pcR Yf_ok (kp9) Tryz.func9 [.tmp 2,.tmp 3] (h:=fun KF=>?_)
   unfold Yf
   with_reducible repeat' first|(refine nx ?_;intros)|apply And.intro|intro vr|((first|refine ny ?_|refine t_dwh (h:=fun K KL=>?_));intros;simp only [go_sem,kp9,geff,bcOf_B,hv,Bool.not_false])
   all_goals try exact nd
   all_goals (refine nl ?_;simp only [go_sem])
   exact LeA.tup ⟨LeA.nil false 1,LeA.refl _,trivial⟩
  |true=>
   have hV:=valid_va hv
   have hL:=enc_lens hV h
   have hp:=print_va hV
   have ho:B.ops.length≤1000:=by have:=h.ops;omega
   have hi1:B.ins.length≤100000:=by have:=h.ins;omega
   have hi2:B.outs.length≤100000:=by have:=h.outs;omega
   have l1:=hL.i1;have l2:=hL.i2;have l3:=hL.i3;have l4:=hL.i4;have l5:=hL.i5;have lpl:=hL.pl;have lt1:=hL.t1;have lt2:=hL.t2
   have hT:=h.ok.types
   rw [if_pos rfl,enc_acc]
   generalize hH:hdE B=H at lpl lt1 lt2
   obtain ⟨r,a,o,ii,u,t⟩:=B
   simp only at ho hi1 hi2 l1 l2 l3 l4 l5 hp hT lt1 lt2 lpl
   generalize hLL:ii++u=L at lpl lt1 lt2
   have hLl:(plsV L).length=L.length:=by simp [plsV]
   have htl:(arrs t).length=t.length:=arrs_length t
   have hLn:L.length≤200000:=by rw [←hLL,List.length_append];omega
   simp only [bcV,hLL,hH]
   have hH2:Wi.enc r++Wi.enc a++Wi.encT (bs (textB o))++Wi.enc (ii.length:Int)++Wi.enc (u.length:Int)=H:=hH
   refine pcR Yf_ok (kp9) Tryz.func9 [.tmp 2,.tmp 3] (h:=fun KF=>?_)
   unfold Yf
   with_reducible repeat' first|(refine nx ?_;intros)|apply And.intro|intro vr|((first|refine ny ?_|refine t_dwh (h:=fun K KL=>?_));intros;simp only [go_sem,kp9,geff,bcOf_mk,hv,hp,hLL,hLl,hH2,Bool.not_true,List.nil_append])
   all_goals try exact nd
   refine t_loopF (ι:={i:Nat // i≤L.length}) (fun i=>[(8,.lit (.int .i64 (i.1:Int))),(6,.sl false 1 (ints .u8 (accP H L i.1)))]) (fun i=>[.box 26 [.lit (.int .i64 r),.lit (.int .i64 a),.sl false 6 (opsV o),.sl false 2 (plsV ii),.sl false 2 (plsV u),.sl false 3 (arrs t)]]) (fun i=>L.length - i.1) ⟨0,by omega⟩ ?_ ?_
   ·exact lf
   rintro ⟨i,hi⟩ K0
   rcases Nat.lt_or_ge i L.length with hc|hc
   ·have g1:decide ((i:Int)<(L.length:Int))=true:=decide_eq_true (by omega)
    have hq:=lpl i hc
    have hst:accP H L (i+1)=accP H L i++Wi.enc (L.getD i (0,0)).1:=rfl
    generalize hx:L.getD i (0,0)=x at hq hst
    obtain ⟨po,ps⟩:=x
    simp only at hq hst
    have hpp:plV (po,ps)= .agg [.lit (.int .i64 po),.lit (.int .i64 ps)]:=rfl
    with_reducible repeat' first|(refine nx ?_;intros)|apply And.intro|intro vr|((first|refine ny ?_|refine t_dwh (h:=fun K KL=>?_));intros;simp only [go_sem,kp9,geff,g1,hLl,hx,hpp,hst.symm,Int.toNat_natCast,yes])
    all_goals try exact nd
    exact ⟨⟨i+1,by omega⟩,wf,lf⟩
   ·obtain rfl:i=L.length:=by omega
    have g1:decide ((L.length:Int)<(L.length:Int))=false:=decide_eq_false (by omega)
    with_reducible repeat' first|(refine nx ?_;intros)|apply And.intro|intro vr|((first|refine ny ?_|refine t_dwh (h:=fun K KL=>?_));intros;simp only [go_sem,kp9,geff,g1,hLl,htl])
    all_goals try exact nd
    refine t_loopF (ι:={i:Nat // i≤t.length}) (fun i=>[(9,.lit (.int .i64 (i.1:Int))),(6,.sl false 1 (ints .u8 (accT (accP H L L.length) t i.1)))]) (fun i=>[.box 26 [.lit (.int .i64 r),.lit (.int .i64 a),.sl false 6 (opsV o),.sl false 2 (plsV ii),.sl false 2 (plsV u),.sl false 3 (arrs t)]]) (fun i=>t.length - i.1) ⟨0,by omega⟩ ?_ ?_
    ·exact lf
    rintro ⟨i,hi⟩ K1
    rcases Nat.lt_or_ge i t.length with hc|hc
    ·have g2:decide ((i:Int)<(t.length:Int))=true:=decide_eq_true (by omega)
     have hq1:=lt1 i hc
     have hq2:=lt2 i hc
     have hst:accT (accP H L L.length) t (i+1)=accT (accP H L L.length) t i++Wi.encT (t.getD i nilA).e++Wi.enc ((t.getD i nilA).d.length:Int)++Wi.encL (t.getD i nilA).d:=rfl
     generalize hx:t.getD i nilA=x at hq1 hq2 hst
     obtain ⟨e,d,y⟩:=x
     simp only at hq1 hq2 hst
     have hpy:arrV ⟨e,d,y⟩= .agg [.lit (.string e),.sl false 1 (ints .i64 d),.sl false 1 (ints .i64 y)]:=rfl
     with_reducible repeat' first|(refine nx ?_;intros)|apply And.intro|intro vr|((first|refine ny ?_|refine t_dwh (h:=fun K KL=>?_));intros;simp only [go_sem,kp9,geff,g2,htl,hx,hpy,hst.symm,Int.toNat_natCast,yes])
     all_goals try exact nd
     exact ⟨⟨i+1,by omega⟩,wf,lf⟩
    ·obtain rfl:i=t.length:=by omega
     have g2:decide ((t.length:Int)<(t.length:Int))=false:=decide_eq_false (by omega)
     with_reducible repeat' first|(refine nx ?_;intros)|apply And.intro|intro vr|((first|refine ny ?_|refine t_dwh (h:=fun K KL=>?_));intros;simp only [go_sem,kp9,geff,g2,htl])
     all_goals try exact nd
     all_goals (refine nl ?_;simp only [go_sem])
     exact LeA.of_eq rfl
end Go.Proofs.YtohiagaclfaolaaGreatDoor.Cd

namespace Go.Proofs.YtohiagaclfaolaaGreatDoor.Cd
open Go.Proofs.YtohiagaclfaolaaGreatDoor
open Go Go.Fw Bm Tx
set_option maxRecDepth 20000
noncomputable def rintCon:ECon Tryz.prog where
  f:=38
  c:=fun args σ k=>match args with
   |[.ref o 0,.lit (.int .i64 lo),.lit (.int .i64 hi)]=>Wi.rsrcAt σ o fun σ' l e0=>Wi.okL l∧k (.lit (.int .i64 (Wi.numS l e0 lo hi 2).1)) (σ'.set o (Wi.rsrc (Wi.numS l e0 lo hi 2).2.1 (Wi.numS l e0 lo hi 2).2.2))
   |_=>False
  ok:=by
   intro args σ k h
   split at h
   ·obtain ⟨σ',l,e0,h1,h2,h3,h4⟩:=Wi.rsrcAt_inv h
    exact EC.clB h1 (Wi.rint_ec h2 h3 h4)
   ·exact h.elim
  fk:=fk38
theorem rintCon_f:rintCon.f=38:=rfl
theorem rintCon_c {σ:List AObj} {k:AV→List AObj→Prop} {o:Nat} {lo hi:Int}:rintCon.c [.ref o 0,.lit (.int .i64 lo),.lit (.int .i64 hi)] σ k=
  Wi.rsrcAt σ o fun σ' l e0=>Wi.okL l∧k (.lit (.int .i64 (Wi.numS l e0 lo hi 2).1)) (σ'.set o (Wi.rsrc (Wi.numS l e0 lo hi 2).2.1 (Wi.numS l e0 lo hi 2).2.2)):=rfl
noncomputable def rintsCon:ECon Tryz.prog where
  f:=40
  c:=fun args σ k=>match args with
   |[.ref o 0,.lit (.int .i64 most),.lit (.int .i64 lo),.lit (.int .i64 hi)]=>Wi.rsrcAt σ o fun σ' l e0=>Wi.okL l∧k (.sl false 1 (ints .i64 (Wi.runS ([]:List Int) l e0 (Wi.manyS (fun l e=>Wi.numS l e lo hi 2) l 0 most)).1)) (σ'.set o (Wi.rsrc (Wi.runS ([]:List Int) l e0 (Wi.manyS (fun l e=>Wi.numS l e lo hi 2) l 0 most)).2.1 (Wi.runS ([]:List Int) l e0 (Wi.manyS (fun l e=>Wi.numS l e lo hi 2) l 0 most)).2.2))
   |_=>False
  ok:=by
   intro args σ k h
   split at h
   ·obtain ⟨σ',l,e0,h1,h2,h3,h4⟩:=Wi.rsrcAt_inv h
    exact EC.clB h1 (Wi.rmanyI_ec h2 h3 h4)
   ·exact h.elim
  fk:=fk40
theorem rintsCon_f:rintsCon.f=40:=rfl
theorem rintsCon_c {σ:List AObj} {k:AV→List AObj→Prop} {o:Nat} {most lo hi:Int}:rintsCon.c [.ref o 0,.lit (.int .i64 most),.lit (.int .i64 lo),.lit (.int .i64 hi)] σ k=
  Wi.rsrcAt σ o fun σ' l e0=>Wi.okL l∧k (.sl false 1 (ints .i64 (Wi.runS ([]:List Int) l e0 (Wi.manyS (fun l e=>Wi.numS l e lo hi 2) l 0 most)).1)) (σ'.set o (Wi.rsrc (Wi.runS ([]:List Int) l e0 (Wi.manyS (fun l e=>Wi.numS l e lo hi 2) l 0 most)).2.1 (Wi.runS ([]:List Int) l e0 (Wi.manyS (fun l e=>Wi.numS l e lo hi 2) l 0 most)).2.2)):=rfl
noncomputable def Yn:Env:=envJ (P:=Tryz.prog) jkV zer (fun _=>false) (fun _=>false) [] []
theorem Yn_ok:EnvOk Tryz.prog Yn:=envJOk zer_ok
theorem rend_ec {σ:List AObj} {o:Nat} {l:List Int} {e0:Int} (ho:σ[o]? =some (Wi.rsrc l e0)) {k:AV→List AObj→Prop}
    (hk:k (.lit (.int .i64 (if e0≠0 then e0 else if l=[] then 0 else 4))) σ):EC Tryz.prog 42 [.ref o 0] σ k:=by
  unfold Wi.rsrc at ho
  by_cases h0:e0=0
  ·subst h0
   rw [if_neg (show ¬ (0:Int)≠0 by decide)] at hk
   by_cases h1:l=[]
   ·subst h1
    rw [if_pos rfl] at hk
    refine ecR Yn_ok (kp42) Tryz.func42 [.tmp 2] (h:=fun KF=>?_)
    unfold Yn
    with_reducible repeat' first|(refine nx ?_;intros)|refine t_br (fun hc=>?_) fun hc=>?_|refine t_bx ?_|apply And.intro|intro vr|((first|refine ny ?_|refine t_dwh (h:=fun K KL=>?_));intros;simp only [go_sem,kp42,geff,ho,yes])
    all_goals try exact nd
    all_goals (refine nl ?_;simp only [go_sem])
    exact hk
   ·rw [if_neg h1] at hk
    have h2:decide ((l.length:Int)>0)=true:=decide_eq_true (by have:=List.length_pos_iff.2 h1;omega)
    refine ecR Yn_ok (kp42) Tryz.func42 [.tmp 2] (h:=fun KF=>?_)
    unfold Yn
    with_reducible repeat' first|(refine nx ?_;intros)|refine t_br (fun hc=>?_) fun hc=>?_|refine t_bx ?_|apply And.intro|intro vr|((first|refine ny ?_|refine t_dwh (h:=fun K KL=>?_));intros;simp only [go_sem,kp42,geff,ho,h2,yes])
    all_goals try exact nd
    all_goals (refine nl ?_;simp only [go_sem])
    exact hk
  ·rw [if_pos h0] at hk
   have hz:(e0 !=0)=true:=by simpa using h0
   refine ecR Yn_ok (kp42) Tryz.func42 [.tmp 2] (h:=fun KF=>?_)
   unfold Yn
   with_reducible repeat' first|(refine nx ?_;intros)|refine t_br (fun hc=>?_) fun hc=>?_|refine t_bx ?_|apply And.intro|intro vr|((first|refine ny ?_|refine t_dwh (h:=fun K KL=>?_));intros;simp only [go_sem,kp42,geff,ho,hz,yes])
   all_goals try exact nd
   all_goals (refine nl ?_;simp only [go_sem])
   exact hk
noncomputable def rendCon:ECon Tryz.prog where
  f:=42
  c:=fun args σ k=>match args with
   |[.ref o 0]=>Wi.rsrcAt σ o fun σ' l e0=>k (.lit (.int .i64 (if e0≠0 then e0 else if l=[] then 0 else 4))) σ'
   |_=>False
  ok:=by
   intro args σ k h
   split at h
   ·obtain ⟨σ',l,e0,h1,h2,h3⟩:=Wi.rsrcAt_inv h
    exact EC.clB h1 (rend_ec h2 h3)
   ·exact h.elim
  fk:=fk42
theorem rendCon_f:rendCon.f=42:=rfl
theorem rendCon_c {σ:List AObj} {k:AV→List AObj→Prop} {o:Nat}:rendCon.c [.ref o 0] σ k=Wi.rsrcAt σ o fun σ' l e0=>k (.lit (.int .i64 (if e0≠0 then e0 else if l=[] then 0 else 4))) σ':=rfl
theorem rsrcAt_c {a:AObj} {l:List Int} {e:Int} {r:List AObj} {p:List AObj→List Int→Int→Prop}:Wi.rsrcAt (a:: .box 72 [.sl false 1 (ints .u8 l),.lit (.int .i64 e)]::r) 1 p=p (a:: .box 72 [.sl false 1 (ints .u8 l),.lit (.int .i64 e)]::r) l e:=Wi.rsrcAt_src rfl
end Go.Proofs.YtohiagaclfaolaaGreatDoor.Cd

namespace Go.Proofs.YtohiagaclfaolaaGreatDoor.Cd
open Go.Proofs.YtohiagaclfaolaaGreatDoor
open Go Go.Fw Bm Tx
set_option maxRecDepth 20000
abbrev oCw5_0:List (Nat×Nat):=[(0,1),(1,1),(2,1),(3,1),(4,1),(5,1),(6,1),(7,0),(8,1),(9,0)]
attribute [go_sem] oCw5_0
theorem rparse_pc2 {s:ByteArray} (h:s.size≤4990):PC Tryz.prog 21 [.lit (.string s)] (parseV (parseS (ul s))):=by
  have:=rparse_pc (s:=ul s) (by rw [ul_len];exact h)
  exact this
noncomputable def con21:PCon Tryz.prog where
  f:=21
  c:=fun
   |[.lit (.string s)]=>some (s.size≤4990,parseV (parseS (ul s)))
   |_=>none
  ok:=by
   intro args p r hc hp
   split at hc
   ·cases hc;exact (rparse_pc2 hp)
   ·cases hc
  fk:=fk21
theorem con21_f:con21.f=21:=rfl
theorem con21_c {s:ByteArray}:con21.c [.lit (.string s)]=some (s.size≤4990,parseV (parseS (ul s))):=rfl
attribute [go_sem] con21_f con21_c
noncomputable def Yr:Env:=envJ (P:=Tryz.prog) jkV zer (fun _=>false) (fun _=>false) [con15,con21,con41] [rintCon,Wi.rtxtCon,rintsCon,rendCon]
theorem Yr_ok:EnvOk Tryz.prog Yr:=envJOk zer_ok
structure S3 (n:Nat) (F:List Int×Sr) where
  i:Nat
  v:Nat
  out:List Int
  s:List Int
  e:Int
  hi:i≤n
  ho:out.length=i
  ok:Wi.okL s
  F:offI (n - i) out (s,e)=F
theorem zer_app {out:List Int} {o:Int}:plsV (zerP out)++[.agg [.lit (.int .i64 o),.lit (.int .i64 0)]]=plsV (zerP (out++[o])):=by simp [plsV,zerP,plV]
theorem put_all {l:List (Int×Int)} {j:Nat} {t:Arr} {a b:Int} (e:l.getD j (0,0)=(a,b)):(plsV l).set j (.agg [.lit (.int .i64 a),.lit (.int .i64 (sizeS t.d).1)])=plsV (putSz l j t):=by
  unfold putSz;rw [pls_set,e]
theorem endS_ne {l:List Int} {e:Int} (h:e≠0):endS (l,e)=e:=by unfold endS;rw [if_pos h]
structure S4 (n:Nat) (F:List (Int×Int)×List Arr×Sr) where
  j:Nat
  v:Nat
  fz:Bool
  ps:List (Int×Int)
  ts:List Arr
  s:List Int
  e:Int
  hj:j≤n
  hp:ps.length=n
  ht:ts.length=j
  hz:fz=decide (j=n)
  ok:Wi.okL s
  F:typI (n - j) j ps ts (s,e)=F
set_option maxHeartbeats 8000000 in
theorem rdecode_pc {b:List Int} (hb:Wi.okL b) (hl:b.length≤50000) (hs:(d3 b).1.size≤4990):PC Tryz.prog 13 [.sl false 1 (ints .u8 b)] (decV (decodeS b)):=by
  obtain ⟨k1,k2,k3,k4,k5,k6⟩:=okd hb
  obtain ⟨r1,r2,r3,r4⟩:=cnt_rng hb
  have hO:=outP_ok hb hl hs
  obtain ⟨hp7,ht7,hr7⟩:=d7_len hb
  have hx7:∀ t∈(d7 b).2.1,t.x=[]:=fun t ht=>(hr7 t ht).x
  have hcn:((cntS b:Nat):Int)=(d4 b).1+(d5 b).1:=by unfold cntS;omega
  generalize hRR:decV (decodeS b)=RR
  have E1:Wi.numS b 0 0 200 2=d1 b:=rfl
  have E2:Wi.numS (d1 b).2.1 (d1 b).2.2 0 1048576 2=d2 b:=rfl
  have E3:Wi.runS (bs []) (d2 b).2.1 (d2 b).2.2 (Wi.wordS (d2 b).2.1 0 (b.length:Int))=d3 b:=rfl
  have E4:Wi.numS (d3 b).2.1 (d3 b).2.2 0 (b.length:Int) 2=d4 b:=rfl
  have E5:Wi.numS (d4 b).2.1 (d4 b).2.2 0 (b.length:Int) 2=d5 b:=rfl
  have EP:parseS (ul (d3 b).1)=opsS b:=rfl
  have E6:offI (cntS b) [] (d5 b).2=d6 b:=rfl
  have E7:typI (cntS b) 0 (zerP (d6 b).1) [] (d6 b).2=d7 b:=rfl
  unfold decodeS outP at hRR
  unfold outP at hO
  generalize d1 b=x1 at*
  generalize d2 b=x2 at*
  generalize d3 b=x3 at*
  generalize d4 b=x4 at*
  generalize d5 b=x5 at*
  generalize d6 b=x6 at*
  generalize d7 b=x7 at*
  generalize opsS b=xo at*
  generalize cntS b=cn at*
  obtain ⟨n1,l1,e1⟩:=x1
  obtain ⟨n2,l2,e2⟩:=x2
  obtain ⟨s3,l3,e3⟩:=x3
  obtain ⟨n4,l4,e4⟩:=x4
  obtain ⟨n5,l5,e5⟩:=x5
  obtain ⟨O6,l6,e6⟩:=x6
  obtain ⟨P7,T7,l7,e7⟩:=x7
  obtain ⟨ops,pi,pe⟩:=xo
  simp only at*
  have c0:(n4+n5)=(cn:Int):=hcn.symm
  have hcI:inI64 (cn:Int):=⟨by omega,by omega⟩
  obtain ⟨n,rfl⟩:=Int.eq_ofNat_of_zero_le r1
  simp only [Int.toNat_natCast,Prod.mk.injEq] at*
  refine pcR Yr_ok (kp13) Tryz.func13 [.cell 2 26,.tmp 3] (h:=fun KF=>?_)
  unfold Yr
  repeat' first|(with_reducible first|(refine nx ?_;intros)|apply And.intro|intro vr)|exact kpd|((with_reducible first|refine ny ?_|refine t_kLF ?_ ?_|refine t_dO 23 (fun i=>i==0) oCw5_0 fun K=>?_);intros;simp only [go_sem,kp13,geff,rintCon_f,rintCon_c,Wi.rtxtCon_f,Wi.rtxtCon_c,Wi.rsrc,rsrcAt_c,E1,E2,E3,E4,E5,EP,parseV,c0,List.set_cons_succ,List.set_cons_zero,yes])
  all_goals try exact nd
  refine t_loopF (ι:=S3 cn (O6,l6,e6)) (fun q=>[(12,.lit (.int .i64 (q.i:Int))),(11,.arr 3 q.v)]) (fun q=>[.box 26 [.lit (.int .i64 0),.lit (.int .i64 0),.sl true 6 [],.sl true 2 [],.sl true 2 [],.sl true 3 []],.box 72 [.sl false 1 (ints .u8 q.s),.lit (.int .i64 q.e)],.box 26 [.lit (.int .i64 n1),.lit (.int .i64 n2),.sl false 6 (opsV ops),.sl true 2 [],.sl true 2 [],.sl true 3 []],.arr 58 2 (plsV (zerP q.out)) q.v false]) (fun q=>cn - q.i) ⟨0,0,[],l5,e5,Nat.zero_le _,rfl,k5,E6⟩ ?_ ?_
  ·refine (le_nil 11 58 2 rfl).trans ?_
   exact lf
  rintro ⟨i,v,out,s,e,hi,ho,ok,hF⟩ K0
  have hcl:cn≤100000:=by omega
  have hz:(zerP out).length=i:=by simp [zerP,ho]
  have hzl:(plsV (zerP out)).length=i:=by simp [plsV,hz]
  by_cases he:e=0
  ·subst he
   rcases Nat.lt_or_ge i cn with hc|hc
   ·have g1:decide ((i:Int)<(cn:Int))=true:=decide_eq_true (by omega)
    have hE:Wi.numS s 0 0 1048576 2=rI 0 maxA (s,0):=rfl
    have ok':=(rI_ok (lo:=0) (hi:=maxA) (s:=(s,0)) ok).1
    rw [show cn - i=cn - (i+1)+1 by omega,offI] at hF
    generalize rI 0 maxA (s,0)=z at hE ok' hF
    obtain ⟨m,s',e'⟩:=z
    simp only at hE ok' hF
    repeat' first|(with_reducible first|(refine nx ?_;intros)|apply And.intro|intro vr)|exact kpd|((with_reducible first|refine ny ?_|refine t_kLF ?_ ?_|refine t_dO 23 (fun i=>i==0) oCw5_0 fun K=>?_);intros;simp only [go_sem,kp13,geff,g1,c0,hzl,rintCon_f,rintCon_c,Wi.rsrc,rsrcAt_c,hE,zer_app,beq_self_eq_true,List.set_cons_succ,List.set_cons_zero,yes])
    all_goals try exact nd
    exact ⟨⟨i+1,v+1,out++[m],s',e',by omega,by rw [List.length_append,ho];rfl,ok',hF⟩,wf,lf⟩
   ·obtain rfl:i=cn:=by omega
    rw [Nat.sub_self,offI] at hF
    simp only [Prod.mk.injEq] at hF
    obtain ⟨rfl,rfl,rfl⟩:=hF
    have g1:decide ((i:Int)<(i:Int))=false:=decide_eq_false (by omega)
    repeat' first|(with_reducible first|(refine nx ?_;intros)|apply And.intro|intro vr)|exact kpd|((with_reducible first|refine ny ?_|refine t_kLF ?_ ?_|refine t_dO 23 (fun i=>i==0) oCw5_0 fun K=>?_);intros;simp only [go_sem,kp13,geff,g1,c0,yes])
    all_goals try exact nd
    obtain ⟨z0,hz0⟩:∃ z0,z0=decide (0=i):=⟨_,rfl⟩
    refine t_loopF (ι:=S4 i (P7,T7,l7,e7)) (fun q=>[(13,.lit (.int .i64 (q.j:Int))),(11,bif q.fz then .sl false 2 (plsV q.ps) else .arr 3 v)]) (fun q=>[.box 26 [.lit (.int .i64 0),.lit (.int .i64 0),.sl true 6 [],.sl true 2 [],.sl true 2 [],.sl true 3 []],.box 72 [.sl false 1 (ints .u8 q.s),.lit (.int .i64 q.e)],.box 26 [.lit (.int .i64 n1),.lit (.int .i64 n2),.sl false 6 (opsV ops),.sl true 2 [],.sl true 2 [],.arr 4 q.v],.arr 58 2 (plsV q.ps) v q.fz,.arr 53 3 (tysV q.ts) q.v false]) (fun q=>i - q.j) ⟨0,0,z0,zerP out,[],s,0,Nat.zero_le _,hz,rfl,hz0,ok,E7⟩ ?_ ?_
    ·refine Le.trans (le_nilB 2 5 53 3 rfl ?_ ?_) ?_
     ·simp
     ·exact nil_sl
     cases z0 with
     |false=>exact lf
     |true=>
      refine (le_freeze 11 (o:=3) (e:=58) (sz:=2) (ver:=v) (xs:=plsV (zerP out)) rfl rfl).trans ?_
      exact lf
    rintro ⟨j,v3,fz,ps,ts,t,g,hj,hp,ht,hfz,okt,hG⟩ K1
    have hpl0:(plsV ps).length=i:=by simp [plsV,hp]
    by_cases hg:g=0
    ·subst hg
     rcases Nat.lt_or_ge j i with hc2|hc2
     ·have g2:decide ((j:Int)<(i:Int))=true:=decide_eq_true (by omega)
      have hE1:Wi.runS (bs []) t 0 (Wi.wordS t 0 4)=rT 4 (t,0):=rfl
      have hyp1:=typ1_r (s:=(t,0)) okt
      have okt2:=typ1_ok (s:=(t,0)) okt
      have okt1:=(rT_ok (most:=4) (s:=(t,0)) okt).1
      rw [show i - j=i - (j+1)+1 by omega,typI] at hG
      unfold typ1 at hG hyp1 okt2
      generalize rT 4 (t,0)=z at hE1 hG hyp1 okt2 okt1
      obtain ⟨w,t1,e1⟩:=z
      simp only at hE1 hG hyp1 okt2 okt1
      have hE2:Wi.runS [] t1 e1 (Wi.manyS (fun l e=>Wi.numS l e 0 4096 2) t1 0 6)=rL (t1,e1):=rfl
      generalize rL (t1,e1)=z at hE2 hG hyp1 okt2
      obtain ⟨dd,t2,e2⟩:=z
      simp only at hE2 hG hyp1 okt2
      have hdl:dd.length≤6:=hyp1.d
      have hpl:=len_put ps j ⟨w,dd,[]⟩
      have htl:(tysV ts).length=j:=by simp [tysV,ht]
      generalize hpj:ps.getD j (0,0)=pj
      obtain ⟨po,pz⟩:=pj
      have hjl:j<ps.length:=by omega
      have hgt:=pls_get hjl hpj
      have hst:=put_all (t:=⟨w,dd,[]⟩) hpj
      simp only at hst
      obtain rfl:fz=false:=by rw [hfz];exact decide_eq_false (by omega)
      repeat' first|(with_reducible first|(refine nx ?_;intros)|apply And.intro|intro vr)|exact kpd|((with_reducible first|refine ny ?_|refine t_kLF ?_ ?_|refine t_dO 23 (fun i=>i==0) oCw5_0 fun K=>?_);intros;simp only [go_sem,kp13,geff,g2,c0,hpl0,hgt,hst,htl,tys_app,cond_false,rintCon_f,Wi.rtxtCon_f,Wi.rtxtCon_c,rintsCon_f,rintsCon_c,Wi.rsrc,rsrcAt_c,hE1,hE2,slK_emp,beq_self_eq_true,Int.toNat_natCast,List.set_cons_succ,List.set_cons_zero,yes])
      all_goals try exact nd
      rcases Nat.lt_or_ge (j+1) i with hc3|hc3
      ·have hz1:false=decide (j+1=i):=(decide_eq_false (by omega)).symm
       refine ⟨⟨j+1,v3+1,false,putSz ps j ⟨w,dd,[]⟩,ts++[⟨w,dd,[]⟩],t2,e2,by omega,by rw [hpl];exact hp,by rw [List.length_append,ht];rfl,hz1,okt2,hG⟩,by first|(simp only;omega)|omega,?_⟩
       try simp only [updL_nil,updL_cons,delF_top,delF_upd,Nat.reduceEqDiff,reduceIte]
       refine le_backD (by first|rfl|(simp only [go_sem];try rfl)) (by first|exact Nat.zero_le _|simp) (by first|rfl|simp [lowO,low_lit,low_sl,low_ref,low_arr,low_sub,low_mp]) ?_ ?_
       ·repeat' (first|exact low_top|(refine low_upd rfl ?_))
       exact lq
      ·have hz1:true=decide (j+1=i):=(decide_eq_true (by omega)).symm
       refine ⟨⟨j+1,v3+1,true,putSz ps j ⟨w,dd,[]⟩,ts++[⟨w,dd,[]⟩],t2,e2,by omega,by rw [hpl];exact hp,by rw [List.length_append,ht];rfl,hz1,okt2,hG⟩,by first|(simp only;omega)|omega,?_⟩
       refine (le_freeze 11 (o:=3) (e:=58) (sz:=2) (ver:=v) (xs:=plsV (putSz ps j ⟨w,dd,[]⟩)) rfl rfl).trans ?_
       try simp only [updL_nil,updL_cons,delF_top,delF_upd,Nat.reduceEqDiff,reduceIte]
       refine le_backD (by first|rfl|(simp only [go_sem];try rfl)) (by first|exact Nat.zero_le _|simp) (by first|rfl|simp [lowO,low_lit,low_sl,low_ref,low_arr,low_sub,low_mp]) ?_ ?_
       ·repeat' (first|exact low_top|(refine low_upd rfl ?_))
       exact lq
     ·obtain rfl:j=i:=by omega
      rw [Nat.sub_self,typI] at hG
      simp only [Prod.mk.injEq] at hG
      obtain ⟨rfl,rfl,rfl,rfl⟩:=hG
      have g2:decide ((j:Int)<(j:Int))=false:=decide_eq_false (by omega)
      have hnj:n≤j:=by omega
      obtain rfl:fz=true:=by rw [hfz];exact decide_eq_true rfl
      have hen:(if (0:Int)≠0 then (0:Int) else if t=[] then 0 else 4)=endS (t,0):=rfl
      have hal:∀ b,arrsOf (.sl b 3 (tysV ts))=some ts:=fun b=>by rw [arrsOf_x,arrL_tys hx7]
      have htk:(plsV ps).take n=plsV (ps.take n):=by unfold plsV;rw [List.map_take]
      have hdr:(plsV ps).drop n=plsV (ps.drop n):=by unfold plsV;rw [List.map_drop]
      have hbc:bcOf (.agg [.lit (.int .i64 n1),.lit (.int .i64 n2),.sl false 6 (opsV ops),.sl false 2 (plsV (ps.take n)),.sl false 2 (plsV (ps.drop n)),.sl false 3 (tysV ts)])=some ⟨n1,n2,ops,ps.take n,ps.drop n,ts⟩:=by
        rw [bcOf_agg,opsOf_sl,plsOf_sl,plsOf_sl,hal]
      generalize endS (t,0)=ev at hen hRR
      by_cases hev:ev=0
      ·have hq1:(ev !=0)=false:=by simpa using hev
       by_cases hp0:pe=0
       ·have hq0:(pe !=0)=false:=by simpa using hp0
        have z2:List.drop n (List.take j (plsV ps))=plsV (ps.drop n):=by rw [List.take_of_length_le (by omega),hdr]
        have hOk:=hO.ok
        cases hv:validS ⟨n1,n2,ops,ps.take n,ps.drop n,ts⟩ with
        |false=>
         rw [if_neg (by rw [hv];exact fun h=>absurd h.2.2 (by decide))] at hRR
         repeat' first|(with_reducible first|(refine nx ?_;intros)|apply And.intro|intro vr)|exact kpd|((with_reducible first|refine ny ?_|refine t_kLF ?_ ?_|refine t_dO 23 (fun i=>i==0) oCw5_0 fun K=>?_);intros;simp only [go_sem,kp13,geff,g2,c0,hpl0,cond_true,hq0,hq1,hv,htk,z2,hbc,hal,hen,rintCon_f,Wi.rtxtCon_f,rintsCon_f,rendCon_f,rendCon_c,Wi.rsrc,rsrcAt_c,beq_self_eq_true,Bool.not_false,Bool.not_true,yes])
         all_goals try exact nd
         all_goals (refine nl ?_;simp only [go_sem])
         rw [←hRR]
         exact LeA.tup ⟨LeA.agg ⟨LeA.refl _,LeA.refl _,LeA.full _ _ _,LeA.full _ _ _,LeA.full _ _ _,LeA.full _ _ _,trivial⟩,LeA.refl _,trivial⟩
        |true=>
         rw [if_pos ⟨hp0,hev,hv⟩] at hRR
         repeat' first|(with_reducible first|(refine nx ?_;intros)|apply And.intro|intro vr)|exact kpd|((with_reducible first|refine ny ?_|refine t_kLF ?_ ?_|refine t_dO 23 (fun i=>i==0) oCw5_0 fun K=>?_);intros;simp only [go_sem,kp13,geff,g2,c0,hpl0,cond_true,hq0,hq1,hv,htk,z2,hbc,hal,hen,rintCon_f,Wi.rtxtCon_f,rintsCon_f,rendCon_f,rendCon_c,Wi.rsrc,rsrcAt_c,beq_self_eq_true,Bool.not_false,Bool.not_true,yes])
         all_goals try exact nd
         all_goals (refine nl ?_;simp only [go_sem])
         rw [←hRR]
         exact LeA.tup ⟨bcOf_le hbc,LeA.refl _,trivial⟩
       ·have hq0:(pe !=0)=true:=by simpa using hp0
        rw [if_neg fun h=>hp0 h.1] at hRR
        repeat' first|(with_reducible first|(refine nx ?_;intros)|apply And.intro|intro vr)|exact kpd|((with_reducible first|refine ny ?_|refine t_kLF ?_ ?_|refine t_dO 23 (fun i=>i==0) oCw5_0 fun K=>?_);intros;simp only [go_sem,kp13,geff,g2,c0,cond_true,hq0,hq1,hbc,hal,hen,rintCon_f,Wi.rtxtCon_f,rintsCon_f,rendCon_f,rendCon_c,Wi.rsrc,rsrcAt_c,beq_self_eq_true,Bool.not_false,Bool.not_true,yes])
        all_goals try exact nd
        all_goals (refine nl ?_;simp only [go_sem])
        rw [←hRR]
        exact LeA.tup ⟨LeA.agg ⟨LeA.refl _,LeA.refl _,LeA.full _ _ _,LeA.full _ _ _,LeA.full _ _ _,LeA.full _ _ _,trivial⟩,LeA.refl _,trivial⟩
      ·have hq1:(ev !=0)=true:=by simpa using hev
       rw [if_neg fun h=>hev h.2.1] at hRR
       repeat' first|(with_reducible first|(refine nx ?_;intros)|apply And.intro|intro vr)|exact kpd|((with_reducible first|refine ny ?_|refine t_kLF ?_ ?_|refine t_dO 23 (fun i=>i==0) oCw5_0 fun K=>?_);intros;simp only [go_sem,kp13,geff,g2,c0,cond_true,hq1,hbc,hal,hen,rintCon_f,Wi.rtxtCon_f,rintsCon_f,rendCon_f,rendCon_c,Wi.rsrc,rsrcAt_c,beq_self_eq_true,Bool.not_false,Bool.not_true,yes])
       all_goals try exact nd
       all_goals (refine nl ?_;simp only [go_sem])
       rw [←hRR]
       exact LeA.tup ⟨LeA.agg ⟨LeA.refl _,LeA.refl _,LeA.full _ _ _,LeA.full _ _ _,LeA.full _ _ _,LeA.full _ _ _,trivial⟩,LeA.refl _,trivial⟩
    ·have he0:(g==0)=false:=by simpa using hg
     have hg1:(g !=0)=true:=by simpa using hg
     have h7:=typI_err (i - j) j ps ts (t,g) hg
     rw [hG] at h7
     simp only [Prod.mk.injEq] at h7
     obtain ⟨rfl,rfl⟩:=h7
     rw [endS_ne hg,if_neg fun h=>hg h.2.1] at hRR
     have hen:(if e7≠0 then e7 else if l7=[] then 0 else 4)=e7:=if_pos hg
     obtain ⟨gb,g2⟩:∃ gb,decide ((j:Int)<(i:Int))=gb:=⟨_,rfl⟩
     cases gb
     all_goals
       repeat' first|(with_reducible first|(refine nx ?_;intros)|apply And.intro|intro vr)|exact kpd|((with_reducible first|refine ny ?_|refine t_kLF ?_ ?_|refine t_dO 23 (fun i=>i==0) oCw5_0 fun K=>?_);intros;simp only [go_sem,kp13,geff,g2,c0,he0,hg1,hen,rintCon_f,Wi.rtxtCon_f,rintsCon_f,rendCon_f,rendCon_c,Wi.rsrc,rsrcAt_c,Bool.not_false,Bool.not_true,yes])
       all_goals try exact nd
       all_goals (refine nl ?_;simp only [go_sem])
       rw [←hRR]
       exact LeA.tup ⟨LeA.agg ⟨LeA.refl _,LeA.refl _,LeA.full _ _ _,LeA.full _ _ _,LeA.full _ _ _,LeA.full _ _ _,trivial⟩,LeA.refl _,trivial⟩
  ·have he0:(e==0)=false:=by simpa using he
   have he1:(e !=0)=true:=by simpa using he
   have h6:=offI_err (cn - i) out (s,e) he
   rw [hF] at h6
   simp only [Prod.mk.injEq] at h6
   obtain ⟨rfl,rfl⟩:=h6
   have h7:=typI_err cn 0 (zerP O6) [] (l6,e6) he
   rw [E7] at h7
   simp only [Prod.mk.injEq] at h7
   obtain ⟨rfl,rfl⟩:=h7
   rw [endS_ne he,if_neg fun h=>he h.2.1] at hRR
   have hen:(if e7≠0 then e7 else if l7=[] then 0 else 4)=e7:=if_pos he
   have hcs:(decide ((i:Int)<(cn:Int))=true∧decide ((0:Int)<(cn:Int))=true)∨(decide ((i:Int)<(cn:Int))=false∧decide ((0:Int)<(cn:Int))=true)∨(decide ((i:Int)<(cn:Int))=false∧decide ((0:Int)<(cn:Int))=false):=by
     rcases Nat.lt_or_ge i cn with h1|h1
     ·exact .inl ⟨decide_eq_true (by omega),decide_eq_true (by omega)⟩
     ·rcases Nat.lt_or_ge 0 cn with h2|h2
      ·exact .inr (.inl ⟨decide_eq_false (by omega),decide_eq_true (by omega)⟩)
      ·exact .inr (.inr ⟨decide_eq_false (by omega),decide_eq_false (by omega)⟩)
   rcases hcs with ⟨g1,g0⟩|⟨g1,g0⟩|⟨g1,g0⟩
   all_goals
     repeat' first|(with_reducible first|(refine nx ?_;intros)|apply And.intro|intro vr)|exact kpd|((with_reducible first|refine ny ?_|refine t_kLF ?_ ?_|refine t_dO 23 (fun i=>i==0) oCw5_0 fun K=>?_);intros;simp only [go_sem,kp13,geff,g1,g0,c0,he0,yes])
     all_goals try exact nd
     refine t_loopF (ι:=Unit) (fun _=>[(13,.lit (.int .i64 0))]) (fun _=>[.box 26 [.lit (.int .i64 0),.lit (.int .i64 0),.sl true 6 [],.sl true 2 [],.sl true 2 [],.sl true 3 []],.box 72 [.sl false 1 (ints .u8 l7),.lit (.int .i64 e7)],.box 26 [.lit (.int .i64 n1),.lit (.int .i64 n2),.sl false 6 (opsV ops),.sl true 2 [],.sl true 2 [],.sl true 3 []],.arr 58 2 (plsV (zerP out)) v false]) (fun _=>0) () lf ?_
     rintro ⟨⟩ K1
     repeat' first|(with_reducible first|(refine nx ?_;intros)|apply And.intro|intro vr)|exact kpd|((with_reducible first|refine ny ?_|refine t_kLF ?_ ?_|refine t_dO 23 (fun i=>i==0) oCw5_0 fun K=>?_);intros;simp only [go_sem,kp13,geff,g0,c0,he0,he1,hen,rintCon_f,Wi.rtxtCon_f,rintsCon_f,rendCon_f,rendCon_c,Wi.rsrc,rsrcAt_c,Bool.not_false,Bool.not_true,yes])
     all_goals try exact nd
     all_goals (refine nl ?_;simp only [go_sem])
     rw [←hRR]
     exact LeA.tup ⟨LeA.agg ⟨LeA.refl _,LeA.refl _,LeA.full _ _ _,LeA.full _ _ _,LeA.full _ _ _,LeA.full _ _ _,trivial⟩,LeA.refl _,trivial⟩
end Go.Proofs.YtohiagaclfaolaaGreatDoor.Cd

namespace Go.Proofs.YtohiagaclfaolaaGreatDoor.Tx
open Go.Proofs.YtohiagaclfaolaaGreatDoor
open Go Go.Fw Bm
set_option maxRecDepth 20000
def in0:Ins:=⟨1,ByteArray.empty,1,4,0,0⟩
def in1:Ins:=⟨10,ByteArray.empty,0,2,1,1⟩
def in2:Ins:=⟨13,ByteArray.empty,0,0,0,0⟩
def insL:List Ins:=[in0,in1,in2]
def tx0:List UInt8:=[99,111,110,115,116,32,114,49,32,52,10,102,111,114,32,114,48,32,114,50,32,114,49,32,49,10,101,110,100,10]
theorem tx_text:textB insL=tx0:=by decide+kernel
theorem ins_right:∀ x∈insL,rightS x 200=true:=by
  intro x hx
  simp only [insL,List.mem_cons,List.mem_nil_iff,or_false] at hx
  rcases hx with rfl|rfl|rfl<;>decide+kernel
theorem parse_of {l:List Ins} (h:∀ x∈l,rightS x 200=true):parseS (textB l)=(l,0,0):=by
  unfold parseS
  rw [parse_text l _ [] h (by omega),List.nil_append]
theorem parse_tx:parseS tx0=(insL,0,0):=by rw [←tx_text];exact parse_of ins_right
noncomputable def con19:PCon Tryz.prog where
  f:=19
  c:=fun
   |[.lit (.string s)]=>some ((ul s).length≤4990,parseV (parseS (ul s)))
   |_=>none
  ok:=by
   intro args p r hc hp
   split at hc
   ·rename_i s
    obtain ⟨l,rfl⟩:=bs_ex s
    cases hc;rw [ul_bs] at*;exact parse_pc hp
   ·cases hc
  fk:=fk19
theorem con19_f:con19.f=19:=rfl
theorem con19_c {l:List UInt8}:con19.c [.lit (.string (bs l))]=some (l.length≤4990,parseV (parseS l)):=by
  show some ((ul (bs l)).length≤4990,parseV (parseS (ul (bs l))))=_
  rw [ul_bs]
theorem con19_0:con19.c [.lit (.string ⟨#[99,111,110,115,116,32,114,49,32,52,10,102,111,114,32,114,48,32,114,50,32,114,49,32,49,10,101,110,100,10]⟩)]=some (tx0.length≤4990,.tup [.sl false 6 (opsV insL),.lit (.int .i64 0),.lit (.int .i64 0)]):=by
  have h:=con19_c (l:=tx0)
  rw [parse_tx] at h
  exact h
theorem tx0_len:tx0.length≤4990:=by decide
theorem ok0:OkB ⟨0,0,[],[],[],[]⟩:=by
  constructor<;>simp
theorem valid0:validS ⟨0,0,[],[],[],[]⟩=true:=by decide+kernel
noncomputable def con18z:PCon Tryz.prog where
  f:=14
  c:=fun
   |[.agg [.lit (.int .i64 0),.lit (.int .i64 0),.sl _ 6 [],.sl _ 2 [],.sl _ 2 [],.sl _ 3 []]]=>some (True,.lit (.bool true))
   |_=>none
  ok:=by
   intro args p r hc hp
   split at hc
   ·cases hc
    have h:=bvalid_pc ok0 ⟨by decide,by decide⟩
    rw [valid0] at h
    exact PC.weak h ⟨LeA.agg ⟨LeA.refl _,LeA.refl _,LeA.full _ _ _,LeA.full _ _ _,LeA.full _ _ _,LeA.full _ _ _,trivial⟩,trivial⟩
   ·cases hc
  fk:=fk14
theorem con18z_f:con18z.f=14:=rfl
theorem con18z_c {a b c d:Bool}:con18z.c [.agg [.lit (.int .i64 0),.lit (.int .i64 0),.sl a 6 [],.sl b 2 [],.sl c 2 [],.sl d 3 []]]=some (True,.lit (.bool true)):=rfl
attribute [go_sem] con19_f con19_0 con18z_f con18z_c
theorem match0:matchV insL= .tup [.sl false 1 (ints .i64 [0,2,2]),.lit (.bool true)]:=by
  unfold matchV;rw [show matchS insL=some [0,2,2] by decide+kernel]
def elsI:Ins:=⟨12,ByteArray.empty,0,0,0,0⟩
theorem match1:matchV [elsI]= .tup [.sl false 1 [],.lit (.bool false)]:=by
  unfold matchV;rw [show matchS [elsI]=none by decide+kernel]
theorem els_of {b:Bool}:opsOf (.sl b 6 [.agg [.lit (.int .i64 12),.lit (.string (bs [])),.lit (.int .i64 0),.lit (.int .i64 0),.lit (.int .i64 0),.lit (.int .i64 0)]])=some [elsI]:=rfl
theorem insL_len:insL.length=3:=rfl
theorem ins_at:opV (insL.getD 1 nilI)= .agg [.lit (.int .i64 10),.lit (.string (bs [])),.lit (.int .i64 0),.lit (.int .i64 2),.lit (.int .i64 1),.lit (.int .i64 1)]:=rfl
theorem k022 {b:Bool}:slK .i64 (.sl b 1 [.lit (.int .i64 0),.lit (.int .i64 2),.lit (.int .i64 2)])=some [0,2,2]:=rfl
attribute [go_sem] con23_f con23_c con22_f con22_c k022
noncomputable def Ya:Env:=envJ (P:=Tryz.prog) jkV zer (fun _=>false) (fun _=>false) [con19,con22,con23,con18z] []
theorem Ya_ok:EnvOk Tryz.prog Ya:=envJOk zer_ok
set_option maxHeartbeats 8000000 in
theorem awake_pc:PC Tryz.prog 6 [] (.lit (.bool true)):=by
  have hn:(([]:List UInt8)==[])=true:=rfl
  have h3:(((3:Nat):Int)==3)=true:=rfl
  have h022:decide (([0,2,2]:List Int)=[0,2,2])=true:=rfl
  have hl1:([0,2,2]:List Int).length≤1000000:=by decide
  have hl2:insL.length≤1000000:=by decide
  have hl3:[elsI].length≤1000000:=by decide
  have hl4:=tx0_len
  refine pcR Ya_ok (kp6) Tryz.func6 [.tmp 0] (h:=fun KF=>?_)
  unfold Ya
  with_reducible repeat' first|(refine nx ?_;intros)|apply And.intro|intro vr|(refine ny ?_;intros;simp only [go_sem,kp6,geff,match0,els_of,match1,insL_len,ins_at,h3,h022,hn,yes])
  all_goals try exact nd
  all_goals (refine nl ?_;simp only [go_sem])
  exact LeA.refl _
structure FewP (l:List Ins):Prop where
  len:l.length≤maxLen
  prims:∀ o∈l,o.prim.size≤maxLen
theorem fewo_pc3 {l:List Ins} {n:Int} (h:FewP l):PC Tryz.prog 16 [.sl false 6 (opsV l),.lit (.int .i64 n)] (.lit (.bool (fewO n l))):=fewo_pc h.len h.prims
noncomputable def con16:PCon Tryz.prog where
  f:=16
  c:=fun
   |[xl,.lit (.int .i64 n)]=>match opsOf xl with|some l=>some (FewP l,.lit (.bool (fewO n l)))|_=>none
   |_=>none
  ok:=by
   intro args p r hc hp
   split at hc
   ·split at hc
    ·rename_i hl
     cases hc
     exact PC.weak (fewo_pc3 hp) ⟨opsOf_le hl,LeA.refl _,trivial⟩
    ·cases hc
   ·cases hc
  fk:=fk16
theorem con16_f:con16.f=16:=rfl
theorem con16_c {xl:AV} {n:Int}:con16.c [xl,.lit (.int .i64 n)]=match opsOf xl with|some l=>some (FewP l,.lit (.bool (fewO n l)))|_=>none:=rfl
noncomputable def con20:PCon Tryz.prog where
  f:=20
  c:=fun
   |[x,y]=>match opsOf x,opsOf y with
    |some a,some b=>some (a.length≤1000000∧a=b,.lit (.bool true))
    |_,_=>none
   |_=>none
  ok:=by
   intro args p r hc hp
   split at hc
   ·split at hc
    ·rename_i h1 h2
     cases hc
     obtain ⟨hl,rfl⟩:=hp
     exact PC.weak (sameops_pc hl) ⟨opsOf_le h1,opsOf_le h2,trivial⟩
    ·cases hc
   ·cases hc
  fk:=fk20
theorem con20_f:con20.f=20:=rfl
theorem con20_c {x y:AV}:con20.c [x,y]=match opsOf x,opsOf y with
      |some a,some b=>some (a.length≤1000000∧a=b,.lit (.bool true))
      |_,_=>none:=rfl
attribute [go_sem] con16_f con16_c con19_c con20_f con20_c
end Go.Proofs.YtohiagaclfaolaaGreatDoor.Tx

namespace Go.Proofs.YtohiagaclfaolaaGreatDoor.Cd
open Go.Proofs.YtohiagaclfaolaaGreatDoor
open Go Go.Fw Bm Tx
set_option maxRecDepth 20000
theorem eqb_self (p:ByteArray):eqS p p=true:=by simp [eqS]
theorem beq_pc {l:List Int}:PC Tryz.prog 10 [.sl false 1 (ints .u8 l),.sl false 1 (ints .u8 l)] (.lit (.bool true)):=by
  refine pcR Yn_ok (kp10) Tryz.func10 [.tmp 4] (h:=fun KF=>?_)
  unfold Yn
  with_reducible repeat' first|(refine nx ?_;intros)|refine t_br (fun hc=>?_) fun hc=>?_|refine t_bx ?_|apply And.intro|intro vr|((first|refine ny ?_|refine t_dwh (h:=fun K KL=>?_));intros;simp only [go_sem,kp10,geff,eqb_self,yes])
  all_goals try exact nd
  all_goals (refine nl ?_;simp only [go_sem])
  exact LeA.refl _
noncomputable def con10:PCon Tryz.prog where
  f:=10
  c:=fun
   |[x,y]=>match slK .u8 x,slK .u8 y with
    |some a,some b=>some (a=b,.lit (.bool true))
    |_,_=>none
   |_=>none
  ok:=by
   intro args p r hc hp
   split at hc
   ·split at hc
    ·rename_i h1 h2
     cases hc
     subst hp
     exact PC.weak beq_pc ⟨slK_le h1,slK_le h2,trivial⟩
    ·cases hc
   ·cases hc
  fk:=fk10
theorem con10_f:con10.f=10:=rfl
theorem con10_c {x y:AV}:con10.c [x,y]=match slK .u8 x,slK .u8 y with
      |some a,some b=>some (a=b,.lit (.bool true))
      |_,_=>none:=rfl
noncomputable def Ys:Env:=envJ (P:=Tryz.prog) jkV zer (fun _=>false) (fun _=>false) [con72] []
theorem Ys_ok:EnvOk Tryz.prog Ys:=envJOk zer_ok
set_option maxHeartbeats 4000000 in
theorem samearr_pc {l:List Arr} (hl:l.length≤1000000) (hd:∀ t∈l,okA t):PC Tryz.prog 37 [.sl false 3 (arrs l),.sl false 3 (arrs l)] (.lit (.bool true)):=by
  have hal:=arrs_length l
  have g0:((l.length:Int) !=(l.length:Int))=false:=by simp
  refine pcR Ys_ok (kp37) Tryz.func37 [.tmp 4] (h:=fun KF=>?_)
  unfold Ys
  with_reducible repeat' first|(refine nx ?_;intros)|apply And.intro|intro vr|((first|refine ny ?_|refine t_dwh (h:=fun K KL=>?_));intros;simp only [go_sem,kp37,geff,hal,g0])
  all_goals try exact nd
  refine t_loopF (ι:={i:Nat // i≤l.length}) (fun i=>[(5,.lit (.int .i64 (i.1:Int)))]) (fun i=>[]) (fun i=>l.length - i.1) ⟨0,by omega⟩ ?_ ?_
  ·exact lf
  rintro ⟨i,hi⟩ K0
  rcases Nat.lt_or_ge i l.length with hc|hc
  ·have g2:decide ((i:Int)<(l.length:Int))=true:=decide_eq_true (by omega)
   have hm:okA (l.getD i nilA):=hd _ (by rw [List.getD_eq_getElem?_getD,List.getElem?_eq_getElem hc];exact List.getElem_mem hc)
   generalize hx:l.getD i nilA=x at hm
   have hee:=eqA_refl x
   obtain ⟨e,d,y⟩:=x
   have hpy:arrV ⟨e,d,y⟩= .agg [.lit (.string e),.sl false 1 (ints .i64 d),.sl false 1 (ints .i64 y)]:=rfl
   with_reducible repeat' first|(refine nx ?_;intros)|apply And.intro|intro vr|((first|refine ny ?_|refine t_dwh (h:=fun K KL=>?_));intros;simp only [go_sem,kp37,geff,g2,hal,hx,hpy,arrOf_agg,slK_sl,con72_f,con72_c,hee,Bool.not_true,Int.toNat_natCast,yes])
   all_goals try exact nd
   exact ⟨⟨i+1,by omega⟩,wf,lf⟩
  ·obtain rfl:i=l.length:=by omega
   have g2:decide ((l.length:Int)<(l.length:Int))=false:=decide_eq_false (by omega)
   with_reducible repeat' first|(refine nx ?_;intros)|apply And.intro|intro vr|((first|refine ny ?_|refine t_dwh (h:=fun K KL=>?_));intros;simp only [go_sem,kp37,geff,g2,hal,con72_f])
   all_goals try exact nd
   all_goals (refine nl ?_;simp only [go_sem])
   exact LeA.refl _
noncomputable def con37:PCon Tryz.prog where
  f:=37
  c:=fun
   |[x,y]=>match arrsOf x,arrsOf y with
    |some a,some b=>some ((a.length≤1000000∧∀ t∈a,okA t)∧a=b,.lit (.bool true))
    |_,_=>none
   |_=>none
  ok:=by
   intro args p r hc hp
   split at hc
   ·split at hc
    ·rename_i h1 h2
     cases hc
     obtain ⟨⟨hl,hd⟩,rfl⟩:=hp
     exact PC.weak (samearr_pc hl hd) ⟨arrsOf_le h1,arrsOf_le h2,trivial⟩
    ·cases hc
   ·cases hc
  fk:=fk37
theorem con37_f:con37.f=37:=rfl
theorem con37_c {x y:AV}:con37.c [x,y]=match arrsOf x,arrsOf y with
      |some a,some b=>some ((a.length≤1000000∧∀ t∈a,okA t)∧a=b,.lit (.bool true))
      |_,_=>none:=rfl
attribute [go_sem] con10_f con10_c con37_f con37_c
noncomputable def Yt:Env:=envJ (P:=Tryz.prog) jkV zer (fun _=>false) (fun _=>false) [con20,con30,con37] []
theorem Yt_ok:EnvOk Tryz.prog Yt:=envJOk zer_ok
set_option maxHeartbeats 8000000 in
theorem same_pc {B:Prg} (h:OkB B):PC Tryz.prog 12 [bcV B,bcV B] (.lit (.bool true)):=by
  have h1:=h.ops;have h2:=h.ins;have h3:=h.outs;have h4:=h.types;have h5:=h.dims
  have hbn:∀ z:Int,(z !=z)=false:=fun z=>by simp
  have hO:=h
  obtain ⟨r,a,o,ii,u,t⟩:=B
  simp only at h1 h2 h3 h4 h5
  generalize hLL:ii++u=L
  have hLl:(plsV L).length=L.length:=by simp [plsV]
  have hLn:L.length≤2000000:=by rw [←hLL,List.length_append];omega
  simp only [bcV]
  refine pcR Yt_ok (kp12) Tryz.func12 [.tmp 4] (h:=fun KF=>?_)
  unfold Yt
  with_reducible repeat' first|(refine nx ?_;intros)|apply And.intro|intro vr|((first|refine ny ?_|refine t_dwh (h:=fun K KL=>?_));intros;simp only [go_sem,kp12,geff,bcOf_mk,hbn,hLL,hLl,Bool.not_true,Bool.not_false,yes])
  all_goals try exact nd
  all_goals try exact h5 _ (by assumption)
  refine t_loopF (ι:={i:Nat // i≤L.length}) (fun i=>[(7,.lit (.int .i64 (i.1:Int)))]) (fun i=>[.box 26 [.lit (.int .i64 r),.lit (.int .i64 a),.sl false 6 (opsV o),.sl false 2 (plsV ii),.sl false 2 (plsV u),.sl false 3 (arrs t)],.box 26 [.lit (.int .i64 r),.lit (.int .i64 a),.sl false 6 (opsV o),.sl false 2 (plsV ii),.sl false 2 (plsV u),.sl false 3 (arrs t)]]) (fun i=>L.length - i.1) ⟨0,by omega⟩ ?_ ?_
  ·exact lf
  rintro ⟨i,hi⟩ K0
  rcases Nat.lt_or_ge i L.length with hc|hc
  ·have g2:decide ((i:Int)<(L.length:Int))=true:=decide_eq_true (by omega)
   generalize hx:L.getD i (0,0)=x
   obtain ⟨po,ps⟩:=x
   have hpp:plV (po,ps)= .agg [.lit (.int .i64 po),.lit (.int .i64 ps)]:=rfl
   with_reducible repeat' first|(refine nx ?_;intros)|apply And.intro|intro vr|((first|refine ny ?_|refine t_dwh (h:=fun K KL=>?_));intros;simp only [go_sem,kp12,geff,g2,hLl,hx,hpp,beq_self_eq_true,Bool.and_self,Bool.not_true,Int.toNat_natCast,yes])
   all_goals try exact nd
   exact ⟨⟨i+1,by omega⟩,wf,lf⟩
  ·obtain rfl:i=L.length:=by omega
   have g2:decide ((L.length:Int)<(L.length:Int))=false:=decide_eq_false (by omega)
   with_reducible repeat' first|(refine nx ?_;intros)|apply And.intro|intro vr|((first|refine ny ?_|refine t_dwh (h:=fun K KL=>?_));intros;simp only [go_sem,kp12,geff,g2,hLl])
   all_goals try exact nd
   all_goals (refine nl ?_;simp only [go_sem])
   exact LeA.refl _
noncomputable def con12:PCon Tryz.prog where
  f:=12
  c:=fun
   |[x,y]=>match bcOf x,bcOf y with
    |some a,some b=>some (OkB a∧a=b,.lit (.bool true))
    |_,_=>none
   |_=>none
  ok:=by
   intro args p r hc hp
   split at hc
   ·split at hc
    ·rename_i h1 h2
     cases hc
     obtain ⟨hl,rfl⟩:=hp
     exact PC.weak (same_pc hl) ⟨bcOf_le h1,bcOf_le h2,trivial⟩
    ·cases hc
   ·cases hc
  fk:=fk12
theorem con12_f:con12.f=12:=rfl
theorem con12_c {x y:AV}:con12.c [x,y]=match bcOf x,bcOf y with
      |some a,some b=>some (OkB a∧a=b,.lit (.bool true))
      |_,_=>none:=rfl
end Go.Proofs.YtohiagaclfaolaaGreatDoor.Cd

namespace Go.Proofs.YtohiagaclfaolaaGreatDoor.Cd
open Go.Proofs.YtohiagaclfaolaaGreatDoor
open Go Go.Fw Bm Tx
set_option maxRecDepth 20000
structure DecP (l:List Int):Prop where
  ok:Wi.okL l
  len:l.length≤50000
  txt:(d3 l).1.size≤4990
theorem decode_pc2 {l:List Int} (h:DecP l):PC Tryz.prog 11 [.sl false 1 (ints .u8 l)] (decV (decodeS l)):=decode_pc h.ok h.len h.txt
theorem rdecode_pc2 {l:List Int} (h:DecP l):PC Tryz.prog 13 [.sl false 1 (ints .u8 l)] (decV (decodeS l)):=rdecode_pc h.ok h.len h.txt
noncomputable def con6:PCon Tryz.prog where
  f:=6
  c:=fun
   |[]=>some (True,.lit (.bool true))
   |_=>none
  ok:=by
   intro args p r hc hp
   split at hc
   ·cases hc;exact awake_pc
   ·cases hc
  fk:=fk6
theorem con6_f:con6.f=6:=rfl
theorem con6_c:con6.c []=some (True,.lit (.bool true)):=rfl
noncomputable def con8:PCon Tryz.prog where
  f:=8
  c:=fun
   |[xB]=>match bcOf xB with|some B=>some (EncP B,encV (encodeS B))|_=>none
   |_=>none
  ok:=by
   intro args p r hc hp
   split at hc
   ·split at hc
    ·rename_i hB
     cases hc
     exact PC.weak (encode_pc hp) ⟨bcOf_le hB,trivial⟩
    ·cases hc
   ·cases hc
  fk:=fk8
theorem con8_f:con8.f=8:=rfl
theorem con8_c {xB:AV}:con8.c [xB]=match bcOf xB with|some B=>some (EncP B,encV (encodeS B))|_=>none:=rfl
noncomputable def con9:PCon Tryz.prog where
  f:=9
  c:=fun
   |[xB]=>match bcOf xB with|some B=>some (EncP B,encV (encodeS B))|_=>none
   |_=>none
  ok:=by
   intro args p r hc hp
   split at hc
   ·split at hc
    ·rename_i hB
     cases hc
     exact PC.weak (rencode_pc hp) ⟨bcOf_le hB,trivial⟩
    ·cases hc
   ·cases hc
  fk:=fk9
theorem con9_f:con9.f=9:=rfl
theorem con9_c {xB:AV}:con9.c [xB]=match bcOf xB with|some B=>some (EncP B,encV (encodeS B))|_=>none:=rfl
noncomputable def con11:PCon Tryz.prog where
  f:=11
  c:=fun
   |[xl]=>match slK .u8 xl with|some l=>some (DecP l,decV (decodeS l))|_=>none
   |_=>none
  ok:=by
   intro args p r hc hp
   split at hc
   ·split at hc
    ·rename_i hl
     cases hc
     exact PC.weak (decode_pc2 hp) ⟨slK_le hl,trivial⟩
    ·cases hc
   ·cases hc
  fk:=fk11
theorem con11_f:con11.f=11:=rfl
theorem con11_c {xl:AV}:con11.c [xl]=match slK .u8 xl with|some l=>some (DecP l,decV (decodeS l))|_=>none:=rfl
noncomputable def con13:PCon Tryz.prog where
  f:=13
  c:=fun
   |[xl]=>match slK .u8 xl with|some l=>some (DecP l,decV (decodeS l))|_=>none
   |_=>none
  ok:=by
   intro args p r hc hp
   split at hc
   ·split at hc
    ·rename_i hl
     cases hc
     exact PC.weak (rdecode_pc2 hp) ⟨slK_le hl,trivial⟩
    ·cases hc
   ·cases hc
  fk:=fk13
theorem con13_f:con13.f=13:=rfl
theorem con13_c {xl:AV}:con13.c [xl]=match slK .u8 xl with|some l=>some (DecP l,decV (decodeS l))|_=>none:=rfl
attribute [go_sem] con6_f con6_c con8_f con8_c con9_f con9_c con11_f con11_c con12_f con12_c con13_f con13_c
noncomputable def Yl:Env:=envJ (P:=Tryz.prog) jkV zer (fun _=>false) (fun _=>false) [con6,con7,con8,con9,con10,con11,con12,con13] []
theorem Yl_ok:EnvOk Tryz.prog Yl:=envJOk zer_ok
theorem encV_mk {x:List Int} {e:Int}:encV (x,e)= .tup [.sl false 1 (ints .u8 x),.lit (.int .i64 e)]:=rfl
theorem decV_mk {P:Prg} {e:Int}:decV (P,e)= .tup [.agg [.lit (.int .i64 P.regs),.lit (.int .i64 P.arena),.sl false 6 (opsV P.ops),.sl false 2 (plsV P.ins),.sl false 2 (plsV P.outs),.sl false 3 (arrs P.types)],.lit (.int .i64 e)]:=rfl
theorem txt_len {b:List Int} (h:Wi.okL b):(d3 b).1.size≤b.length:=by
  have a1:=(rI_ok (lo:=0) (hi:=200) (s:=(b,0)) h).2
  have a2:=(rI_ok (lo:=0) (hi:=maxA) (okd h).1).2
  have a3:=rT_len (most:=(b.length:Int)) (okd h).2.1
  show (rT (b.length:Int) (d2 b).2).1.size≤b.length
  have e1:(d1 b).2.1.length≤b.length:=a1
  have e2:(d2 b).2.1.length≤(d1 b).2.1.length:=a2
  omega
theorem nilP_enc:EncP nilP:=⟨⟨by decide,by decide,by decide,by decide,(by intro t ht;cases ht)⟩,by decide,by decide,by decide⟩
theorem valid_nil:validS nilP=true:=by decide+kernel
theorem dec_cases {b:List Int} (hb:Wi.okL b) (hl:b.length≤300):∃ U h y,decodeS b=(U,h)∧encodeS U=(y,0)∧EncP U∧(h=0→y=b):=by
  have ht:=txt_len hb
  by_cases h0:(decodeS b).2=0
  ·obtain ⟨e1,e2,e3,e4⟩:=dec_encP hb h0
   have hO:=outP_ok hb (by omega) (by omega)
   have ho:=ops_len (b:=b)
   obtain ⟨a1,a2,a3⟩:=d7_len hb
   obtain ⟨r1,r2,r3,r4⟩:=cnt_rng hb
   have hc:cntS b≤600:=by unfold cntS;omega
   refine ⟨outP b,0,b,e1,by unfold encodeS;rw [if_pos e2,e3],⟨hO.ok,?_,?_,?_⟩,fun _=>rfl⟩
   ·show (opsS b).1.length≤400
    omega
   ·show ((d7 b).1.take (d4 b).1.toNat).length≤700
    rw [List.length_take];omega
   ·show ((d7 b).1.drop (d4 b).1.toNat).length≤700
    rw [List.length_drop];omega
  ·have e1:decodeS b=(nilP,4):=by
     unfold decodeS at h0 ⊢
     split at h0
     ·exact absurd rfl h0
     ·rename_i hc;rw [if_neg hc]
   exact ⟨nilP,4,encP nilP,e1,by unfold encodeS;rw [if_pos valid_nil],nilP_enc,fun h=>absurd h (by decide)⟩
theorem encP_ok {B:Prg} (hv:validS B=true) (h:EncP B) (ho:B.ops.length≤30) (hi:B.ins.length≤6) (hu:B.outs.length≤6):DecP (encP B):=by
  have hV:=valid_va hv
  have hL:=enc_lens hV h
  have ht:(textB B.ops).length≤4170:=by have:=text_len hV.ops;omega
  obtain ⟨_,e2⟩:=enc_decP hv (by omega) (by omega)
  have hlT:(B.ins++B.outs).length=B.types.length:=by rw [List.length_append,hV.len]
  have hT:=tyE_le _ _ hlT hV.types B.types.length
  rw [List.take_length] at hT
  have hpl:=plE_le (B.ins++B.outs)
  rw [List.length_append] at hpl hlT
  have hs:(bs (textB B.ops)).size≤4170:=by rw [bs_size];exact ht
  have e3:=encT_le hs
  have f1:=Wi.enc_len B.regs
  have f2:=Wi.enc_len B.arena
  have f4:=Wi.enc_len (B.ins.length:Int)
  have f5:=Wi.enc_len (B.outs.length:Int)
  have hlen:(encP B).length≤50000:=by unfold encP;simp only [List.length_append];omega
  refine ⟨⟨by omega,?_⟩,hlen,by rw [e2];omega⟩
  have bT:∀ s:ByteArray,∀ x∈Wi.encT s,0≤x∧x<256:=fun s x hx=>by
    unfold Wi.encT at hx
    rcases List.mem_append.1 hx with hx|hx
    ·exact Wi.enc_mem _ x hx
    ·exact Wi.bytesI_byt s x hx
  have bL:∀ l:List Int,∀ x∈Wi.encL l,0≤x∧x<256:=fun l x hx=>by
    unfold Wi.encL at hx
    obtain ⟨n,_,hn⟩:=List.mem_flatMap.1 hx
    exact Wi.enc_mem _ x hn
  intro x hx
  unfold encP at hx
  simp only [List.mem_append] at hx
  rcases hx with (((((hx|hx)|hx)|hx)|hx)|hx)|hx
  ·exact Wi.enc_mem _ x hx
  ·exact Wi.enc_mem _ x hx
  ·exact bT _ x hx
  ·exact Wi.enc_mem _ x hx
  ·exact Wi.enc_mem _ x hx
  ·rw [plE_map] at hx;exact bL _ x hx
  ·unfold tyE at hx
   obtain ⟨t,_,ht⟩:=List.mem_flatMap.1 hx
   unfold tyE1 at ht
   simp only [List.mem_append] at ht
   rcases ht with ht|ht|ht
   ·exact bT _ x ht
   ·exact Wi.enc_mem _ x ht
   ·exact bL _ x ht
theorem decP_nil:DecP []:=by
  have h:Wi.okL []:=⟨Nat.zero_le _,by intro x hx;cases hx⟩
  refine ⟨h,Nat.zero_le _,?_⟩
  have:=txt_len h
  simp only [List.length_nil] at this
  omega
theorem validO {B:Prg} (h:EncP B):OkB B:=h.ok
set_option maxHeartbeats 16000000 in
theorem law3_pc {B:Prg} {b:List Int} (hA:ArgB B) (hb:∀ x∈b,0≤x∧x<256) (hl:b.length≤maxLen):PC Tryz.prog 3 [bcV B,.sl false 1 (ints .u8 b)] (.lit (.bool true)):=by
  simp only [bcV]
  cases hs:smB 30 B with
  |false=>
   refine pcR Yl_ok (kp3) Tryz.func3 [.tmp 4] (h:=fun KF=>?_)
   unfold Yl
   with_reducible repeat' first|(refine nx ?_;intros)|apply And.intro|intro vr|(refine ny ?_;intros;simp only [go_sem,kp3,geff,bcOf_B,hs,Bool.not_true,Bool.not_false])
   all_goals try exact nd
   all_goals (refine nl ?_;simp only [go_sem])
   exact LeA.refl _
  |true=>
   by_cases h3:b.length>300
   ·have k1:decide ((b.length:Int)>300)=true:=decide_eq_true (by omega)
    refine pcR Yl_ok (kp3) Tryz.func3 [.tmp 4] (h:=fun KF=>?_)
    unfold Yl
    with_reducible repeat' first|(refine nx ?_;intros)|apply And.intro|intro vr|(refine ny ?_;intros;simp only [go_sem,kp3,geff,bcOf_B,hs,k1,Bool.not_true,Bool.not_false])
    all_goals try exact nd
    all_goals (refine nl ?_;simp only [go_sem])
    exact LeA.refl _
   ·have k1:decide ((b.length:Int)>300)=false:=decide_eq_false (by omega)
    obtain ⟨hO,hi,hu,ho,_⟩:=sm_inv hs
    have hE:EncP B:=⟨hO,by omega,by omega,by omega⟩
    have okb:Wi.okL b:=⟨by omega,hb⟩
    have hDb:DecP b:=⟨okb,by omega,by have:=txt_len okb;omega⟩
    obtain ⟨U,h,y,u1,u2,u3,u4⟩:=dec_cases okb (by omega)
    have hOU:=validO u3
    have hbi:∀ z:Int,(z==z)=true:=fun z=>by simp
    have hbn:∀ z:Int,(z !=z)=false:=fun z=>by simp
    have n22:((22:Int)==0)=false:=by decide
    have hN:=decP_nil
    by_cases h0:h=0
    ·subst h0
     obtain rfl:=u4 rfl
     cases hv:validS B with
     |true=>
      have e1:encodeS B=(encP B,0):=by unfold encodeS;rw [if_pos hv]
      have hDx:=encP_ok hv hE ho hi hu
      have e2:=(enc_decP hv (by have:=text_len (valid_va hv).ops;omega) (by omega)).1
      generalize encP B=x at e1 e2 hDx
      refine pcR Yl_ok (kp3) Tryz.func3 [.tmp 4] (h:=fun KF=>?_)
      unfold Yl
      with_reducible repeat' first|(refine nx ?_;intros)|apply And.intro|intro vr|(refine ny ?_;intros;simp only [go_sem,kp3,geff,bcOf_B,hs,k1,e1,e2,u1,u2,encV_mk,decV_mk,hbi,hbn,Bool.not_true,Bool.not_false,yes])
      all_goals try exact nd
      all_goals (refine nl ?_;simp only [go_sem])
      exact LeA.refl _
     |false=>
      have e1:encodeS B=([],22):=by unfold encodeS;rw [if_neg (by rw [hv];decide)]
      obtain ⟨⟨P0,g0⟩,e2⟩:∃ R,decodeS []=R:=⟨_,rfl⟩
      refine pcR Yl_ok (kp3) Tryz.func3 [.tmp 4] (h:=fun KF=>?_)
      unfold Yl
      with_reducible repeat' first|(refine nx ?_;intros)|apply And.intro|intro vr|(refine ny ?_;intros;simp only [go_sem,kp3,geff,bcOf_B,hs,k1,e1,e2,u1,u2,encV_mk,decV_mk,n22,hbi,hbn,Bool.not_true,Bool.not_false,yes])
      all_goals try exact nd
      all_goals (refine nl ?_;simp only [go_sem])
      exact LeA.refl _
    ·have z1:(h==0)=false:=by simpa using h0
     have z2:(h !=0)=true:=by simpa using h0
     cases hv:validS B with
     |true=>
      have e1:encodeS B=(encP B,0):=by unfold encodeS;rw [if_pos hv]
      have hDx:=encP_ok hv hE ho hi hu
      have e2:=(enc_decP hv (by have:=text_len (valid_va hv).ops;omega) (by omega)).1
      generalize encP B=x at e1 e2 hDx
      refine pcR Yl_ok (kp3) Tryz.func3 [.tmp 4] (h:=fun KF=>?_)
      unfold Yl
      with_reducible repeat' first|(refine nx ?_;intros)|apply And.intro|intro vr|(refine ny ?_;intros;simp only [go_sem,kp3,geff,bcOf_B,hs,k1,e1,e2,u1,u2,encV_mk,decV_mk,z1,z2,hbi,hbn,Bool.not_true,Bool.not_false,yes])
      all_goals try exact nd
      all_goals (refine nl ?_;simp only [go_sem])
      exact LeA.refl _
     |false=>
      have e1:encodeS B=([],22):=by unfold encodeS;rw [if_neg (by rw [hv];decide)]
      obtain ⟨⟨P0,g0⟩,e2⟩:∃ R,decodeS []=R:=⟨_,rfl⟩
      refine pcR Yl_ok (kp3) Tryz.func3 [.tmp 4] (h:=fun KF=>?_)
      unfold Yl
      with_reducible repeat' first|(refine nx ?_;intros)|apply And.intro|intro vr|(refine ny ?_;intros;simp only [go_sem,kp3,geff,bcOf_B,hs,k1,e1,e2,u1,u2,encV_mk,decV_mk,n22,z1,z2,hbi,hbn,Bool.not_true,Bool.not_false,yes])
      all_goals try exact nd
      all_goals (refine nl ?_;simp only [go_sem])
      exact LeA.refl _
end Go.Proofs.YtohiagaclfaolaaGreatDoor.Cd

namespace Go.Proofs.YtohiagaclfaolaaGreatDoor.Tx
open Go.Proofs.YtohiagaclfaolaaGreatDoor
open Go Go.Fw
set_option maxRecDepth 20000
theorem trod_if {H:Type} {enc:TypeId×Value→H} {P:Program} {w:World} {base:Nat} {sp:Nat→Bool} {held:Bool} {fuel:Nat} {t:TypeId} {ms:Array (String×TypeId)} {cs:List Value} {n:String} {d:DataW H} {p:List MemPlace}
    (ht:P.underlying t=some (.interface ms)) (h:DataW.trod enc P w base sp held fuel t cs=some (.iface n d,p)):∃ u v,cs=[.iface u v]:=by
  cases fuel with
  |zero=>simp [DataW.trod] at h
  |succ fuel=>
   simp only [DataW.trod,ht] at h
   split at h
   all_goals first
     |exact ⟨_,_,rfl⟩
     |(rename_i hx;cases hx;done)
     |skip
   all_goals cases h
theorem tabs_of {W:World} (h:laidMet Tryz.prog Rows.bytecodeValidRow.laid W):Tabs W:=by
  obtain ⟨ps,h,_⟩:=h
  obtain ⟨g1,t1,c1,f1,p1,q1,_,_,_,_,h,_⟩:=h
  obtain ⟨g2,t2,c2,f2,p2,q2,_,_,_,_,h,_⟩:=h
  obtain ⟨g3,t3,c3,f3,p3,q3,a3,b3,v3,d3,h,_⟩:=h
  obtain ⟨g4,t4,c4,f4,p4,q4,_,_,_,_,h,_⟩:=h
  obtain ⟨g5,t5,c5,f5,p5,q5,a5,b5,v5,d5,h,_⟩:=h
  obtain ⟨g6,t6,c6,f6,p6,q6,a6,b6,v6,d6,h,_⟩:=h
  obtain rfl:=Option.some.inj ((show Tryz.prog.globalNamed "internal/strconv.uint64pow10"=some 1 by kernel_rfl).symm.trans a3)
  obtain rfl:=Option.some.inj ((show (Tryz.prog.globals[1]?).map (·.type)=some 172 by kernel_rfl).symm.trans b3)
  obtain rfl:=Option.some.inj ((show Tryz.prog.globalNamed "strconv.ErrRange"=some 3 by kernel_rfl).symm.trans a5)
  obtain rfl:=Option.some.inj ((show (Tryz.prog.globals[3]?).map (·.type)=some 82 by kernel_rfl).symm.trans b5)
  obtain rfl:=Option.some.inj ((show Tryz.prog.globalNamed "strconv.ErrSyntax"=some 2 by kernel_rfl).symm.trans a6)
  obtain rfl:=Option.some.inj ((show (Tryz.prog.globals[2]?).map (·.type)=some 82 by kernel_rfl).symm.trans b6)
  obtain ⟨ms,hm⟩:∃ ms,Tryz.prog.underlying 82=some (.interface ms):=⟨_,Tryz.underlying82⟩
  obtain ⟨u5,w5,e5⟩:=trod_if hm d5
  obtain ⟨u6,w6,e6⟩:=trod_if hm d6
  have hd:DataW.trod (fun _=>()) Tryz.prog W 0 (fun _=>true) false f3 172 c3.toList=some (Lib.tabData .u64 Lib.pow10Tab,p3):=by
    rw [d3];exact congrArg (fun z=>some (z,p3)) (by kernel_rfl)
  refine ⟨?_,⟨u6,w6,?_⟩,⟨u5,w5,?_⟩⟩
  ·unfold Lib.TabIs
   rw [v3,←Lib.cells_of_tab Tryz.underlying172 Tryz.underlying95 (by kernel_rfl) (by kernel_rfl) hd]
  ·rw [v6,←e6]
  ·rw [v5,←e5]
end Go.Proofs.YtohiagaclfaolaaGreatDoor.Tx
