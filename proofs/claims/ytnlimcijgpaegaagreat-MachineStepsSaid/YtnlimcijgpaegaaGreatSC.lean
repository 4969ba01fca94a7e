import Derived.Test.YtnlimcijgpaegaaGreatSB
import Derived.Test.YtnlimcijgpaegaaGreatSA
import Derived.Test.YtnlimcijgpaegaaGreatFwB
import Derived.Lib.SlicesCompact
import Derived.Shelf.Sort.Plain
import Derived.Shelf.Small.Bits
import Derived.Ground.Names2Prog
import Derived.Shelf.Slices.CompactI
import Derived.Test.YtnlimcijgpaegaaGreatProg

set_option linter.all false

namespace Go.Proofs.YtnlimcijgpaegaaGreat
open Go Go.Fw Bm
set_option maxRecDepth 20000
abbrev oWw3_0:List (Nat×Nat):=[(0,1),(1,1),(2,1),(3,1),(4,1),(5,1),(6,1),(7,1),(8,2),(9,2),(10,1),(11,1),(12,1),(13,1),(14,2),(15,2),(16,1),(17,2),(18,0)]
abbrev oWw3_1:List (Nat×Nat):=[(0,1),(1,1),(2,1),(3,1),(4,1),(5,1),(6,1),(7,2),(8,2),(9,1),(10,0),(11,1)]
abbrev oWw3_2:List (Nat×Nat):=[(0,1),(1,1),(2,1),(3,1),(4,1),(5,1),(6,1),(7,2),(8,2),(9,2),(10,0)]
abbrev oWw3_3:List (Nat×Nat):=[(0,1),(1,1),(2,1),(3,1),(4,1),(5,1),(6,1),(7,1),(8,2),(9,2),(10,1),(11,2),(12,0)]
attribute [go_sem] oWw3_0 oWw3_1 oWw3_2 oWw3_3
theorem kp_mobs {pre ex:List AObj} {R A R' A':List Int} {D:Nat→Bool}:Kp D (mob pre R A ex) (mob pre R' A' ex):=kp_mob fun _ _ _ h=>h
theorem kp_mob4 {pre ex:List AObj} {R A R' A':List Int} {D:Nat→Bool} {x y z:AObj} {e1 e2 s1 s2 v1 v2:Nat} {l1 l2:List AV} {b1 b2:Bool}:Kp D (mob pre R A (ex++[x,y,z,.arr e1 s1 l1 v1 b1])) (mob pre R' A' (ex++[x,y,z,.arr e2 s2 l2 v2 b2])):=kp_mob fun o t cs h=>by
  rcases Nat.lt_or_ge o ex.length with c|c
  ·rw [List.getElem?_append_left c] at h ⊢;exact h
  ·rw [List.getElem?_append_right c] at h ⊢
   rcases hq:o - ex.length with _|_|_|_|q
   ·rw [hq] at h;exact h
   ·rw [hq] at h;exact h
   ·rw [hq] at h;exact h
   ·rw [hq] at h;cases h
   ·rw [hq] at h;cases h
noncomputable def W3:Env:=envJ (P:=Tryz.prog) jkR zer (fun _=>false) (fun _=>false) [con137,con139,El.con138,con91,El.con136] []
theorem W3_ok:EnvOk Tryz.prog W3:=envJOk zer_ok
attribute [go_sem] con137_f con137_c con139_f con139_c El.con138_f El.con138_c con91_f con91_c El.con136_f El.con136_c
theorem take_mapI {M:List Int} {f:Int→Int} {i:Nat} (h:i<M.length):(M.take i).map f++[f (M.getD i 0)]=(M.take (i+1)).map f:=by
  have e:M.take (i+1)=M.take i++[M.getD i 0]:=by
    rw [List.take_add_one,List.getElem?_eq_getElem h,List.getD_eq_getElem?_getD,List.getElem?_eq_getElem h];rfl
  rw [e,List.map_append];rfl
theorem mul_in {d v:Int} (hd: -1048576≤d∧d≤1048576) (hv: -1099511627776≤v∧v≤1099511627776): -1152921504606846976≤d*v∧d*v≤1152921504606846976:=by
  have h1:=Int.natAbs_mul d v
  have h2:d.natAbs*v.natAbs≤1048576*1099511627776:=Nat.mul_le_mul (by omega) (by omega)
  omega
set_option maxHeartbeats 8000000 in
theorem simple_ec {n m:Nat} {c:Int} {x:Ins} {s:St} {S:List (List Rng)} {pre ex:List AObj} {k:AV→List AObj→Prop} (hx:Regs x n) (h:Gd n m c s) (hc:c≤1000000) (hn:n≤1000000) (hm:m≤1048576)
    (hrd:∀ r∈readsS x,0≤r∧r<n)
    (hk:k (stV pre.length (simpleS x s) S) (mob pre (simpleS x s).regs (simpleS x s).arena ex)):EC Tryz.prog 99 [opV x,stV pre.length s S] (mob pre s.regs s.arena ex) k:=by
  refine ec_finK fun hbd=>?_
  rw [mob_len] at hbd
  obtain ⟨q,p,a,b,cc,d⟩:=x
  obtain ⟨R,A,rd,wr,op,pk,V,l,f,at_,o⟩:=s
  have hw:=hx.w
  have xb:=hx.b
  have xc:=hx.c
  have xa:=hx.a
  have x2:=hx.k2
  have hl:=h.regs
  have hA:=h.arena
  have hp:=h.pos
  have hs:=h.sum
  have hpk:=h.peak
  have vb:=h.gt b
  have vc:=h.gt cc
  have va:=h.gt a
  have gb:R.getD b.toNat 0=gt R b:=rfl
  have gc:R.getD cc.toNat 0=gt R cc:=rfl
  have ga:R.getD a.toNat 0=gt R a:=rfl
  have mc:maxC=1099511627776:=rfl
  have ma:maxA=1048576:=rfl
  simp only at hw xb xc xa hl hA hp hs hpk vb vc va x2
  simp only [opV_mk,stV_mk]
  rcases hx.code with e|e|e|e|e|e|e|e|e|e|e|e|e|e|e<;>simp only at e<;>subst e
  ·have g:=hw rfl
   refine ecR W3_ok (kp99) Tryz.func99 [.cell 4 69] (h:=fun KF=>?_)
   unfold W3
   repeat' first|(with_reducible first|(refine nx ?_;intros)|refine t_br (fun hc=>?_) fun hc=>?_|apply And.intro|intro vr)|exact kp_mobs|exact kp_mob4|exact kpd|((with_reducible first|refine ny ?_|refine t_kLF ?_ ?_|refine t_dO 11 (fun _=>true) oWw3_0 fun K=>?_|refine t_dO 13 (fun _=>true) oWw3_0 fun K=>?_|refine t_dO 20 (fun _=>true) oWw3_1 fun K=>?_|refine t_dO 32 (fun _=>true) oWw3_2 fun K=>?_|refine t_dO 43 (fun _=>true) oWw3_3 fun K=>?_|refine t_dwh (h:=fun K KL=>?_));intros;simp only [go_sem,kp99,geff,yes])
   all_goals try exact nd
   all_goals (refine nl ?_;simp only [go_sem,finK])
   refine ⟨_,?_,?_,mob_bds hbd,hk⟩
   ·exact LeR.refl _
   ·exact stV_bd (by omega)
  ·have g:=hw rfl
   have hb:=xb (by omega)
   have hcc:=xc (by omega)
   have hd:=x2 rfl
   have e:simpleS ⟨2,p,a,b,cc,d⟩ ⟨R,A,rd,wr,op,pk,V,l,f,at_,o⟩=if inMc (gt R b+d*gt R cc)=true then ⟨R.set a.toNat (gt R b+d*gt R cc),A,rd,wr,op,pk,V,l,f,at_,o⟩ else ⟨R,A,rd,wr,op,pk,V,l,true,at_,o⟩:=rfl
   rw [e] at hk
   generalize gt R b=u at*
   generalize gt R cc=v at*
   have hdv: -1152921504606846976≤d*v∧d*v≤1152921504606846976:=mul_in (by omega) (by omega)
   generalize hdw:d*v=w at*
   cases hq:inMc (u+w) with
   |true=>
    rw [if_pos hq] at hk
    have hq2: -maxC≤u+w∧u+w≤maxC:=by simpa [inMc] using hq
    have g1:decide (u+w< -1099511627776)=false:=decide_eq_false (by omega)
    have g2:decide (u+w>1099511627776)=false:=decide_eq_false (by omega)
    refine ecR W3_ok (kp99) Tryz.func99 [.cell 4 69] (h:=fun KF=>?_)
    unfold W3
    repeat' first|(with_reducible first|(refine nx ?_;intros)|refine t_br (fun hc=>?_) fun hc=>?_|apply And.intro|intro vr)|exact kp_mobs|exact kp_mob4|exact kpd|((with_reducible first|refine ny ?_|refine t_kLF ?_ ?_|refine t_dO 11 (fun _=>true) oWw3_0 fun K=>?_|refine t_dO 13 (fun _=>true) oWw3_0 fun K=>?_|refine t_dO 20 (fun _=>true) oWw3_1 fun K=>?_|refine t_dO 32 (fun _=>true) oWw3_2 fun K=>?_|refine t_dO 43 (fun _=>true) oWw3_3 fun K=>?_|refine t_dwh (h:=fun K KL=>?_));intros;simp only [go_sem,kp99,geff,yes,gb,gc,hdw,g1,g2])
    all_goals try exact nd
    all_goals (refine nl ?_;simp only [go_sem,finK])
    refine ⟨_,?_,?_,mob_bds hbd,hk⟩
    ·exact LeR.refl _
    ·exact stV_bd (by omega)
   |false=>
    rw [if_neg (by rw [hq];decide)] at hk
    have hq2: ¬ (-maxC≤u+w∧u+w≤maxC):=by simpa [inMc] using hq
    cases g1:decide (u+w< -1099511627776) with
    |true=>
     refine ecR W3_ok (kp99) Tryz.func99 [.cell 4 69] (h:=fun KF=>?_)
     unfold W3
     repeat' first|(with_reducible first|(refine nx ?_;intros)|refine t_br (fun hc=>?_) fun hc=>?_|apply And.intro|intro vr)|exact kp_mobs|exact kp_mob4|exact kpd|((with_reducible first|refine ny ?_|refine t_kLF ?_ ?_|refine t_dO 11 (fun _=>true) oWw3_0 fun K=>?_|refine t_dO 13 (fun _=>true) oWw3_0 fun K=>?_|refine t_dO 20 (fun _=>true) oWw3_1 fun K=>?_|refine t_dO 32 (fun _=>true) oWw3_2 fun K=>?_|refine t_dO 43 (fun _=>true) oWw3_3 fun K=>?_|refine t_dwh (h:=fun K KL=>?_));intros;simp only [go_sem,kp99,geff,yes,gb,gc,hdw,g1])
     all_goals try exact nd
     all_goals (refine nl ?_;simp only [go_sem,finK])
     refine ⟨_,?_,?_,mob_bds hbd,hk⟩
     ·exact LeR.refl _
     ·exact stV_bd (by omega)
    |false=>
     have g1':=of_decide_eq_false g1
     have g2:decide (u+w>1099511627776)=true:=decide_eq_true (by omega)
     refine ecR W3_ok (kp99) Tryz.func99 [.cell 4 69] (h:=fun KF=>?_)
     unfold W3
     repeat' first|(with_reducible first|(refine nx ?_;intros)|refine t_br (fun hc=>?_) fun hc=>?_|apply And.intro|intro vr)|exact kp_mobs|exact kp_mob4|exact kpd|((with_reducible first|refine ny ?_|refine t_kLF ?_ ?_|refine t_dO 11 (fun _=>true) oWw3_0 fun K=>?_|refine t_dO 13 (fun _=>true) oWw3_0 fun K=>?_|refine t_dO 20 (fun _=>true) oWw3_1 fun K=>?_|refine t_dO 32 (fun _=>true) oWw3_2 fun K=>?_|refine t_dO 43 (fun _=>true) oWw3_3 fun K=>?_|refine t_dwh (h:=fun K KL=>?_));intros;simp only [go_sem,kp99,geff,yes,gb,gc,hdw,g1,g2])
     all_goals try exact nd
     all_goals (refine nl ?_;simp only [go_sem,finK])
     refine ⟨_,?_,?_,mob_bds hbd,hk⟩
     ·exact LeR.refl _
     ·exact stV_bd (by omega)
  ·have g:=hw rfl
   have hb:=xb (by omega)
   have hcc:=xc (by omega)
   refine ecR W3_ok (kp99) Tryz.func99 [.cell 4 69] (h:=fun KF=>?_)
   unfold W3
   repeat' first|(with_reducible first|(refine nx ?_;intros)|refine t_br (fun hc=>?_) fun hc=>?_|apply And.intro|intro vr)|exact kp_mobs|exact kp_mob4|exact kpd|((with_reducible first|refine ny ?_|refine t_kLF ?_ ?_|refine t_dO 11 (fun _=>true) oWw3_0 fun K=>?_|refine t_dO 13 (fun _=>true) oWw3_0 fun K=>?_|refine t_dO 20 (fun _=>true) oWw3_1 fun K=>?_|refine t_dO 32 (fun _=>true) oWw3_2 fun K=>?_|refine t_dO 43 (fun _=>true) oWw3_3 fun K=>?_|refine t_dwh (h:=fun K KL=>?_));intros;simp only [go_sem,kp99,geff,yes,gb,gc])
   all_goals try exact nd
   all_goals (refine nl ?_;simp only [go_sem,finK])
   refine ⟨_,?_,?_,mob_bds hbd,hk⟩
   ·exact LeR.refl _
   ·exact stV_bd (by omega)
  ·have g:=hw rfl
   have hb:=xb (by omega)
   have hcc:=xc (by omega)
   refine ecR W3_ok (kp99) Tryz.func99 [.cell 4 69] (h:=fun KF=>?_)
   unfold W3
   repeat' first|(with_reducible first|(refine nx ?_;intros)|refine t_br (fun hc=>?_) fun hc=>?_|apply And.intro|intro vr)|exact kp_mobs|exact kp_mob4|exact kpd|((with_reducible first|refine ny ?_|refine t_kLF ?_ ?_|refine t_dO 11 (fun _=>true) oWw3_0 fun K=>?_|refine t_dO 13 (fun _=>true) oWw3_0 fun K=>?_|refine t_dO 20 (fun _=>true) oWw3_1 fun K=>?_|refine t_dO 32 (fun _=>true) oWw3_2 fun K=>?_|refine t_dO 43 (fun _=>true) oWw3_3 fun K=>?_|refine t_dwh (h:=fun K KL=>?_));intros;simp only [go_sem,kp99,geff,yes,gb,gc])
   all_goals try exact nd
   all_goals (refine nl ?_;simp only [go_sem,finK])
   refine ⟨_,?_,?_,mob_bds hbd,hk⟩
   ·exact LeR.refl _
   ·exact stV_bd (by omega)
  ·have g:=hw rfl
   have e:simpleS ⟨5,p,a,b,cc,d⟩ ⟨R,A,rd,wr,op,pk,V,l,f,at_,o⟩=match El.applyS p ((readsS ⟨5,p,a,b,cc,d⟩).map (gt R)) with|none=>⟨R,A,rd,wr,op,pk,V,l,true,at_,o⟩|some y=>⟨R.set a.toNat y,A,rd,wr,op+1,pk,V,l,f,at_,o⟩:=rfl
   rw [e] at hk
   have h3:=reads_len ⟨5,p,a,b,cc,d⟩
   generalize hM:readsS ⟨5,p,a,b,cc,d⟩=M at hk hrd h3
   have av0:El.applyV none= .tup [.lit (.int .i64 0),.lit (.bool false)]:=rfl
   have av1:∀ y,El.applyV (some y)= .tup [.lit (.int .i64 y),.lit (.bool true)]:=fun _=>rfl
   generalize hap:El.applyS p (M.map (gt R))=Y at hk
   refine ecR W3_ok (kp99) Tryz.func99 [.cell 4 69] (h:=fun KF=>?_)
   unfold W3
   repeat' first|(with_reducible first|(refine nx ?_;intros)|refine t_br (fun hc=>?_) fun hc=>?_|apply And.intro|intro vr)|exact kp_mobs|exact kp_mob4|exact kpd|((with_reducible first|refine ny ?_|refine t_kLF ?_ ?_|refine t_dO 11 (fun _=>true) oWw3_0 fun K=>?_|refine t_dO 13 (fun _=>true) oWw3_0 fun K=>?_|refine t_dO 20 (fun _=>true) oWw3_1 fun K=>?_|refine t_dO 32 (fun _=>true) oWw3_2 fun K=>?_|refine t_dO 43 (fun _=>true) oWw3_3 fun K=>?_|refine t_dwh (h:=fun K KL=>?_));intros;simp only [go_sem,kp99,geff,yes,hM])
   all_goals try exact nd
   refine t_loopF (ι:={q:Nat×Nat // q.1≤M.length}) (fun i=>[(8,.lit (.int .i64 i.1.1)),(6,.arr (pre.length+(ex.length+5)) i.1.2)]) (fun i=>mob pre R A (ex++[.box 56 [.lit (.int .i64 5),.lit (.string p),.lit (.int .i64 a),.lit (.int .i64 b),.lit (.int .i64 cc),.lit (.int .i64 d)],.box 69 [.arr pre.length 0,.arr (pre.length+1) 0,.lit (.int .i64 rd),.lit (.int .i64 wr),.lit (.int .i64 op),.lit (.int .i64 pk),.sl false 1 (ints .i64 V),.lit (.int .i64 l),.lit (.bool f),.sl false 1 (bfsV S),.lit (.bool o),.lit (.int .i64 at_)],.box 69 [.sl true 1 [],.sl true 1 [],.lit (.int .i64 0),.lit (.int .i64 0),.lit (.int .i64 0),.lit (.int .i64 0),.sl true 1 [],.lit (.int .i64 0),.lit (.bool false),.sl true 1 [],.lit (.bool false),.lit (.int .i64 0)],.arr 3 1 (ints .i64 ((M.take i.1.1).map (gt R))) i.1.2 false])) (fun i=>M.length - i.1.1) ⟨(0,0),by simp⟩ ?_ ?_
   ·refine (le_nil 6 3 1 rfl).trans ?_
    exact lf
   rintro ⟨⟨i,v⟩,hi⟩ K0
   simp only at hi
   rcases Nat.lt_or_ge i M.length with hc'|hc'
   ·have g3:decide ((i:Int)<(M.length:Int))=true:=decide_eq_true (by omega)
    have hmm:=hrd _ (mem_getD hc')
    have ht:=take_mapI (f:=gt R) hc'
    have hln:((M.take i).map (gt R)).length=i:=by rw [List.length_map,List.length_take];omega
    generalize hxx:M.getD i 0=z at hmm ht
    have gz:R.getD z.toNat 0=gt R z:=rfl
    repeat' first|(with_reducible first|(refine nx ?_;intros)|refine t_br (fun hc=>?_) fun hc=>?_|apply And.intro|intro vr)|exact kp_mobs|exact kp_mob4|exact kpd|((with_reducible first|refine ny ?_|refine t_kLF ?_ ?_|refine t_dO 11 (fun _=>true) oWw3_0 fun K=>?_|refine t_dO 13 (fun _=>true) oWw3_0 fun K=>?_|refine t_dO 20 (fun _=>true) oWw3_1 fun K=>?_|refine t_dO 32 (fun _=>true) oWw3_2 fun K=>?_|refine t_dO 43 (fun _=>true) oWw3_3 fun K=>?_|refine t_dwh (h:=fun K KL=>?_));intros;simp only [go_sem,kp99,geff,g3,hxx,gz,ht,hln,ints_length,Int.toNat_natCast,yes])
    all_goals try exact nd
    exact ⟨⟨(i+1,v+1),by simp only;omega⟩,wf,lf⟩
   ·have g3:decide ((i:Int)<(M.length:Int))=false:=decide_eq_false (by omega)
    have eM:M.take i=M:=List.take_of_length_le hc'
    cases Y with
    |none=>
     repeat' first|(with_reducible first|(refine nx ?_;intros)|refine t_br (fun hc=>?_) fun hc=>?_|apply And.intro|intro vr)|exact kp_mobs|exact kp_mob4|exact kpd|((with_reducible first|refine ny ?_|refine t_kLF ?_ ?_|refine t_dO 11 (fun _=>true) oWw3_0 fun K=>?_|refine t_dO 13 (fun _=>true) oWw3_0 fun K=>?_|refine t_dO 20 (fun _=>true) oWw3_1 fun K=>?_|refine t_dO 32 (fun _=>true) oWw3_2 fun K=>?_|refine t_dO 43 (fun _=>true) oWw3_3 fun K=>?_|refine t_dwh (h:=fun K KL=>?_));intros;simp only [go_sem,kp99,geff,g3,eM,hap,av0,slK_sl,Option.map_some,yes])
     all_goals try exact nd
     all_goals (refine nl ?_;simp only [go_sem,finK])
     refine ⟨_,?_,?_,mob_bds hbd,hk⟩
     ·exact LeR.refl _
     ·exact stV_bd (by omega)
    |some y=>
     repeat' first|(with_reducible first|(refine nx ?_;intros)|refine t_br (fun hc=>?_) fun hc=>?_|apply And.intro|intro vr)|exact kp_mobs|exact kp_mob4|exact kpd|((with_reducible first|refine ny ?_|refine t_kLF ?_ ?_|refine t_dO 11 (fun _=>true) oWw3_0 fun K=>?_|refine t_dO 13 (fun _=>true) oWw3_0 fun K=>?_|refine t_dO 20 (fun _=>true) oWw3_1 fun K=>?_|refine t_dO 32 (fun _=>true) oWw3_2 fun K=>?_|refine t_dO 43 (fun _=>true) oWw3_3 fun K=>?_|refine t_dwh (h:=fun K KL=>?_));intros;simp only [go_sem,kp99,geff,g3,eM,hap,av1,slK_sl,Option.map_some,yes])
     all_goals try exact nd
     all_goals (refine nl ?_;simp only [go_sem,finK])
     refine ⟨_,?_,?_,mob_bds hbd,hk⟩
     ·exact LeR.refl _
     ·exact stV_bd (by omega)
  ·have g:=hw rfl
   have hb:=xb (by omega)
   have e:simpleS ⟨6,p,a,b,cc,d⟩ ⟨R,A,rd,wr,op,pk,V,l,f,at_,o⟩=if 0≤gt R b∧gt R b<A.length then ⟨R.set a.toNat (gt A (gt R b)),A,rd+1,wr,op,pk,V,l,f,at_,o⟩ else ⟨R,A,rd,wr,op,pk,V,l,true,at_,o⟩:=rfl
   rw [e] at hk
   have gA:A.getD (gt R b).toNat 0=gt A (gt R b):=rfl
   generalize gt R b=u at*
   cases g1:decide (u<0) with
   |true=>
    have g1':=of_decide_eq_true g1
    rw [if_neg (by omega)] at hk
    refine ecR W3_ok (kp99) Tryz.func99 [.cell 4 69] (h:=fun KF=>?_)
    unfold W3
    repeat' first|(with_reducible first|(refine nx ?_;intros)|refine t_br (fun hc=>?_) fun hc=>?_|apply And.intro|intro vr)|exact kp_mobs|exact kp_mob4|exact kpd|((with_reducible first|refine ny ?_|refine t_kLF ?_ ?_|refine t_dO 11 (fun _=>true) oWw3_0 fun K=>?_|refine t_dO 13 (fun _=>true) oWw3_0 fun K=>?_|refine t_dO 20 (fun _=>true) oWw3_1 fun K=>?_|refine t_dO 32 (fun _=>true) oWw3_2 fun K=>?_|refine t_dO 43 (fun _=>true) oWw3_3 fun K=>?_|refine t_dwh (h:=fun K KL=>?_));intros;simp only [go_sem,kp99,geff,yes,gb,g1])
    all_goals try exact nd
    all_goals (refine nl ?_;simp only [go_sem,finK])
    refine ⟨_,?_,?_,mob_bds hbd,hk⟩
    ·exact LeR.refl _
    ·exact stV_bd (by omega)
   |false=>
    have g1':=of_decide_eq_false g1
    cases g2:decide (u≥A.length) with
    |true=>
     have g2':=of_decide_eq_true g2
     rw [if_neg (by omega)] at hk
     refine ecR W3_ok (kp99) Tryz.func99 [.cell 4 69] (h:=fun KF=>?_)
     unfold W3
     repeat' first|(with_reducible first|(refine nx ?_;intros)|refine t_br (fun hc=>?_) fun hc=>?_|apply And.intro|intro vr)|exact kp_mobs|exact kp_mob4|exact kpd|((with_reducible first|refine ny ?_|refine t_kLF ?_ ?_|refine t_dO 11 (fun _=>true) oWw3_0 fun K=>?_|refine t_dO 13 (fun _=>true) oWw3_0 fun K=>?_|refine t_dO 20 (fun _=>true) oWw3_1 fun K=>?_|refine t_dO 32 (fun _=>true) oWw3_2 fun K=>?_|refine t_dO 43 (fun _=>true) oWw3_3 fun K=>?_|refine t_dwh (h:=fun K KL=>?_));intros;simp only [go_sem,kp99,geff,yes,gb,g1,g2])
     all_goals try exact nd
     all_goals (refine nl ?_;simp only [go_sem,finK])
     refine ⟨_,?_,?_,mob_bds hbd,hk⟩
     ·exact LeR.refl _
     ·exact stV_bd (by omega)
    |false=>
     have g2':=of_decide_eq_false g2
     rw [if_pos (by omega)] at hk
     refine ecR W3_ok (kp99) Tryz.func99 [.cell 4 69] (h:=fun KF=>?_)
     unfold W3
     repeat' first|(with_reducible first|(refine nx ?_;intros)|refine t_br (fun hc=>?_) fun hc=>?_|apply And.intro|intro vr)|exact kp_mobs|exact kp_mob4|exact kpd|((with_reducible first|refine ny ?_|refine t_kLF ?_ ?_|refine t_dO 11 (fun _=>true) oWw3_0 fun K=>?_|refine t_dO 13 (fun _=>true) oWw3_0 fun K=>?_|refine t_dO 20 (fun _=>true) oWw3_1 fun K=>?_|refine t_dO 32 (fun _=>true) oWw3_2 fun K=>?_|refine t_dO 43 (fun _=>true) oWw3_3 fun K=>?_|refine t_dwh (h:=fun K KL=>?_));intros;simp only [go_sem,kp99,geff,yes,gb,g1,g2,gA])
     all_goals try exact nd
     all_goals (refine nl ?_;simp only [go_sem,finK])
     refine ⟨_,?_,?_,mob_bds hbd,hk⟩
     ·exact LeR.refl _
     ·exact stV_bd (by omega)
  ·have ha:=xa (by omega)
   have hb:=xb (by omega)
   have e:simpleS ⟨7,p,a,b,cc,d⟩ ⟨R,A,rd,wr,op,pk,V,l,f,at_,o⟩=if (0≤gt R a∧gt R a<A.length)∧vld sInt (gt R b)=true then ⟨R,A.set (gt R a).toNat (gt R b),rd,wr+1,op,maxI pk (gt R a+1),V,l,f,at_,o⟩ else ⟨R,A,rd,wr,op,pk,V,l,true,at_,o⟩:=rfl
   rw [e] at hk
   have hvl:vld ⟨#[105,110,116]⟩ (gt R b)=vld sInt (gt R b):=rfl
   generalize gt R a=u at*
   generalize gt R b=v at*
   cases g1:decide (u<0) with
   |true=>
    have g1':=of_decide_eq_true g1
    rw [if_neg (fun q=>by omega)] at hk
    refine ecR W3_ok (kp99) Tryz.func99 [.cell 4 69] (h:=fun KF=>?_)
    unfold W3
    repeat' first|(with_reducible first|(refine nx ?_;intros)|refine t_br (fun hc=>?_) fun hc=>?_|apply And.intro|intro vr)|exact kp_mobs|exact kp_mob4|exact kpd|((with_reducible first|refine ny ?_|refine t_kLF ?_ ?_|refine t_dO 11 (fun _=>true) oWw3_0 fun K=>?_|refine t_dO 13 (fun _=>true) oWw3_0 fun K=>?_|refine t_dO 20 (fun _=>true) oWw3_1 fun K=>?_|refine t_dO 32 (fun _=>true) oWw3_2 fun K=>?_|refine t_dO 43 (fun _=>true) oWw3_3 fun K=>?_|refine t_dwh (h:=fun K KL=>?_));intros;simp only [go_sem,kp99,geff,yes,ga,gb,g1])
    all_goals try exact nd
    all_goals (refine nl ?_;simp only [go_sem,finK])
    refine ⟨_,?_,?_,mob_bds hbd,hk⟩
    ·exact LeR.refl _
    ·exact stV_bd (by omega)
   |false=>
    have g1':=of_decide_eq_false g1
    cases g2:decide (u≥A.length) with
    |true=>
     have g2':=of_decide_eq_true g2
     rw [if_neg (fun q=>by omega)] at hk
     refine ecR W3_ok (kp99) Tryz.func99 [.cell 4 69] (h:=fun KF=>?_)
     unfold W3
     repeat' first|(with_reducible first|(refine nx ?_;intros)|refine t_br (fun hc=>?_) fun hc=>?_|apply And.intro|intro vr)|exact kp_mobs|exact kp_mob4|exact kpd|((with_reducible first|refine ny ?_|refine t_kLF ?_ ?_|refine t_dO 11 (fun _=>true) oWw3_0 fun K=>?_|refine t_dO 13 (fun _=>true) oWw3_0 fun K=>?_|refine t_dO 20 (fun _=>true) oWw3_1 fun K=>?_|refine t_dO 32 (fun _=>true) oWw3_2 fun K=>?_|refine t_dO 43 (fun _=>true) oWw3_3 fun K=>?_|refine t_dwh (h:=fun K KL=>?_));intros;simp only [go_sem,kp99,geff,yes,ga,gb,g1,g2])
     all_goals try exact nd
     all_goals (refine nl ?_;simp only [go_sem,finK])
     refine ⟨_,?_,?_,mob_bds hbd,hk⟩
     ·exact LeR.refl _
     ·exact stV_bd (by omega)
    |false=>
     have g2':=of_decide_eq_false g2
     cases hv:vld sInt v with
     |false=>
      rw [if_neg (fun q=>by rw [hv] at q;cases q.2)] at hk
      refine ecR W3_ok (kp99) Tryz.func99 [.cell 4 69] (h:=fun KF=>?_)
      unfold W3
      repeat' first|(with_reducible first|(refine nx ?_;intros)|refine t_br (fun hc=>?_) fun hc=>?_|apply And.intro|intro vr)|exact kp_mobs|exact kp_mob4|exact kpd|((with_reducible first|refine ny ?_|refine t_kLF ?_ ?_|refine t_dO 11 (fun _=>true) oWw3_0 fun K=>?_|refine t_dO 13 (fun _=>true) oWw3_0 fun K=>?_|refine t_dO 20 (fun _=>true) oWw3_1 fun K=>?_|refine t_dO 32 (fun _=>true) oWw3_2 fun K=>?_|refine t_dO 43 (fun _=>true) oWw3_3 fun K=>?_|refine t_dwh (h:=fun K KL=>?_));intros;simp only [go_sem,kp99,geff,yes,ga,gb,g1,g2,hvl,hv])
      all_goals try exact nd
      all_goals (refine nl ?_;simp only [go_sem,finK])
      refine ⟨_,?_,?_,mob_bds hbd,hk⟩
      ·exact LeR.refl _
      ·exact stV_bd (by omega)
     |true=>
      rw [if_pos ⟨by omega,hv⟩] at hk
      refine ecR W3_ok (kp99) Tryz.func99 [.cell 4 69] (h:=fun KF=>?_)
      unfold W3
      repeat' first|(with_reducible first|(refine nx ?_;intros)|refine t_br (fun hc=>?_) fun hc=>?_|apply And.intro|intro vr)|exact kp_mobs|exact kp_mob4|exact kpd|((with_reducible first|refine ny ?_|refine t_kLF ?_ ?_|refine t_dO 11 (fun _=>true) oWw3_0 fun K=>?_|refine t_dO 13 (fun _=>true) oWw3_0 fun K=>?_|refine t_dO 20 (fun _=>true) oWw3_1 fun K=>?_|refine t_dO 32 (fun _=>true) oWw3_2 fun K=>?_|refine t_dO 43 (fun _=>true) oWw3_3 fun K=>?_|refine t_dwh (h:=fun K KL=>?_));intros;simp only [go_sem,kp99,geff,yes,ga,gb,g1,g2,hvl,hv])
      all_goals try exact nd
      all_goals (refine nl ?_;simp only [go_sem,finK])
      refine ⟨_,?_,?_,mob_bds hbd,hk⟩
      ·exact LeR.refl _
      ·exact stV_bd (by omega)
  ·have g:=hw rfl
   refine ecR W3_ok (kp99) Tryz.func99 [.cell 4 69] (h:=fun KF=>?_)
   unfold W3
   repeat' first|(with_reducible first|(refine nx ?_;intros)|refine t_br (fun hc=>?_) fun hc=>?_|apply And.intro|intro vr)|exact kp_mobs|exact kp_mob4|exact kpd|((with_reducible first|refine ny ?_|refine t_kLF ?_ ?_|refine t_dO 11 (fun _=>true) oWw3_0 fun K=>?_|refine t_dO 13 (fun _=>true) oWw3_0 fun K=>?_|refine t_dO 20 (fun _=>true) oWw3_1 fun K=>?_|refine t_dO 32 (fun _=>true) oWw3_2 fun K=>?_|refine t_dO 43 (fun _=>true) oWw3_3 fun K=>?_|refine t_dwh (h:=fun K KL=>?_));intros;simp only [go_sem,kp99,geff,yes])
   all_goals try exact nd
   all_goals (refine nl ?_;simp only [go_sem,finK])
   refine ⟨_,?_,?_,mob_bds hbd,hk⟩
   ·exact LeR.refl _
   ·exact stV_bd (by omega)
  ·have hb:=xb (by omega)
   have e:simpleS ⟨9,p,a,b,cc,d⟩ ⟨R,A,rd,wr,op,pk,V,l,f,at_,o⟩=if gt R b=0 then ⟨R,A,rd,wr,op,pk,noteS V a,l,f,at_,o⟩ else ⟨R,A,rd,wr,op,pk,V,l,f,at_,o⟩:=rfl
   rw [e] at hk
   generalize gt R b=u at*
   cases g1:decide (u=0) with
   |true=>
    rw [if_pos (of_decide_eq_true g1)] at hk
    refine ecR W3_ok (kp99) Tryz.func99 [.cell 4 69] (h:=fun KF=>?_)
    unfold W3
    repeat' first|(with_reducible first|(refine nx ?_;intros)|refine t_br (fun hc=>?_) fun hc=>?_|apply And.intro|intro vr)|exact kp_mobs|exact kp_mob4|exact kpd|((with_reducible first|refine ny ?_|refine t_kLF ?_ ?_|refine t_dO 11 (fun _=>true) oWw3_0 fun K=>?_|refine t_dO 13 (fun _=>true) oWw3_0 fun K=>?_|refine t_dO 20 (fun _=>true) oWw3_1 fun K=>?_|refine t_dO 32 (fun _=>true) oWw3_2 fun K=>?_|refine t_dO 43 (fun _=>true) oWw3_3 fun K=>?_|refine t_dwh (h:=fun K KL=>?_));intros;simp only [go_sem,kp99,geff,yes,gb,g1])
    all_goals try exact nd
    all_goals (refine nl ?_;simp only [go_sem,finK])
    refine ⟨_,?_,?_,mob_bds hbd,hk⟩
    ·exact LeR.refl _
    ·exact stV_bd (by omega)
   |false=>
    rw [if_neg (of_decide_eq_false g1)] at hk
    refine ecR W3_ok (kp99) Tryz.func99 [.cell 4 69] (h:=fun KF=>?_)
    unfold W3
    repeat' first|(with_reducible first|(refine nx ?_;intros)|refine t_br (fun hc=>?_) fun hc=>?_|apply And.intro|intro vr)|exact kp_mobs|exact kp_mob4|exact kpd|((with_reducible first|refine ny ?_|refine t_kLF ?_ ?_|refine t_dO 11 (fun _=>true) oWw3_0 fun K=>?_|refine t_dO 13 (fun _=>true) oWw3_0 fun K=>?_|refine t_dO 20 (fun _=>true) oWw3_1 fun K=>?_|refine t_dO 32 (fun _=>true) oWw3_2 fun K=>?_|refine t_dO 43 (fun _=>true) oWw3_3 fun K=>?_|refine t_dwh (h:=fun K KL=>?_));intros;simp only [go_sem,kp99,geff,yes,gb,g1])
    all_goals try exact nd
    all_goals (refine nl ?_;simp only [go_sem,finK])
    refine ⟨_,?_,?_,mob_bds hbd,hk⟩
    ·exact LeR.refl _
    ·exact stV_bd (by omega)
  ·skip
   refine ecR W3_ok (kp99) Tryz.func99 [.cell 4 69] (h:=fun KF=>?_)
   unfold W3
   repeat' first|(with_reducible first|(refine nx ?_;intros)|refine t_br (fun hc=>?_) fun hc=>?_|apply And.intro|intro vr)|exact kp_mobs|exact kp_mob4|exact kpd|((with_reducible first|refine ny ?_|refine t_kLF ?_ ?_|refine t_dO 11 (fun _=>true) oWw3_0 fun K=>?_|refine t_dO 13 (fun _=>true) oWw3_0 fun K=>?_|refine t_dO 20 (fun _=>true) oWw3_1 fun K=>?_|refine t_dO 32 (fun _=>true) oWw3_2 fun K=>?_|refine t_dO 43 (fun _=>true) oWw3_3 fun K=>?_|refine t_dwh (h:=fun K KL=>?_));intros;simp only [go_sem,kp99,geff,yes])
   all_goals try exact nd
   all_goals (refine nl ?_;simp only [go_sem,finK])
   refine ⟨_,?_,?_,mob_bds hbd,hk⟩
   ·exact LeR.refl _
   ·exact stV_bd (by omega)
  ·skip
   refine ecR W3_ok (kp99) Tryz.func99 [.cell 4 69] (h:=fun KF=>?_)
   unfold W3
   repeat' first|(with_reducible first|(refine nx ?_;intros)|refine t_br (fun hc=>?_) fun hc=>?_|apply And.intro|intro vr)|exact kp_mobs|exact kp_mob4|exact kpd|((with_reducible first|refine ny ?_|refine t_kLF ?_ ?_|refine t_dO 11 (fun _=>true) oWw3_0 fun K=>?_|refine t_dO 13 (fun _=>true) oWw3_0 fun K=>?_|refine t_dO 20 (fun _=>true) oWw3_1 fun K=>?_|refine t_dO 32 (fun _=>true) oWw3_2 fun K=>?_|refine t_dO 43 (fun _=>true) oWw3_3 fun K=>?_|refine t_dwh (h:=fun K KL=>?_));intros;simp only [go_sem,kp99,geff,yes])
   all_goals try exact nd
   all_goals (refine nl ?_;simp only [go_sem,finK])
   refine ⟨_,?_,?_,mob_bds hbd,hk⟩
   ·exact LeR.refl _
   ·exact stV_bd (by omega)
  ·skip
   refine ecR W3_ok (kp99) Tryz.func99 [.cell 4 69] (h:=fun KF=>?_)
   unfold W3
   repeat' first|(with_reducible first|(refine nx ?_;intros)|refine t_br (fun hc=>?_) fun hc=>?_|apply And.intro|intro vr)|exact kp_mobs|exact kp_mob4|exact kpd|((with_reducible first|refine ny ?_|refine t_kLF ?_ ?_|refine t_dO 11 (fun _=>true) oWw3_0 fun K=>?_|refine t_dO 13 (fun _=>true) oWw3_0 fun K=>?_|refine t_dO 20 (fun _=>true) oWw3_1 fun K=>?_|refine t_dO 32 (fun _=>true) oWw3_2 fun K=>?_|refine t_dO 43 (fun _=>true) oWw3_3 fun K=>?_|refine t_dwh (h:=fun K KL=>?_));intros;simp only [go_sem,kp99,geff,yes])
   all_goals try exact nd
   all_goals (refine nl ?_;simp only [go_sem,finK])
   refine ⟨_,?_,?_,mob_bds hbd,hk⟩
   ·exact LeR.refl _
   ·exact stV_bd (by omega)
  ·skip
   refine ecR W3_ok (kp99) Tryz.func99 [.cell 4 69] (h:=fun KF=>?_)
   unfold W3
   repeat' first|(with_reducible first|(refine nx ?_;intros)|refine t_br (fun hc=>?_) fun hc=>?_|apply And.intro|intro vr)|exact kp_mobs|exact kp_mob4|exact kpd|((with_reducible first|refine ny ?_|refine t_kLF ?_ ?_|refine t_dO 11 (fun _=>true) oWw3_0 fun K=>?_|refine t_dO 13 (fun _=>true) oWw3_0 fun K=>?_|refine t_dO 20 (fun _=>true) oWw3_1 fun K=>?_|refine t_dO 32 (fun _=>true) oWw3_2 fun K=>?_|refine t_dO 43 (fun _=>true) oWw3_3 fun K=>?_|refine t_dwh (h:=fun K KL=>?_));intros;simp only [go_sem,kp99,geff,yes])
   all_goals try exact nd
   all_goals (refine nl ?_;simp only [go_sem,finK])
   refine ⟨_,?_,?_,mob_bds hbd,hk⟩
   ·exact LeR.refl _
   ·exact stV_bd (by omega)
  ·have g:=hw rfl
   have hb:=xb (by omega)
   refine ecR W3_ok (kp99) Tryz.func99 [.cell 4 69] (h:=fun KF=>?_)
   unfold W3
   repeat' first|(with_reducible first|(refine nx ?_;intros)|refine t_br (fun hc=>?_) fun hc=>?_|apply And.intro|intro vr)|exact kp_mobs|exact kp_mob4|exact kpd|((with_reducible first|refine ny ?_|refine t_kLF ?_ ?_|refine t_dO 11 (fun _=>true) oWw3_0 fun K=>?_|refine t_dO 13 (fun _=>true) oWw3_0 fun K=>?_|refine t_dO 20 (fun _=>true) oWw3_1 fun K=>?_|refine t_dO 32 (fun _=>true) oWw3_2 fun K=>?_|refine t_dO 43 (fun _=>true) oWw3_3 fun K=>?_|refine t_dwh (h:=fun K KL=>?_));intros;simp only [go_sem,kp99,geff,yes,gb])
   all_goals try exact nd
   all_goals (refine nl ?_;simp only [go_sem,finK])
   refine ⟨_,?_,?_,mob_bds hbd,hk⟩
   ·exact LeR.refl _
   ·exact stV_bd (by omega)
  ·skip
   refine ecR W3_ok (kp99) Tryz.func99 [.cell 4 69] (h:=fun KF=>?_)
   unfold W3
   repeat' first|(with_reducible first|(refine nx ?_;intros)|refine t_br (fun hc=>?_) fun hc=>?_|apply And.intro|intro vr)|exact kp_mobs|exact kp_mob4|exact kpd|((with_reducible first|refine ny ?_|refine t_kLF ?_ ?_|refine t_dO 11 (fun _=>true) oWw3_0 fun K=>?_|refine t_dO 13 (fun _=>true) oWw3_0 fun K=>?_|refine t_dO 20 (fun _=>true) oWw3_1 fun K=>?_|refine t_dO 32 (fun _=>true) oWw3_2 fun K=>?_|refine t_dO 43 (fun _=>true) oWw3_3 fun K=>?_|refine t_dwh (h:=fun K KL=>?_));intros;simp only [go_sem,kp99,geff,yes])
   all_goals try exact nd
   all_goals (refine nl ?_;simp only [go_sem,finK])
   refine ⟨_,?_,?_,mob_bds hbd,hk⟩
   ·exact LeR.refl _
   ·exact stV_bd (by omega)
end Go.Proofs.YtnlimcijgpaegaaGreat

namespace Go.Proofs.YtnlimcijgpaegaaGreat.Mx
open Go.Proofs.YtnlimcijgpaegaaGreat
open Go Go.Fw Bm
set_option maxRecDepth 20000
structure Sn (B:Prg) (S:List (List Rng)):Prop where
  len:0<S.length→S.length=B.ops.length
  bd:∀ l∈S,l.length≤1000000
def BlkX (B:Prg) (mt:List Int) (S:List (List Rng)) (n m:Nat) (cb:Int) (N:Nat):Prop:=∀ (i to:Int) (s:St) (pre ex:List AObj) (k:AV→List AObj→Prop),to - i≤N→Cl B mt i to→Gd n m cb s→
  (∀ s',Runs B mt S (.blk i to) s s'→Gd n m cb s'→k (stV pre.length s' S) (mob pre s'.regs s'.arena ex))→EC Tryz.prog 56 [bcV B,.sl false 1 (ints .i64 mt),.lit (.int .i64 i),.lit (.int .i64 to),stV pre.length s S] (mob pre s.regs s.arena ex) k
noncomputable def ecnX {B:Prg} {mt:List Int} {S:List (List Rng)} {n m:Nat} {cb:Int} {N:Nat} (h:BlkX B mt S n m cb N):ECon Tryz.prog where
  f:=56
  c:=fun args σ k=>∃ (i to:Int) (s:St) (pre ex:List AObj),args=[bcV B,.sl false 1 (ints .i64 mt),.lit (.int .i64 i),.lit (.int .i64 to),stV pre.length s S]∧σ=mob pre s.regs s.arena ex∧to - i≤N∧Cl B mt i to∧Gd n m cb s∧
   ∀ s',Runs B mt S (.blk i to) s s'→Gd n m cb s'→k (stV pre.length s' S) (mob pre s'.regs s'.arena ex)
  ok:=by
   rintro _ _ k ⟨i,to,s,pre,ex,rfl,rfl,h1,h2,h3,h4⟩
   exact h i to s pre ex k h1 h2 h3 h4
  fk:=fk56
theorem ecnX_f {B:Prg} {mt:List Int} {S:List (List Rng)} {n m:Nat} {cb:Int} {N:Nat} (h:BlkX B mt S n m cb N):(ecnX h).f=56:=rfl
theorem ecnX_i {B:Prg} {mt:List Int} {S:List (List Rng)} {n m:Nat} {cb:Int} {N:Nat} {h:BlkX B mt S n m cb N} (s:St) {i to:Int} {pre ex:List AObj} {σ:List AObj} {args:List AV} {k:AV→List AObj→Prop} (ha:args=[bcV B,.sl false 1 (ints .i64 mt),.lit (.int .i64 i),.lit (.int .i64 to),stV pre.length s S]) (hσ:σ=mob pre s.regs s.arena ex)
    (h1:to - i≤N) (h2:Cl B mt i to) (h3:Gd n m cb s) (h4:∀ s',Runs B mt S (.blk i to) s s'→Gd n m cb s'→k (stV pre.length s' S) (mob pre s'.regs s'.arena ex)):(ecnX h).c args σ k:=
  ⟨i,to,s,pre,ex,ha,hσ,h1,h2,h3,h4⟩
noncomputable def ecnS (n m:Nat) (S:List (List Rng)):ECon Tryz.prog where
  f:=99
  c:=fun args σ k=>∃ (x:Ins) (s:St) (cb:Int) (pre ex:List AObj),args=[opV x,stV pre.length s S]∧σ=mob pre s.regs s.arena ex∧Regs x n∧Gd n m cb s∧cb≤1000000∧n≤1000000∧m≤1048576∧(∀ r∈readsS x,0≤r∧r<n)∧
   k (stV pre.length (simpleS x s) S) (mob pre (simpleS x s).regs (simpleS x s).arena ex)
  ok:=by
   rintro _ _ k ⟨x,s,cb,pre,ex,rfl,rfl,h1,h2,h3,h4,h5,h6,h7⟩
   exact simple_ec h1 h2 h3 h4 h5 h6 h7
  fk:=fk99
theorem ecnS_f {n m:Nat} {S:List (List Rng)}:(ecnS n m S).f=99:=rfl
theorem ecnS_i {n m:Nat} {S:List (List Rng)} (x:Ins) (s:St) (cb:Int) (s2:St) (hs2:simpleS x s=s2) {pre ex:List AObj} {σ:List AObj} {args:List AV} {k:AV→List AObj→Prop} (ha:args=[opV x,stV pre.length s S]) (hσ:σ=mob pre s.regs s.arena ex) (h1:Regs x n) (h2:Gd n m cb s) (h3:cb≤1000000) (h4:n≤1000000) (h5:m≤1048576)
    (h6:∀ r∈readsS x,0≤r∧r<n) (h7:k (stV pre.length s2 S) (mob pre s2.regs s2.arena ex)):(ecnS n m S).c args σ k:=by
  subst hs2
  exact ⟨x,s,cb,pre,ex,ha,hσ,h1,h2,h3,h4,h5,h6,h7⟩
attribute [go_sem] ecnX_f ecnS_f
noncomputable def con96:PCon Tryz.prog where
  f:=96
  c:=fun
   |[.agg [.sl _ 1 _,.sl _ 1 _,.lit (.int .i64 _),.lit (.int .i64 _),.lit (.int .i64 _),.lit (.int .i64 _),.sl _ 1 _,.lit (.int .i64 l),.lit (.bool f),.sl _ 1 _,.lit (.bool o),.lit (.int .i64 _)]]=>some (True,.lit (.bool (decide (l≤0)||f||o)))
   |_=>none
  ok:=by
   intro args p r hc hp
   split at hc
   ·cases hc;exact stopped_pc
   ·cases hc
  fk:=fk96
theorem con96_f:con96.f=96:=rfl
theorem con96_c {b1 b2 b3 b4:Bool} {R A V S:List AV} {c1 c2 c3 c4 l a:Int} {f o:Bool}:con96.c [.agg [.sl b1 1 R,.sl b2 1 A,.lit (.int .i64 c1),.lit (.int .i64 c2),.lit (.int .i64 c3),.lit (.int .i64 c4),.sl b3 1 V,.lit (.int .i64 l),.lit (.bool f),.sl b4 1 S,.lit (.bool o),.lit (.int .i64 a)]]=
    some (True,.lit (.bool (decide (l≤0)||f||o))):=rfl
noncomputable def con98:PCon Tryz.prog where
  f:=98
  c:=fun
   |[xB,xmt,.lit (.int .i64 i)]=>match bcOf xB,slK .i64 xmt with|some B,some mt=>some ((0≤i∧i<mt.length∧mt.length≤1000000∧B.ops.length≤1000000∧0≤gt mt i∧gt mt i<mt.length∧gt mt i<B.ops.length),.lit (.int .i64 (endS B mt i)))|_,_=>none
   |_=>none
  ok:=by
   intro args p r hc hp
   split at hc
   ·split at hc
    ·rename_i hB hmt
     cases hc
     exact PC.weak (endS_pc hp) ⟨bcOf_le hB,slK_le hmt,LeA.refl _,trivial⟩
    ·cases hc
   ·cases hc
  fk:=fk98
theorem con98_f:con98.f=98:=rfl
theorem con98_c {xB:AV} {xmt:AV} {i:Int}:con98.c [xB,xmt,.lit (.int .i64 i)]=match bcOf xB,slK .i64 xmt with|some B,some mt=>some ((0≤i∧i<mt.length∧mt.length≤1000000∧B.ops.length≤1000000∧0≤gt mt i∧gt mt i<mt.length∧gt mt i<B.ops.length),.lit (.int .i64 (endS B mt i)))|_,_=>none:=rfl
attribute [go_sem] con96_f con96_c con97_f con97_c con98_f con98_c
theorem BdS.app {n n':Nat} {σ l:List AObj} (h:BdS n σ) (hn:n≤n') (hl:l.all (lowO n')=true):BdS n' (σ++l):=fun o t cs ho=>by
  rcases Nat.lt_or_ge o σ.length with c|c
  ·rw [List.getElem?_append_left c] at ho
   intro i hi G v hG hr
   have:=h o t cs ho i hi G v (by omega) hr
   exact this.mono ⟨CLe.refl _,hn,fun _ _=>Nat.le_refl _,fun _ _ _=>rfl,fun _ _ _=>rfl⟩
  ·rw [List.getElem?_append_right c] at ho
   exact bds_low hl (o - σ.length) t cs ho
end Go.Proofs.YtnlimcijgpaegaaGreat.Mx

namespace Go.Proofs.YtnlimcijgpaegaaGreat.Mx
open Go.Proofs.YtnlimcijgpaegaaGreat
open Go Go.Fw Bm
set_option maxRecDepth 20000
abbrev oWw5_0:List (Nat×Nat):=[(0,1),(1,2),(2,1),(3,2),(4,1),(5,1),(6,1),(7,0),(8,1),(9,1),(10,0)]
abbrev oWw5_1:List (Nat×Nat):=[(0,2),(1,1),(2,1),(3,1),(4,1),(5,1),(6,1),(7,1),(8,2),(9,0),(10,0)]
attribute [go_sem] oWw5_0 oWw5_1
noncomputable def X5 {B:Prg} {mt:List Int} {S:List (List Rng)} {n m:Nat} {cb:Int} {N:Nat} (hB:BlkX B mt S n m cb N):Env:=envJ (P:=Tryz.prog) jkR zer (fun _=>false) (fun _=>false) [con96,con97,con98] [ecnS n m S,ecnX hB]
theorem X5_ok {B:Prg} {mt:List Int} {S:List (List Rng)} {n m:Nat} {cb:Int} {N:Nat} (hB:BlkX B mt S n m cb N):EnvOk Tryz.prog (X5 hB):=envJOk zer_ok
structure Xk (B:Prg) (mt:List Int) (S:List (List Rng)) (n m:Nat) (cb:Int) (i0 to:Int) (s0:St) where
  i:Int
  s:St
  hi:i0≤i
  hu:i≤to∨i=i0
  hg:Gd n m cb s
  hv:∀ s',Runs B mt S (.blk i to) s s'→Runs B mt S (.blk i0 to) s0 s'
structure Xl (B:Prg) (mt:List Int) (S:List (List Rng)) (n m:Nat) (cb:Int) (i lo hi:Int) (s0:St) where
  k:Int
  s:St
  hl:lo≤k
  hk:k≤hi+1048576∨k=lo
  hg:Gd n m cb s
  hv:∀ s',Runs B mt S (.lop i k hi) s s'→Runs B mt S (.lop i lo hi) s0 s'
def zB:AObj:= .box 69 [.sl true 1 [],.sl true 1 [],.lit (.int .i64 0),.lit (.int .i64 0),.lit (.int .i64 0),.lit (.int .i64 0),.sl true 1 [],.lit (.int .i64 0),.lit (.bool false),.sl true 1 [],.lit (.bool false),.lit (.int .i64 0)]
theorem fx_bds {pre ex:List AObj} {R A R' A':List Int} {w1 w2 v1 v2 v3 v4 v5 v6 v7 v8:Value} {l1 l2 l3 l4 V Sx:List AV} (h:BdS (pre.length+(ex.length+2)) (mob pre R A ex)):
    BdS (pre.length+(ex.length+5)) (mob pre R' A' (ex++[.box 26 [.lit w1,.lit w2,.sl false 6 l1,.sl false 2 l2,.sl false 2 l3,.sl false 3 l4],.box 69 [.arr pre.length 0,.arr (pre.length+1) 0,.lit v1,.lit v2,.lit v3,.lit v4,.sl false 1 V,.lit v5,.lit v6,.sl false 1 Sx,.lit v7,.lit v8],zB])):=by
  rw [←mob_app]
  refine BdS.app (mob_bds h) (by omega) ?_
  have a1:pre.length<pre.length+(ex.length+5):=by omega
  have a2:pre.length+1<pre.length+(ex.length+5):=by omega
  simp [lowO,zB,low_lit,low_sl,low_arr,a1,a2]
theorem le_ob3 {n0:Nat} {f g:Nat→AV} {pre ex:List AObj} {R A:List Int} {x y z u:AObj} (hn:n0≤pre.length+(ex.length+5)) (hb:BdS (pre.length+(ex.length+5)) (mob pre R A (ex++[x,y,z]))) (hg:∀ j,low1 (pre.length+(ex.length+5)) (g j)=true) (h:∀ j,LeR (f j) (g j)):
    Le n0 ⟨f,mob pre R A (ex++[x,y,z,u])⟩ ⟨g,mob pre R A (ex++[x,y,z])⟩:=by
  have e:(mob pre R A (ex++[x,y,z])).length=pre.length+(ex.length+5):=by rw [mob_len];simp
  exact le_backB (m:=[u]) (by rw [mob_app];simp) (by rw [e];exact hn) (by rw [e];exact hb) (by rw [e];exact hg) h
theorem sn_bd {B:Prg} {S:List (List Rng)} (h:Sn B S) {i:Nat}:(S.getD i []).length≤1000000:=by
  rw [List.getD_eq_getElem?_getD]
  cases e:S[i]? with
  |none=>simp
  |some l=>exact h.bd l (List.mem_of_getElem? e)
theorem stV_def {p:Nat} {s:St} {S:List (List Rng)}:stV p s S= .agg [.arr p 0,.arr (p+1) 0,.lit (.int .i64 s.reads),.lit (.int .i64 s.writes),.lit (.int .i64 s.ops),.lit (.int .i64 s.peak),.sl false 1 (ints .i64 s.viol),.lit (.int .i64 s.left),.lit (.bool s.failed),.sl false 1 (bfsV S),.lit (.bool s.out),.lit (.int .i64 s.at_)]:=rfl
attribute [go_sem] stV_def
theorem kp_none {σ τ:List AObj}:Kp (fun _=>false) σ τ:=fun o t cs h=>by cases h
set_option maxHeartbeats 8000000 in
theorem exec_step {B:Prg} {mt:List Int} {S:List (List Rng)} {n m:Nat} {cb:Int} {N:Nat} (hK:Wk B mt n) (hS:Sn B S) (hcb:cb≤1000000) (hm:m≤1048576) (hB:BlkX B mt S n m cb N):BlkX B mt S n m cb (N+1):=by
  intro i0 to s0 pre ex k h1 h2 h3 h5
  refine ec_finK fun hbd=>?_
  rw [mob_len] at hbd
  have hL:=hK.len
  have hn:=hK.n
  have hml:=hK.mtl
  have h20:=h2.1
  have h21:=h2.2.1
  simp only [stV,bcV]
  refine ecR (X5_ok hB) (kp56) Tryz.func56 [.cell 10 69] (h:=fun KF=>?_)
  unfold X5
  repeat' first|(with_reducible first|(refine nx ?_;intros)|apply And.intro|intro vr)|exact kp_mobs|exact kp_none|exact kpd|((with_reducible first|refine ny ?_|refine t_kLF ?_ ?_|refine t_dO 5 (fun _=>false) oWw5_0 fun K=>?_|refine t_dO 19 (fun _=>false) oWw5_1 fun K=>?_|refine t_dO 26 (fun _=>false) oWw5_1 fun K=>?_|refine t_dwh (h:=fun K KL=>?_));intros;simp only [go_sem,kp56,geff])
  all_goals try exact nd
  refine t_loopF (ι:=Xk B mt S n m cb i0 to s0) (fun q=>[(11,.lit (.int .i64 q.i))]) (fun q=>mob pre q.s.regs q.s.arena (ex++[.box 26 [.lit (.int .i64 B.regs),.lit (.int .i64 B.arena),.sl false 6 (opsV B.ops),.sl false 2 (plsV B.ins),.sl false 2 (plsV B.outs),.sl false 3 (arrs B.types)],.box 69 [.arr pre.length 0,.arr (pre.length+1) 0,.lit (.int .i64 q.s.reads),.lit (.int .i64 q.s.writes),.lit (.int .i64 q.s.ops),.lit (.int .i64 q.s.peak),.sl false 1 (ints .i64 q.s.viol),.lit (.int .i64 q.s.left),.lit (.bool q.s.failed),.sl false 1 (bfsV S),.lit (.bool q.s.out),.lit (.int .i64 q.s.at_)],.box 69 [.sl true 1 [],.sl true 1 [],.lit (.int .i64 0),.lit (.int .i64 0),.lit (.int .i64 0),.lit (.int .i64 0),.sl true 1 [],.lit (.int .i64 0),.lit (.bool false),.sl true 1 [],.lit (.bool false),.lit (.int .i64 0)]])) (fun q=>(to - q.i).toNat) ⟨i0,s0,Int.le_refl _,.inr rfl,h3,fun _ h=>h⟩ ?_ ?_
  ·exact lf
  rintro ⟨i,s,hi,hu,hg,hv⟩ K0
  cases hst:stpS s with
  |true=>
   have gst:(decide (s.left≤0)||s.failed||s.out)=true:=hst
   have hend:=h5 _ (hv _ (runs_end (fun q=>by rw [hst] at q;cases q.2))) hg
   repeat' first|(with_reducible first|(refine nx ?_;intros)|apply And.intro|intro vr)|exact kp_mobs|exact kp_none|exact kpd|((with_reducible first|refine ny ?_|refine t_kLF ?_ ?_|refine t_dO 5 (fun _=>false) oWw5_0 fun K=>?_|refine t_dO 19 (fun _=>false) oWw5_1 fun K=>?_|refine t_dO 26 (fun _=>false) oWw5_1 fun K=>?_|refine t_dwh (h:=fun K KL=>?_));intros;simp only [go_sem,kp56,geff,gst,Bool.not_true,Bool.and_false,yes])
   all_goals try exact nd
   all_goals (refine nl ?_;simp only [go_sem,finK])
   refine ⟨_,?_,?_,mob_bds hbd,hend⟩
   ·exact LeR.refl _
   ·exact stV_bd (by omega)
  |false=>
   rcases Int.lt_or_le i to with hc|hc
   ·have hcl:Cl B mt i to:=h2.next hi
    have hopd:B.ops.getD i.toNat nilI=B.op i:=rfl
    have hright:=hK.rights i (by omega) (by omega)
    have hrg:=right_regs hright
    have hrd:∀ r∈readsS (B.op i),0≤r∧r<n:=fun r hr=>reads_reg hright hr
    have gst:(decide (s.left≤0)||s.failed||s.out)=false:=hst
    have g3:decide (i<to)=true:=decide_eq_true hc
    generalize hXX:B.op i=X at hopd hright hrg hrd
    obtain ⟨q,p,a,b,c,d⟩:=X
    have hRl:=hg.regs
    have hpos:=hg.pos
    have hsum:=hg.sum
    rcases Nat.eq_zero_or_pos S.length with hS0|hS0
    ·have g4:decide ((S.length:Int)>0)=false:=decide_eq_false (by omega)
     have hlk:Bm.look S i s=s:=by unfold Bm.look;rw [if_neg (by omega)]
     have hT:Bm.tick (Bm.look S i s)={s with left:=s.left - 1,out:=s.out}:=by rw [hlk];rfl
     have hgT:=hg.tick (seen:=S) hst i
     rw [hT] at hgT
     by_cases q10:q=10
     ·subst q10
      have hrb:=hrg.b (by simp)
      have hrc:=hrg.c (by simp)
      have hrw:=hrg.w rfl
      have hrk:=hrg.k10 rfl
      have ho:(B.op i).code=10:=by rw [hXX]
      have hin:=hK.nest.inner (show 0≤i by omega) (by omega) (.inl ho)
      obtain ⟨k1,k2,k3,k4⟩:=hK.nest.at (show 0≤i by omega) (by omega) (.inl ho)
      have k5:=hcl.2.2 i (Int.le_refl _) hc (.inl ho)
      have hXa:(B.op i).a=a:=by rw [hXX]
      have hXb:(B.op i).b=b:=by rw [hXX]
      have hXc:(B.op i).c=c:=by rw [hXX]
      have hXd:(B.op i).d=d:=by rw [hXX]
      have gm:mt.getD i.toNat 0=gt mt i:=rfl
      have gb:s.regs.getD b.toNat 0=gt s.regs b:=rfl
      have gc:s.regs.getD c.toNat 0=gt s.regs c:=rfl
      have vb:=hg.gt b
      have vc:=hg.gt c
      have mc:maxC=1099511627776:=rfl
      have ma:maxA=1048576:=rfl
      simp only at hrb hrc hrw hrk
      have rF:=fun {s2 s':St} hj hk=>runs_for (B:=B) (mt:=mt) (seen:=S) (i:=i) (to:=to) (s:=s) (s':=s2) (s'':=s') ⟨hc,hst⟩ ho hj hk
      rw [hT,hXb,hXc] at rF
      have rF:∀ {s2 s':St},Runs B mt S (.lop i (gt s.regs b) (gt s.regs c)) {s with left:=s.left - 1,out:=s.out} s2→Runs B mt S (.blk (gt mt i+1) to) s2 s'→Runs B mt S (.blk i to) s s':=fun hj hk=>rF hj hk
      generalize hMM:gt mt i=M at*
      generalize gt s.regs b=lo at*
      generalize gt s.regs c=hh at*
      repeat' first|(with_reducible first|(refine nx ?_;intros)|apply And.intro|intro vr)|exact kp_mobs|exact kp_none|exact kpd|((with_reducible first|refine ny ?_|refine t_kLF ?_ ?_|refine t_dO 5 (fun _=>false) oWw5_0 fun K=>?_|refine t_dO 19 (fun _=>false) oWw5_1 fun K=>?_|refine t_dO 26 (fun _=>false) oWw5_1 fun K=>?_|refine t_dwh (h:=fun K KL=>?_));intros;simp only [go_sem,kp56,geff,g3,gst,g4,hopd,gb,gc,yes])
      all_goals try exact nd
      refine t_loopF (ι:=Xl B mt S n m cb i lo hh {s with left:=s.left - 1,out:=s.out}) (fun q=>[(15,.lit (.int .i64 q.k))]) (fun q=>mob pre q.s.regs q.s.arena (ex++[.box 26 [.lit (.int .i64 B.regs),.lit (.int .i64 B.arena),.sl false 6 (opsV B.ops),.sl false 2 (plsV B.ins),.sl false 2 (plsV B.outs),.sl false 3 (arrs B.types)],.box 69 [.arr pre.length 0,.arr (pre.length+1) 0,.lit (.int .i64 q.s.reads),.lit (.int .i64 q.s.writes),.lit (.int .i64 q.s.ops),.lit (.int .i64 q.s.peak),.sl false 1 (ints .i64 q.s.viol),.lit (.int .i64 q.s.left),.lit (.bool q.s.failed),.sl false 1 (bfsV S),.lit (.bool q.s.out),.lit (.int .i64 q.s.at_)],.box 69 [.sl true 1 [],.sl true 1 [],.lit (.int .i64 0),.lit (.int .i64 0),.lit (.int .i64 0),.lit (.int .i64 0),.sl true 1 [],.lit (.int .i64 0),.lit (.bool false),.sl true 1 [],.lit (.bool false),.lit (.int .i64 0)],.box 56 [.lit (.int .i64 10),.lit (.string p),.lit (.int .i64 a),.lit (.int .i64 b),.lit (.int .i64 c),.lit (.int .i64 d)]])) (fun q=>(hh - q.k).toNat) ⟨lo,{s with left:=s.left - 1,out:=s.out},Int.le_refl _,.inr rfl,hgT.le,fun _ h=>h⟩ ?_ ?_
      ·exact lf
      rintro ⟨k,s2,hl2,hk2,hg2,hv2⟩ K1
      have hpos2:=hg2.pos
      have hsum2:=hg2.sum
      have hRl2:=hg2.regs
      cases hst2:stpS s2 with
      |true=>
       have gst2:(decide (s2.left≤0)||s2.failed||s2.out)=true:=hst2
       have rE:=fun {s':St}=>rF (s':=s') (hv2 _ (runs_lend (fun q=>by rw [hst2] at q;cases q.2)))
       repeat' first|(with_reducible first|(refine nx ?_;intros)|apply And.intro|intro vr)|exact kp_mobs|exact kp_none|exact kpd|((with_reducible first|refine ny ?_|refine t_kLF ?_ ?_|refine t_dO 5 (fun _=>false) oWw5_0 fun K=>?_|refine t_dO 19 (fun _=>false) oWw5_1 fun K=>?_|refine t_dO 26 (fun _=>false) oWw5_1 fun K=>?_|refine t_dwh (h:=fun K KL=>?_));intros;simp only [go_sem,kp56,geff,gst2,Bool.not_true,Bool.and_false,gm,yes])
       all_goals try exact nd
       refine ⟨⟨M+1,s2,by omega,.inl (by omega),hg2,fun s' h=>hv _ (rE h)⟩,by simp only;omega,?_⟩
       try simp only [updL_nil,updL_cons,delF_top,delF_upd,Nat.reduceEqDiff,reduceIte]
       refine le_ob3 (u:= .box 56 [.lit (.int .i64 10),.lit (.string p),.lit (.int .i64 a),.lit (.int .i64 b),.lit (.int .i64 c),.lit (.int .i64 d)]) ?_ (fx_bds hbd) ?_ ?_
       ·rw [mob_len];omega
       ·repeat' (first|exact low_top|(refine low_upd rfl ?_)|(refine lg_w ?_ (by omega)))
       exact lq
      |false=>
       have gst2:(decide (s2.left≤0)||s2.failed||s2.out)=false:=hst2
       rcases Int.lt_or_le k hh with hc2|hc2
       ·have g5:decide (k<hh)=true:=decide_eq_true hc2
        have hgt2:=hg2.turn hst2 (i:=a) (v:=k) (by omega)
        have rT:=fun {s3 s':St} hj hk=>runs_turn (B:=B) (mt:=mt) (seen:=S) (i:=i) (n:=k) (hi:=hh) (s:=s2) (s':=s3) (s'':=s') ⟨hc2,hst2⟩ hj hk
        rw [hXa,hXd,hMM] at rT
        repeat' first|(with_reducible first|(refine nx ?_;intros)|apply And.intro|intro vr)|exact kp_mobs|exact kp_none|exact kpd|((with_reducible first|refine ny ?_|refine t_kLF ?_ ?_|refine t_dO 5 (fun _=>false) oWw5_0 fun K=>?_|refine t_dO 19 (fun _=>false) oWw5_1 fun K=>?_|refine t_dO 26 (fun _=>false) oWw5_1 fun K=>?_|refine t_dwh (h:=fun K KL=>?_));intros;simp only [go_sem,kp56,geff,g5,gst2,gm,yes])
        all_goals try exact nd
        refine ecnX_i {s2 with left:=s2.left - 1,regs:=s2.regs.set a.toNat k} rfl rfl (by omega) hin hgt2 fun s3 hr3 hg3=>?_
        repeat' first|(with_reducible first|(refine nx ?_;intros)|apply And.intro|intro vr)|exact kp_mobs|exact kp_none|exact kpd|((with_reducible first|refine ny ?_|refine t_kLF ?_ ?_|refine t_dO 5 (fun _=>false) oWw5_0 fun K=>?_|refine t_dO 19 (fun _=>false) oWw5_1 fun K=>?_|refine t_dO 26 (fun _=>false) oWw5_1 fun K=>?_|refine t_dwh (h:=fun K KL=>?_));intros;simp only [go_sem,kp56,geff,yes])
        all_goals try exact nd
        have hw:(hh - (k+d)).toNat<(hh - k).toNat:=by omega
        refine ⟨⟨k+d,s3,by omega,.inl (by omega),hg3,fun s' h=>hv2 _ (rT hr3 h)⟩,hw,?_⟩
        exact lf
       ·have g5:decide (k<hh)=false:=decide_eq_false (by omega)
        have rE:=fun {s':St}=>rF (s':=s') (hv2 _ (runs_lend (fun q=>by omega)))
        repeat' first|(with_reducible first|(refine nx ?_;intros)|apply And.intro|intro vr)|exact kp_mobs|exact kp_none|exact kpd|((with_reducible first|refine ny ?_|refine t_kLF ?_ ?_|refine t_dO 5 (fun _=>false) oWw5_0 fun K=>?_|refine t_dO 19 (fun _=>false) oWw5_1 fun K=>?_|refine t_dO 26 (fun _=>false) oWw5_1 fun K=>?_|refine t_dwh (h:=fun K KL=>?_));intros;simp only [go_sem,kp56,geff,g5,gst2,gm,yes])
        all_goals try exact nd
        refine ⟨⟨M+1,s2,by omega,.inl (by omega),hg2,fun s' h=>hv _ (rE h)⟩,by simp only;omega,?_⟩
        try simp only [updL_nil,updL_cons,delF_top,delF_upd,Nat.reduceEqDiff,reduceIte]
        refine le_ob3 (u:= .box 56 [.lit (.int .i64 10),.lit (.string p),.lit (.int .i64 a),.lit (.int .i64 b),.lit (.int .i64 c),.lit (.int .i64 d)]) ?_ (fx_bds hbd) ?_ ?_
        ·rw [mob_len];omega
        ·repeat' (first|exact low_top|(refine low_upd rfl ?_)|(refine lg_w ?_ (by omega)))
        exact lq
     by_cases q11:q=11
     ·subst q11
      have hra:=hrg.a (.inr rfl)
      have ho:(B.op i).code=11:=by rw [hXX]
      have hin:=hK.nest.inner (show 0≤i by omega) (by omega) (.inr (.inl ho))
      obtain ⟨k1,k2,k3,k4⟩:=hK.nest.at (show 0≤i by omega) (by omega) (.inr (.inl ho))
      obtain ⟨k5,k6,k7,k8,k9,k10⟩:=hK.nest.end_ hcl hc ho
      have hinE:(B.op (gt mt i)).code=12→Cl B mt (gt mt i+1) (gt mt (gt mt i)):=fun e=>hK.nest.inner (by omega) k2 (.inr (.inr e))
      have hAx:(B.op i).a=a:=by rw [hXX]
      have gm:mt.getD i.toNat 0=gt mt i:=rfl
      have gm2:mt.getD (gt mt i).toNat 0=gt mt (gt mt i):=rfl
      have ga:s.regs.getD a.toNat 0=gt s.regs a:=rfl
      have hopM:B.ops.getD (gt mt i).toNat nilI=B.op (gt mt i):=rfl
      have hE0:endS B mt i=gt mt (gt mt i):=k8
      have hE:endS ⟨B.regs,B.arena,B.ops,B.ins,B.outs,B.types⟩ mt i=gt mt (gt mt i):=k8
      have rY:=fun {s2 s':St} hp hj hk=>runs_yes (B:=B) (mt:=mt) (seen:=S) (i:=i) (to:=to) (s:=s) (s':=s2) (s'':=s') ⟨hc,hst⟩ ho hp hj hk
      have rN:=fun {s2 s':St} hp he hj hk=>runs_no (B:=B) (mt:=mt) (seen:=S) (i:=i) (to:=to) (s:=s) (s':=s2) (s'':=s') ⟨hc,hst⟩ ho hp he hj hk
      have rO:=fun {s':St} hp he hk=>runs_none (B:=B) (mt:=mt) (seen:=S) (i:=i) (to:=to) (s:=s) (s'':=s') ⟨hc,hst⟩ ho hp he hk
      rw [hT,hAx,hE0] at rY rN rO
      generalize hEE:gt mt (gt mt i)=E at*
      generalize hMM:gt mt i=M at*
      generalize hY:B.op M=Y at*
      obtain ⟨yc,yp,ya,yb,yy,yd⟩:=Y
      generalize hu:gt s.regs a=u at*
      cases gp:decide (u≥0) with
      |true=>
       have gp':=of_decide_eq_true gp
       repeat' first|(with_reducible first|(refine nx ?_;intros)|apply And.intro|intro vr)|exact kp_mobs|exact kp_none|exact kpd|((with_reducible first|refine ny ?_|refine t_kLF ?_ ?_|refine t_dO 5 (fun _=>false) oWw5_0 fun K=>?_|refine t_dO 19 (fun _=>false) oWw5_1 fun K=>?_|refine t_dO 26 (fun _=>false) oWw5_1 fun K=>?_|refine t_dwh (h:=fun K KL=>?_));intros;simp only [go_sem,kp56,geff,g3,gst,g4,hopd,gm,hMM,ga,gp,yes])
       all_goals try exact nd
       refine ecnX_i {s with left:=s.left - 1,out:=s.out} rfl rfl (by omega) hin hgT.le fun s2 hr2 hg2=>?_
       repeat' first|(with_reducible first|(refine nx ?_;intros)|apply And.intro|intro vr)|exact kp_mobs|exact kp_none|exact kpd|((with_reducible first|refine ny ?_|refine t_kLF ?_ ?_|refine t_dO 5 (fun _=>false) oWw5_0 fun K=>?_|refine t_dO 19 (fun _=>false) oWw5_1 fun K=>?_|refine t_dO 26 (fun _=>false) oWw5_1 fun K=>?_|refine t_dwh (h:=fun K KL=>?_));intros;simp only [go_sem,kp56,geff,gm,hMM,hE,yes])
       all_goals try exact nd
       refine ⟨⟨E+1,s2,by omega,.inl (by omega),hg2,fun s' h=>hv _ (rY gp' hr2 h)⟩,by simp only;omega,?_⟩
       try simp only [updL_nil,updL_cons,delF_top,delF_upd,Nat.reduceEqDiff,reduceIte]
       refine le_ob3 (u:= .box 56 [.lit (.int .i64 11),.lit (.string p),.lit (.int .i64 a),.lit (.int .i64 b),.lit (.int .i64 c),.lit (.int .i64 d)]) ?_ (fx_bds hbd) ?_ ?_
       ·rw [mob_len];omega
       ·repeat' (first|exact low_top|(refine low_upd rfl ?_)|(refine lg_w ?_ (by omega)))
       exact lq
      |false=>
       have gp':=of_decide_eq_false gp
       by_cases y12:yc=12
       ·subst y12
        have hinE:=hinE rfl
        repeat' first|(with_reducible first|(refine nx ?_;intros)|apply And.intro|intro vr)|exact kp_mobs|exact kp_none|exact kpd|((with_reducible first|refine ny ?_|refine t_kLF ?_ ?_|refine t_dO 5 (fun _=>false) oWw5_0 fun K=>?_|refine t_dO 19 (fun _=>false) oWw5_1 fun K=>?_|refine t_dO 26 (fun _=>false) oWw5_1 fun K=>?_|refine t_dwh (h:=fun K KL=>?_));intros;simp only [go_sem,kp56,geff,g3,gst,g4,hopd,gm,gm2,hMM,hEE,ga,gp,hopM,yes])
        all_goals try exact nd
        refine ecnX_i {s with left:=s.left - 1,out:=s.out} rfl rfl (by omega) hinE hgT.le fun s2 hr2 hg2=>?_
        repeat' first|(with_reducible first|(refine nx ?_;intros)|apply And.intro|intro vr)|exact kp_mobs|exact kp_none|exact kpd|((with_reducible first|refine ny ?_|refine t_kLF ?_ ?_|refine t_dO 5 (fun _=>false) oWw5_0 fun K=>?_|refine t_dO 19 (fun _=>false) oWw5_1 fun K=>?_|refine t_dO 26 (fun _=>false) oWw5_1 fun K=>?_|refine t_dwh (h:=fun K KL=>?_));intros;simp only [go_sem,kp56,geff,gm,hMM,hE,yes])
        all_goals try exact nd
        refine ⟨⟨E+1,s2,by omega,.inl (by omega),hg2,fun s' h=>hv _ (rN gp' rfl hr2 h)⟩,by simp only;omega,?_⟩
        try simp only [updL_nil,updL_cons,delF_top,delF_upd,Nat.reduceEqDiff,reduceIte]
        refine le_ob3 (u:= .box 56 [.lit (.int .i64 11),.lit (.string p),.lit (.int .i64 a),.lit (.int .i64 b),.lit (.int .i64 c),.lit (.int .i64 d)]) ?_ (fx_bds hbd) ?_ ?_
        ·rw [mob_len];omega
        ·repeat' (first|exact low_top|(refine low_upd rfl ?_)|(refine lg_w ?_ (by omega)))
        exact lq
       ·have e12:(yc==12)=false:=by simpa using y12
        repeat' first|(with_reducible first|(refine nx ?_;intros)|apply And.intro|intro vr)|exact kp_mobs|exact kp_none|exact kpd|((with_reducible first|refine ny ?_|refine t_kLF ?_ ?_|refine t_dO 5 (fun _=>false) oWw5_0 fun K=>?_|refine t_dO 19 (fun _=>false) oWw5_1 fun K=>?_|refine t_dO 26 (fun _=>false) oWw5_1 fun K=>?_|refine t_dwh (h:=fun K KL=>?_));intros;simp only [go_sem,kp56,geff,g3,gst,g4,hopd,gm,gm2,hMM,hEE,ga,gp,hopM,e12,hE,yes])
        all_goals try exact nd
        refine ⟨⟨E+1,{s with left:=s.left - 1,out:=s.out},by omega,.inl (by omega),hgT.le,fun s' h=>hv _ (rO gp' y12 h)⟩,by simp only;omega,?_⟩
        try simp only [updL_nil,updL_cons,delF_top,delF_upd,Nat.reduceEqDiff,reduceIte]
        refine le_ob3 (u:= .box 56 [.lit (.int .i64 11),.lit (.string p),.lit (.int .i64 a),.lit (.int .i64 b),.lit (.int .i64 c),.lit (.int .i64 d)]) ?_ (fx_bds hbd) ?_ ?_
        ·rw [mob_len];omega
        ·repeat' (first|exact low_top|(refine low_upd rfl ?_)|(refine lg_w ?_ (by omega)))
        exact lq
     have e10:(q==10)=false:=by simpa using q10
     have e11:(q==11)=false:=by simpa using q11
     have hg2:=hgT.simple hrg
     generalize hs2:simpleS ⟨q,p,a,b,c,d⟩ {s with left:=s.left - 1,out:=s.out}=s2 at hg2
     cases hf:s2.failed with
     |true=>
      repeat' first|(with_reducible first|(refine nx ?_;intros)|apply And.intro|intro vr)|exact kp_mobs|exact kp_none|exact kpd|((with_reducible first|refine ny ?_|refine t_kLF ?_ ?_|refine t_dO 5 (fun _=>false) oWw5_0 fun K=>?_|refine t_dO 19 (fun _=>false) oWw5_1 fun K=>?_|refine t_dO 26 (fun _=>false) oWw5_1 fun K=>?_|refine t_dwh (h:=fun K KL=>?_));intros;simp only [go_sem,kp56,geff,g3,gst,g4,hopd,e10,e11,yes])
      all_goals try exact nd
      refine ecnS_i ⟨q,p,a,b,c,d⟩ {s with left:=s.left - 1,out:=s.out} (cb - 1) s2 hs2 rfl rfl hrg hgT (by omega) hn hm hrd ?_
      repeat' first|(with_reducible first|(refine nx ?_;intros)|apply And.intro|intro vr)|exact kp_mobs|exact kp_none|exact kpd|((with_reducible first|refine ny ?_|refine t_kLF ?_ ?_|refine t_dO 5 (fun _=>false) oWw5_0 fun K=>?_|refine t_dO 19 (fun _=>false) oWw5_1 fun K=>?_|refine t_dO 26 (fun _=>false) oWw5_1 fun K=>?_|refine t_dwh (h:=fun K KL=>?_));intros;simp only [go_sem,kp56,geff,hf,yes])
      all_goals try exact nd
      refine ⟨⟨i+1,{s2 with at_:=i},by omega,.inl (by omega),⟨hg2.1,hg2.2,hg2.3,hg2.4,hg2.5,hg2.6,hg2.7⟩,fun s' h=>hv _ (runs_simple ⟨hc,hst⟩ (by rw [hXX];exact q10) (by rw [hXX];exact q11) (by rw [hXX,hT,hs2,hf];exact h))⟩,by simp only;omega,?_⟩
      try simp only [hf]
      try simp only [updL_nil,updL_cons,delF_top,delF_upd,Nat.reduceEqDiff,reduceIte]
      refine le_ob3 (u:= .box 56 [.lit (.int .i64 q),.lit (.string p),.lit (.int .i64 a),.lit (.int .i64 b),.lit (.int .i64 c),.lit (.int .i64 d)]) ?_ (fx_bds hbd) ?_ ?_
      ·rw [mob_len];omega
      ·repeat' (first|exact low_top|(refine low_upd rfl ?_)|(refine lg_w ?_ (by omega)))
      exact lq
     |false=>
      repeat' first|(with_reducible first|(refine nx ?_;intros)|apply And.intro|intro vr)|exact kp_mobs|exact kp_none|exact kpd|((with_reducible first|refine ny ?_|refine t_kLF ?_ ?_|refine t_dO 5 (fun _=>false) oWw5_0 fun K=>?_|refine t_dO 19 (fun _=>false) oWw5_1 fun K=>?_|refine t_dO 26 (fun _=>false) oWw5_1 fun K=>?_|refine t_dwh (h:=fun K KL=>?_));intros;simp only [go_sem,kp56,geff,g3,gst,g4,hopd,e10,e11,yes])
      all_goals try exact nd
      refine ecnS_i ⟨q,p,a,b,c,d⟩ {s with left:=s.left - 1,out:=s.out} (cb - 1) s2 hs2 rfl rfl hrg hgT (by omega) hn hm hrd ?_
      repeat' first|(with_reducible first|(refine nx ?_;intros)|apply And.intro|intro vr)|exact kp_mobs|exact kp_none|exact kpd|((with_reducible first|refine ny ?_|refine t_kLF ?_ ?_|refine t_dO 5 (fun _=>false) oWw5_0 fun K=>?_|refine t_dO 19 (fun _=>false) oWw5_1 fun K=>?_|refine t_dO 26 (fun _=>false) oWw5_1 fun K=>?_|refine t_dwh (h:=fun K KL=>?_));intros;simp only [go_sem,kp56,geff,hf,yes])
      all_goals try exact nd
      refine ⟨⟨i+1,s2,by omega,.inl (by omega),hg2,fun s' h=>hv _ (runs_simple ⟨hc,hst⟩ (by rw [hXX];exact q10) (by rw [hXX];exact q11) (by rw [hXX,hT,hs2,hf];exact h))⟩,by simp only;omega,?_⟩
      try simp only [hf]
      try simp only [updL_nil,updL_cons,delF_top,delF_upd,Nat.reduceEqDiff,reduceIte]
      refine le_ob3 (u:= .box 56 [.lit (.int .i64 q),.lit (.string p),.lit (.int .i64 a),.lit (.int .i64 b),.lit (.int .i64 c),.lit (.int .i64 d)]) ?_ (fx_bds hbd) ?_ ?_
      ·rw [mob_len];omega
      ·repeat' (first|exact low_top|(refine low_upd rfl ?_)|(refine lg_w ?_ (by omega)))
      exact lq
    ·have g4:decide ((S.length:Int)>0)=true:=decide_eq_true (by omega)
     have hSl:=hS.len hS0
     have hbf:=bfsV_at (l:=S) (i:=i.toNat) (by omega)
     have hrl:(S.getD i.toNat []).length≤1000000:=sn_bd hS
     generalize hr:S.getD i.toNat []=r at hbf hrl
     have ho':inR s.regs r=inR s.regs r:=rfl
     generalize ho2:inR s.regs r=o2 at ho'
     have ho':=ho2
     have hlk:Bm.look S i s={s with out:= !o2}:=by unfold Bm.look;rw [if_pos hS0,hr,ho2]
     have hT:Bm.tick (Bm.look S i s)={s with left:=s.left - 1,out:= !o2}:=by rw [hlk];rfl
     have hgT:=hg.tick (seen:=S) hst i
     rw [hT] at hgT
     by_cases q10:q=10
     ·subst q10
      have hrb:=hrg.b (by simp)
      have hrc:=hrg.c (by simp)
      have hrw:=hrg.w rfl
      have hrk:=hrg.k10 rfl
      have ho:(B.op i).code=10:=by rw [hXX]
      have hin:=hK.nest.inner (show 0≤i by omega) (by omega) (.inl ho)
      obtain ⟨k1,k2,k3,k4⟩:=hK.nest.at (show 0≤i by omega) (by omega) (.inl ho)
      have k5:=hcl.2.2 i (Int.le_refl _) hc (.inl ho)
      have hXa:(B.op i).a=a:=by rw [hXX]
      have hXb:(B.op i).b=b:=by rw [hXX]
      have hXc:(B.op i).c=c:=by rw [hXX]
      have hXd:(B.op i).d=d:=by rw [hXX]
      have gm:mt.getD i.toNat 0=gt mt i:=rfl
      have gb:s.regs.getD b.toNat 0=gt s.regs b:=rfl
      have gc:s.regs.getD c.toNat 0=gt s.regs c:=rfl
      have vb:=hg.gt b
      have vc:=hg.gt c
      have mc:maxC=1099511627776:=rfl
      have ma:maxA=1048576:=rfl
      simp only at hrb hrc hrw hrk
      have rF:=fun {s2 s':St} hj hk=>runs_for (B:=B) (mt:=mt) (seen:=S) (i:=i) (to:=to) (s:=s) (s':=s2) (s'':=s') ⟨hc,hst⟩ ho hj hk
      rw [hT,hXb,hXc] at rF
      have rF:∀ {s2 s':St},Runs B mt S (.lop i (gt s.regs b) (gt s.regs c)) {s with left:=s.left - 1,out:= !o2} s2→Runs B mt S (.blk (gt mt i+1) to) s2 s'→Runs B mt S (.blk i to) s s':=fun hj hk=>rF hj hk
      generalize hMM:gt mt i=M at*
      generalize gt s.regs b=lo at*
      generalize gt s.regs c=hh at*
      repeat' first|(with_reducible first|(refine nx ?_;intros)|apply And.intro|intro vr)|exact kp_mobs|exact kp_none|exact kpd|((with_reducible first|refine ny ?_|refine t_kLF ?_ ?_|refine t_dO 5 (fun _=>false) oWw5_0 fun K=>?_|refine t_dO 19 (fun _=>false) oWw5_1 fun K=>?_|refine t_dO 26 (fun _=>false) oWw5_1 fun K=>?_|refine t_dwh (h:=fun K KL=>?_));intros;simp only [go_sem,kp56,geff,g3,gst,g4,hbf,ho',hopd,gb,gc,yes])
      all_goals try exact nd
      refine t_loopF (ι:=Xl B mt S n m cb i lo hh {s with left:=s.left - 1,out:= !o2}) (fun q=>[(15,.lit (.int .i64 q.k))]) (fun q=>mob pre q.s.regs q.s.arena (ex++[.box 26 [.lit (.int .i64 B.regs),.lit (.int .i64 B.arena),.sl false 6 (opsV B.ops),.sl false 2 (plsV B.ins),.sl false 2 (plsV B.outs),.sl false 3 (arrs B.types)],.box 69 [.arr pre.length 0,.arr (pre.length+1) 0,.lit (.int .i64 q.s.reads),.lit (.int .i64 q.s.writes),.lit (.int .i64 q.s.ops),.lit (.int .i64 q.s.peak),.sl false 1 (ints .i64 q.s.viol),.lit (.int .i64 q.s.left),.lit (.bool q.s.failed),.sl false 1 (bfsV S),.lit (.bool q.s.out),.lit (.int .i64 q.s.at_)],.box 69 [.sl true 1 [],.sl true 1 [],.lit (.int .i64 0),.lit (.int .i64 0),.lit (.int .i64 0),.lit (.int .i64 0),.sl true 1 [],.lit (.int .i64 0),.lit (.bool false),.sl true 1 [],.lit (.bool false),.lit (.int .i64 0)],.box 56 [.lit (.int .i64 10),.lit (.string p),.lit (.int .i64 a),.lit (.int .i64 b),.lit (.int .i64 c),.lit (.int .i64 d)]])) (fun q=>(hh - q.k).toNat) ⟨lo,{s with left:=s.left - 1,out:= !o2},Int.le_refl _,.inr rfl,hgT.le,fun _ h=>h⟩ ?_ ?_
      ·exact lf
      rintro ⟨k,s2,hl2,hk2,hg2,hv2⟩ K1
      have hpos2:=hg2.pos
      have hsum2:=hg2.sum
      have hRl2:=hg2.regs
      cases hst2:stpS s2 with
      |true=>
       have gst2:(decide (s2.left≤0)||s2.failed||s2.out)=true:=hst2
       have rE:=fun {s':St}=>rF (s':=s') (hv2 _ (runs_lend (fun q=>by rw [hst2] at q;cases q.2)))
       repeat' first|(with_reducible first|(refine nx ?_;intros)|apply And.intro|intro vr)|exact kp_mobs|exact kp_none|exact kpd|((with_reducible first|refine ny ?_|refine t_kLF ?_ ?_|refine t_dO 5 (fun _=>false) oWw5_0 fun K=>?_|refine t_dO 19 (fun _=>false) oWw5_1 fun K=>?_|refine t_dO 26 (fun _=>false) oWw5_1 fun K=>?_|refine t_dwh (h:=fun K KL=>?_));intros;simp only [go_sem,kp56,geff,gst2,Bool.not_true,Bool.and_false,gm,yes])
       all_goals try exact nd
       refine ⟨⟨M+1,s2,by omega,.inl (by omega),hg2,fun s' h=>hv _ (rE h)⟩,by simp only;omega,?_⟩
       try simp only [updL_nil,updL_cons,delF_top,delF_upd,Nat.reduceEqDiff,reduceIte]
       refine le_ob3 (u:= .box 56 [.lit (.int .i64 10),.lit (.string p),.lit (.int .i64 a),.lit (.int .i64 b),.lit (.int .i64 c),.lit (.int .i64 d)]) ?_ (fx_bds hbd) ?_ ?_
       ·rw [mob_len];omega
       ·repeat' (first|exact low_top|(refine low_upd rfl ?_)|(refine lg_w ?_ (by omega)))
       exact lq
      |false=>
       have gst2:(decide (s2.left≤0)||s2.failed||s2.out)=false:=hst2
       rcases Int.lt_or_le k hh with hc2|hc2
       ·have g5:decide (k<hh)=true:=decide_eq_true hc2
        have hgt2:=hg2.turn hst2 (i:=a) (v:=k) (by omega)
        have rT:=fun {s3 s':St} hj hk=>runs_turn (B:=B) (mt:=mt) (seen:=S) (i:=i) (n:=k) (hi:=hh) (s:=s2) (s':=s3) (s'':=s') ⟨hc2,hst2⟩ hj hk
        rw [hXa,hXd,hMM] at rT
        repeat' first|(with_reducible first|(refine nx ?_;intros)|apply And.intro|intro vr)|exact kp_mobs|exact kp_none|exact kpd|((with_reducible first|refine ny ?_|refine t_kLF ?_ ?_|refine t_dO 5 (fun _=>false) oWw5_0 fun K=>?_|refine t_dO 19 (fun _=>false) oWw5_1 fun K=>?_|refine t_dO 26 (fun _=>false) oWw5_1 fun K=>?_|refine t_dwh (h:=fun K KL=>?_));intros;simp only [go_sem,kp56,geff,g5,gst2,gm,yes])
        all_goals try exact nd
        refine ecnX_i {s2 with left:=s2.left - 1,regs:=s2.regs.set a.toNat k} rfl rfl (by omega) hin hgt2 fun s3 hr3 hg3=>?_
        repeat' first|(with_reducible first|(refine nx ?_;intros)|apply And.intro|intro vr)|exact kp_mobs|exact kp_none|exact kpd|((with_reducible first|refine ny ?_|refine t_kLF ?_ ?_|refine t_dO 5 (fun _=>false) oWw5_0 fun K=>?_|refine t_dO 19 (fun _=>false) oWw5_1 fun K=>?_|refine t_dO 26 (fun _=>false) oWw5_1 fun K=>?_|refine t_dwh (h:=fun K KL=>?_));intros;simp only [go_sem,kp56,geff,yes])
        all_goals try exact nd
        have hw:(hh - (k+d)).toNat<(hh - k).toNat:=by omega
        refine ⟨⟨k+d,s3,by omega,.inl (by omega),hg3,fun s' h=>hv2 _ (rT hr3 h)⟩,hw,?_⟩
        exact lf
       ·have g5:decide (k<hh)=false:=decide_eq_false (by omega)
        have rE:=fun {s':St}=>rF (s':=s') (hv2 _ (runs_lend (fun q=>by omega)))
        repeat' first|(with_reducible first|(refine nx ?_;intros)|apply And.intro|intro vr)|exact kp_mobs|exact kp_none|exact kpd|((with_reducible first|refine ny ?_|refine t_kLF ?_ ?_|refine t_dO 5 (fun _=>false) oWw5_0 fun K=>?_|refine t_dO 19 (fun _=>false) oWw5_1 fun K=>?_|refine t_dO 26 (fun _=>false) oWw5_1 fun K=>?_|refine t_dwh (h:=fun K KL=>?_));intros;simp only [go_sem,kp56,geff,g5,gst2,gm,yes])
        all_goals try exact nd
        refine ⟨⟨M+1,s2,by omega,.inl (by omega),hg2,fun s' h=>hv _ (rE h)⟩,by simp only;omega,?_⟩
        try simp only [updL_nil,updL_cons,delF_top,delF_upd,Nat.reduceEqDiff,reduceIte]
        refine le_ob3 (u:= .box 56 [.lit (.int .i64 10),.lit (.string p),.lit (.int .i64 a),.lit (.int .i64 b),.lit (.int .i64 c),.lit (.int .i64 d)]) ?_ (fx_bds hbd) ?_ ?_
        ·rw [mob_len];omega
        ·repeat' (first|exact low_top|(refine low_upd rfl ?_)|(refine lg_w ?_ (by omega)))
        exact lq
     by_cases q11:q=11
     ·subst q11
      have hra:=hrg.a (.inr rfl)
      have ho:(B.op i).code=11:=by rw [hXX]
      have hin:=hK.nest.inner (show 0≤i by omega) (by omega) (.inr (.inl ho))
      obtain ⟨k1,k2,k3,k4⟩:=hK.nest.at (show 0≤i by omega) (by omega) (.inr (.inl ho))
      obtain ⟨k5,k6,k7,k8,k9,k10⟩:=hK.nest.end_ hcl hc ho
      have hinE:(B.op (gt mt i)).code=12→Cl B mt (gt mt i+1) (gt mt (gt mt i)):=fun e=>hK.nest.inner (by omega) k2 (.inr (.inr e))
      have hAx:(B.op i).a=a:=by rw [hXX]
      have gm:mt.getD i.toNat 0=gt mt i:=rfl
      have gm2:mt.getD (gt mt i).toNat 0=gt mt (gt mt i):=rfl
      have ga:s.regs.getD a.toNat 0=gt s.regs a:=rfl
      have hopM:B.ops.getD (gt mt i).toNat nilI=B.op (gt mt i):=rfl
      have hE0:endS B mt i=gt mt (gt mt i):=k8
      have hE:endS ⟨B.regs,B.arena,B.ops,B.ins,B.outs,B.types⟩ mt i=gt mt (gt mt i):=k8
      have rY:=fun {s2 s':St} hp hj hk=>runs_yes (B:=B) (mt:=mt) (seen:=S) (i:=i) (to:=to) (s:=s) (s':=s2) (s'':=s') ⟨hc,hst⟩ ho hp hj hk
      have rN:=fun {s2 s':St} hp he hj hk=>runs_no (B:=B) (mt:=mt) (seen:=S) (i:=i) (to:=to) (s:=s) (s':=s2) (s'':=s') ⟨hc,hst⟩ ho hp he hj hk
      have rO:=fun {s':St} hp he hk=>runs_none (B:=B) (mt:=mt) (seen:=S) (i:=i) (to:=to) (s:=s) (s'':=s') ⟨hc,hst⟩ ho hp he hk
      rw [hT,hAx,hE0] at rY rN rO
      generalize hEE:gt mt (gt mt i)=E at*
      generalize hMM:gt mt i=M at*
      generalize hY:B.op M=Y at*
      obtain ⟨yc,yp,ya,yb,yy,yd⟩:=Y
      generalize hu:gt s.regs a=u at*
      cases gp:decide (u≥0) with
      |true=>
       have gp':=of_decide_eq_true gp
       repeat' first|(with_reducible first|(refine nx ?_;intros)|apply And.intro|intro vr)|exact kp_mobs|exact kp_none|exact kpd|((with_reducible first|refine ny ?_|refine t_kLF ?_ ?_|refine t_dO 5 (fun _=>false) oWw5_0 fun K=>?_|refine t_dO 19 (fun _=>false) oWw5_1 fun K=>?_|refine t_dO 26 (fun _=>false) oWw5_1 fun K=>?_|refine t_dwh (h:=fun K KL=>?_));intros;simp only [go_sem,kp56,geff,g3,gst,g4,hbf,ho',hopd,gm,hMM,ga,gp,yes])
       all_goals try exact nd
       refine ecnX_i {s with left:=s.left - 1,out:= !o2} rfl rfl (by omega) hin hgT.le fun s2 hr2 hg2=>?_
       repeat' first|(with_reducible first|(refine nx ?_;intros)|apply And.intro|intro vr)|exact kp_mobs|exact kp_none|exact kpd|((with_reducible first|refine ny ?_|refine t_kLF ?_ ?_|refine t_dO 5 (fun _=>false) oWw5_0 fun K=>?_|refine t_dO 19 (fun _=>false) oWw5_1 fun K=>?_|refine t_dO 26 (fun _=>false) oWw5_1 fun K=>?_|refine t_dwh (h:=fun K KL=>?_));intros;simp only [go_sem,kp56,geff,gm,hMM,hE,yes])
       all_goals try exact nd
       refine ⟨⟨E+1,s2,by omega,.inl (by omega),hg2,fun s' h=>hv _ (rY gp' hr2 h)⟩,by simp only;omega,?_⟩
       try simp only [updL_nil,updL_cons,delF_top,delF_upd,Nat.reduceEqDiff,reduceIte]
       refine le_ob3 (u:= .box 56 [.lit (.int .i64 11),.lit (.string p),.lit (.int .i64 a),.lit (.int .i64 b),.lit (.int .i64 c),.lit (.int .i64 d)]) ?_ (fx_bds hbd) ?_ ?_
       ·rw [mob_len];omega
       ·repeat' (first|exact low_top|(refine low_upd rfl ?_)|(refine lg_w ?_ (by omega)))
       exact lq
      |false=>
       have gp':=of_decide_eq_false gp
       by_cases y12:yc=12
       ·subst y12
        have hinE:=hinE rfl
        repeat' first|(with_reducible first|(refine nx ?_;intros)|apply And.intro|intro vr)|exact kp_mobs|exact kp_none|exact kpd|((with_reducible first|refine ny ?_|refine t_kLF ?_ ?_|refine t_dO 5 (fun _=>false) oWw5_0 fun K=>?_|refine t_dO 19 (fun _=>false) oWw5_1 fun K=>?_|refine t_dO 26 (fun _=>false) oWw5_1 fun K=>?_|refine t_dwh (h:=fun K KL=>?_));intros;simp only [go_sem,kp56,geff,g3,gst,g4,hbf,ho',hopd,gm,gm2,hMM,hEE,ga,gp,hopM,yes])
        all_goals try exact nd
        refine ecnX_i {s with left:=s.left - 1,out:= !o2} rfl rfl (by omega) hinE hgT.le fun s2 hr2 hg2=>?_
        repeat' first|(with_reducible first|(refine nx ?_;intros)|apply And.intro|intro vr)|exact kp_mobs|exact kp_none|exact kpd|((with_reducible first|refine ny ?_|refine t_kLF ?_ ?_|refine t_dO 5 (fun _=>false) oWw5_0 fun K=>?_|refine t_dO 19 (fun _=>false) oWw5_1 fun K=>?_|refine t_dO 26 (fun _=>false) oWw5_1 fun K=>?_|refine t_dwh (h:=fun K KL=>?_));intros;simp only [go_sem,kp56,geff,gm,hMM,hE,yes])
        all_goals try exact nd
        refine ⟨⟨E+1,s2,by omega,.inl (by omega),hg2,fun s' h=>hv _ (rN gp' rfl hr2 h)⟩,by simp only;omega,?_⟩
        try simp only [updL_nil,updL_cons,delF_top,delF_upd,Nat.reduceEqDiff,reduceIte]
        refine le_ob3 (u:= .box 56 [.lit (.int .i64 11),.lit (.string p),.lit (.int .i64 a),.lit (.int .i64 b),.lit (.int .i64 c),.lit (.int .i64 d)]) ?_ (fx_bds hbd) ?_ ?_
        ·rw [mob_len];omega
        ·repeat' (first|exact low_top|(refine low_upd rfl ?_)|(refine lg_w ?_ (by omega)))
        exact lq
       ·have e12:(yc==12)=false:=by simpa using y12
        repeat' first|(with_reducible first|(refine nx ?_;intros)|apply And.intro|intro vr)|exact kp_mobs|exact kp_none|exact kpd|((with_reducible first|refine ny ?_|refine t_kLF ?_ ?_|refine t_dO 5 (fun _=>false) oWw5_0 fun K=>?_|refine t_dO 19 (fun _=>false) oWw5_1 fun K=>?_|refine t_dO 26 (fun _=>false) oWw5_1 fun K=>?_|refine t_dwh (h:=fun K KL=>?_));intros;simp only [go_sem,kp56,geff,g3,gst,g4,hbf,ho',hopd,gm,gm2,hMM,hEE,ga,gp,hopM,e12,hE,yes])
        all_goals try exact nd
        refine ⟨⟨E+1,{s with left:=s.left - 1,out:= !o2},by omega,.inl (by omega),hgT.le,fun s' h=>hv _ (rO gp' y12 h)⟩,by simp only;omega,?_⟩
        try simp only [updL_nil,updL_cons,delF_top,delF_upd,Nat.reduceEqDiff,reduceIte]
        refine le_ob3 (u:= .box 56 [.lit (.int .i64 11),.lit (.string p),.lit (.int .i64 a),.lit (.int .i64 b),.lit (.int .i64 c),.lit (.int .i64 d)]) ?_ (fx_bds hbd) ?_ ?_
        ·rw [mob_len];omega
        ·repeat' (first|exact low_top|(refine low_upd rfl ?_)|(refine lg_w ?_ (by omega)))
        exact lq
     have e10:(q==10)=false:=by simpa using q10
     have e11:(q==11)=false:=by simpa using q11
     have hg2:=hgT.simple hrg
     generalize hs2:simpleS ⟨q,p,a,b,c,d⟩ {s with left:=s.left - 1,out:= !o2}=s2 at hg2
     cases hf:s2.failed with
     |true=>
      repeat' first|(with_reducible first|(refine nx ?_;intros)|apply And.intro|intro vr)|exact kp_mobs|exact kp_none|exact kpd|((with_reducible first|refine ny ?_|refine t_kLF ?_ ?_|refine t_dO 5 (fun _=>false) oWw5_0 fun K=>?_|refine t_dO 19 (fun _=>false) oWw5_1 fun K=>?_|refine t_dO 26 (fun _=>false) oWw5_1 fun K=>?_|refine t_dwh (h:=fun K KL=>?_));intros;simp only [go_sem,kp56,geff,g3,gst,g4,hbf,ho',hopd,e10,e11,yes])
      all_goals try exact nd
      refine ecnS_i ⟨q,p,a,b,c,d⟩ {s with left:=s.left - 1,out:= !o2} (cb - 1) s2 hs2 rfl rfl hrg hgT (by omega) hn hm hrd ?_
      repeat' first|(with_reducible first|(refine nx ?_;intros)|apply And.intro|intro vr)|exact kp_mobs|exact kp_none|exact kpd|((with_reducible first|refine ny ?_|refine t_kLF ?_ ?_|refine t_dO 5 (fun _=>false) oWw5_0 fun K=>?_|refine t_dO 19 (fun _=>false) oWw5_1 fun K=>?_|refine t_dO 26 (fun _=>false) oWw5_1 fun K=>?_|refine t_dwh (h:=fun K KL=>?_));intros;simp only [go_sem,kp56,geff,hf,yes])
      all_goals try exact nd
      refine ⟨⟨i+1,{s2 with at_:=i},by omega,.inl (by omega),⟨hg2.1,hg2.2,hg2.3,hg2.4,hg2.5,hg2.6,hg2.7⟩,fun s' h=>hv _ (runs_simple ⟨hc,hst⟩ (by rw [hXX];exact q10) (by rw [hXX];exact q11) (by rw [hXX,hT,hs2,hf];exact h))⟩,by simp only;omega,?_⟩
      try simp only [hf]
      try simp only [updL_nil,updL_cons,delF_top,delF_upd,Nat.reduceEqDiff,reduceIte]
      refine le_ob3 (u:= .box 56 [.lit (.int .i64 q),.lit (.string p),.lit (.int .i64 a),.lit (.int .i64 b),.lit (.int .i64 c),.lit (.int .i64 d)]) ?_ (fx_bds hbd) ?_ ?_
      ·rw [mob_len];omega
      ·repeat' (first|exact low_top|(refine low_upd rfl ?_)|(refine lg_w ?_ (by omega)))
      exact lq
     |false=>
      repeat' first|(with_reducible first|(refine nx ?_;intros)|apply And.intro|intro vr)|exact kp_mobs|exact kp_none|exact kpd|((with_reducible first|refine ny ?_|refine t_kLF ?_ ?_|refine t_dO 5 (fun _=>false) oWw5_0 fun K=>?_|refine t_dO 19 (fun _=>false) oWw5_1 fun K=>?_|refine t_dO 26 (fun _=>false) oWw5_1 fun K=>?_|refine t_dwh (h:=fun K KL=>?_));intros;simp only [go_sem,kp56,geff,g3,gst,g4,hbf,ho',hopd,e10,e11,yes])
      all_goals try exact nd
      refine ecnS_i ⟨q,p,a,b,c,d⟩ {s with left:=s.left - 1,out:= !o2} (cb - 1) s2 hs2 rfl rfl hrg hgT (by omega) hn hm hrd ?_
      repeat' first|(with_reducible first|(refine nx ?_;intros)|apply And.intro|intro vr)|exact kp_mobs|exact kp_none|exact kpd|((with_reducible first|refine ny ?_|refine t_kLF ?_ ?_|refine t_dO 5 (fun _=>false) oWw5_0 fun K=>?_|refine t_dO 19 (fun _=>false) oWw5_1 fun K=>?_|refine t_dO 26 (fun _=>false) oWw5_1 fun K=>?_|refine t_dwh (h:=fun K KL=>?_));intros;simp only [go_sem,kp56,geff,hf,yes])
      all_goals try exact nd
      refine ⟨⟨i+1,s2,by omega,.inl (by omega),hg2,fun s' h=>hv _ (runs_simple ⟨hc,hst⟩ (by rw [hXX];exact q10) (by rw [hXX];exact q11) (by rw [hXX,hT,hs2,hf];exact h))⟩,by simp only;omega,?_⟩
      try simp only [hf]
      try simp only [updL_nil,updL_cons,delF_top,delF_upd,Nat.reduceEqDiff,reduceIte]
      refine le_ob3 (u:= .box 56 [.lit (.int .i64 q),.lit (.string p),.lit (.int .i64 a),.lit (.int .i64 b),.lit (.int .i64 c),.lit (.int .i64 d)]) ?_ (fx_bds hbd) ?_ ?_
      ·rw [mob_len];omega
      ·repeat' (first|exact low_top|(refine low_upd rfl ?_)|(refine lg_w ?_ (by omega)))
      exact lq
   ·have gst:(decide (s.left≤0)||s.failed||s.out)=false:=hst
    have g3:decide (i<to)=false:=decide_eq_false (by omega)
    have hend:=h5 _ (hv _ (runs_end (fun q=>by omega))) hg
    repeat' first|(with_reducible first|(refine nx ?_;intros)|apply And.intro|intro vr)|exact kp_mobs|exact kp_none|exact kpd|((with_reducible first|refine ny ?_|refine t_kLF ?_ ?_|refine t_dO 5 (fun _=>false) oWw5_0 fun K=>?_|refine t_dO 19 (fun _=>false) oWw5_1 fun K=>?_|refine t_dO 26 (fun _=>false) oWw5_1 fun K=>?_|refine t_dwh (h:=fun K KL=>?_));intros;simp only [go_sem,kp56,geff,g3,gst,yes])
    all_goals try exact nd
    all_goals (refine nl ?_;simp only [go_sem,finK])
    refine ⟨_,?_,?_,mob_bds hbd,hend⟩
    ·exact LeR.refl _
    ·exact stV_bd (by omega)
end Go.Proofs.YtnlimcijgpaegaaGreat.Mx

namespace Go.Proofs.YtnlimcijgpaegaaGreat.Mx
open Go.Proofs.YtnlimcijgpaegaaGreat
open Go Go.Fw Bm
set_option maxRecDepth 20000
noncomputable def X6:Env:=envJ (P:=Tryz.prog) jkR zer (fun _=>false) (fun _=>false) [con96] []
theorem X6_ok:EnvOk Tryz.prog X6:=envJOk zer_ok
set_option maxHeartbeats 8000000 in
theorem exec_base {B:Prg} {mt:List Int} {S:List (List Rng)} {n m:Nat} {cb:Int} (hcb:cb≤1000000):BlkX B mt S n m cb 0:=by
  intro i0 to s0 pre ex k h1 h2 h3 h5
  refine ec_finK fun hbd=>?_
  rw [mob_len] at hbd
  have h20:=h2.1
  have hend:=h5 _ (runs_end (fun q=>by have:=q.1;omega)) h3
  have g3:decide (i0<to)=false:=decide_eq_false (by omega)
  simp only [stV,bcV]
  refine ecR X6_ok (kp56) Tryz.func56 [.cell 10 69] (h:=fun KF=>?_)
  unfold X6
  with_reducible repeat' first|(refine nx ?_;intros)|apply And.intro|intro vr|(refine ny ?_;intros;simp only [go_sem,kp56,geff])
  all_goals try exact nd
  refine t_loopF (ι:=Unit) (fun _=>[(11,.lit (.int .i64 i0))]) (fun _=>mob pre s0.regs s0.arena (ex++[.box 26 [.lit (.int .i64 B.regs),.lit (.int .i64 B.arena),.sl false 6 (opsV B.ops),.sl false 2 (plsV B.ins),.sl false 2 (plsV B.outs),.sl false 3 (arrs B.types)],.box 69 [.arr pre.length 0,.arr (pre.length+1) 0,.lit (.int .i64 s0.reads),.lit (.int .i64 s0.writes),.lit (.int .i64 s0.ops),.lit (.int .i64 s0.peak),.sl false 1 (ints .i64 s0.viol),.lit (.int .i64 s0.left),.lit (.bool s0.failed),.sl false 1 (bfsV S),.lit (.bool s0.out),.lit (.int .i64 s0.at_)],.box 69 [.sl true 1 [],.sl true 1 [],.lit (.int .i64 0),.lit (.int .i64 0),.lit (.int .i64 0),.lit (.int .i64 0),.sl true 1 [],.lit (.int .i64 0),.lit (.bool false),.sl true 1 [],.lit (.bool false),.lit (.int .i64 0)]])) (fun _=>0) () ?_ ?_
  ·exact lf
  rintro ⟨⟩ K0
  with_reducible repeat' first|(refine nx ?_;intros)|apply And.intro|intro vr|(refine ny ?_;intros;simp only [go_sem,kp56,geff,g3,yes])
  all_goals try exact nd
  all_goals (refine nl ?_;simp only [go_sem,finK])
  refine ⟨_,?_,?_,mob_bds hbd,hend⟩
  ·exact LeR.refl _
  ·exact stV_bd (by omega)
theorem exec_all {B:Prg} {mt:List Int} {S:List (List Rng)} {n m:Nat} {cb:Int} (hK:Wk B mt n) (hS:Sn B S) (hcb:cb≤1000000) (hm:m≤1048576):∀ N,BlkX B mt S n m cb N
  |0=>exec_base hcb
  |N+1=>exec_step hK hS hcb hm (exec_all hK hS hcb hm N)
end Go.Proofs.YtnlimcijgpaegaaGreat.Mx

namespace Go.Fw
open Go
variable {P:Program}
structure CallU (P:Program) (f:FuncId) (args:List AV) (σ:List AObj) (k:AV→List AObj→Prop):Prop where
  fk:fok P f=true
  ec:EC P f args σ k
def envU (P:Program) (jk:TypeId→AV) (zer:TypeId→AV) (wr eg:Nat→Bool) (ps:List (PCon P)):Env:=⟨zer,wr,eg,jk,pcL ps,fun f args σ k=>CallU P f args σ k,fun _ _=>False⟩
theorem envUOk {jk:TypeId→AV} {zer:TypeId→AV} {wr eg:Nat→Bool} {ps:List (PCon P)} (hz:∀ t v,zeroT P t=some v→RC (fun _ _=>none) (zer t) v):EnvOk P (envU P jk zer wr eg ps) where
  zero:=hz
  pc:=(envJOk (jk:=jk) (wr:=wr) (eg:=eg) (ps:=ps) (es:=[]) hz).pc
  ec:=fun f args σ k h=>⟨h.fk,h.ec.xec⟩
section
variable {jk zer:TypeId→AV} {wr eg:Nat→Bool} {ps:List (PCon P)}
theorem envu_zero {t:TypeId}:(envU P jk zer wr eg ps).zero t=zer t:=rfl
theorem envu_wr {t:Nat}:(envU P jk zer wr eg ps).wr t=wr t:=rfl
theorem envu_eg {t:Nat}:(envU P jk zer wr eg ps).eg t=eg t:=rfl
theorem envu_jk {t:TypeId}:(envU P jk zer wr eg ps).jk t=jk t:=rfl
theorem envu_pc {f:FuncId} {args:List AV}:(envU P jk zer wr eg ps).pc f args=pcL ps f args:=rfl
theorem envu_ec {f:FuncId} {args:List AV} {σ:List AObj} {k:AV→List AObj→Prop}:(envU P jk zer wr eg ps).ec f args σ k=CallU P f args σ k:=rfl
end
attribute [go_sem] envu_zero envu_wr envu_eg envu_jk envu_pc envu_ec
end Go.Fw

namespace Go.Fw
open Go
variable {P:Program} {E:Env} {keep:Nat→List Nat} {n0:Nat}
def picksD (dep:List (Nat×Nat)) (g:List (Nat×Oper)):List ((Nat×Oper)×List (Nat×Oper)):=(picks g).filter fun p=>dep.all fun e=> !(e.2==p.1.1&&g.any fun q=>q.1==e.1)
theorem picksD_mem {dep:List (Nat×Nat)} {g:List (Nat×Oper)} {p:(Nat×Oper)×List (Nat×Oper)} (h:p∈picksD dep g):p∈picks g:=(List.mem_filter.1 h).1
def perm4D (P:Program) (E:Env) (D:Nat→Bool) (ds:List (Option Tmp)) (dep:List (Nat×Nat)):Nat→List (Nat×Oper)→(AS→Prop)→AS→Prop
  |0,_,K,s=>K s
  |n+1,g,K,s=>∀ p∈picksD dep g,astep P E ds p.1.2 s fun x σ'=>Kp D s.σ σ'∧perm4D P E D ds dep n p.2 K ⟨putF s.f p.1.2.dst x,σ'⟩
def permBD (md:Region.Mode) (ops:Array Oper) (ord2:List (Nat×Nat)) (dep:List (Nat×Nat)):Nat→List (Nat×Oper)→Array Bool→Bool
  |0,_,listed=>ordB md ops ord2 listed
  |n+1,g,listed=>((Region.ready md ops listed).all fun j=>(picksD dep g).any fun p=>p.1.1==j)&& !(Region.ready md ops listed).isEmpty&&(picksD dep g).all fun p=>permBD md ops ord2 dep n p.2 (listed.setIfInBounds p.1.1 true)
theorem sAny_permD {D:Nat→Bool} {md:Region.Mode} {ops:Array Oper} {Q:AS→Prop} {dep:List (Nat×Nat)} {ord2:List (Nat×Nat)} {l2:List (Oper×Nat)} (hl2:pickO ops ord2=some l2):∀ (n:Nat) (g:List (Nat×Oper)) (listed:Array Bool) (s:AS),
    (∀ p∈g,ops[p.1]? =some p.2)→permBD md ops ord2 dep n g listed=true→perm4D P E D (dsOf ops) dep n g (fun s=>lops P E D (dsOf ops) l2 s Q) s→sAny P E D md ops Q (ord2.length+n) listed s
  |0,g,listed,s,_,hB,h=>sAny_ord ord2 l2 listed s hB hl2 h
  |n+1,g,listed,s,hg,hB,h=>by
   simp only [permBD,Bool.and_eq_true,Bool.not_eq_true',List.all_eq_true,List.any_eq_true,beq_iff_eq] at hB
   obtain ⟨⟨hr,hne⟩,hB⟩:=hB
   show (Region.ready md ops listed=[]→Q s)∧∀ i∈Region.ready md ops listed,sOp P E D ops i (sAny P E D md ops Q (ord2.length+n) (listed.setIfInBounds i true)) s
   refine ⟨fun e=>(by rw [e] at hne;cases hne),fun i hi=>?_⟩
   obtain ⟨⟨⟨j,o⟩,r⟩,hp,rfl⟩:=hr i hi
   have hpick:=picksD_mem hp
   have ho:=hg _ (picks_mem hpick).1
   unfold sOp
   simp only at ho ⊢
   rw [ho]
   refine ⟨_,h _ hp,fun x σ' hk=>⟨hk.1,sAny_permD hl2 n r _ _ (fun q hq=>hg q ((picks_mem hpick).2 q hq)) (hB _ hp) hk.2⟩⟩
def gBD (ops:Array Oper) (ord1:List (Nat×Nat)) (g:List Nat) (dep:List (Nat×Nat)) (ord2:List (Nat×Nat)):Bool:=match pickG ops g with
  |some gl=>(ord2.length+g.length+ord1.length==ops.size)&&ordA .any ops ord1 (fun listed=>permBD .any ops ord2 dep g.length gl listed) (Array.replicate ops.size false)
  |none=>false
def lopsPD (P:Program) (E:Env) (D:Nat→Bool) (ds:List (Option Tmp)) (dep:List (Nat×Nat)) (l1:Option (List (Oper×Nat))) (n:Nat) (g:Option (List (Nat×Oper))) (l2:Option (List (Oper×Nat))) (s:AS) (K:AS→Prop):Prop:=match l1,g,l2 with
  |some l1,some g,some l2=>lops P E D ds l1 s fun s=>perm4D P E D ds dep n g (fun s=>lops P E D ds l2 s K) s
  |_,_,_=>False
theorem lpD_some {D:Nat→Bool} {ds:List (Option Tmp)} {dep:List (Nat×Nat)} {l1 l2:List (Oper×Nat)} {n:Nat} {g:List (Nat×Oper)} {s:AS} {K:AS→Prop}:
    lopsPD P E D ds dep (some l1) n (some g) (some l2) s K=lops P E D ds l1 s fun s=>perm4D P E D ds dep n g (fun s=>lops P E D ds l2 s K) s:=rfl
theorem t_drawPD {id:Nat} {ops:List Oper} {Q:Exit→AS→Prop} {s:AS} (S:AS) (D:Nat→Bool) (ord1:List (Nat×Nat)) (g:List Nat) (dep:List (Nat×Nat)) (ord2:List (Nat×Nat)) (hB:gBD ops.toArray ord1 g dep ord2=true) (hS:Q .normal S)
    (h:∀ K:KT (fun s'=>Le n0 s' S),lopsPD P E D (dsOf ops.toArray) dep (pickO ops.toArray ord1) g.length (pickG ops.toArray g) (pickO ops.toArray ord2) s (keepK K.k (keep id))):awp P E keep n0 (.region id ops.toArray true) Q s:=by
  have:=h ⟨fun s'=>∃ s'',Le n0 s' s''∧Q .normal s'',fun s' h=>⟨S,h,hS⟩⟩
  unfold keepK lopsPD at this
  unfold gBD at hB
  split at this
  ·rename_i l1 gl l2 h1 hg h2
   rw [hg] at hB
   simp only [Bool.and_eq_true,beq_iff_eq] at hB
   have hx:=sAny_ordA (D:=D) (E:=E) (P:=P) (md:= .any) (n:=ord2.length+g.length) (R:=fun s=>perm4D P E D (dsOf ops.toArray) dep g.length gl (fun s=>lops P E D (dsOf ops.toArray) l2 s _) s)
     (fun listed s hk hR=>sAny_permD h2 g.length gl listed s (pickG_spec hg) hk hR) ord1 l1 _ s hB.2 h1 this
   rw [hB.1] at hx
   exact .inr ⟨D,hx⟩
  ·exact this.elim
def kPD (P:Program) (E:Env) (D:Nat→Bool) (ds:List (Option Tmp)) (dep:List (Nat×Nat)) (n:Nat) (g:List (Nat×Oper)) (K:AS→Prop) (d:Option Tmp) (f:Nat→AV) (σ:List AObj):AV→List AObj→Prop:=fun x σ'=>Kp D σ σ'∧perm4D P E D ds dep n g K ⟨putF f d x,σ'⟩
theorem t_kPD {D:Nat→Bool} {ds:List (Option Tmp)} {dep:List (Nat×Nat)} {n:Nat} {g:List (Nat×Oper)} {K:AS→Prop} {d:Option Tmp} {f:Nat→AV} {x:AV} {σ σ':List AObj} (h:perm4D P E D ds dep n g K ⟨putF f d x,σ'⟩) (hk:Kp D σ σ'):kPD P E D ds dep n g K d f σ x σ':=⟨hk,h⟩
def all4D (P:Program) (E:Env) (D:Nat→Bool) (ds:List (Option Tmp)) (dep:List (Nat×Nat)) (n:Nat) (f:Nat→AV) (σ:List AObj) (K:AS→Prop):List ((Nat×Oper)×List (Nat×Oper))→Prop
  |[]=>True
  |((_,⟨d,op,ty,pos,af,none⟩),r)::l=>avop P E (aev f) σ ⟨d,op,ty,pos,af,none⟩ (kPD P E D ds dep n r K d f σ)∧all4D P E D ds dep n f σ K l
  |_=>False
theorem p4D_all {D:Nat→Bool} {ds:List (Option Tmp)} {dep:List (Nat×Nat)} {n:Nat} {f:Nat→AV} {σ:List AObj} {K:AS→Prop}:∀ {l:List ((Nat×Oper)×List (Nat×Oper))},all4D P E D ds dep n f σ K l→∀ p∈l,astep P E ds p.1.2 ⟨f,σ⟩ fun x σ'=>Kp D σ σ'∧perm4D P E D ds dep n p.2 K ⟨putF f p.1.2.dst x,σ'⟩
  |[],_,p,hp=>by cases hp
  |((i,⟨d,op,ty,pos,af,none⟩),r)::l,h,p,hp=>by
   simp only [all4D] at h
   rcases List.mem_cons.1 hp with rfl|hp
   ·exact h.1
   ·exact p4D_all h.2 p hp
  |((i,⟨d,op,ty,pos,af,some g⟩),r)::l,h,p,hp=>by exact h.elim
section
variable {D:Nat→Bool} {ds:List (Option Tmp)} {dep:List (Nat×Nat)} {K:AS→Prop} {f:Nat→AV} {σ σ':List AObj} {n:Nat} {x:AV} {d:Option Tmp}
theorem a4D_nil:all4D P E D ds dep n f σ K []=True:=rfl
theorem a4D_cons {i:Nat} {op:Op} {ty:TypeId} {pos:String} {af:Array Edge} {r:List (Nat×Oper)} {l:List ((Nat×Oper)×List (Nat×Oper))}:
    all4D P E D ds dep n f σ K (((i,⟨d,op,ty,pos,af,none⟩),r)::l)=(avop P E (aev f) σ ⟨d,op,ty,pos,af,none⟩ (kPD P E D ds dep n r K d f σ)∧all4D P E D ds dep n f σ K l):=rfl
instance {s:AS} {g:List (Nat×Oper)}:Ny (perm4D P E D ds dep 0 g K s) (K s):=⟨fun h=>h⟩
instance {g:List (Nat×Oper)}:Ny (perm4D P E D ds dep (n+1) g K ⟨f,σ⟩) (all4D P E D ds dep n f σ K (picksD dep g)):=⟨p4D_all⟩
end
attribute [go_sem] a4D_nil a4D_cons lpD_some
end Go.Fw

namespace Go.Fw
open Go
theorem le_frzB {n0:Nat} {f:Nat→AV} {σ:List AObj} (o b off:Nat) {e sz ver:Nat} {xs:List AV} {t:TypeId} {cs:List AV} (ho:σ[o]? =some (.arr e sz xs ver false)) (hb:σ[b]? =some (.box t cs)) (hoff:off<cs.length) (hc:cs.getD off .top= .arr o ver):
    Le n0 ⟨f,σ⟩ ⟨f,(σ.set o (.arr e sz xs ver true)).set b (.box t (cs.set off (.sl false sz xs)))⟩:=by
  intro cx G w N a _ hr hf
  obtain ⟨G',h1,h2⟩:=Rel.freezeO hr o
  have e1:Fw.freezeO σ o=σ.set o (.arr e sz xs ver true):=by unfold Fw.freezeO;rw [ho]
  rw [e1] at h2
  have hne:o≠b:=fun q=>by subst q;rw [ho] at hb;cases hb
  have hb':(σ.set o (.arr e sz xs ver true))[b]? =some (.box t cs):=by rw [List.getElem?_set_ne hne];exact hb
  refine ⟨G',h2.rebox hb' (by simp) (fun i v hi hv=>?_),hf.size,hf.defers,fun j=>(hf.rel j).mono h1⟩
  by_cases q:off=i
  ·subst q
   rw [hc] at hv
   have hcl:Fw.arrOf false (σ.set o (.arr e sz xs ver true)) o ver=some (.sl false sz xs):=by unfold Fw.arrOf;rw [get_set ho];simp
   have:=arrOf_sound (live:=false) h2 hv hcl
   rw [getD_elem _ _ (by simpa using hoff),List.getElem_set_self]
   exact .clo _ _ (by simpa using this)
  ·rw [getD_elem _ _ (by simpa using hi),List.getElem_set_ne q,←getD_elem _ .top hi]
   exact hv
end Go.Fw

namespace Go.Fw
open Go
end Go.Fw

namespace Go.Fw
open Go
variable {P:Program} {σ:List AObj}
theorem ec_finN (m:Nat) {f:FuncId} {args:List AV} {k:AV→List AObj→Prop} (h:BdS σ.length σ→EC P f args σ fun x σ'=>σ.length+m≤σ'.length∧finK (σ.length+m) x σ' k):EC P f args σ k:=by
  intro cx G w vs hr hl
  refine (h hr.bds cx G w vs hr hl).mono ?_
  rintro e w' ⟨v,G',σ',x,rfl,hle,hr',hx,hlen,r,hLe,hbx,hbd,hk⟩
  have h0:cx.G0.n≤σ.length:=by rw [←hr.n];exact hr.le0.n
  have hn:σ.length+m≤G'.n:=by rw [hr'.n];exact hlen
  exact ⟨v,{G' with n:=σ.length+m},_,r,rfl,⟨hle.C,by rw [hr.n];exact Nat.le_add_right _ _,hle.ver,hle.b,hle.p⟩,hr'.trunc hlen (by omega) hbd,hbx G' v hn (hLe _ _ hx),hk⟩
end Go.Fw

namespace Go.Fw
open Go
variable {P:Program} {n0:Nat}
def pm (n:Nat) (R:List Nat) (o:Nat):Nat:=if o<n then o else n+R.getD (o - n) (o - n)
def permOk (R Q:List Nat) (n:Nat):Bool:=decide (R.length=n)&&decide (Q.length=n)&&(List.range n).all fun k=>decide (R.getD k k<n)&&decide (Q.getD (R.getD k k) (R.getD k k)=k)&&decide (Q.getD k k<n)&&decide (R.getD (Q.getD k k) (Q.getD k k)=k)
theorem le_perm {τ l:List AObj} {f:Nat→AV} {S:AS} (R Q:List Nat) (hn:n0≤τ.length) (hτ:BdS τ.length τ) (hq:permOk R Q l.length=true) (hl:l.all flatO=true) (hf:∀ j,flat1 (f j)=true)
    (hs:Le n0 ⟨renF (pm τ.length R) f,τ++Q.map fun i=>renO (pm τ.length R) (l.getD i .gone)⟩ S):Le n0 ⟨f,τ++l⟩ S:=by
  simp only [permOk,Bool.and_eq_true,decide_eq_true_eq,List.all_eq_true,List.mem_range] at hq
  obtain ⟨⟨q1,q2⟩,q3⟩:=hq
  have hp:∀ (R:List Nat) (k:Nat),pm τ.length R (τ.length+k)=τ.length+R.getD k k:=fun R k=>by unfold pm;rw [if_neg (by omega),Nat.add_sub_cancel_left]
  refine Le.trans (le_ren (l:=l) (l':=Q.map fun i=>renO (pm τ.length R) (l.getD i .gone)) (pm τ.length R) (pm τ.length Q) hn hτ (by rw [List.length_map,q2]) ?_ ?_ ?_ ?_ fun j=>⟨hf j,rfl⟩) hs
  ·intro o ho;unfold pm;rw [if_pos ho,if_pos ho];exact ⟨rfl,rfl⟩
  ·intro k hk
   obtain ⟨⟨⟨a,b⟩,c⟩,d⟩:=q3 k hk
   rw [hp,hp,b];exact ⟨by omega,by omega,rfl⟩
  ·intro k hk
   obtain ⟨⟨⟨a,b⟩,c⟩,d⟩:=q3 k hk
   rw [hp,hp,d];exact ⟨by omega,by omega,rfl⟩
  ·intro k hk
   obtain ⟨⟨⟨a,b⟩,c⟩,d⟩:=q3 k hk
   refine ⟨?_,?_⟩
   ·have e:l.getD k .gone=l[k]:=by simp [List.getD,hk]
    rw [e];exact List.all_eq_true.1 hl _ (List.getElem_mem hk)
   ·rw [hp,Nat.add_sub_cancel_left]
    have h2:R.getD k k<Q.length:=by omega
    have e:Q[R.getD k k]? =some k:=by
      rw [List.getElem?_eq_getElem h2]
      generalize R.getD k k=j at h2 b
      have:Q.getD j j=Q[j]:=by simp [List.getD,h2]
      simp only [←this,b]
    rw [List.getElem?_map,e];rfl
end Go.Fw

namespace Go.Proofs.YtnlimcijgpaegaaGreat.Mx
open Go.Proofs.YtnlimcijgpaegaaGreat
open Go Go.Fw Bm
set_option maxRecDepth 20000
abbrev oZs0_0:List (Nat×Nat):=[(0,1),(1,1),(2,1),(3,1),(4,1),(5,1),(6,1),(7,1),(8,1),(9,1),(10,0),(11,0),(12,0)]
attribute [go_sem] oZs0_0
noncomputable def X7:Env:=envJ (P:=Tryz.prog) jkR zer (fun _=>false) (fun _=>false) [El.con136] []
theorem X7_ok:EnvOk Tryz.prog X7:=envJOk zer_ok
attribute [go_sem] El.con136_f El.con136_c
theorem leR_agg {xs ys:List AV} (hl:ys.length=xs.length) (h:∀ i,i<xs.length→LeR (xs.getD i .top) (ys.getD i .top)):LeR (.agg xs) (.agg ys):=fun G v hv=>by
  obtain ⟨vs,rfl,h1,h2,h3⟩:=hv.agg_inv
  exact .agg ys vs (by omega) (fun i hi=>h2 i (by omega)) (fun i hi=>h i (by omega) G _ (h3 i (by omega)))
theorem le_st {L:Int} {R A:List Int}:LeR (.agg [.arr 6 0,.arr 7 0,.lit (.int .i64 0),.lit (.int .i64 0),.lit (.int .i64 0),.lit (.int .i64 0),.sl true 1 [],.lit (.int .i64 L),.lit (.bool false),.sl true 1 [],.lit (.bool false),.lit (.int .i64 0)]) (stV 6 ⟨R,A,0,0,0,0,[],L,false,0,false⟩ []):=by
  refine leR_agg rfl fun i hi=>?_
  simp only [List.length_cons,List.length_nil] at hi
  have:i=0∨i=1∨i=2∨i=3∨i=4∨i=5∨i=6∨i=7∨i=8∨i=9∨i=10∨i=11:=by omega
  rcases this with rfl|rfl|rfl|rfl|rfl|rfl|rfl|rfl|rfl|rfl|rfl|rfl
  all_goals first|exact LeR.refl _|exact LeR.full _ _ _
theorem bds_x {x1 x2 x3 x4 x5 x6:AObj} {e1 e2 z1 z2:Nat} {l1 l2:List AV} (h:BdS 6 [x1,x2,x3,x4,x5,x6]):BdS 8 [x1,x2,x3,x4,x5,x6,.arr e1 z1 l1 0 false,.arr e2 z2 l2 0 false]:=BdS.app (σ:=[x1,x2,x3,x4,x5,x6]) (l:=[.arr e1 z1 l1 0 false,.arr e2 z2 l2 0 false]) h (by omega) rfl
theorem rep_ints {n:Nat}:List.replicate n (.lit (.int .i64 0))=ints .i64 (List.replicate n 0):=by simp [ints]
set_option maxHeartbeats 4000000 in
theorem start_ec {a b c d:List AV} {rg ar0:Int} {fill:List Int} {L:Int} {x1 x2 x3 x4 x5 x6:AObj} {k:AV→List AObj→Prop} (h0:0≤rg∧rg≤200) (h1:0≤ar0∧ar0≤1048576) (hl:fill.length≤1000000)
    (hk:∀ ar:List Int,(ar.length:Int)=ar0→(∀ n∈ar,vld sInt n=true)→(fill=[]→ar=List.replicate ar0.toNat 0)→k (stV 6 ⟨List.replicate rg.toNat 0,ar,0,0,0,0,[],L,false,0,false⟩ []) [x1,x2,x3,x4,x5,x6,.arr 3 1 (ints .i64 (List.replicate rg.toNat 0)) 0 false,.arr 3 1 (ints .i64 ar) 0 false]):
    EC Tryz.prog 95 [.agg [.lit (.int .i64 rg),.lit (.int .i64 ar0),.sl false 6 a,.sl false 2 b,.sl false 2 c,.sl false 3 d],.sl false 1 (ints .i64 fill),.lit (.int .i64 L)] [x1,x2,x3,x4,x5,x6] k:=by
  refine ec_finN 2 fun hbd=>?_
  refine ecR X7_ok (kp95) Tryz.func95 [.cell 6 69] (h:=fun KF=>?_)
  unfold X7
  repeat' first|(with_reducible first|(refine nx ?_;intros)|apply And.intro|intro vr)|exact kpd|((with_reducible first|refine ny ?_|refine t_kLF ?_ ?_|refine t_dO 5 (fun i=>i==10) oZs0_0 fun K=>?_);intros;simp only [go_sem,kp95,geff,List.cons_append,List.nil_append,yes])
  all_goals try exact nd
  refine t_drawPD ⟨upd (upd (upd topF 7 (.ref 10 0)) 6 (.ref 9 0)) 1 (.sl false 1 (ints .i64 fill)),
    [x1,x2,x3,x4,x5,x6,.arr 3 1 (ints .i64 (List.replicate rg.toNat 0)) 0 false,.arr 3 1 (ints .i64 (List.replicate ar0.toNat 0)) 0 false,.box 26 [.lit (.int .i64 rg),.lit (.int .i64 ar0),.sl false 6 a,.sl false 2 b,.sl false 2 c,.sl false 3 d],.box 69 [.sl true 1 [],.sl true 1 [],.lit (.int .i64 0),.lit (.int .i64 0),.lit (.int .i64 0),.lit (.int .i64 0),.sl true 1 [],.lit (.int .i64 0),.lit (.bool false),.sl true 1 [],.lit (.bool false),.lit (.int .i64 0)],.box 69 [.arr 6 0,.arr 7 0,.lit (.int .i64 0),.lit (.int .i64 0),.lit (.int .i64 0),.lit (.int .i64 0),.sl true 1 [],.lit (.int .i64 L),.lit (.bool false),.sl true 1 [],.lit (.bool false),.lit (.int .i64 0)]]⟩
    (fun i=>i==6) [(0,1),(1,1),(3,1),(4,1),(6,1)] [2,5,8,7] [(2,7),(5,7)] [(9,0)] (by kernel_rfl) ?_ ?_
  rotate_left
  ·skip
   intro K
   simp only [pickO,pickG,List.getElem?_toArray,List.getElem?_cons_zero,List.getElem?_cons_succ,List.length_cons,List.length_nil,Nat.reduceAdd,lp_some]
   simp only [go_sem,pickO,pickG,geff,kp95,picksD,List.filter_cons,List.filter_nil,List.all_cons,List.all_nil,List.any_cons,List.any_nil,Nat.reduceBEq,List.map_cons,List.map_nil,List.cons_append,List.nil_append,Nat.zero_add,beq_self_eq_true,rep_ints]
   repeat' first|(with_reducible first|(refine nx ?_;intros)|apply And.intro|intro vr)|exact kpd|((with_reducible first|refine ny ?_|refine t_kLF ?_ ?_|refine t_kPD ?_ ?_|refine t_dO 5 (fun i=>i==10) oZs0_0 fun K=>?_);intros;simp only [go_sem,kp95,geff,picksD,List.filter_cons,List.filter_nil,List.all_cons,List.all_nil,List.any_cons,List.any_nil,Nat.reduceBEq,List.map_cons,List.map_nil,List.cons_append,List.nil_append,Nat.zero_add,beq_self_eq_true,rep_ints])
   all_goals try omega
   all_goals try exact nd
   all_goals first
     |(refine le_perm (τ:=[x1,x2,x3,x4,x5,x6]) (l:=[_,_,_,_,_]) [2,3,0,1,4] [2,3,0,1,4] (Nat.le_refl _) hbd rfl rfl ?_ ?_
       ·repeat' (first|exact flatF_top|(refine flatF_upd rfl ?_))
       simp only [renF_upd,renF_top,ren1,renA,renO,pm,List.map_cons,List.map_nil,List.length_cons,List.length_nil,Nat.reduceAdd,Nat.reduceSub,Nat.reduceLT,Nat.reduceEqDiff,reduceIte,List.cons_append,List.nil_append,List.getD_cons_succ,List.getD_cons_zero]
       exact lg)
     |(refine le_perm (τ:=[x1,x2,x3,x4,x5,x6]) (l:=[_,_,_,_,_]) [2,3,0,4,1] [2,4,0,1,3] (Nat.le_refl _) hbd rfl rfl ?_ ?_
       ·repeat' (first|exact flatF_top|(refine flatF_upd rfl ?_))
       simp only [renF_upd,renF_top,ren1,renA,renO,pm,List.map_cons,List.map_nil,List.length_cons,List.length_nil,Nat.reduceAdd,Nat.reduceSub,Nat.reduceLT,Nat.reduceEqDiff,reduceIte,List.cons_append,List.nil_append,List.getD_cons_succ,List.getD_cons_zero]
       exact lg)
     |(refine le_perm (τ:=[x1,x2,x3,x4,x5,x6]) (l:=[_,_,_,_,_]) [2,3,1,0,4] [3,2,0,1,4] (Nat.le_refl _) hbd rfl rfl ?_ ?_
       ·repeat' (first|exact flatF_top|(refine flatF_upd rfl ?_))
       simp only [renF_upd,renF_top,ren1,renA,renO,pm,List.map_cons,List.map_nil,List.length_cons,List.length_nil,Nat.reduceAdd,Nat.reduceSub,Nat.reduceLT,Nat.reduceEqDiff,reduceIte,List.cons_append,List.nil_append,List.getD_cons_succ,List.getD_cons_zero]
       exact lg)
     |(refine le_perm (τ:=[x1,x2,x3,x4,x5,x6]) (l:=[_,_,_,_,_]) [2,3,1,4,0] [4,2,0,1,3] (Nat.le_refl _) hbd rfl rfl ?_ ?_
       ·repeat' (first|exact flatF_top|(refine flatF_upd rfl ?_))
       simp only [renF_upd,renF_top,ren1,renA,renO,pm,List.map_cons,List.map_nil,List.length_cons,List.length_nil,Nat.reduceAdd,Nat.reduceSub,Nat.reduceLT,Nat.reduceEqDiff,reduceIte,List.cons_append,List.nil_append,List.getD_cons_succ,List.getD_cons_zero]
       exact lg)
     |(refine le_perm (τ:=[x1,x2,x3,x4,x5,x6]) (l:=[_,_,_,_,_]) [2,3,4,0,1] [3,4,0,1,2] (Nat.le_refl _) hbd rfl rfl ?_ ?_
       ·repeat' (first|exact flatF_top|(refine flatF_upd rfl ?_))
       simp only [renF_upd,renF_top,ren1,renA,renO,pm,List.map_cons,List.map_nil,List.length_cons,List.length_nil,Nat.reduceAdd,Nat.reduceSub,Nat.reduceLT,Nat.reduceEqDiff,reduceIte,List.cons_append,List.nil_append,List.getD_cons_succ,List.getD_cons_zero]
       exact lg)
     |(refine le_perm (τ:=[x1,x2,x3,x4,x5,x6]) (l:=[_,_,_,_,_]) [2,3,4,1,0] [4,3,0,1,2] (Nat.le_refl _) hbd rfl rfl ?_ ?_
       ·repeat' (first|exact flatF_top|(refine flatF_upd rfl ?_))
       simp only [renF_upd,renF_top,ren1,renA,renO,pm,List.map_cons,List.map_nil,List.length_cons,List.length_nil,Nat.reduceAdd,Nat.reduceSub,Nat.reduceLT,Nat.reduceEqDiff,reduceIte,List.cons_append,List.nil_append,List.getD_cons_succ,List.getD_cons_zero]
       exact lg)
  have hzr:∀ n∈List.replicate ar0.toNat (0:Int),vld sInt n=true:=fun n hn=>by rw [List.eq_of_mem_replicate hn];rfl
  repeat' first|(with_reducible first|(refine nx ?_;intros)|apply And.intro|intro vr)|exact kpd|((with_reducible first|refine ny ?_|refine t_kLF ?_ ?_|refine t_dO 5 (fun i=>i==10) oZs0_0 fun K=>?_);intros;simp only [go_sem,kp95,geff])
  all_goals try exact nd
  refine t_loopF (ι:={p:Nat×List Int // p.1≤p.2.length∧p.2.length=ar0.toNat∧(∀ n∈p.2,vld sInt n=true)∧(fill=[]→p.2=List.replicate ar0.toNat 0)}) (fun q=>[(8,.lit (.int .i64 q.1.1))]) (fun q=>[x1,x2,x3,x4,x5,x6,.arr 3 1 (ints .i64 (List.replicate rg.toNat 0)) 0 false,.arr 3 1 (ints .i64 q.1.2) 0 false,.box 26 [.lit (.int .i64 rg),.lit (.int .i64 ar0),.sl false 6 a,.sl false 2 b,.sl false 2 c,.sl false 3 d],.box 69 [.sl true 1 [],.sl true 1 [],.lit (.int .i64 0),.lit (.int .i64 0),.lit (.int .i64 0),.lit (.int .i64 0),.sl true 1 [],.lit (.int .i64 0),.lit (.bool false),.sl true 1 [],.lit (.bool false),.lit (.int .i64 0)],.box 69 [.arr 6 0,.arr 7 0,.lit (.int .i64 0),.lit (.int .i64 0),.lit (.int .i64 0),.lit (.int .i64 0),.sl true 1 [],.lit (.int .i64 L),.lit (.bool false),.sl true 1 [],.lit (.bool false),.lit (.int .i64 0)]]) (fun q=>ar0.toNat - q.1.1) ⟨(0,List.replicate ar0.toNat 0),Nat.zero_le _,by simp,hzr,fun _=>rfl⟩ ?_ ?_
  ·exact lf
  rintro ⟨⟨i,ar⟩,hi,hla,hw,hf⟩ K0
  simp only at hi hla hw hf
  have hend:=hk ar (by omega) hw hf
  have hil:(ints .i64 ar).length=ar.length:=ints_length _ _
  by_cases hcc:i<ar.length∧0<fill.length
  ·obtain ⟨hc,hc2⟩:=hcc
   have g3:decide ((i:Int)<(ar.length:Int))=true:=decide_eq_true (by omega)
   have g4:decide ((0:Int)<(fill.length:Int))=true:=decide_eq_true (by omega)
   have t0:=Int.tmod_nonneg (a:=(i:Int)) (fill.length:Int) (Int.natCast_nonneg i)
   have t1:=Int.tmod_lt_of_pos (i:Int) (show (0:Int)<fill.length by omega)
   have hst:∀ v:Int,(ints .i64 ar).set i (.lit (.int .i64 v))=ints .i64 (ar.set i v):=fun v=>by simp [ints,List.map_set]
   have hj:((i:Int).tmod (fill.length:Int)).toNat<fill.length:=by omega
   have hg:∀ z,(ints .i64 fill).getD ((i:Int).tmod (fill.length:Int)).toNat z= .lit (.int .i64 (fill.getD ((i:Int).tmod (fill.length:Int)).toNat 0)):=fun z=>by simp [ints,List.getD,hj]
   generalize hV:fill.getD ((i:Int).tmod (fill.length:Int)).toNat 0=V at hg
   have hvV:vld sInt (El.w32 V)=true:=by
     have:=w32_in V
     have e2:vld sInt (El.w32 V)=decide (-2147483648≤El.w32 V∧El.w32 V≤2147483647):=rfl
     rw [e2];exact decide_eq_true this
   repeat' first|(with_reducible first|(refine nx ?_;intros)|apply And.intro|intro vr)|exact kpd|((with_reducible first|refine ny ?_|refine t_kLF ?_ ?_|refine t_dO 5 (fun i=>i==10) oZs0_0 fun K=>?_);intros;simp only [go_sem,kp95,geff,g3,g4,hil,hst,hg,Int.toNat_natCast])
   all_goals try omega
   all_goals try exact nd
   refine ⟨⟨(i+1,ar.set i (El.w32 V)),by simp only [List.length_set];omega,by simp only [List.length_set];exact hla,fun n hn=>?_,fun q=>by subst q;simp at hc2⟩,by simp only;omega,?_⟩
   ·rcases List.mem_or_eq_of_mem_set hn with hn|rfl
    ·exact hw n hn
    ·exact hvV
   ·exact lf
  ·by_cases hc:i<ar.length
   ·have g3:decide ((i:Int)<(ar.length:Int))=true:=decide_eq_true (by omega)
    have g4:decide ((0:Int)<(fill.length:Int))=false:=decide_eq_false (by omega)
    repeat' first|(with_reducible first|(refine nx ?_;intros)|apply And.intro|intro vr)|exact kpd|((with_reducible first|refine ny ?_|refine t_kLF ?_ ?_|refine t_dO 5 (fun i=>i==10) oZs0_0 fun K=>?_);intros;simp only [go_sem,kp95,geff,g3,g4,hil])
    all_goals try exact nd
    all_goals (refine nl ?_;simp only [go_sem,finK])
    exact ⟨_,le_st,stV_bd (by omega),bds_x hbd,hend⟩
   ·have g3:decide ((i:Int)<(ar.length:Int))=false:=decide_eq_false (by omega)
    repeat' first|(with_reducible first|(refine nx ?_;intros)|apply And.intro|intro vr)|exact kpd|((with_reducible first|refine ny ?_|refine t_kLF ?_ ?_|refine t_dO 5 (fun i=>i==10) oZs0_0 fun K=>?_);intros;simp only [go_sem,kp95,geff,g3,hil])
    all_goals try exact nd
    all_goals (refine nl ?_;simp only [go_sem,finK])
    exact ⟨_,le_st,stV_bd (by omega),bds_x hbd,hend⟩
theorem start0_ec {a b c d:List AV} {rg ar0:Int} {L:Int} {x1 x2 x3 x4 x5 x6:AObj} {k:AV→List AObj→Prop} (h0:0≤rg∧rg≤200) (h1:0≤ar0∧ar0≤1048576)
    (hk:k (.agg [.arr 6 0,.arr 7 0,.lit (.int .i64 0),.lit (.int .i64 0),.lit (.int .i64 0),.lit (.int .i64 0),.sl false 1 [],.lit (.int .i64 L),.lit (.bool false),.sl false 1 [],.lit (.bool false),.lit (.int .i64 0)]) [x1,x2,x3,x4,x5,x6,.arr 3 1 (ints .i64 (List.replicate rg.toNat 0)) 0 false,.arr 3 1 (ints .i64 (List.replicate ar0.toNat 0)) 0 false]):
    EC Tryz.prog 95 [.agg [.lit (.int .i64 rg),.lit (.int .i64 ar0),.sl false 6 a,.sl false 2 b,.sl false 2 c,.sl false 3 d],.lit (.slice none 0 0),.lit (.int .i64 L)] [x1,x2,x3,x4,x5,x6] k:=
  EC.weak (start_ec h0 h1 (fill:=[]) (by simp) fun ar _ _ h=>by rw [h rfl];exact hk) (.cons (LeR.refl _) (.cons (LeR.nil _ _) (.cons (LeR.refl _) .nil)))
end Go.Proofs.YtnlimcijgpaegaaGreat.Mx

namespace Go.Proofs.YtnlimcijgpaegaaGreat.Mm
open Go.Proofs.YtnlimcijgpaegaaGreat
open Go Go.Fw Bm
set_option maxRecDepth 20000
theorem ag79:aggT Tryz.prog 79=some false:=by kernel_rfl
theorem sz79:szT Tryz.prog 79=1:=by kernel_rfl
theorem ag129:aggT Tryz.prog 129=some false:=by kernel_rfl
theorem sz129:szT Tryz.prog 129=1:=by kernel_rfl
theorem ag130:aggT Tryz.prog 130=some false:=by kernel_rfl
theorem sz130:szT Tryz.prog 130=1:=by kernel_rfl
theorem ag170:aggT Tryz.prog 170=some false:=by kernel_rfl
attribute [go_sem] ag79 sz79 ag129 sz129 ag130 sz130 ag170
structure MS where
  regs:List Int
  arena:List Int
  viol:List Int
  vv:Nat
  vb:Nat
  reads:Int
  writes:Int
  ops:Int
  peak:Int
  steps:Int
  at_:Int
  e:Int
def stO (B:Prg) (mt:List Int) (m:MS):AObj:= .box 62 [.lit (.int .i64 B.regs),.lit (.int .i64 B.arena),.sl false 6 (opsV B.ops),.sl false 2 (plsV B.ins),.sl false 2 (plsV B.outs),.sl false 3 (arrs B.types),.sl false 1 (ints .i64 mt),.arr 3 0,.arr 4 0,
  .lit (.int .i64 m.reads),.lit (.int .i64 m.writes),.lit (.int .i64 m.ops),.lit (.int .i64 m.peak),.arr 6 m.vb,.lit (.int .i64 m.steps),.lit (.int .i64 m.at_),.lit (.int .i64 m.e)]
def mobj (x y:AObj) (B:Prg) (mt:List Int) (m:MS) (ex:List AObj):List AObj:=
  x::y::bxB B:: .arr 3 1 (ints .i64 m.regs) 0 false:: .arr 3 1 (ints .i64 m.arena) 0 false::stO B mt m:: .arr 3 1 (ints .i64 m.viol) m.vv false::ex
def tabL:List AV:=[.lit .nilFunc,.fn (.func 148) [] [.ref 11 0,.ref 10 0],.fn (.func 117) [.ref 5 0] [],.fn (.func 148) [] [.ref 13 0,.ref 12 0],.fn (.func 148) [] [.ref 15 0,.ref 14 0],.fn (.func 120) [.ref 5 0] [],.fn (.func 121) [.ref 5 0] [],.fn (.func 122) [.ref 5 0] [],
  .fn (.func 123) [] [.ref 8 0],.fn (.func 124) [.ref 5 0] [],.lit .nilFunc,.lit .nilFunc,.lit .nilFunc,.lit .nilFunc,.fn (.func 148) [] [.ref 17 0,.ref 16 0],.fn (.func 127) [] [.ref 8 0]]
def blkF:AV:= .fn (.func 77) [] [.ref 7 0,.ref 20 0,.ref 19 0,.ref 18 0]
def lopF:AV:= .fn (.func 75) [] [.ref 7 0,.ref 19 0]
def clos:List AObj:=[.box 57 [.ref 5 0],.box 57 [.ref 5 0],.box 127 tabL,.box 57 [.ref 5 0],.box 170 [.fn (.func 116) [] []],.box 57 [.ref 5 0],.box 170 [.fn (.func 118) [] [.ref 8 0]],.box 57 [.ref 5 0],.box 170 [.fn (.func 119) [] [.ref 8 0]],
  .box 57 [.ref 5 0],.box 170 [.fn (.func 125) [] [.ref 8 0]],.box 127 tabL,.box 129 [blkF],.box 130 [lopF]]
def robj (x y:AObj) (B:Prg) (mt:List Int) (m:MS) (ex:List AObj):List AObj:=mobj x y B mt m (clos++ex)
section
variable {x y u v:AObj} {B:Prg} {mt:List Int} {m m':MS} {ex:List AObj}
theorem ro_len:(robj x y B mt m ex).length=ex.length+21:=rfl
theorem ro_3:(robj x y B mt m ex)[3]? =some (.arr 3 1 (ints .i64 m.regs) 0 false):=rfl
theorem ro_4:(robj x y B mt m ex)[4]? =some (.arr 3 1 (ints .i64 m.arena) 0 false):=rfl
theorem ro_5:(robj x y B mt m ex)[5]? =some (.box 62 [.lit (.int .i64 B.regs),.lit (.int .i64 B.arena),.sl false 6 (opsV B.ops),.sl false 2 (plsV B.ins),.sl false 2 (plsV B.outs),.sl false 3 (arrs B.types),.sl false 1 (ints .i64 mt),.arr 3 0,.arr 4 0,
  .lit (.int .i64 m.reads),.lit (.int .i64 m.writes),.lit (.int .i64 m.ops),.lit (.int .i64 m.peak),.arr 6 m.vb,.lit (.int .i64 m.steps),.lit (.int .i64 m.at_),.lit (.int .i64 m.e)]):=rfl
theorem ro_6:(robj x y B mt m ex)[6]? =some (.arr 3 1 (ints .i64 m.viol) m.vv false):=rfl
theorem ro_7:(robj x y B mt m ex)[7]? =some (.box 57 [.ref 5 0]):=rfl
theorem ro_8:(robj x y B mt m ex)[8]? =some (.box 57 [.ref 5 0]):=rfl
theorem ro_10:(robj x y B mt m ex)[10]? =some (.box 57 [.ref 5 0]):=rfl
theorem ro_11:(robj x y B mt m ex)[11]? =some (.box 170 [.fn (.func 116) [] []]):=rfl
theorem ro_12:(robj x y B mt m ex)[12]? =some (.box 57 [.ref 5 0]):=rfl
theorem ro_13:(robj x y B mt m ex)[13]? =some (.box 170 [.fn (.func 118) [] [.ref 8 0]]):=rfl
theorem ro_14:(robj x y B mt m ex)[14]? =some (.box 57 [.ref 5 0]):=rfl
theorem ro_15:(robj x y B mt m ex)[15]? =some (.box 170 [.fn (.func 119) [] [.ref 8 0]]):=rfl
theorem ro_16:(robj x y B mt m ex)[16]? =some (.box 57 [.ref 5 0]):=rfl
theorem ro_17:(robj x y B mt m ex)[17]? =some (.box 170 [.fn (.func 125) [] [.ref 8 0]]):=rfl
theorem ro_18:(robj x y B mt m ex)[18]? =some (.box 127 tabL):=rfl
theorem ro_19:(robj x y B mt m ex)[19]? =some (.box 129 [.fn (.func 77) [] [.ref 7 0,.ref 20 0,.ref 19 0,.ref 18 0]]):=rfl
theorem ro_20:(robj x y B mt m ex)[20]? =some (.box 130 [.fn (.func 75) [] [.ref 7 0,.ref 19 0]]):=rfl
theorem ro_x {n:Nat}:(robj x y B mt m ex)[n+21]? =ex[n]? :=rfl
theorem ro_app {l:List AObj}:robj x y B mt m ex++l=robj x y B mt m (ex++l):=rfl
theorem ro_s3 {l:List Int}:(robj x y B mt m ex).set 3 (.arr 3 1 (ints .i64 l) 0 false)=robj x y B mt {m with regs:=l} ex:=rfl
theorem ro_s4 {l:List Int}:(robj x y B mt m ex).set 4 (.arr 3 1 (ints .i64 l) 0 false)=robj x y B mt {m with arena:=l} ex:=rfl
theorem ro_s6 {l:List Int} {k:Nat}:(robj x y B mt m ex).set 6 (.arr 3 1 (ints .i64 l) k false)=robj x y B mt {m with viol:=l,vv:=k} ex:=rfl
theorem ro_s5 {c1 c2 c3 c4 c5 c6 c7:Int} {k:Nat}:(robj x y B mt m ex).set 5 (.box 62 [.lit (.int .i64 B.regs),.lit (.int .i64 B.arena),.sl false 6 (opsV B.ops),.sl false 2 (plsV B.ins),.sl false 2 (plsV B.outs),.sl false 3 (arrs B.types),.sl false 1 (ints .i64 mt),.arr 3 0,.arr 4 0,
  .lit (.int .i64 c1),.lit (.int .i64 c2),.lit (.int .i64 c3),.lit (.int .i64 c4),.arr 6 k,.lit (.int .i64 c5),.lit (.int .i64 c6),.lit (.int .i64 c7)])=robj x y B mt {m with reads:=c1,writes:=c2,ops:=c3,peak:=c4,vb:=k,steps:=c5,at_:=c6,e:=c7} ex:=rfl
theorem ro_sx {n:Nat}:(robj x y B mt m ex).set (n+21) u=robj x y B mt m (ex.set n u):=rfl
theorem ro_take {l:List AObj}:(robj x y B mt m (ex++l)).take (ex.length+21)=robj x y B mt m ex:=by
  have h:robj x y B mt m (ex++l)=robj x y B mt m ex++l:=rfl
  rw [h,←ro_len (x:=x) (y:=y) (B:=B) (mt:=mt) (m:=m),List.take_left'];rfl
theorem ro_take0:(robj x y B mt m ex).take (ex.length+21)=robj x y B mt m ex:=by
  rw [←ro_len (x:=x) (y:=y) (B:=B) (mt:=mt) (m:=m),List.take_length]
theorem tabL_len:tabL.length=16:=rfl
theorem stO_bd {n:Nat} (hn:7≤n):BdS n [stO B mt m]:=bds_low (by
  have h3:3<n:=by omega
  have h4:4<n:=by omega
  have h6:6<n:=by omega
  simp [stO,lowO,low_lit,low_sl,low_arr,h3,h4,h6])
theorem ro_bds {n:Nat} (hn:7≤n) (h:BdS n (robj x y B mt m ex)):BdS n (robj x y B mt m' ex):=fun o t cs ho=>by
  rcases o with _|_|_|_|_|_|_|o
  ·exact h 0 t cs ho
  ·exact h 1 t cs ho
  ·exact h 2 t cs ho
  ·cases ho
  ·cases ho
  ·exact stO_bd (m:=m') hn 0 t cs ho
  ·cases ho
  ·exact h (o+7) t cs ho
theorem kp_ro {D:Nat→Bool} {l l':List AObj} (h5:D 5=false) (h:∀ (o:Nat) (t:TypeId) (cs:List AV),D (o+21)=true→l[o]? =some (AObj.box t cs)→l'[o]? =some (AObj.box t cs)):Kp D (robj x y B mt m l) (robj x y B mt m' l'):=fun o t cs hD ho=>by
  rcases o with _|_|_|_|_|_|_|o
  ·exact ho
  ·exact ho
  ·exact ho
  ·cases ho
  ·cases ho
  ·rw [h5] at hD;cases hD
  ·cases ho
  ·rcases Nat.lt_or_ge o 14 with c|c
   ·have e1:(clos++l)[o]? =some (AObj.box t cs):=ho
    show (clos++l')[o]? =_
    rw [List.getElem?_append_left (by exact c)] at e1 ⊢
    exact e1
   ·obtain ⟨q,rfl⟩:∃ q,o=q+14:=⟨o - 14,by omega⟩
    exact h q t cs hD ho
theorem kp_fls {σ τ:List AObj}:Kp (fun _=>false) σ τ:=fun o t cs h=>by cases h
end
attribute [go_sem] ro_len ro_3 ro_4 ro_5 ro_6 ro_7 ro_8 ro_10 ro_11 ro_12 ro_13 ro_14 ro_15 ro_16 ro_17 ro_18 ro_19 ro_20 ro_x ro_app ro_s3 ro_s4 ro_s6 ro_s5 ro_sx ro_take ro_take0 tabL_len
def failM (m:MS) (i e:Int):MS:=if m.e=0 then {m with at_:=i,e:=e} else m
def stepM (m:MS):MS:=if m.steps+1>200000 then failM {m with steps:=m.steps+1} 0 3 else {m with steps:=m.steps+1}
section
variable {x y:AObj} {B:Prg} {mt:List Int} {m:MS} {ex:List AObj} {k:AV→List AObj→Prop}
noncomputable def M0:Env:=envJ (P:=Tryz.prog) jkR zer (fun _=>false) (fun _=>false) [] []
theorem M0_ok:EnvOk Tryz.prog M0:=envJOk zer_ok
set_option maxHeartbeats 4000000 in
theorem fail_ec {i e:Int} (hk:k (.tup []) (robj x y B mt (failM m i e) ex)):EC Tryz.prog 78 [.ref 5 0,.lit (.int .i64 i),.lit (.int .i64 e)] (robj x y B mt m ex) k:=by
  refine ec_fin fun hbd=>?_
  by_cases h:m.e=0
  ·have g1:decide (m.e=0)=true:=decide_eq_true h
   unfold failM at hk;rw [if_pos h] at hk
   refine ecR M0_ok (kp78) Tryz.func78 [] (h:=fun KF=>?_)
   unfold M0
   with_reducible repeat' first|(refine nx ?_;intros)|refine t_br (fun hc=>?_) fun hc=>?_|apply And.intro|intro vr|(refine ny ?_;intros;simp only [go_sem,kp78,geff,g1,yes])
   all_goals try exact nd
   all_goals (refine nl ?_;simp only [go_sem,finE])
   exact ⟨_,_,rfl,LeA.refl _,ro_bds (by omega) hbd,hk⟩
  ·have g1:decide (m.e=0)=false:=decide_eq_false h
   unfold failM at hk;rw [if_neg h] at hk
   refine ecR M0_ok (kp78) Tryz.func78 [] (h:=fun KF=>?_)
   unfold M0
   with_reducible repeat' first|(refine nx ?_;intros)|refine t_br (fun hc=>?_) fun hc=>?_|apply And.intro|intro vr|(refine ny ?_;intros;simp only [go_sem,kp78,geff,g1,yes])
   all_goals try exact nd
   all_goals (refine nl ?_;simp only [go_sem,finE])
   exact ⟨_,_,rfl,LeA.refl _,ro_bds (by omega) hbd,hk⟩
noncomputable def ecn78:ECon Tryz.prog where
  f:=78
  c:=fun args σ k=>∃ (x y:AObj) (B:Prg) (mt:List Int) (m:MS) (ex:List AObj) (i e:Int),args=[.ref 5 0,.lit (.int .i64 i),.lit (.int .i64 e)]∧σ=robj x y B mt m ex∧k (.tup []) (robj x y B mt (failM m i e) ex)
  ok:=by
   rintro _ _ k ⟨x,y,B,mt,m,ex,i,e,rfl,rfl,h⟩
   exact fail_ec h
  fk:=fk78
theorem ecn78_f:ecn78.f=78:=rfl
theorem ecn78_i {i e:Int} {σ:List AObj} (hσ:σ=robj x y B mt m ex) (h:k (.tup []) (robj x y B mt (failM m i e) ex)):ecn78.c [.ref 5 0,.lit (.int .i64 i),.lit (.int .i64 e)] σ k:=⟨x,y,B,mt,m,ex,i,e,rfl,hσ,h⟩
attribute [go_sem] ecn78_f
noncomputable def M1:Env:=envJ (P:=Tryz.prog) jkR zer (fun _=>false) (fun _=>false) [] [ecn78]
theorem M1_ok:EnvOk Tryz.prog M1:=envJOk zer_ok
set_option maxHeartbeats 4000000 in
theorem step_ec (hs:0≤m.steps∧m.steps≤1000000) (hk:k (.tup []) (robj x y B mt (stepM m) ex)):EC Tryz.prog 76 [.ref 5 0] (robj x y B mt m ex) k:=by
  refine ec_fin fun hbd=>?_
  by_cases h:m.steps+1>200000
  ·have g1:decide (m.steps+1>200000)=true:=decide_eq_true h
   unfold stepM at hk;rw [if_pos h] at hk
   refine ecR M1_ok (kp76) Tryz.func76 [] (h:=fun KF=>?_)
   unfold M1
   with_reducible repeat' first|(refine nx ?_;intros)|apply And.intro|intro vr|(refine ny ?_;intros;simp only [go_sem,kp76,geff,g1,yes])
   all_goals try exact nd
   refine ecn78_i rfl ?_
   with_reducible repeat' first|(refine nx ?_;intros)|apply And.intro|intro vr|(refine ny ?_;intros;simp only [go_sem,kp76,geff,yes])
   all_goals try exact nd
   all_goals (refine nl ?_;simp only [go_sem,finE])
   exact ⟨_,_,rfl,LeA.refl _,ro_bds (by omega) hbd,hk⟩
  ·have g1:decide (m.steps+1>200000)=false:=decide_eq_false h
   unfold stepM at hk;rw [if_neg h] at hk
   refine ecR M1_ok (kp76) Tryz.func76 [] (h:=fun KF=>?_)
   unfold M1
   with_reducible repeat' first|(refine nx ?_;intros)|apply And.intro|intro vr|(refine ny ?_;intros;simp only [go_sem,kp76,geff,g1,yes])
   all_goals try exact nd
   all_goals (refine nl ?_;simp only [go_sem,finE])
   exact ⟨_,_,rfl,LeA.refl _,ro_bds (by omega) hbd,hk⟩
set_option maxHeartbeats 4000000 in
theorem inside_ec {n:Int} (hl:m.arena.length≤1048576) (hk:k (.lit (.bool (decide (0≤n∧n<m.arena.length)))) (robj x y B mt m ex)):EC Tryz.prog 150 [.ref 5 0,.lit (.int .i64 n)] (robj x y B mt m ex) k:=by
  refine ec_fin fun hbd=>?_
  by_cases h:n≥0
  ·have g1:decide (n≥0)=true:=decide_eq_true h
   have g2:decide (0≤n∧n<m.arena.length)=decide (n<m.arena.length):=by
     by_cases h2:n<m.arena.length
     ·rw [decide_eq_true h2];exact decide_eq_true ⟨h,h2⟩
     ·rw [decide_eq_false h2];exact decide_eq_false (fun q=>h2 q.2)
   rw [g2] at hk
   refine ecR M0_ok (kp150) Tryz.func150 [.tmp 4] (h:=fun KF=>?_)
   unfold M0
   with_reducible repeat' first|(refine nx ?_;intros)|apply And.intro|intro vr|(refine ny ?_;intros;simp only [go_sem,kp150,geff,g1,yes])
   all_goals try exact nd
   all_goals (refine nl ?_;simp only [go_sem,finE])
   exact ⟨_,_,rfl,LeA.refl _,ro_bds (by omega) hbd,hk⟩
  ·have g1:decide (n≥0)=false:=decide_eq_false h
   have g2:decide (0≤n∧n<m.arena.length)=false:=decide_eq_false (fun q=>h q.1)
   rw [g2] at hk
   refine ecR M0_ok (kp150) Tryz.func150 [.tmp 4] (h:=fun KF=>?_)
   unfold M0
   with_reducible repeat' first|(refine nx ?_;intros)|apply And.intro|intro vr|(refine ny ?_;intros;simp only [go_sem,kp150,geff,g1,yes])
   all_goals try exact nd
   all_goals (refine nl ?_;simp only [go_sem,finE])
   exact ⟨_,_,rfl,LeA.refl _,ro_bds (by omega) hbd,hk⟩
end
end Go.Proofs.YtnlimcijgpaegaaGreat.Mm

namespace Go.Proofs.YtnlimcijgpaegaaGreat.Mm
open Go.Proofs.YtnlimcijgpaegaaGreat
open Go Go.Fw Bm
set_option maxRecDepth 20000
structure OkM (n A:Nat) (m:MS):Prop where
  regs:m.regs.length=n
  arena:m.arena.length=A
  rv:∀ i, -maxC≤gt m.regs i∧gt m.regs i≤maxC
  word:∀ i, -2147483648≤gt m.arena i∧gt m.arena i≤2147483647
  pos:0≤m.reads∧0≤m.writes∧0≤m.ops∧0≤m.peak∧0≤m.steps
  top:m.reads≤1000000∧m.writes≤1000000∧m.ops≤1000000∧m.peak≤1048576∧m.steps≤1000000
  vl:m.viol.length≤1000000
  n:n≤1000000
  A:A≤1048576
  ver:m.vb=m.vv
abbrev oMm1_0:List (Nat×Nat):=[(0,1),(1,1),(2,1),(3,1),(4,1),(5,1),(6,1),(7,1),(8,0),(9,2),(10,0)]
attribute [go_sem] oMm1_0
def putM (m:MS) (i v:Int):MS:={m with regs:=m.regs.set i.toNat v}
section
variable {x y:AObj} {B:Prg} {mt:List Int} {m m':MS} {ex l l':List AObj} {D:Nat→Bool}
theorem kp_ror {R:List Int} {h:∀ (o:Nat) (t:TypeId) (cs:List AV),l[o]? =some (AObj.box t cs)→l'[o]? =some (AObj.box t cs)}:Kp D (robj x y B mt m l) (robj x y B mt {m with regs:=R} l'):=fun o t cs hD ho=>by
  rcases o with _|_|_|_|_|_|_|o
  ·exact ho
  ·exact ho
  ·exact ho
  ·cases ho
  ·cases ho
  ·exact ho
  ·cases ho
  ·rcases Nat.lt_or_ge o 14 with c|c
   ·have e1:(clos++l)[o]? =some (AObj.box t cs):=ho
    show (clos++l')[o]? =_
    rw [List.getElem?_append_left (by exact c)] at e1 ⊢
    exact e1
   ·obtain ⟨q,rfl⟩:∃ q,o=q+14:=⟨o - 14,by omega⟩
    exact h q t cs ho
theorem kp_rox {j:Nat}:Kp (fun i=>i==j+21) (robj x y B mt m l) (robj x y B mt m' l):=kp_ro (by simp) fun _ _ _ _ h=>h
theorem kp_self {σ:List AObj} {D:Nat→Bool}:Kp D σ σ:=Kp.refl σ
theorem kp_ro1 {R:List Int}:Kp D (robj x y B mt m l) (robj x y B mt {m with regs:=R} l):=kp_ror (h:=fun _ _ _ h=>h)
end
noncomputable def ecn150:ECon Tryz.prog where
  f:=150
  c:=fun args σ k=>∃ (x y:AObj) (B:Prg) (mt:List Int) (m:MS) (ex:List AObj) (n:Int),args=[.ref 5 0,.lit (.int .i64 n)]∧σ=robj x y B mt m ex∧m.arena.length≤1048576∧k (.lit (.bool (decide (0≤n∧n<m.arena.length)))) (robj x y B mt m ex)
  ok:=by
   rintro _ _ k ⟨x,y,B,mt,m,ex,n,rfl,rfl,h1,h2⟩
   exact inside_ec h1 h2
  fk:=fk150
theorem ecn150_f:ecn150.f=150:=rfl
theorem ecn150_i {x y:AObj} {B:Prg} {mt:List Int} {m:MS} {ex:List AObj} {n:Int} {σ:List AObj} {k:AV→List AObj→Prop} (hσ:σ=robj x y B mt m ex) (hl:m.arena.length≤1048576) (h:k (.lit (.bool (decide (0≤n∧n<m.arena.length)))) (robj x y B mt m ex)):ecn150.c [.ref 5 0,.lit (.int .i64 n)] σ k:=⟨x,y,B,mt,m,ex,n,rfl,hσ,hl,h⟩
attribute [go_sem] ecn150_f El.con149_f El.con149_c con147_f con147_c El.con126_f El.con126_c con71_f con71_c
noncomputable def M2:Env:=envJ (P:=Tryz.prog) jkR zer (fun _=>false) (fun _=>false) [con71,El.con149,con147,El.con126] [ecn150]
theorem M2_ok:EnvOk Tryz.prog M2:=envJOk zer_ok
section
variable {x y:AObj} {B:Prg} {mt:List Int} {m:MS} {ex:List AObj} {k:AV→List AObj→Prop} {n A:Nat} {X:Ins}
set_option maxHeartbeats 4000000 in
theorem p1_ec (hk:k (.lit (.int .i64 X.b)) (robj x y B mt m ex)):EC Tryz.prog 116 [opV X] (robj x y B mt m ex) k:=by
  refine ec_fin fun hbd=>?_
  obtain ⟨q,p,a,b,c,d⟩:=X
  simp only [opV_mk]
  refine ecR M2_ok (kp116) Tryz.func116 [.tmp 2] (h:=fun KF=>?_)
  unfold M2
  with_reducible repeat' first|(refine nx ?_;intros)|apply And.intro|intro vr|(refine ny ?_;intros;simp only [go_sem,kp116,geff,yes])
  all_goals try exact nd
  all_goals (refine nl ?_;simp only [go_sem,finE])
  exact ⟨_,_,rfl,LeA.refl _,ro_bds (by omega) hbd,hk⟩
set_option maxHeartbeats 4000000 in
theorem p2_ec (h:OkM n A m) (hb:0≤X.b∧X.b<n) (hc:0≤X.c∧X.c<n) (hk:k (.lit (.int .i64 (minI (gt m.regs X.b) (gt m.regs X.c)))) (robj x y B mt m ex)):EC Tryz.prog 118 [opV X,.ref 8 0] (robj x y B mt m ex) k:=by
  refine ec_fin fun hbd=>?_
  obtain ⟨q,p,a,b,c,d⟩:=X
  have hr:=h.regs
  have hn:=h.n
  simp only at hb hc
  simp only [opV_mk]
  have gb:m.regs.getD b.toNat 0=gt m.regs b:=rfl
  have gc:m.regs.getD c.toNat 0=gt m.regs c:=rfl
  refine ecR M2_ok (kp118) Tryz.func118 [.tmp 3] (h:=fun KF=>?_)
  unfold M2
  with_reducible repeat' first|(refine nx ?_;intros)|apply And.intro|intro vr|((first|refine ny ?_|refine t_dwh (h:=fun K KL=>?_));intros;simp only [go_sem,kp118,geff,gb,gc,yes])
  all_goals try exact nd
  all_goals (refine nl ?_;simp only [go_sem,finE])
  exact ⟨_,_,rfl,LeA.refl _,ro_bds (by omega) hbd,hk⟩
set_option maxHeartbeats 4000000 in
theorem p3_ec (h:OkM n A m) (hb:0≤X.b∧X.b<n) (hc:0≤X.c∧X.c<n) (hk:k (.lit (.int .i64 (maxI (gt m.regs X.b) (gt m.regs X.c)))) (robj x y B mt m ex)):EC Tryz.prog 119 [opV X,.ref 8 0] (robj x y B mt m ex) k:=by
  refine ec_fin fun hbd=>?_
  obtain ⟨q,p,a,b,c,d⟩:=X
  have hr:=h.regs
  have hn:=h.n
  simp only at hb hc
  simp only [opV_mk]
  have gb:m.regs.getD b.toNat 0=gt m.regs b:=rfl
  have gc:m.regs.getD c.toNat 0=gt m.regs c:=rfl
  refine ecR M2_ok (kp119) Tryz.func119 [.tmp 3] (h:=fun KF=>?_)
  unfold M2
  with_reducible repeat' first|(refine nx ?_;intros)|apply And.intro|intro vr|((first|refine ny ?_|refine t_dwh (h:=fun K KL=>?_));intros;simp only [go_sem,kp119,geff,gb,gc,yes])
  all_goals try exact nd
  all_goals (refine nl ?_;simp only [go_sem,finE])
  exact ⟨_,_,rfl,LeA.refl _,ro_bds (by omega) hbd,hk⟩
set_option maxHeartbeats 4000000 in
theorem p5_ec (h:OkM n A m) (hb:0≤X.b∧X.b<n) (hk:k (.lit (.int .i64 (El.w32 (gt m.regs X.b)))) (robj x y B mt m ex)):EC Tryz.prog 125 [opV X,.ref 8 0] (robj x y B mt m ex) k:=by
  refine ec_fin fun hbd=>?_
  obtain ⟨q,p,a,b,c,d⟩:=X
  have hr:=h.regs
  have hn:=h.n
  simp only at hb
  simp only [opV_mk]
  have gb:m.regs.getD b.toNat 0=gt m.regs b:=rfl
  refine ecR M2_ok (kp125) Tryz.func125 [.tmp 3] (h:=fun KF=>?_)
  unfold M2
  with_reducible repeat' first|(refine nx ?_;intros)|apply And.intro|intro vr|((first|refine ny ?_|refine t_dwh (h:=fun K KL=>?_));intros;simp only [go_sem,kp125,geff,gb,yes])
  all_goals try exact nd
  all_goals (refine nl ?_;simp only [go_sem,finE])
  exact ⟨_,_,rfl,LeA.refl _,ro_bds (by omega) hbd,hk⟩
def ValF (x y:AObj) (B:Prg) (mt:List Int) (m:MS) (X:Ins) (f:FuncId) (ys:List AV) (v:Int):Prop:=∀ (ex:List AObj) (k:AV→List AObj→Prop),k (.lit (.int .i64 v)) (robj x y B mt m ex)→EC Tryz.prog f (opV X::ys) (robj x y B mt m ex) k
noncomputable def ecnV {x y:AObj} {B:Prg} {mt:List Int} {m:MS} {X:Ins} {f:FuncId} {ys:List AV} {v:Int} (hf:fok Tryz.prog f=true) (h:ValF x y B mt m X f ys v):ECon Tryz.prog where
  f:=f
  c:=fun args σ k=>∃ (ex:List AObj),args=opV X::ys∧σ=robj x y B mt m ex∧k (.lit (.int .i64 v)) (robj x y B mt m ex)
  ok:=by
   rintro _ _ k ⟨ex,rfl,rfl,h1⟩
   exact h ex k h1
  fk:=hf
theorem ecnV_f {f:FuncId} {ys:List AV} {v:Int} {hf:fok Tryz.prog f=true} {h:ValF x y B mt m X f ys v}:(ecnV hf h).f=f:=rfl
theorem ecnV_i {f:FuncId} {ys args:List AV} {v:Int} {hf:fok Tryz.prog f=true} {h:ValF x y B mt m X f ys v} {σ:List AObj} (ha:args=opV X::ys) (hσ:σ=robj x y B mt m ex) (hk:k (.lit (.int .i64 v)) (robj x y B mt m ex)):(ecnV hf h).c args σ k:=⟨ex,ha,hσ,hk⟩
attribute [go_sem] ecnV_f
noncomputable def M3 {f:FuncId} {ys:List AV} {v:Int} (hf:fok Tryz.prog f=true) (h:ValF x y B mt m X f ys v):Env:=envJ (P:=Tryz.prog) jkR zer (fun _=>false) (fun _=>false) [] [ecnV hf h]
theorem M3_ok {f:FuncId} {ys:List AV} {v:Int} (hf:fok Tryz.prog f=true) (h:ValF x y B mt m X f ys v):EnvOk Tryz.prog (M3 hf h):=envJOk zer_ok
set_option maxHeartbeats 4000000 in
theorem setF_ec {f:FuncId} {ys:List AV} {v:Int} {jm jv:Nat} (hf:fok Tryz.prog f=true) (hv:ValF x y B mt m X f ys v) (hys:(∀ σ,closeL1 true σ ys=none)∨ys=[]) (h:OkM n A m) (ha:0≤X.a∧X.a<n)
    (h1:∀ ex:List AObj,(robj x y B mt m ex)[jm]? =some (.box 57 [.ref 5 0])) (h2:∀ ex:List AObj,(robj x y B mt m ex)[jv]? =some (.box 170 [.fn (.func f) [] ys]))
    (hk:k (.lit (.bool true)) (robj x y B mt (putM m X.a v) ex)):EC Tryz.prog 148 [opV X,.ref jv 0,.ref jm 0] (robj x y B mt m ex) k:=by
  refine ec_fin fun hbd=>?_
  obtain ⟨q,p,a,b,c,d⟩:=X
  have hr:=h.regs
  have hn:=h.n
  simp only at ha
  simp only [opV_mk]
  rcases hys with hN|rfl
  ·skip
   refine ecR (M3_ok hf hv) (kp148) Tryz.func148 [.tmp 4] (h:=fun KF=>?_)
   unfold M3
   repeat' first|(with_reducible first|(refine nx ?_;intros)|apply And.intro|intro vr)|exact kp_fls|exact kp_ro1|exact kp_self|exact kpd|((with_reducible first|refine ny ?_|refine t_kLF ?_ ?_|refine t_dO 1 (fun _=>true) oMm1_0 fun K=>?_);intros;simp only [go_sem,kp148,geff,h1,h2,hN,yes])
   all_goals try exact nd
   refine ecnV_i rfl rfl ?_
   repeat' first|(with_reducible first|(refine nx ?_;intros)|apply And.intro|intro vr)|exact kp_fls|exact kp_ro1|exact kp_self|exact kpd|((with_reducible first|refine ny ?_|refine t_kLF ?_ ?_|refine t_dO 1 (fun _=>true) oMm1_0 fun K=>?_);intros;simp only [go_sem,kp148,geff,yes])
   all_goals try exact nd
   all_goals (refine nl ?_;simp only [go_sem,finE])
   exact ⟨_,_,rfl,LeA.refl _,ro_bds (by omega) hbd,hk⟩
  ·skip
   refine ecR (M3_ok hf hv) (kp148) Tryz.func148 [.tmp 4] (h:=fun KF=>?_)
   unfold M3
   repeat' first|(with_reducible first|(refine nx ?_;intros)|apply And.intro|intro vr)|exact kp_fls|exact kp_ro1|exact kp_self|exact kpd|((with_reducible first|refine ny ?_|refine t_kLF ?_ ?_|refine t_dO 1 (fun _=>true) oMm1_0 fun K=>?_);intros;simp only [go_sem,kp148,geff,h1,h2,yes])
   all_goals try exact nd
   refine ecnV_i rfl rfl ?_
   repeat' first|(with_reducible first|(refine nx ?_;intros)|apply And.intro|intro vr)|exact kp_fls|exact kp_ro1|exact kp_self|exact kpd|((with_reducible first|refine ny ?_|refine t_kLF ?_ ?_|refine t_dO 1 (fun _=>true) oMm1_0 fun K=>?_);intros;simp only [go_sem,kp148,geff,yes])
   all_goals try exact nd
   all_goals (refine nl ?_;simp only [go_sem,finE])
   exact ⟨_,_,rfl,LeA.refl _,ro_bds (by omega) hbd,hk⟩
end
end Go.Proofs.YtnlimcijgpaegaaGreat.Mm

namespace Go.Proofs.YtnlimcijgpaegaaGreat.Mm
open Go.Proofs.YtnlimcijgpaegaaGreat
open Go Go.Fw Bm
set_option maxRecDepth 20000
section
variable {x y:AObj} {B:Prg} {mt:List Int} {m:MS} {ex:List AObj} {k:AV→List AObj→Prop} {n A:Nat} {X:Ins}
abbrev oMm2_0:List (Nat×Nat):=[(0,1),(1,2),(2,2),(3,2),(4,2),(5,2),(6,1),(7,2),(8,0)]
abbrev oMm2_1:List (Nat×Nat):=[(0,1),(1,2),(2,2),(3,2),(4,2),(5,2),(6,1),(7,2),(8,2),(9,2),(10,1),(11,2),(12,2),(13,2),(14,2),(15,2),(16,2),(17,2),(18,2),(19,2),(20,2),(21,0)]
abbrev oMm2_2:List (Nat×Nat):=[(0,1),(1,1),(2,2),(3,2),(4,2),(5,2),(6,2),(7,2),(8,2),(9,0),(10,1)]
abbrev oMm2_3:List (Nat×Nat):=[(0,2),(1,2),(2,2),(3,2),(4,2),(5,2),(6,2),(7,0)]
abbrev oMm2_4:List (Nat×Nat):=[(0,1),(5,1),(6,1),(7,1),(1,2),(2,2),(3,2),(4,2),(8,0),(9,2),(10,2),(11,0)]
attribute [go_sem] oMm2_0 oMm2_1 oMm2_2 oMm2_3 oMm2_4
set_option maxHeartbeats 4000000 in
theorem add_ec (h:OkM n A m) (ha:0≤X.a∧X.a<n) (hb:0≤X.b∧X.b<n) (hc:0≤X.c∧X.c<n) (hd: -1048576≤X.d∧X.d≤1048576)
    (hk:k (.lit (.bool (inMc (gt m.regs X.b+X.d*gt m.regs X.c)))) (robj x y B mt (putM m X.a (gt m.regs X.b+X.d*gt m.regs X.c)) ex)):EC Tryz.prog 117 [.ref 5 0,opV X] (robj x y B mt m ex) k:=by
  refine ec_fin fun hbd=>?_
  obtain ⟨q,p,a,b,c,d⟩:=X
  have hr:=h.regs
  have hn:=h.n
  have vb:=h.rv b
  have vc:=h.rv c
  have mc:maxC=1099511627776:=rfl
  simp only at ha hb hc hd hk
  simp only [opV_mk]
  have gb:m.regs.getD b.toNat 0=gt m.regs b:=rfl
  have gc:m.regs.getD c.toNat 0=gt m.regs c:=rfl
  generalize gt m.regs b=u at*
  generalize gt m.regs c=v at*
  have hdv: -1152921504606846976≤d*v∧d*v≤1152921504606846976:=mul_in hd (by omega)
  generalize hw:d*v=w at*
  have hI:inMc (u+w)=(decide (u+w≥ -1099511627776)&&decide (u+w≤1099511627776)):=by
    unfold inMc
    by_cases h1:u+w≥ -1099511627776
    ·by_cases h2:u+w≤1099511627776
     ·rw [decide_eq_true h1,decide_eq_true h2];exact decide_eq_true (by omega)
     ·rw [decide_eq_false h2,Bool.and_false];exact decide_eq_false (by omega)
    ·rw [decide_eq_false h1,Bool.false_and];exact decide_eq_false (by omega)
  rw [hI] at hk
  cases g1:decide (u+w≥ -1099511627776) with
  |true=>
   rw [g1,Bool.true_and] at hk
   refine ecR M2_ok (kp117) Tryz.func117 [.tmp 4] (h:=fun KF=>?_)
   unfold M2
   repeat' first|(with_reducible first|(refine nx ?_;intros)|apply And.intro|intro vr)|exact kp_fls|exact kp_rox|exact kpd|((with_reducible first|refine ny ?_|refine t_kLF ?_ ?_|refine t_dO 2 (fun _=>false) oMm2_0 fun K=>?_|refine t_dwh (h:=fun K KL=>?_));intros;simp only [go_sem,kp117,geff,gb,gc,hw,g1,yes])
   all_goals try exact nd
   all_goals (refine nl ?_;simp only [go_sem,finE])
   exact ⟨_,_,rfl,LeA.refl _,ro_bds (by omega) hbd,hk⟩
  |false=>
   rw [g1,Bool.false_and] at hk
   refine ecR M2_ok (kp117) Tryz.func117 [.tmp 4] (h:=fun KF=>?_)
   unfold M2
   repeat' first|(with_reducible first|(refine nx ?_;intros)|apply And.intro|intro vr)|exact kp_fls|exact kp_rox|exact kpd|((with_reducible first|refine ny ?_|refine t_kLF ?_ ?_|refine t_dO 2 (fun _=>false) oMm2_0 fun K=>?_|refine t_dwh (h:=fun K KL=>?_));intros;simp only [go_sem,kp117,geff,gb,gc,hw,g1,yes])
   all_goals try exact nd
   all_goals (refine nl ?_;simp only [go_sem,finE])
   exact ⟨_,_,rfl,LeA.refl _,ro_bds (by omega) hbd,hk⟩
set_option maxHeartbeats 4000000 in
theorem load_ec (h:OkM n A m) (ha:0≤X.a∧X.a<n) (hb:0≤X.b∧X.b<n)
    (hk1:(0≤gt m.regs X.b∧gt m.regs X.b<m.arena.length)→k (.lit (.bool true)) (robj x y B mt {putM m X.a (gt m.arena (gt m.regs X.b)) with reads:=m.reads+1} ex))
    (hk2: ¬ (0≤gt m.regs X.b∧gt m.regs X.b<m.arena.length)→k (.lit (.bool false)) (robj x y B mt m ex)):EC Tryz.prog 121 [.ref 5 0,opV X] (robj x y B mt m ex) k:=by
  refine ec_fin fun hbd=>?_
  obtain ⟨q,p,a,b,c,d⟩:=X
  have hr:=h.regs
  have hn:=h.n
  have hA:=h.arena
  have hA2:=h.A
  have ht:=h.top
  have hp:=h.pos
  simp only at ha hb hk1 hk2
  simp only [opV_mk]
  have gb:m.regs.getD b.toNat 0=gt m.regs b:=rfl
  have gw:m.arena.getD (gt m.regs b).toNat 0=gt m.arena (gt m.regs b):=rfl
  generalize gt m.regs b=u at*
  by_cases hin:0≤u∧u<m.arena.length
  ·have g1:=decide_eq_true hin
   refine ecR M2_ok (kp121) Tryz.func121 [.tmp 4] (h:=fun KF=>?_)
   unfold M2
   repeat' first|(with_reducible first|(refine nx ?_;intros)|apply And.intro|intro vr)|exact kp_fls|exact kp_rox|exact kpd|((with_reducible first|refine ny ?_|refine t_kLF ?_ ?_|refine t_dO 3 (fun _=>false) oMm2_1 fun K=>?_|refine t_dO 1 (fun _=>false) oMm2_2 fun K=>?_);intros;simp only [go_sem,kp121,geff,gb,yes])
   all_goals try exact nd
   refine ecn150_i rfl (by omega) ?_
   repeat' first|(with_reducible first|(refine nx ?_;intros)|apply And.intro|intro vr)|exact kp_fls|exact kp_rox|exact kpd|((with_reducible first|refine ny ?_|refine t_kLF ?_ ?_|refine t_dO 3 (fun _=>false) oMm2_1 fun K=>?_|refine t_dO 1 (fun _=>false) oMm2_2 fun K=>?_);intros;simp only [go_sem,kp121,geff,gb,g1,gw,yes])
   all_goals try exact nd
   all_goals (refine nl ?_;simp only [go_sem,finE])
   exact ⟨_,_,rfl,LeA.refl _,ro_bds (by omega) hbd,hk1 hin⟩
  ·have g1:=decide_eq_false hin
   refine ecR M2_ok (kp121) Tryz.func121 [.tmp 4] (h:=fun KF=>?_)
   unfold M2
   repeat' first|(with_reducible first|(refine nx ?_;intros)|apply And.intro|intro vr)|exact kp_fls|exact kp_rox|exact kpd|((with_reducible first|refine ny ?_|refine t_kLF ?_ ?_|refine t_dO 3 (fun _=>false) oMm2_1 fun K=>?_|refine t_dO 1 (fun _=>false) oMm2_2 fun K=>?_);intros;simp only [go_sem,kp121,geff,gb,yes])
   all_goals try exact nd
   refine ecn150_i rfl (by omega) ?_
   repeat' first|(with_reducible first|(refine nx ?_;intros)|apply And.intro|intro vr)|exact kp_fls|exact kp_rox|exact kpd|((with_reducible first|refine ny ?_|refine t_kLF ?_ ?_|refine t_dO 3 (fun _=>false) oMm2_1 fun K=>?_|refine t_dO 1 (fun _=>false) oMm2_2 fun K=>?_);intros;simp only [go_sem,kp121,geff,gb,g1,gw,yes])
   all_goals try exact nd
   all_goals (refine nl ?_;simp only [go_sem,finE])
   exact ⟨_,_,rfl,LeA.refl _,ro_bds (by omega) hbd,hk2 hin⟩
set_option maxHeartbeats 4000000 in
theorem miss_ec (h:OkM n A m) (ha:0≤X.a∧X.a<n) (hk:k (.lit (.bool true)) (robj x y B mt {putM m X.a 0 with reads:=m.reads+1} ex)):EC Tryz.prog 123 [opV X,.ref 8 0] (robj x y B mt m ex) k:=by
  refine ec_fin fun hbd=>?_
  obtain ⟨q,p,a,b,c,d⟩:=X
  have hr:=h.regs
  have hn:=h.n
  have ht:=h.top
  have hp:=h.pos
  simp only at ha hk
  simp only [opV_mk]
  refine ecR M2_ok (kp123) Tryz.func123 [.tmp 3] (h:=fun KF=>?_)
  unfold M2
  repeat' first|(with_reducible first|(refine nx ?_;intros)|apply And.intro|intro vr)|exact kp_fls|exact kp_rox|exact kpd|((with_reducible first|refine ny ?_|refine t_kLF ?_ ?_|refine t_dO 1 (fun _=>false) oMm2_3 fun K=>?_);intros;simp only [go_sem,kp123,geff,yes])
  all_goals try exact nd
  all_goals (refine nl ?_;simp only [go_sem,finE])
  exact ⟨_,_,rfl,LeA.refl _,ro_bds (by omega) hbd,hk⟩
set_option maxHeartbeats 4000000 in
theorem skip_ec (h:OkM n A m) (hk:k (.lit (.bool true)) (robj x y B mt {m with writes:=m.writes+1} ex)):EC Tryz.prog 127 [opV X,.ref 8 0] (robj x y B mt m ex) k:=by
  refine ec_fin fun hbd=>?_
  obtain ⟨q,p,a,b,c,d⟩:=X
  have ht:=h.top
  have hp:=h.pos
  simp only [opV_mk]
  refine ecR M2_ok (kp127) Tryz.func127 [.tmp 3] (h:=fun KF=>?_)
  unfold M2
  with_reducible repeat' first|(refine nx ?_;intros)|apply And.intro|intro vr|(refine ny ?_;intros;simp only [go_sem,kp127,geff,yes])
  all_goals try exact nd
  all_goals (refine nl ?_;simp only [go_sem,finE])
  exact ⟨_,_,rfl,LeA.refl _,ro_bds (by omega) hbd,hk⟩
set_option maxHeartbeats 4000000 in
theorem check_ec (h:OkM n A m) (hb:0≤X.b∧X.b<n)
    (hk1:gt m.regs X.b=0→k (.lit (.bool true)) (robj x y B mt {m with viol:=m.viol++[X.a],vv:=m.vv+1,vb:=m.vv+1} ex))
    (hk2: ¬ gt m.regs X.b=0→k (.lit (.bool true)) (robj x y B mt m ex)):EC Tryz.prog 124 [.ref 5 0,opV X] (robj x y B mt m ex) k:=by
  refine ec_fin fun hbd=>?_
  obtain ⟨q,p,a,b,c,d⟩:=X
  have hr:=h.regs
  have hn:=h.n
  have hvl:=h.vl
  have hver:=h.ver
  simp only at hb hk1 hk2
  simp only [opV_mk]
  have gb:m.regs.getD b.toNat 0=gt m.regs b:=rfl
  generalize gt m.regs b=u at*
  by_cases hu:u=0
  ·have g1:=decide_eq_true hu
   refine ecR M2_ok (kp124) Tryz.func124 [.tmp 4] (h:=fun KF=>?_)
   unfold M2
   repeat' first|(with_reducible first|(refine nx ?_;intros)|refine t_br (fun hc=>?_) fun hc=>?_|apply And.intro|intro vr)|exact kp_fls|exact kp_rox|exact kpd|((with_reducible first|refine ny ?_|refine t_kLF ?_ ?_|refine t_dO 2 (fun i=>i==ex.length+21) oMm2_4 fun K=>?_|refine t_dwh (h:=fun K KL=>?_));intros;simp only [go_sem,kp124,geff,gb,g1,hver,yes])
   all_goals try exact nd
   all_goals (refine nl ?_;simp only [go_sem,finE])
   exact ⟨_,_,rfl,LeA.refl _,ro_bds (by omega) hbd,hk1 hu⟩
  ·have g1:=decide_eq_false hu
   refine ecR M2_ok (kp124) Tryz.func124 [.tmp 4] (h:=fun KF=>?_)
   unfold M2
   repeat' first|(with_reducible first|(refine nx ?_;intros)|refine t_br (fun hc=>?_) fun hc=>?_|apply And.intro|intro vr)|exact kp_fls|exact kp_rox|exact kpd|((with_reducible first|refine ny ?_|refine t_kLF ?_ ?_|refine t_dO 2 (fun i=>i==ex.length+21) oMm2_4 fun K=>?_|refine t_dwh (h:=fun K KL=>?_));intros;simp only [go_sem,kp124,geff,gb,g1,yes])
   all_goals try exact nd
   all_goals (refine nl ?_;simp only [go_sem,finE])
   exact ⟨_,_,rfl,LeA.refl _,ro_bds (by omega) hbd,hk2 hu⟩
end
end Go.Proofs.YtnlimcijgpaegaaGreat.Mm

namespace Go.Proofs.YtnlimcijgpaegaaGreat.Mm
open Go.Proofs.YtnlimcijgpaegaaGreat
open Go Go.Fw Bm
set_option maxRecDepth 20000
section
variable {x y:AObj} {B:Prg} {mt:List Int} {m:MS} {ex:List AObj} {k:AV→List AObj→Prop} {n A:Nat} {X:Ins}
abbrev oMm3_0:List (Nat×Nat):=[(0,1),(1,1),(2,0),(3,1),(4,1),(9,1),(10,1),(5,1),(6,1),(7,1),(8,1),(11,0),(12,0),(13,1),(14,1),(15,1)]
abbrev oMm3_1:List (Nat×Nat):=[(0,2),(1,2),(2,2),(3,2),(4,2),(5,2),(6,2),(7,2),(8,2),(9,2),(10,2),(11,2),(12,2),(13,2),(14,0)]
abbrev oMm3_2:List (Nat×Nat):=[(0,1),(1,2),(2,2),(3,2),(4,2),(5,2),(6,1),(7,2),(8,0)]
attribute [go_sem] oMm3_0 oMm3_1 oMm3_2
set_option maxHeartbeats 4000000 in
theorem store_ec (h:OkM n A m) (ha:0≤X.a∧X.a<n) (hb:0≤X.b∧X.b<n)
    (hk1:(0≤gt m.regs X.a∧gt m.regs X.a<m.arena.length)∧vld sInt (gt m.regs X.b)=true→k (.lit (.bool true)) (robj x y B mt {m with arena:=m.arena.set (gt m.regs X.a).toNat (gt m.regs X.b),writes:=m.writes+1,peak:=maxI m.peak (gt m.regs X.a+1)} ex))
    (hk2: ¬ ((0≤gt m.regs X.a∧gt m.regs X.a<m.arena.length)∧vld sInt (gt m.regs X.b)=true)→k (.lit (.bool false)) (robj x y B mt m ex)):EC Tryz.prog 122 [.ref 5 0,opV X] (robj x y B mt m ex) k:=by
  refine ec_fin fun hbd=>?_
  obtain ⟨q,p,a,b,c,d⟩:=X
  have hr:=h.regs
  have hn:=h.n
  have hA:=h.arena
  have hA2:=h.A
  have ht:=h.top
  have hp:=h.pos
  simp only at ha hb hk1 hk2
  simp only [opV_mk]
  have ga:m.regs.getD a.toNat 0=gt m.regs a:=rfl
  have gb:m.regs.getD b.toNat 0=gt m.regs b:=rfl
  have hvl:vld ⟨#[105,110,116]⟩ (gt m.regs b)=vld sInt (gt m.regs b):=rfl
  have va:=h.rv a
  have mc:maxC=1099511627776:=rfl
  generalize gt m.regs a=u at*
  generalize gt m.regs b=w at*
  by_cases hin:0≤u∧u<m.arena.length
  ·have g1:=decide_eq_true hin
   cases hv:vld sInt w with
   |true=>
    refine ecR M2_ok (kp122) Tryz.func122 [.tmp 4] (h:=fun KF=>?_)
    unfold M2
    repeat' first|(with_reducible first|(refine nx ?_;intros)|apply And.intro|intro vr)|exact kp_fls|exact kp_self|exact kpd|((with_reducible first|refine ny ?_|refine t_kLF ?_ ?_|refine t_dO 2 (fun _=>true) oMm3_0 fun K=>?_|refine t_dO 4 (fun _=>false) oMm3_1 fun K=>?_|refine t_dwh (h:=fun K KL=>?_));intros;simp only [go_sem,kp122,geff,ga,yes])
    all_goals try exact nd
    refine ecn150_i rfl (by omega) ?_
    repeat' first|(with_reducible first|(refine nx ?_;intros)|apply And.intro|intro vr)|exact kp_fls|exact kp_self|exact kpd|((with_reducible first|refine ny ?_|refine t_kLF ?_ ?_|refine t_dO 2 (fun _=>true) oMm3_0 fun K=>?_|refine t_dO 4 (fun _=>false) oMm3_1 fun K=>?_|refine t_dwh (h:=fun K KL=>?_));intros;simp only [go_sem,kp122,geff,ga,gb,g1,hvl,hv,yes])
    all_goals try exact nd
    all_goals (refine nl ?_;simp only [go_sem,finE])
    exact ⟨_,_,rfl,LeA.refl _,ro_bds (by omega) hbd,hk1 ⟨hin,hv⟩⟩
   |false=>
    refine ecR M2_ok (kp122) Tryz.func122 [.tmp 4] (h:=fun KF=>?_)
    unfold M2
    repeat' first|(with_reducible first|(refine nx ?_;intros)|apply And.intro|intro vr)|exact kp_fls|exact kp_self|exact kpd|((with_reducible first|refine ny ?_|refine t_kLF ?_ ?_|refine t_dO 2 (fun _=>true) oMm3_0 fun K=>?_|refine t_dO 4 (fun _=>false) oMm3_1 fun K=>?_|refine t_dwh (h:=fun K KL=>?_));intros;simp only [go_sem,kp122,geff,ga,yes])
    all_goals try exact nd
    refine ecn150_i rfl (by omega) ?_
    repeat' first|(with_reducible first|(refine nx ?_;intros)|apply And.intro|intro vr)|exact kp_fls|exact kp_self|exact kpd|((with_reducible first|refine ny ?_|refine t_kLF ?_ ?_|refine t_dO 2 (fun _=>true) oMm3_0 fun K=>?_|refine t_dO 4 (fun _=>false) oMm3_1 fun K=>?_|refine t_dwh (h:=fun K KL=>?_));intros;simp only [go_sem,kp122,geff,ga,gb,g1,hvl,hv,yes])
    all_goals try exact nd
    all_goals (refine nl ?_;simp only [go_sem,finE])
    exact ⟨_,_,rfl,LeA.refl _,ro_bds (by omega) hbd,hk2 (fun q=>by rw [hv] at q;cases q.2)⟩
  ·have g1:=decide_eq_false hin
   refine ecR M2_ok (kp122) Tryz.func122 [.tmp 4] (h:=fun KF=>?_)
   unfold M2
   repeat' first|(with_reducible first|(refine nx ?_;intros)|apply And.intro|intro vr)|exact kp_fls|exact kp_self|exact kpd|((with_reducible first|refine ny ?_|refine t_kLF ?_ ?_|refine t_dO 2 (fun _=>true) oMm3_0 fun K=>?_|refine t_dO 4 (fun _=>false) oMm3_1 fun K=>?_|refine t_dwh (h:=fun K KL=>?_));intros;simp only [go_sem,kp122,geff,ga,yes])
   all_goals try exact nd
   refine ecn150_i rfl (by omega) ?_
   repeat' first|(with_reducible first|(refine nx ?_;intros)|apply And.intro|intro vr)|exact kp_fls|exact kp_self|exact kpd|((with_reducible first|refine ny ?_|refine t_kLF ?_ ?_|refine t_dO 2 (fun _=>true) oMm3_0 fun K=>?_|refine t_dO 4 (fun _=>false) oMm3_1 fun K=>?_|refine t_dwh (h:=fun K KL=>?_));intros;simp only [go_sem,kp122,geff,ga,gb,g1,hvl,yes])
   all_goals try exact nd
   all_goals (refine nl ?_;simp only [go_sem,finE])
   exact ⟨_,_,rfl,LeA.refl _,ro_bds (by omega) hbd,hk2 (fun q=>hin q.1)⟩
set_option maxHeartbeats 4000000 in
theorem prim_ec (h:OkM n A m) (hx:X.code=5) (ha:0≤X.a∧X.a<n) (hrd:∀ r∈readsS X,0≤r∧r<n)
    (hk1:∀ v,El.applyS X.prim ((readsS X).map (gt m.regs))=some v→k (.lit (.bool true)) (robj x y B mt {putM m X.a v with ops:=m.ops+1} ex))
    (hk2:El.applyS X.prim ((readsS X).map (gt m.regs))=none→k (.lit (.bool false)) (robj x y B mt {putM m X.a 0 with ops:=m.ops+1} ex)):EC Tryz.prog 120 [.ref 5 0,opV X] (robj x y B mt m ex) k:=by
  refine ec_fin fun hbd=>?_
  have h3:=reads_len X
  have hr:=h.regs
  have hn:=h.n
  have ht:=h.top
  have hp:=h.pos
  generalize hM:readsS X=M at*
  obtain ⟨q,p,a,b,cc,d⟩:=X
  simp only at ha hk1 hk2 hx
  simp only [opV_mk]
  have av0:El.applyV none= .tup [.lit (.int .i64 0),.lit (.bool false)]:=rfl
  have av1:∀ y,El.applyV (some y)= .tup [.lit (.int .i64 y),.lit (.bool true)]:=fun _=>rfl
  generalize hap:El.applyS p (M.map (gt m.regs))=Y at hk1 hk2
  refine ecR M2_ok (kp120) Tryz.func120 [.tmp 4] (h:=fun KF=>?_)
  unfold M2
  repeat' first|(with_reducible first|(refine nx ?_;intros)|apply And.intro|intro vr)|exact kp_fls|exact kp_self|exact kpd|((with_reducible first|refine ny ?_|refine t_kLF ?_ ?_|refine t_dO 8 (fun _=>false) oMm3_2 fun K=>?_);intros;simp only [go_sem,kp120,geff,yes,hM])
  all_goals try exact nd
  refine t_loopF (ι:={q:Nat×Nat // q.1≤M.length}) (fun i=>[(13,.lit (.int .i64 i.1.1)),(5,.arr (ex.length+22) i.1.2)]) (fun i=>robj x y B mt m (ex++[.box 56 [.lit (.int .i64 q),.lit (.string p),.lit (.int .i64 a),.lit (.int .i64 b),.lit (.int .i64 cc),.lit (.int .i64 d)],.arr 3 1 (ints .i64 ((M.take i.1.1).map (gt m.regs))) i.1.2 false])) (fun i=>M.length - i.1.1) ⟨(0,0),by simp⟩ ?_ ?_
  ·refine (le_nil 5 3 1 rfl).trans ?_
   exact lf
  rintro ⟨⟨i,v⟩,hi⟩ K0
  simp only at hi
  rcases Nat.lt_or_ge i M.length with hc'|hc'
  ·have g3:decide ((i:Int)<(M.length:Int))=true:=decide_eq_true (by omega)
   have hmm:=hrd _ (mem_getD hc')
   have ht:=take_mapI (f:=gt m.regs) hc'
   have hln:((M.take i).map (gt m.regs)).length=i:=by rw [List.length_map,List.length_take];omega
   generalize hxx:M.getD i 0=z at hmm ht
   have gz:m.regs.getD z.toNat 0=gt m.regs z:=rfl
   repeat' first|(with_reducible first|(refine nx ?_;intros)|apply And.intro|intro vr)|exact kp_fls|exact kp_self|exact kpd|((with_reducible first|refine ny ?_|refine t_kLF ?_ ?_|refine t_dO 8 (fun _=>false) oMm3_2 fun K=>?_);intros;simp only [go_sem,kp120,geff,g3,hxx,gz,ht,hln,ints_length,Int.toNat_natCast,yes])
   all_goals try exact nd
   exact ⟨⟨(i+1,v+1),by simp only;omega⟩,wf,lf⟩
  ·have g3:decide ((i:Int)<(M.length:Int))=false:=decide_eq_false (by omega)
   have eM:M.take i=M:=List.take_of_length_le hc'
   cases Y with
   |none=>
    repeat' first|(with_reducible first|(refine nx ?_;intros)|apply And.intro|intro vr)|exact kp_fls|exact kp_self|exact kpd|((with_reducible first|refine ny ?_|refine t_kLF ?_ ?_|refine t_dO 8 (fun _=>false) oMm3_2 fun K=>?_);intros;simp only [go_sem,kp120,geff,g3,eM,hap,av0,slK_sl,Option.map_some,yes])
    all_goals try exact nd
    all_goals (refine nl ?_;simp only [go_sem,finE])
    exact ⟨_,_,rfl,LeA.refl _,ro_bds (by omega) hbd,hk2 rfl⟩
   |some y=>
    repeat' first|(with_reducible first|(refine nx ?_;intros)|apply And.intro|intro vr)|exact kp_fls|exact kp_self|exact kpd|((with_reducible first|refine ny ?_|refine t_kLF ?_ ?_|refine t_dO 8 (fun _=>false) oMm3_2 fun K=>?_);intros;simp only [go_sem,kp120,geff,g3,eM,hap,av1,slK_sl,Option.map_some,yes])
    all_goals try exact nd
    all_goals (refine nl ?_;simp only [go_sem,finE])
    exact ⟨_,_,rfl,LeA.refl _,ro_bds (by omega) hbd,hk1 y rfl⟩
end
end Go.Proofs.YtnlimcijgpaegaaGreat.Mm

namespace Go.Proofs.YtnlimcijgpaegaaGreat.Bm
open Go.Proofs.YtnlimcijgpaegaaGreat
open Go Go.Fw
def clsr (c:Int):Bool:=decide (c=12)||decide (c=13)
structure Prt (ops:List Ins) (n:Nat) (out:List Int) (st:List Nat):Prop where
  len:out.length=n
  lt:∀ j∈st,j<n
  asc:st.Pairwise (fun a b=>b<a)
  prt:∀ e,e<n→clsr (cd ops e)=true→∃ j,j<e∧j ∉ st∧opnr (cd ops j)=true∧out.getD j 0=e
  opn:∀ j∈st,opnr (cd ops j)=true
theorem Prt.plain {ops:List Ins} {n:Nat} {out:List Int} {st:List Nat} (h:Prt ops n out st) (hc:clsr (cd ops n)=false):Prt ops (n+1) (out++[(n:Int)]) st:=by
  have hl:=h.len
  refine ⟨by simp [hl],fun j hj=>Nat.lt_succ_of_lt (h.lt j hj),h.asc,fun e he hce=>?_,h.opn⟩
  have hen:e≠n:=fun q=>by subst q;rw [hc] at hce;cases hce
  obtain ⟨j,q1,q2,q3,q4⟩:=h.prt e (by omega) hce
  exact ⟨j,q1,q2,q3,by rw [getD_append_l (by omega)];exact q4⟩
theorem Prt.push {ops:List Ins} {n:Nat} {out:List Int} {st:List Nat} (h:Prt ops n out st) (hc:clsr (cd ops n)=false) (ho:opnr (cd ops n)=true):Prt ops (n+1) (out++[(n:Int)]) (n::st):=by
  have hp:=h.plain hc
  refine ⟨hp.len,fun j hj=>?_,List.pairwise_cons.2 ⟨fun b hb=>h.lt b hb,h.asc⟩,fun e he hce=>?_,fun j hj=>?_⟩
  ·rcases List.mem_cons.1 hj with rfl|hj
   ·omega
   ·exact hp.lt j hj
  ·have hen:e≠n:=fun q=>by subst q;rw [hc] at hce;cases hce
   obtain ⟨j,q1,q2,q3,q4⟩:=hp.prt e he hce
   refine ⟨j,q1,fun hm=>?_,q3,q4⟩
   rcases List.mem_cons.1 hm with rfl|hm
   ·omega
   ·exact q2 hm
  ·rcases List.mem_cons.1 hj with rfl|hj
   ·exact ho
   ·exact h.opn j hj
theorem Prt.close {ops:List Ins} {n j:Nat} {out:List Int} {st st2:List Nat} (h:Prt ops n out (j::st)) (h2:st2=st∨(st2=n::st∧opnr (cd ops n)=true)):Prt ops (n+1) ((out++[(n:Int)]).set j n) st2:=by
  have hl:=h.len
  have hjn:=h.lt j (by simp)
  have hasc:=List.pairwise_cons.1 h.asc
  have hst:∀ k∈st,k<j:=fun k hk=>hasc.1 k hk
  have hj0:j<(out++[(n:Int)]).length:=by simp;omega
  have mem:∀ {k},k∈st2→k=n∨k∈st:=fun {k} hk=>by
    rcases h2 with rfl|⟨rfl,_⟩
    ·exact .inr hk
    ·exact List.mem_cons.1 hk
  refine ⟨by simp [hl],fun k hk=>?_,?_,fun e he hce=>?_,fun k hk=>?_⟩
  ·rcases mem hk with rfl|hk
   ·omega
   ·have:=hst k hk;omega
  ·rcases h2 with rfl|⟨rfl,_⟩
   ·exact hasc.2
   ·exact List.pairwise_cons.2 ⟨fun b hb=>by have:=hst b hb;omega,hasc.2⟩
  ·by_cases q:e=n
   ·subst q
    refine ⟨j,hjn,fun hm=>?_,h.opn j (by simp),getD_set_eq hj0⟩
    rcases mem hm with rfl|hm
    ·omega
    ·exact Nat.lt_irrefl _ (hst j hm)
   ·obtain ⟨k,q1,q2,q3,q4⟩:=h.prt e (by omega) hce
    have hkj:j≠k:=fun q=>q2 (by simp [q])
    refine ⟨k,q1,fun hm=>?_,q3,by rw [getD_set_ne hkj,getD_append_l (by omega)];exact q4⟩
    rcases mem hm with rfl|hm
    ·omega
    ·exact q2 (by simp [hm])
  ·rcases mem hk with rfl|hk
   ·rcases h2 with rfl|⟨rfl,ho⟩
    ·exact h.opn k (by simp [hk])
    ·exact ho
   ·exact h.opn k (by simp [hk])
theorem matchG_prt {ops:List Ins}:∀ (l:List Ins) (i:Nat) (out:List Int) (st:List Nat) (mt:List Int),ops.drop i=l→i≤ops.length→Prt ops i out st→matchG ops l i out st=some mt→Prt ops ops.length mt []
  |[],i,out,st,mt,hl,hi,h,e=>by
   have hn:i=ops.length:=by
     have:=congrArg List.length hl
     simp at this;omega
   subst hn
   cases st with
   |nil=>cases e;exact h
   |cons j st=>cases e
  |x::l,i,out,st,mt,hl,hi,h,e=>by
   have hlt:i<ops.length:=by
     rcases Nat.lt_or_ge i ops.length with h|h
     ·exact h
     ·rw [List.drop_eq_nil_of_le h] at hl;cases hl
   have hd:=List.drop_eq_getElem_cons hlt
   rw [hl] at hd
   simp only [List.cons.injEq] at hd
   have hl':ops.drop (i+1)=l:=hd.2.symm
   have hx:cd ops i=x.code:=by unfold cd;rw [hd.1];simp [List.getD,hlt]
   simp only [matchG] at e
   split at e
   ·rename_i hc
    split at e
    ·cases e
    ·exact matchG_prt l (i+1) _ _ mt hl' hlt (h.push (by rw [hx];rcases hc with hc|hc<;>rw [hc]<;>decide) (by rw [hx];rcases hc with hc|hc<;>rw [hc]<;>decide)) e
   ·rename_i h1
    split at e
    ·rename_i h2
     split at e
     ·cases e
     ·rename_i j st'
      split at e
      ·exact matchG_prt l (i+1) _ _ mt hl' hlt (h.close (.inr ⟨rfl,by rw [hx,h2];decide⟩)) e
      ·cases e
    ·rename_i h2
     split at e
     ·split at e
      ·cases e
      ·exact matchG_prt l (i+1) _ _ mt hl' hlt (h.close (.inl rfl)) e
     ·rename_i h3
      exact matchG_prt l (i+1) _ _ mt hl' hlt (h.plain (by
        rw [hx]
        simp only [clsr,Bool.or_eq_false_iff,decide_eq_false_iff_not]
        omega)) e
def Fre (B:Prg) (mt:List Int) (i to:Int):Prop:=∀ e:Int,i≤e→e<to→((B.op e).code=12∨(B.op e).code=13)→∃ j:Int,i≤j∧j<e∧((B.op j).code=10∨(B.op j).code=11∨(B.op j).code=12)∧gt mt j=e
theorem match_fre {B:Prg} {mt:List Int} (h:matchS B.ops=some mt):Fre B mt 0 B.ops.length:=by
  unfold matchS at h
  split at h
  ·cases h
  ·have hp:=matchG_prt B.ops 0 [] [] mt (by simp) (Nat.zero_le _) ⟨rfl,by simp,by simp,by simp,by simp⟩ h
   intro e h0 h1 hc
   obtain ⟨n,rfl⟩:∃ n:Nat,e=n:=⟨e.toNat,by omega⟩
   obtain ⟨j,q1,_,q3,q4⟩:=hp.prt n (by omega) (by
     rw [←op_cd]
     simp only [clsr,Bool.or_eq_true,decide_eq_true_eq];exact hc)
   rw [←op_cd] at q3
   simp only [opnr,Bool.or_eq_true,decide_eq_true_eq] at q3
   exact ⟨(j:Int),by omega,by omega,by omega,by simp only [gt,Int.toNat_natCast];exact q4⟩
section
variable {B:Prg} {mt:List Int}
theorem Fre.here {i to:Int} (h:Fre B mt i to) (hi:i<to):(B.op i).code≠12∧(B.op i).code≠13:=by
  refine ⟨fun c=>?_,fun c=>?_⟩
  ·obtain ⟨j,q1,q2,_⟩:=h i (Int.le_refl _) hi (.inl c);omega
  ·obtain ⟨j,q1,q2,_⟩:=h i (Int.le_refl _) hi (.inr c);omega
theorem Nest.in_lt (hN:Nest B.ops mt) {i j:Int} (h0:0≤i) (h1:i<B.ops.length) (ho:(B.op i).code=10∨(B.op i).code=11∨(B.op i).code=12) (hij:i<j) (hj:j<gt mt i) (hoj:(B.op j).code=10∨(B.op j).code=11∨(B.op j).code=12):gt mt j<gt mt i:=
  (hN.inner h0 h1 ho).2.2 j (by omega) hj hoj
theorem Fre.skip (hN:Nest B.ops mt) {i k to:Int} (h:Fre B mt i to) (h0:0≤i) (h1:i<B.ops.length) (ho:(B.op i).code=10∨(B.op i).code=11∨(B.op i).code=12) (hk:k=gt mt i+1):∀ e:Int,k≤e→e<to→((B.op e).code=12∨(B.op e).code=13)→∃ j:Int,k≤j+1∧j<e∧((B.op j).code=10∨(B.op j).code=11∨(B.op j).code=12)∧gt mt j=e:=by
  intro e k1 k2 hc
  obtain ⟨k3,k4,_,_⟩:=hN.at h0 h1 ho
  obtain ⟨j,q1,q2,q3,q4⟩:=h e (by omega) k2 hc
  refine ⟨j,?_,q2,q3,q4⟩
  rcases Int.lt_or_le j (gt mt i) with c|c
  ·rcases Int.lt_or_le i j with c2|c2
   ·have:=hN.in_lt h0 h1 ho c2 c q3
    omega
   ·have:j=i:=by omega
    subst this;omega
  ·omega
theorem Fre.for_ (hN:Nest B.ops mt) {i to:Int} (h:Fre B mt i to) (h0:0≤i) (h1:i<B.ops.length) (ho:(B.op i).code=10):Fre B mt (gt mt i+1) to:=by
  intro e k1 k2 hc
  obtain ⟨k3,k4,k5,k6⟩:=hN.at h0 h1 (.inl ho)
  obtain ⟨j,q1,q2,q3,q4⟩:=h.skip hN h0 h1 (.inl ho) rfl e k1 k2 hc
  refine ⟨j,?_,q2,q3,q4⟩
  rcases Int.lt_or_le j (gt mt i+1) with c|c
  ·have hj:j=gt mt i:=by omega
   exfalso
   subst hj
   rcases q3 with q|q|q
   ·rcases k5 with k5|k5<;>omega
   ·rcases k5 with k5|k5<;>omega
   ·have:=k6 q;omega
  ·exact c
theorem Fre.if_ (hN:Nest B.ops mt) {i to:Int} (h:Fre B mt i to) (hcl:Cl B mt i to) (hi:i<to) (ho:(B.op i).code=11):Fre B mt (gt mt (gt mt i)+1) to:=by
  intro e k1 k2 hc
  have h0:=hcl.1
  have h1:i<B.ops.length:=by have:=hcl.2.1;omega
  obtain ⟨k3,k4,k5,k6⟩:=hN.at h0 h1 (.inr (.inl ho))
  obtain ⟨_,e1,e2,_,_,e6⟩:=hN.end_ hcl hi ho
  obtain ⟨j,q1,q2,q3,q4⟩:=h.skip hN h0 h1 (.inr (.inl ho)) rfl e (by omega) k2 hc
  refine ⟨j,?_,q2,q3,q4⟩
  rcases Int.lt_or_le j (gt mt (gt mt i)+1) with c|c
  ·exfalso
   by_cases c12:(B.op (gt mt i)).code=12
   ·obtain ⟨m1,m2,m3,m4⟩:=hN.at (i:=gt mt i) (by omega) k4 (.inr (.inr c12))
    rcases Int.lt_or_le j (gt mt (gt mt i)) with d|d
    ·rcases Int.lt_or_le (gt mt i) j with d2|d2
     ·have:=hN.in_lt (i:=gt mt i) (by omega) k4 (.inr (.inr c12)) d2 d q3;omega
     ·have:j=gt mt i:=by omega
      subst this;omega
    ·have hj:j=gt mt (gt mt i):=by omega
     subst hj
     rcases q3 with q|q|q
     ·rcases m3 with m3|m3<;>omega
     ·rcases m3 with m3|m3<;>omega
     ·have:=m4 q;omega
   ·rw [e6 c12] at c
    have hj:j=gt mt i:=by omega
    subst hj
    rcases q3 with q|q|q
    ·rcases k5 with k5|k5<;>omega
    ·rcases k5 with k5|k5<;>omega
    ·exact c12 q
  ·exact c
theorem Fre.step {i to:Int} (h:Fre B mt i to) (ho:(B.op i).code≠10∧(B.op i).code≠11) (hi:i<to):Fre B mt (i+1) to:=by
  intro e k1 k2 hc
  obtain ⟨j,q1,q2,q3,q4⟩:=h e (by omega) k2 hc
  have hh:=h.here hi
  refine ⟨j,?_,q2,q3,q4⟩
  rcases Int.lt_or_le i j with c|c
  ·omega
  ·have:j=i:=by omega
   subst this
   rcases q3 with q|q|q
   ·exact absurd q ho.1
   ·exact absurd q ho.2
   ·exact absurd q hh.1
theorem Fre.inner (hN:Nest B.ops mt) (h:Fre B mt 0 B.ops.length) {i:Int} (h0:0≤i) (h1:i<B.ops.length) (ho:(B.op i).code=10∨(B.op i).code=11∨(B.op i).code=12):Fre B mt (i+1) (gt mt i):=by
  intro e k1 k2 hc
  obtain ⟨k3,k4,_,_⟩:=hN.at h0 h1 ho
  obtain ⟨j,q1,q2,q3,q4⟩:=h e (by omega) (by omega) hc
  refine ⟨j,?_,q2,q3,q4⟩
  rcases Int.lt_or_le i j with c|c
  ·omega
  ·exfalso
   by_cases c2:j=i
   ·subst c2;omega
   ·have:=hN.in_lt (i:=j) (j:=i) q1 (by omega) q3 (by omega) (by omega) ho
    omega
end
end Go.Proofs.YtnlimcijgpaegaaGreat.Bm

namespace Go.Proofs.YtnlimcijgpaegaaGreat.Mm
open Go.Proofs.YtnlimcijgpaegaaGreat
open Go Go.Fw Bm
structure Live (m:MS) (s:St):Prop where
  left:0<s.left
  fl:s.failed=false
  out:s.out=false
  regs:m.regs=s.regs
  arena:m.arena=s.arena
  reads:m.reads=s.reads
  writes:m.writes=s.writes
  ops:m.ops=s.ops
  peak:m.peak=s.peak
  viol:m.viol.foldl noteS []=s.viol
  steps:m.steps+s.left=200001
  vl:(m.viol.length:Int)≤m.steps
structure Rp (n:Nat) (m:MS) (s:St):Prop where
  len:m.regs.length=n
  ver:m.vb=m.vv
  st:0≤m.steps∧m.steps≤200001
  rel:(m.e=0∧Live m s)∨(m.e=3∧s.left≤0)∨(m.e=22∧0<s.left∧s.failed=true∧m.at_=s.at_)
variable {n A:Nat} {c:Int} {m:MS} {s:St} {x:Ins}
theorem Live.okM (h:Live m s) (hg:Gd n A c s) (hc:c≤1000000) (hn:n≤1000000) (hA:A≤1048576) (hv:m.vb=m.vv):OkM n A m:=by
  have hs:=hg.sum
  have hp:=hg.pos
  have hk:=hg.peak
  have h1:=h.steps
  have h2:=h.left
  have h3:=h.vl
  refine ⟨by rw [h.regs];exact hg.regs,by rw [h.arena];exact hg.arena,fun i=>by rw [h.regs];exact hg.gt i,fun i=>by rw [h.arena];exact hg.word i,?_,?_,by omega,hn,hA,hv⟩
  ·rw [h.reads,h.writes,h.ops,h.peak];omega
  ·rw [h.reads,h.writes,h.ops,h.peak];omega
theorem Rp.step (h:Rp n m s) (hl:Live m s) (he:m.e=0):Rp n (stepM m) (tick s)∧((stepM m).e=0→Live (stepM m) (tick s))∧((stepM m).regs=m.regs):=by
  obtain ⟨q1,q2,q3,q4,q5,q6,q7,q8,q9,q10,q11,q12⟩:=hl
  obtain ⟨h1,h2,h3,_⟩:=h
  unfold stepM failM
  split
  ·rename_i hc
   simp only [he,if_true]
   exact ⟨⟨h1,h2,by simp only;omega,.inr (.inl ⟨rfl,by simp only [tick];omega⟩)⟩,fun e=>(by cases e),trivial⟩
  ·rename_i hc
   have L:Live {m with steps:=m.steps+1} (tick s):=⟨by simp only [tick];omega,q2,q3,q4,q5,q6,q7,q8,q9,q10,by simp only [tick];omega,by simp only;omega⟩
   exact ⟨⟨h1,h2,by simp only;omega,.inl ⟨he,L⟩⟩,fun _=>L,rfl⟩
theorem Rp.stop (h:Rp n m s) (he: ¬ m.e=0):stpS s=true:=by
  rcases h.rel with q|q|q
  ·exact absurd q.1 he
  ·simp [stpS,q.2]
  ·simp [stpS,q.2.2.1]
theorem Live.go (h:Live m s):stpS s=false:=by
  simp only [stpS,h.fl,h.out,Bool.or_false,decide_eq_false_iff_not]
  have:=h.left;omega
def plainS (x:Ins) (m:MS):MS×Bool:=
  if x.code=1 then (putM m x.a x.b,true)
  else if x.code=2 then (putM m x.a (gt m.regs x.b+x.d*gt m.regs x.c),inMc (gt m.regs x.b+x.d*gt m.regs x.c))
  else if x.code=3 then (putM m x.a (minI (gt m.regs x.b) (gt m.regs x.c)),true)
  else if x.code=4 then (putM m x.a (maxI (gt m.regs x.b) (gt m.regs x.c)),true)
  else if x.code=5 then (match El.applyS x.prim ((readsS x).map (gt m.regs)) with
    |none=>({putM m x.a 0 with ops:=m.ops+1},false)
    |some v=>({putM m x.a v with ops:=m.ops+1},true))
  else if x.code=6 then (if 0≤gt m.regs x.b∧gt m.regs x.b<m.arena.length then ({putM m x.a (gt m.arena (gt m.regs x.b)) with reads:=m.reads+1},true) else (m,false))
  else if x.code=7 then (if (0≤gt m.regs x.a∧gt m.regs x.a<m.arena.length)∧vld sInt (gt m.regs x.b)=true then
    ({m with arena:=m.arena.set (gt m.regs x.a).toNat (gt m.regs x.b),writes:=m.writes+1,peak:=maxI m.peak (gt m.regs x.a+1)},true) else (m,false))
  else if x.code=14 then (putM m x.a (El.w32 (gt m.regs x.b)),true)
  else if x.code=15 then ({m with writes:=m.writes+1},true)
  else if x.code=8 then ({putM m x.a 0 with reads:=m.reads+1},true)
  else if x.code=9 then (if gt m.regs x.b=0 then ({m with viol:=m.viol++[x.a],vv:=m.vv+1,vb:=m.vv+1},true) else (m,true))
  else (m,true)
structure Aft (n:Nat) (x:Ins) (m:MS) (s:St):Prop where
  len:(plainS x m).1.regs.length=n
  ver:(plainS x m).1.vb=(plainS x m).1.vv
  st:(plainS x m).1.steps=m.steps
  e:(plainS x m).1.e=m.e
  ok:(simpleS x s).failed= !(plainS x m).2
  left:(simpleS x s).left=s.left
  live:(plainS x m).2=true→(simpleS x s).out=false∧(plainS x m).1.regs=(simpleS x s).regs∧(plainS x m).1.arena=(simpleS x s).arena∧(plainS x m).1.reads=(simpleS x s).reads∧(plainS x m).1.writes=(simpleS x s).writes∧(plainS x m).1.ops=(simpleS x s).ops∧
    (plainS x m).1.peak=(simpleS x s).peak∧(plainS x m).1.viol.foldl noteS []=(simpleS x s).viol∧(plainS x m).1.viol.length≤m.viol.length+1
theorem plain_simple (h:Live m s) (hn:m.regs.length=n) (hv:m.vb=m.vv):Aft n x m s:=by
  obtain ⟨R,A,V,vv,vb,rd,wr,op,pk,st,at_,e⟩:=m
  obtain ⟨R',A',rd',wr',op',pk',V',l',f',at',o'⟩:=s
  obtain ⟨q1,q2,q3,q4,q5,q6,q7,q8,q9,q10,q11,q12⟩:=h
  simp only at q1 q2 q3 q4 q5 q6 q7 q8 q9 q10 q11 q12 hn hv
  subst q2 q3 q4 q5 q6 q7 q8 q9 q10 hv
  have hp:∀ i v,(R.set i v).length=n:=fun i v=>by simp [hn]
  by_cases c1:x.code=1
  ·constructor<;>simp [plainS,simpleS,c1,putM,St.put,hn]
  by_cases c2:x.code=2
  ·cases hi:inMc (gt R x.b+x.d*gt R x.c)<;>(constructor<;>simp [plainS,simpleS,c2,putM,St.put,hn,hi])
  by_cases c3:x.code=3
  ·constructor<;>simp [plainS,simpleS,c3,putM,St.put,hn]
  by_cases c4:x.code=4
  ·constructor<;>simp [plainS,simpleS,c4,putM,St.put,hn]
  by_cases c5:x.code=5
  ·cases hi:El.applyS x.prim ((readsS x).map (gt R))<;>(constructor<;>simp [plainS,simpleS,c5,putM,St.put,hn,hi])
  by_cases c6:x.code=6
  ·by_cases hi:0≤gt R x.b∧gt R x.b<A.length<;>(constructor<;>simp [plainS,simpleS,c6,putM,St.put,hn,hi])
  by_cases c7:x.code=7
  ·by_cases hi:(0≤gt R x.a∧gt R x.a<A.length)∧vld sInt (gt R x.b)=true<;>(constructor<;>simp [plainS,simpleS,c7,putM,St.put,hn,hi])
  by_cases c14:x.code=14
  ·constructor<;>simp [plainS,simpleS,c14,putM,St.put,hn]
  by_cases c15:x.code=15
  ·constructor<;>simp [plainS,simpleS,c15,putM,St.put,hn]
  by_cases c8:x.code=8
  ·constructor<;>simp [plainS,simpleS,c8,putM,St.put,hn]
  by_cases c9:x.code=9
  ·by_cases hi:gt R x.b=0<;>(constructor<;>simp [plainS,simpleS,c9,putM,St.put,hn,hi])
  ·constructor<;>simp [plainS,simpleS,c1,c2,c3,c4,c5,c6,c7,c8,c9,c14,c15,hn]
theorem Rp.plain (h:Rp n m s) (hl:Live m s) (he:m.e=0) (hvl:(m.viol.length:Int)+1≤m.steps) (i:Int):
    Rp n (if (plainS x m).2=true then (plainS x m).1 else failM (plainS x m).1 i 22) (if (simpleS x s).failed=true then {simpleS x s with at_:=i} else simpleS x s):=by
  have ha:=plain_simple (x:=x) hl h.len h.ver
  have hst:=h.st
  have q1:=hl.left
  have q2:=hl.steps
  have q4:=ha.left
  have q5:=ha.st
  cases hq:(plainS x m).2 with
  |true=>
   have hf:(simpleS x s).failed=false:=by rw [ha.ok,hq];rfl
   rw [if_pos rfl,if_neg (by rw [hf];simp)]
   obtain ⟨k1,k2,k3,k4,k5,k6,k7,k8,k9⟩:=ha.live hq
   exact ⟨ha.len,ha.ver,by rw [q5];exact hst,.inl ⟨ha.e.trans he,⟨by omega,hf,k1,k2,k3,k4,k5,k6,k7,k8,by omega,by omega⟩⟩⟩
  |false=>
   have hf:(simpleS x s).failed=true:=by rw [ha.ok,hq];rfl
   have h0:(plainS x m).1.e=0:=ha.e.trans he
   rw [if_neg (by simp),if_pos hf]
   unfold failM
   rw [if_pos h0]
   exact ⟨ha.len,ha.ver,by show 0≤(plainS x m).1.steps∧(plainS x m).1.steps≤200001;rw [q5];exact hst,.inr (.inr ⟨rfl,by show 0<(simpleS x s).left;omega,hf,rfl⟩)⟩
end Go.Proofs.YtnlimcijgpaegaaGreat.Mm

namespace Go.Proofs.YtnlimcijgpaegaaGreat.Mm
open Go.Proofs.YtnlimcijgpaegaaGreat
open Go Go.Fw Bm
set_option maxRecDepth 20000
section
variable {x y:AObj} {B:Prg} {mt:List Int} {m:MS} {s:St} {n A:Nat} {X:Ins}
abbrev oMm4_0:List (Nat×Nat):=[(0,2),(1,2),(2,2),(3,2),(4,2),(5,2),(6,2),(7,2),(8,0)]
abbrev oMm4_1:List (Nat×Nat):=[(0,2),(1,1),(2,1),(3,2),(4,2),(5,2),(6,2),(7,2),(8,2),(9,2),(10,0)]
attribute [go_sem] oMm4_0 oMm4_1
theorem clN1 {o:Nat} {l:List AV}:∀ (σ:List AObj) (z:AV),closeL1 true σ ([]++z:: .ref o 0::l)=none:=fun σ z=>by
  have h:closeL1 true σ (.ref o 0::l)=none:=rfl
  show (match close1 true σ z,closeL1 true σ (.ref o 0::l) with
    |some y,some ys=>some (y::ys)
    |_,_=>none)=none
  rw [h]
  cases close1 true σ z<;>rfl
theorem clN2 {o:Nat} {l:List AV}:∀ (σ:List AObj) (z:AV),closeL1 true σ ([.ref o 0]++z::l)=none:=fun σ z=>rfl
theorem tab_ok (h:OkM n A m) (hx:Regs X n) (hr:∀ r∈readsS X,0≤r∧r<n) (hc:X.code≠10∧X.code≠11∧X.code≠12∧X.code≠13):∃ (f:FuncId) (xs ys:List AV),tabL.getD X.code.toNat .top= .fn (.func f) xs ys∧fok Tryz.prog f=true∧(f≠75∧f≠76∧f≠77∧f≠78)∧(0≤X.code∧X.code<16)∧(∀ σ z,closeL1 true σ (xs++z::ys)=none)∧
    ∀ (ex:List AObj) (k:AV→List AObj→Prop),k (.lit (.bool (plainS X m).2)) (robj x y B mt (plainS X m).1 ex)→EC Tryz.prog f (xs++opV X::ys) (robj x y B mt m ex) k:=by
  have hw:=hx.w
  have xa:=hx.a
  have xb:=hx.b
  have xc:=hx.c
  have mA:maxA=1048576:=rfl
  rcases hx.code with e|e|e|e|e|e|e|e|e|e|e|e|e|e|e
  ·refine ⟨148,[],[.ref 11 0,.ref 10 0],by rw [e];rfl,fk148,by decide,by omega,by first|exact clN1|exact clN2,fun ex k hk=>?_⟩
   have q:plainS X m=(putM m X.a X.b,true):=by unfold plainS;rw [if_pos e]
   rw [q] at hk
   exact setF_ec (jm:=10) (jv:=11) (f:=116) (ys:=[]) (v:=X.b) fk116 (fun ex k h=>p1_ec h) (.inr rfl) h (hw (by rw [e];rfl)) (fun _=>rfl) (fun _=>rfl) hk
  ·refine ⟨117,[.ref 5 0],[],by rw [e];rfl,fk117,by decide,by omega,by first|exact clN1|exact clN2,fun ex k hk=>?_⟩
   have q:plainS X m=(putM m X.a (gt m.regs X.b+X.d*gt m.regs X.c),inMc (gt m.regs X.b+X.d*gt m.regs X.c)):=by unfold plainS;rw [if_neg (by omega),if_pos e]
   rw [q] at hk
   exact add_ec h (hw (by rw [e];rfl)) (xb (by omega)) (xc (by omega)) (by have:=hx.k2 e;omega) hk
  ·refine ⟨148,[],[.ref 13 0,.ref 12 0],by rw [e];rfl,fk148,by decide,by omega,by first|exact clN1|exact clN2,fun ex k hk=>?_⟩
   have q:plainS X m=(putM m X.a (minI (gt m.regs X.b) (gt m.regs X.c)),true):=by unfold plainS;rw [if_neg (by omega),if_neg (by omega),if_pos e]
   rw [q] at hk
   exact setF_ec (jm:=12) (jv:=13) (f:=118) (ys:=[.ref 8 0]) (v:=minI (gt m.regs X.b) (gt m.regs X.c)) fk118 (fun ex k h'=>p2_ec h (xb (by omega)) (xc (by omega)) h') (.inl fun _=>rfl) h (hw (by rw [e];rfl)) (fun _=>rfl) (fun _=>rfl) hk
  ·refine ⟨148,[],[.ref 15 0,.ref 14 0],by rw [e];rfl,fk148,by decide,by omega,by first|exact clN1|exact clN2,fun ex k hk=>?_⟩
   have q:plainS X m=(putM m X.a (maxI (gt m.regs X.b) (gt m.regs X.c)),true):=by unfold plainS;rw [if_neg (by omega),if_neg (by omega),if_neg (by omega),if_pos e]
   rw [q] at hk
   exact setF_ec (jm:=14) (jv:=15) (f:=119) (ys:=[.ref 8 0]) (v:=maxI (gt m.regs X.b) (gt m.regs X.c)) fk119 (fun ex k h'=>p3_ec h (xb (by omega)) (xc (by omega)) h') (.inl fun _=>rfl) h (hw (by rw [e];rfl)) (fun _=>rfl) (fun _=>rfl) hk
  ·refine ⟨120,[.ref 5 0],[],by rw [e];rfl,fk120,by decide,by omega,by first|exact clN1|exact clN2,fun ex k hk=>?_⟩
   have q:plainS X m=(match El.applyS X.prim ((readsS X).map (gt m.regs)) with
     |none=>({putM m X.a 0 with ops:=m.ops+1},false)
     |some v=>({putM m X.a v with ops:=m.ops+1},true)):=by unfold plainS;rw [if_neg (by omega),if_neg (by omega),if_neg (by omega),if_neg (by omega),if_pos e];try rfl
   rw [q] at hk
   exact prim_ec h e (hw (by rw [e];rfl)) hr (fun v hv=>by rw [hv] at hk;exact hk) (fun hv=>by rw [hv] at hk;exact hk)
  ·refine ⟨121,[.ref 5 0],[],by rw [e];rfl,fk121,by decide,by omega,by first|exact clN1|exact clN2,fun ex k hk=>?_⟩
   have q:plainS X m=if 0≤gt m.regs X.b∧gt m.regs X.b<m.arena.length then ({putM m X.a (gt m.arena (gt m.regs X.b)) with reads:=m.reads+1},true) else (m,false):=by
     unfold plainS;rw [if_neg (by omega),if_neg (by omega),if_neg (by omega),if_neg (by omega),if_neg (by omega),if_pos e]
   rw [q] at hk
   exact load_ec h (hw (by rw [e];rfl)) (xb (by omega)) (fun hv=>by rw [if_pos hv] at hk;exact hk) (fun hv=>by rw [if_neg hv] at hk;exact hk)
  ·refine ⟨122,[.ref 5 0],[],by rw [e];rfl,fk122,by decide,by omega,by first|exact clN1|exact clN2,fun ex k hk=>?_⟩
   have q:plainS X m=if (0≤gt m.regs X.a∧gt m.regs X.a<m.arena.length)∧vld sInt (gt m.regs X.b)=true then
     ({m with arena:=m.arena.set (gt m.regs X.a).toNat (gt m.regs X.b),writes:=m.writes+1,peak:=maxI m.peak (gt m.regs X.a+1)},true) else (m,false):=by
     unfold plainS;rw [if_neg (by omega),if_neg (by omega),if_neg (by omega),if_neg (by omega),if_neg (by omega),if_neg (by omega),if_pos e]
   rw [q] at hk
   exact store_ec h (xa (by omega)) (xb (by omega)) (fun hv=>by rw [if_pos hv] at hk;exact hk) (fun hv=>by rw [if_neg hv] at hk;exact hk)
  ·refine ⟨123,[],[.ref 8 0],by rw [e];rfl,fk123,by decide,by omega,by first|exact clN1|exact clN2,fun ex k hk=>?_⟩
   have q:plainS X m=({putM m X.a 0 with reads:=m.reads+1},true):=by
     unfold plainS;rw [if_neg (by omega),if_neg (by omega),if_neg (by omega),if_neg (by omega),if_neg (by omega),if_neg (by omega),if_neg (by omega),if_neg (by omega),if_neg (by omega),if_pos e]
   rw [q] at hk
   exact miss_ec h (hw (by rw [e];rfl)) hk
  ·refine ⟨124,[.ref 5 0],[],by rw [e];rfl,fk124,by decide,by omega,by first|exact clN1|exact clN2,fun ex k hk=>?_⟩
   have q:plainS X m=if gt m.regs X.b=0 then ({m with viol:=m.viol++[X.a],vv:=m.vv+1,vb:=m.vv+1},true) else (m,true):=by
     unfold plainS;rw [if_neg (by omega),if_neg (by omega),if_neg (by omega),if_neg (by omega),if_neg (by omega),if_neg (by omega),if_neg (by omega),if_neg (by omega),if_neg (by omega),if_neg (by omega),if_pos e]
   rw [q] at hk
   exact check_ec h (xb (by omega)) (fun hv=>by rw [if_pos hv] at hk;exact hk) (fun hv=>by rw [if_neg hv] at hk;exact hk)
  ·exact absurd e hc.1
  ·exact absurd e hc.2.1
  ·exact absurd e hc.2.2.1
  ·exact absurd e hc.2.2.2
  ·refine ⟨148,[],[.ref 17 0,.ref 16 0],by rw [e];rfl,fk148,by decide,by omega,by first|exact clN1|exact clN2,fun ex k hk=>?_⟩
   have q:plainS X m=(putM m X.a (El.w32 (gt m.regs X.b)),true):=by
     unfold plainS;rw [if_neg (by omega),if_neg (by omega),if_neg (by omega),if_neg (by omega),if_neg (by omega),if_neg (by omega),if_neg (by omega),if_pos e]
   rw [q] at hk
   exact setF_ec (jm:=16) (jv:=17) (f:=125) (ys:=[.ref 8 0]) (v:=El.w32 (gt m.regs X.b)) fk125 (fun ex k h'=>p5_ec h (xb (by omega)) h') (.inl fun _=>rfl) h (hw (by rw [e];rfl)) (fun _=>rfl) (fun _=>rfl) hk
  ·refine ⟨127,[],[.ref 8 0],by rw [e];rfl,fk127,by decide,by omega,by first|exact clN1|exact clN2,fun ex k hk=>?_⟩
   have q:plainS X m=({m with writes:=m.writes+1},true):=by
     unfold plainS;rw [if_neg (by omega),if_neg (by omega),if_neg (by omega),if_neg (by omega),if_neg (by omega),if_neg (by omega),if_neg (by omega),if_neg (by omega),if_pos e]
   rw [q] at hk
   exact skip_ec h hk
end
def BlkM (x y:AObj) (B:Prg) (mt:List Int) (n A:Nat) (c:Int) (N:Nat):Prop:=∀ (i to:Int) (m:MS) (s:St) (ex:List AObj) (k:AV→List AObj→Prop),to - i≤N→Cl B mt i to→Fre B mt i to→(m.e=0→Gd n A c s)→Rp n m s→
  (∀ m' s',Runs B mt [] (.blk i to) s s'→(m'.e=0→Gd n A c s')→Rp n m' s'→k (.tup []) (robj x y B mt m' ex))→EC Tryz.prog 77 [.lit (.int .i64 i),.lit (.int .i64 to),.ref 7 0,.ref 20 0,.ref 19 0,.ref 18 0] (robj x y B mt m ex) k
section
variable {x y:AObj} {B:Prg} {mt:List Int} {n A:Nat} {c:Int} {N:Nat} {m:MS} {s:St} {ex:List AObj} {σ:List AObj} {args:List AV} {k:AV→List AObj→Prop} {i to:Int}
noncomputable def ecnBk (h:BlkM x y B mt n A c N):ECon Tryz.prog where
  f:=77
  c:=fun args σ k=>∃ (i to:Int) (m:MS) (s:St) (ex:List AObj),args=[.lit (.int .i64 i),.lit (.int .i64 to),.ref 7 0,.ref 20 0,.ref 19 0,.ref 18 0]∧σ=robj x y B mt m ex∧to - i≤N∧Cl B mt i to∧Fre B mt i to∧(m.e=0→Gd n A c s)∧Rp n m s∧
   ∀ m' s',Runs B mt [] (.blk i to) s s'→(m'.e=0→Gd n A c s')→Rp n m' s'→k (.tup []) (robj x y B mt m' ex)
  ok:=by
   rintro _ _ k ⟨i,to,m,s,ex,rfl,rfl,h1,h2,h3,h4,h5,h6⟩
   exact h i to m s ex k h1 h2 h3 h4 h5 h6
  fk:=fk77
theorem ecnBk_f {h:BlkM x y B mt n A c N}:(ecnBk h).f=77:=rfl
theorem ecnBk_i {h:BlkM x y B mt n A c N} (s:St) (ha:args=[.lit (.int .i64 i),.lit (.int .i64 to),.ref 7 0,.ref 20 0,.ref 19 0,.ref 18 0]) (hσ:σ=robj x y B mt m ex) (h1:to - i≤N) (h2:Cl B mt i to) (h3:Fre B mt i to) (h4:m.e=0→Gd n A c s) (h5:Rp n m s)
    (h6:∀ m' s',Runs B mt [] (.blk i to) s s'→(m'.e=0→Gd n A c s')→Rp n m' s'→k (.tup []) (robj x y B mt m' ex)):(ecnBk h).c args σ k:=⟨i,to,m,s,ex,ha,hσ,h1,h2,h3,h4,h5,h6⟩
noncomputable def ecn76:ECon Tryz.prog where
  f:=76
  c:=fun args σ k=>∃ (x y:AObj) (B:Prg) (mt:List Int) (m:MS) (ex:List AObj),args=[.ref 5 0]∧σ=robj x y B mt m ex∧(0≤m.steps∧m.steps≤1000000)∧k (.tup []) (robj x y B mt (stepM m) ex)
  ok:=by
   rintro _ _ k ⟨x,y,B,mt,m,ex,rfl,rfl,h1,h2⟩
   exact step_ec h1 h2
  fk:=fk76
theorem ecn76_f:ecn76.f=76:=rfl
theorem ecn76_i (hσ:σ=robj x y B mt m ex) (h1:0≤m.steps∧m.steps≤1000000) (h:k (.tup []) (robj x y B mt (stepM m) ex)):ecn76.c [.ref 5 0] σ k:=⟨x,y,B,mt,m,ex,rfl,hσ,h1,h⟩
attribute [go_sem] ecnBk_f ecn76_f
theorem le_ro1 {n0:Nat} {f g:Nat→AV} {u:AObj} (hn:n0≤ex.length+21) (hb:BdS (ex.length+21) (robj x y B mt m ex)) (hg:∀ j,low1 (ex.length+21) (g j)=true) (h:∀ j,LeR (f j) (g j)):Le n0 ⟨f,robj x y B mt m (ex++[u])⟩ ⟨g,robj x y B mt m ex⟩:=
  le_backB (m:=[u]) rfl hn hb hg h
theorem look_nil {i:Int} {s:St}:Bm.look [] i s=s:=rfl
theorem Rp.putt (h:Rp n m s) {i v:Int} (hl:m.e=0→Live m s):Rp n (putM m i v) (s.put i v):=by
  refine ⟨by simp [putM,h.len],h.ver,h.st,?_⟩
  rcases h.rel with q|q|q
  ·have L:=q.2
   exact .inl ⟨q.1,⟨L.left,L.fl,L.out,by simp only [putM,St.put];rw [L.regs],L.arena,L.reads,L.writes,L.ops,L.peak,L.viol,L.steps,L.vl⟩⟩
  ·exact .inr (.inl q)
  ·exact .inr (.inr q)
theorem Rp.live (h:Rp n m s) (he:m.e=0):Live m s:=by
  rcases h.rel with q|q|q
  ·exact q.2
  ·exact absurd q.1 (by rw [he];decide)
  ·exact absurd q.1 (by rw [he];decide)
noncomputable def M4 (hB:BlkM x y B mt n A c N):Env:=envJ (P:=Tryz.prog) jkR zer (fun _=>false) (fun _=>false) [] [ecn76,ecnBk hB]
theorem M4_ok (hB:BlkM x y B mt n A c N):EnvOk Tryz.prog (M4 hB):=envJOk zer_ok
structure Lq (B:Prg) (mt:List Int) (n A:Nat) (c:Int) (i lo hi:Int) (s0:St) where
  k:Int
  m:MS
  s:St
  hl:lo≤k
  hk:k≤hi+1048576∨k=lo
  hg:m.e=0→Gd n A c s
  hr:Rp n m s
  hv:∀ s',Runs B mt [] (.lop i k hi) s s'→Runs B mt [] (.lop i lo hi) s0 s'
set_option maxHeartbeats 8000000 in
theorem lop_ec (hK:Wk B mt n) (hF0:Fre B mt 0 B.ops.length) (hcb:c≤1000000) (hA:A≤1048576) (hB:BlkM x y B mt n A c N) (h1:to - i≤N+1) (h2:Cl B mt i to) (hi:i<to) (ho:(B.op i).code=10) (he:m.e=0) (hg:Gd n A c s) (hr:Rp n m s)
    (hk:∀ m' s',Runs B mt [] (.lop i (gt s.regs (B.op i).b) (gt s.regs (B.op i).c)) s s'→(m'.e=0→Gd n A c s')→Rp n m' s'→k (.tup []) (robj x y B mt m' ex)):
    EC Tryz.prog 75 [.lit (.int .i64 i),opV (B.op i),.ref 7 0,.ref 19 0] (robj x y B mt m ex) k:=by
  refine ec_fin fun hbd=>?_
  rw [ro_len] at hbd
  have hL:=hK.len
  have hn:=hK.n
  have hml:=hK.mtl
  have h20:=h2.1
  have h21:=h2.2.1
  have hin:=hK.nest.inner h20 (by omega) (.inl ho)
  have hfi:=hF0.inner hK.nest h20 (by omega) (.inl ho)
  obtain ⟨k1,k2,k3,k4⟩:=hK.nest.at h20 (show i<B.ops.length by omega) (.inl ho)
  have k5:=h2.2.2 i (Int.le_refl _) hi (.inl ho)
  have hrg:=right_regs (hK.rights i h20 (by omega))
  have hra:=hrg.w (by rw [ho];rfl)
  have hrb:=hrg.b (by omega)
  have hrc:=hrg.c (by omega)
  have hrd:=hrg.k10 ho
  have L0:=hr.live he
  have hrl:=hr.len
  have vb:=hg.gt (B.op i).b
  have vc:=hg.gt (B.op i).c
  rw [←L0.regs] at vb vc hk
  have mc:maxC=1099511627776:=rfl
  have ma:maxA=1048576:=rfl
  have gm:mt.getD i.toNat 0=gt mt i:=rfl
  have gb:m.regs.getD (B.op i).b.toNat 0=gt m.regs (B.op i).b:=rfl
  have gc:m.regs.getD (B.op i).c.toNat 0=gt m.regs (B.op i).c:=rfl
  have rT:=fun {k hh:Int} {s2 s3 s':St} hc hs hj hk=>runs_turn (B:=B) (mt:=mt) (seen:=[]) (i:=i) (n:=k) (hi:=hh) (s:=s2) (s':=s3) (s'':=s') ⟨hc,hs⟩ hj hk
  generalize hXX:B.op i=X at*
  obtain ⟨q,p,a,b,cc,d⟩:=X
  simp only at ho hra hrb hrc hrd vb vc gb gc hk rT
  generalize gt m.regs b=lo at*
  generalize gt m.regs cc=hh at*
  generalize hM:gt mt i=M at*
  simp only [opV_mk]
  refine ecR (M4_ok hB) (kp75) Tryz.func75 [] (h:=fun KF=>?_)
  unfold M4
  repeat' first|(with_reducible first|(refine nx ?_;intros)|refine t_br (fun hc=>?_) fun hc=>?_|apply And.intro|intro vr)|exact kp_fls|exact kp_ro1|exact kpd|((with_reducible first|refine ny ?_|refine t_kLF ?_ ?_|refine t_dO 6 (fun _=>false) oMm4_0 fun K=>?_|refine t_dO 7 (fun _=>false) oMm4_1 fun K=>?_|refine t_dwh (h:=fun K KL=>?_));intros;simp only [go_sem,kp75,geff,gb,gc,yes])
  all_goals try exact nd
  refine t_loopF (ι:=Lq B mt n A c i lo hh s) (fun q=>[(8,.lit (.int .i64 q.k))]) (fun q'=>robj x y B mt q'.m (ex++[.box 56 [.lit (.int .i64 q),.lit (.string p),.lit (.int .i64 a),.lit (.int .i64 b),.lit (.int .i64 cc),.lit (.int .i64 d)]])) (fun q=>(hh - q.k).toNat) ⟨lo,m,s,Int.le_refl _,.inr rfl,fun _=>hg,hr,fun _ h=>h⟩ ?_ ?_
  ·exact lf
  rintro ⟨k0,m2,s2,hl2,hk2,hg2,hr2,hv2⟩ K0
  have hrl2:=hr2.len
  have hst2:=hr2.st
  rcases Int.lt_or_le k0 hh with hc2|hc2
  ·have g5:decide (k0<hh)=true:=decide_eq_true hc2
   by_cases he2:m2.e=0
   ·have g6:decide (m2.e=0)=true:=decide_eq_true he2
    have L2:=hr2.live he2
    obtain ⟨R1,R2,R3⟩:=hr2.step L2 he2
    have Rq:=R1.putt (i:=a) (v:=k0) R2
    have hgq:=(hg2 he2).turn L2.go (i:=a) (v:=k0) (by omega)
    have hrl3:(stepM m2).regs.length=n:=by rw [R3];exact hrl2
    repeat' first|(with_reducible first|(refine nx ?_;intros)|refine t_br (fun hc=>?_) fun hc=>?_|apply And.intro|intro vr)|exact kp_fls|exact kp_ro1|exact kpd|((with_reducible first|refine ny ?_|refine t_kLF ?_ ?_|refine t_dO 6 (fun _=>false) oMm4_0 fun K=>?_|refine t_dO 7 (fun _=>false) oMm4_1 fun K=>?_|refine t_dwh (h:=fun K KL=>?_));intros;simp only [go_sem,kp75,geff,g5,g6,yes])
    all_goals try exact nd
    refine ecn76_i rfl (by omega) ?_
    generalize stepM m2=m3 at*
    repeat' first|(with_reducible first|(refine nx ?_;intros)|refine t_br (fun hc=>?_) fun hc=>?_|apply And.intro|intro vr)|exact kp_fls|exact kp_ro1|exact kpd|((with_reducible first|refine ny ?_|refine t_kLF ?_ ?_|refine t_dO 6 (fun _=>false) oMm4_0 fun K=>?_|refine t_dO 7 (fun _=>false) oMm4_1 fun K=>?_|refine t_dwh (h:=fun K KL=>?_));intros;simp only [go_sem,kp75,geff,gm,hM,yes])
    all_goals try exact nd
    refine ecnBk_i ((tick s2).put a k0) rfl rfl (by omega) hin hfi (fun _=>hgq) Rq fun m4 s4 hr4 hg4 h4=>?_
    repeat' first|(with_reducible first|(refine nx ?_;intros)|refine t_br (fun hc=>?_) fun hc=>?_|apply And.intro|intro vr)|exact kp_fls|exact kp_ro1|exact kpd|((with_reducible first|refine ny ?_|refine t_kLF ?_ ?_|refine t_dO 6 (fun _=>false) oMm4_0 fun K=>?_|refine t_dO 7 (fun _=>false) oMm4_1 fun K=>?_|refine t_dwh (h:=fun K KL=>?_));intros;simp only [go_sem,kp75,geff,yes])
    all_goals try exact nd
    have hw:(hh - (k0+d)).toNat<(hh - k0).toNat:=by omega
    refine ⟨⟨k0+d,m4,s4,by omega,.inl (by omega),hg4,h4,fun s' h=>hv2 _ (rT hc2 L2.go hr4 h)⟩,hw,?_⟩
    exact lf
   ·have g6:decide (m2.e=0)=false:=decide_eq_false he2
    repeat' first|(with_reducible first|(refine nx ?_;intros)|refine t_br (fun hc=>?_) fun hc=>?_|apply And.intro|intro vr)|exact kp_fls|exact kp_ro1|exact kpd|((with_reducible first|refine ny ?_|refine t_kLF ?_ ?_|refine t_dO 6 (fun _=>false) oMm4_0 fun K=>?_|refine t_dO 7 (fun _=>false) oMm4_1 fun K=>?_|refine t_dwh (h:=fun K KL=>?_));intros;simp only [go_sem,kp75,geff,g5,g6,yes])
    all_goals try exact nd
    all_goals (refine nl ?_;simp only [go_sem,finE])
    exact ⟨_,_,rfl,LeA.refl _,ro_bds (by omega) hbd,hk m2 s2 (hv2 _ (runs_lend (fun q=>by rw [hr2.stop he2] at q;cases q.2))) hg2 hr2⟩
  ·have g5:decide (k0<hh)=false:=decide_eq_false (by omega)
   repeat' first|(with_reducible first|(refine nx ?_;intros)|refine t_br (fun hc=>?_) fun hc=>?_|apply And.intro|intro vr)|exact kp_fls|exact kp_ro1|exact kpd|((with_reducible first|refine ny ?_|refine t_kLF ?_ ?_|refine t_dO 6 (fun _=>false) oMm4_0 fun K=>?_|refine t_dO 7 (fun _=>false) oMm4_1 fun K=>?_|refine t_dwh (h:=fun K KL=>?_));intros;simp only [go_sem,kp75,geff,g5,yes])
   all_goals try exact nd
   all_goals (refine nl ?_;simp only [go_sem,finE])
   exact ⟨_,_,rfl,LeA.refl _,ro_bds (by omega) hbd,hk m2 s2 (hv2 _ (runs_lend (fun q=>by omega))) hg2 hr2⟩
end
end Go.Proofs.YtnlimcijgpaegaaGreat.Mm

namespace Go.Proofs.YtnlimcijgpaegaaGreat.Mm
open Go.Proofs.YtnlimcijgpaegaaGreat
open Go Go.Fw Bm
set_option maxRecDepth 20000
section
variable {x y:AObj} {B:Prg} {mt:List Int} {n A:Nat} {c:Int} {N:Nat} {m:MS} {s:St} {ex:List AObj} {σ:List AObj} {args:List AV} {k:AV→List AObj→Prop} {i to:Int}
abbrev oMm5_0:List (Nat×Nat):=[(0,2),(1,2),(2,2),(3,2),(4,2),(5,0),(6,1)]
attribute [go_sem] oMm5_0
noncomputable def M5:Env:=envU Tryz.prog jkR zer (fun _=>false) (fun _=>false) []
theorem M5_ok:EnvOk Tryz.prog M5:=envUOk zer_ok
theorem lop2 (hK:Wk B mt n) (hF0:Fre B mt 0 B.ops.length) (hcb:c≤1000000) (hA:A≤1048576) (hB:BlkM x y B mt n A c N) {X:Ins} (hX:B.op i=X) (h1:to - i≤N+1) (h2:Cl B mt i to) (hi:i<to) (ho:X.code=10) (he:m.e=0) (hg:Gd n A c s) (hr:Rp n m s)
    (hk:∀ m' s',Runs B mt [] (.lop i (gt s.regs X.b) (gt s.regs X.c)) s s'→(m'.e=0→Gd n A c s')→Rp n m' s'→k (.tup []) (robj x y B mt m' ex)):EC Tryz.prog 75 [.lit (.int .i64 i),opV X,.ref 7 0,.ref 19 0] (robj x y B mt m ex) k:=by
  subst hX
  exact lop_ec hK hF0 hcb hA hB h1 h2 hi ho he hg hr hk
theorem runs_tick (h1:i<to) (h2:stpS s=false) {s':St} (h:Runs B mt [] (.blk i to) s s'):s'.left≤s.left - 1:=by
  obtain ⟨F,hF⟩:=h
  have h:=hF (F+1) (by omega)
  rw [←h]
  simp only [exec]
  rw [if_pos ⟨h1,h2⟩]
  have e:(tick (Bm.look [] i s)).left=s.left - 1:=rfl
  split
  ·exact Int.le_trans (exec_left _ _ _) (Int.le_trans (exec_left _ _ _) (Int.le_of_eq e))
  ·split
   ·refine Int.le_trans (exec_left _ _ _) ?_
    split
    ·exact Int.le_trans (exec_left _ _ _) (Int.le_of_eq e)
    ·split
     ·exact Int.le_trans (exec_left _ _ _) (Int.le_of_eq e)
     ·exact Int.le_of_eq e
   ·refine Int.le_trans (exec_left _ _ _) ?_
    split
    ·show (simpleS _ _).left≤_;rw [simple_left];exact Int.le_of_eq e
    ·rw [simple_left];exact Int.le_of_eq e
structure Xq (B:Prg) (mt:List Int) (n A:Nat) (c:Int) (i0 to:Int) (s0:St) where
  i:Int
  m:MS
  s:St
  hi:i0≤i
  hu:i≤to∨i=i0
  hF:Fre B mt i to
  hg:m.e=0→Gd n A c s
  hr:Rp n m s
  hv:∀ s',Runs B mt [] (.blk i to) s s'→Runs B mt [] (.blk i0 to) s0 s'
set_option maxHeartbeats 8000000 in
theorem blk_step (hK:Wk B mt n) (hF0:Fre B mt 0 B.ops.length) (hcb:c≤1000000) (hA:A≤1048576) (hB:BlkM x y B mt n A c N):BlkM x y B mt n A c (N+1):=by
  intro i0 to m0 s0 ex k h1 h2 hF1 hg0 hr0 h5
  refine ec_fin fun hbd=>?_
  rw [ro_len] at hbd
  have hL:=hK.len
  have hn:=hK.n
  have hml:=hK.mtl
  have h20:=h2.1
  have h21:=h2.2.1
  refine ecR M5_ok (kp77) Tryz.func77 [] (h:=fun KF=>?_)
  unfold M5
  repeat' first|(with_reducible first|(refine nx ?_;intros)|refine t_br (fun hc=>?_) fun hc=>?_|apply And.intro|intro vr)|exact kp_fls|exact kpd|((with_reducible first|refine ny ?_|refine t_kLF ?_ ?_|refine t_dO 7 (fun _=>false) oMm5_0 fun K=>?_|refine t_dwh (h:=fun K KL=>?_));intros;simp only [go_sem,kp77,geff])
  all_goals try exact nd
  refine t_loopF (ι:=Xq B mt n A c i0 to s0) (fun q=>[(8,.lit (.int .i64 q.i))]) (fun q=>robj x y B mt q.m ex) (fun q=>(to - q.i).toNat) ⟨i0,m0,s0,Int.le_refl _,.inr rfl,hF1,hg0,hr0,fun _ h=>h⟩ ?_ ?_
  ·exact lf
  rintro ⟨i,m,s,hi,hu,hF,hg,hr,hv⟩ K0
  have hst:=hr.st
  have hrl:=hr.len
  rcases Int.lt_or_le i to with hit|hit
  ·have g3:decide (i<to)=true:=decide_eq_true hit
   by_cases he:m.e=0
   ·have g4:decide (m.e=0)=true:=decide_eq_true he
    have hcl:Cl B mt i to:=h2.next hi
    have L:=hr.live he
    have hst:=L.go
    obtain ⟨R1,R2,R3⟩:=hr.step L he
    have hvl:(stepM m).e=0→((stepM m).viol.length:Int)+1≤(stepM m).steps:=fun e=>by
      have:=L.vl
      unfold stepM failM at e ⊢
      split
      ·rename_i q;rw [if_pos q] at e;simp only [he,if_true] at e;cases e
      ·simp only;omega
    have hopd:B.ops.getD i.toNat nilI=B.op i:=rfl
    have hright:=hK.rights i (by omega) (by omega)
    have hrg:=right_regs hright
    have hrd:∀ r∈readsS (B.op i),0≤r∧r<n:=fun r hr=>reads_reg hright hr
    have hgT:Gd n A (c - 1) (tick s):=(hg he).tick (seen:=[]) hst i
    generalize hXX:B.op i=X at hopd hright hrg hrd
    have hX1:X.code=X.code:=rfl
    obtain ⟨q,p,a,b,cc,d⟩:=X
    by_cases he1:(stepM m).e=0
    ·have g5:decide ((stepM m).e=0)=true:=decide_eq_true he1
     have L1:=R2 he1
     have hvl:=hvl he1
     have hrl1:(stepM m).regs.length=n:=by rw [R3];exact hrl
     by_cases q10:q=10
     ·subst q10
      have ho:(B.op i).code=10:=by rw [hXX]
      obtain ⟨k1,k2,k3,k4⟩:=hK.nest.at (show 0≤i by omega) (by omega) (.inl ho)
      have k5:=hcl.2.2 i (Int.le_refl _) hit (.inl ho)
      have hFn:=hF.for_ hK.nest (show 0≤i by omega) (by omega) ho
      have gm:mt.getD i.toNat 0=gt mt i:=rfl
      have rF:=fun {s2 s':St} hj hk=>runs_for (B:=B) (mt:=mt) (seen:=[]) (i:=i) (to:=to) (s:=s) (s':=s2) (s'':=s') ⟨hit,hst⟩ ho hj hk
      rw [look_nil,hXX] at rF
      repeat' first|(with_reducible first|(refine nx ?_;intros)|refine t_br (fun hc=>?_) fun hc=>?_|apply And.intro|intro vr)|exact kp_fls|exact kpd|((with_reducible first|refine ny ?_|refine t_kLF ?_ ?_|refine t_dO 7 (fun _=>false) oMm5_0 fun K=>?_|refine t_dwh (h:=fun K KL=>?_));intros;simp only [go_sem,kp77,geff,g3,g4,hopd,yes])
      all_goals try exact nd
      refine ⟨fk76,step_ec (by omega) ?_⟩
      generalize stepM m=m1 at*
      repeat' first|(with_reducible first|(refine nx ?_;intros)|refine t_br (fun hc=>?_) fun hc=>?_|apply And.intro|intro vr)|exact kp_fls|exact kpd|((with_reducible first|refine ny ?_|refine t_kLF ?_ ?_|refine t_dO 7 (fun _=>false) oMm5_0 fun K=>?_|refine t_dwh (h:=fun K KL=>?_));intros;simp only [go_sem,kp77,geff,g5,he1,yes])
      all_goals try exact nd
      refine ⟨fk75,lop2 (to:=to) (s:=tick s) hK hF0 hcb hA hB hXX (by omega) hcl hit rfl he1 hgT.le R1 fun m2 s2 hr2 hg2 h3=>?_⟩
      repeat' first|(with_reducible first|(refine nx ?_;intros)|refine t_br (fun hc=>?_) fun hc=>?_|apply And.intro|intro vr)|exact kp_fls|exact kpd|((with_reducible first|refine ny ?_|refine t_kLF ?_ ?_|refine t_dO 7 (fun _=>false) oMm5_0 fun K=>?_|refine t_dwh (h:=fun K KL=>?_));intros;simp only [go_sem,kp77,geff,gm,yes])
      all_goals try exact nd
      refine ⟨⟨gt mt i+1,m2,s2,by omega,.inl (by omega),hFn,hg2,h3,fun s' h=>hv _ (rF hr2 h)⟩,by simp only;omega,?_⟩
      try simp only [updL_nil,updL_cons,delF_top,delF_upd,Nat.reduceEqDiff,reduceIte]
      refine le_ro1 (Nat.le_refl _) (ro_bds (by omega) hbd) ?_ ?_
      ·repeat' (first|exact low_top|(refine low_upd rfl ?_))
      exact lq
     by_cases q11:q=11
     ·subst q11
      have ho:(B.op i).code=11:=by rw [hXX]
      have hra:=hrg.a (.inr rfl)
      simp only at hra
      have hi0:0≤i:=by omega
      have hil:i<B.ops.length:=by omega
      have hin:=hK.nest.inner hi0 hil (.inr (.inl ho))
      have hfi:=hF0.inner hK.nest hi0 hil (.inr (.inl ho))
      obtain ⟨k1,k2,k3,k4⟩:=hK.nest.at hi0 hil (.inr (.inl ho))
      obtain ⟨k5,k6,k7,k8,k9,k10⟩:=hK.nest.end_ hcl hit ho
      have hFn:=hF.if_ hK.nest hcl hit ho
      have hin2:(B.op (gt mt i)).code=12→Cl B mt (gt mt i+1) (gt mt (gt mt i))∧Fre B mt (gt mt i+1) (gt mt (gt mt i))∧gt mt i<gt mt (gt mt i):=fun e=>⟨hK.nest.inner (by omega) k2 (.inr (.inr e)),hF0.inner hK.nest (by omega) k2 (.inr (.inr e)),(hK.nest.at (i:=gt mt i) (by omega) k2 (.inr (.inr e))).1⟩
      have gm:mt.getD i.toNat 0=gt mt i:=rfl
      have gm2:mt.getD (gt mt i).toNat 0=gt mt (gt mt i):=rfl
      have rY:=fun {s2 s':St} hp hj hk=>runs_yes (B:=B) (mt:=mt) (seen:=[]) (i:=i) (to:=to) (s:=s) (s':=s2) (s'':=s') ⟨hit,hst⟩ ho hp hj hk
      have rN:=fun {s2 s':St} hp he hj hk=>runs_no (B:=B) (mt:=mt) (seen:=[]) (i:=i) (to:=to) (s:=s) (s':=s2) (s'':=s') ⟨hit,hst⟩ ho hp he hj hk
      have rO:=fun {s':St} hp he hk=>runs_none (B:=B) (mt:=mt) (seen:=[]) (i:=i) (to:=to) (s:=s) (s'':=s') ⟨hit,hst⟩ ho hp he hk
      rw [look_nil,hXX,k8] at rY rN rO
      have hre:(stepM m).regs=(tick s).regs:=L1.regs
      generalize gt mt (gt mt i)=E at*
      generalize gt mt i=M at*
      repeat' first|(with_reducible first|(refine nx ?_;intros)|refine t_br (fun hc=>?_) fun hc=>?_|apply And.intro|intro vr)|exact kp_fls|exact kpd|((with_reducible first|refine ny ?_|refine t_kLF ?_ ?_|refine t_dO 7 (fun _=>false) oMm5_0 fun K=>?_|refine t_dwh (h:=fun K KL=>?_));intros;simp only [go_sem,kp77,geff,g3,g4,hopd,yes])
      all_goals try exact nd
      refine ⟨fk76,step_ec (by omega) ?_⟩
      generalize stepM m=m1 at*
      have ga:m1.regs.getD a.toNat 0=gt m1.regs a:=rfl
      cases gp:decide (gt m1.regs a≥0) with
      |true=>
       have gp':=of_decide_eq_true gp
       rw [hre] at gp'
       repeat' first|(with_reducible first|(refine nx ?_;intros)|refine t_br (fun hc=>?_) fun hc=>?_|apply And.intro|intro vr)|exact kp_fls|exact kpd|((with_reducible first|refine ny ?_|refine t_kLF ?_ ?_|refine t_dO 7 (fun _=>false) oMm5_0 fun K=>?_|refine t_dwh (h:=fun K KL=>?_));intros;simp only [go_sem,kp77,geff,g5,he1,gm,gm2,ga,gp,yes])
       all_goals try exact nd
       refine ⟨fk77,hB _ _ _ (tick s) _ _ (by omega) hin hfi (fun _=>hgT.le) R1 fun m2 s2 hr2 hg2 h3=>?_⟩
       repeat' first|(with_reducible first|(refine nx ?_;intros)|refine t_br (fun hc=>?_) fun hc=>?_|apply And.intro|intro vr)|exact kp_fls|exact kpd|((with_reducible first|refine ny ?_|refine t_kLF ?_ ?_|refine t_dO 7 (fun _=>false) oMm5_0 fun K=>?_|refine t_dwh (h:=fun K KL=>?_));intros;simp only [go_sem,kp77,geff,yes])
       all_goals try exact nd
       refine ⟨⟨E+1,m2,s2,by omega,.inl (by omega),hFn,hg2,h3,fun s' h=>hv _ (rY gp' hr2 h)⟩,by simp only;omega,?_⟩
       try simp only [updL_nil,updL_cons,delF_top,delF_upd,Nat.reduceEqDiff,reduceIte]
       refine le_ro1 (Nat.le_refl _) (ro_bds (by omega) hbd) ?_ ?_
       ·repeat' (first|exact low_top|(refine low_upd rfl ?_))
       exact lq
      |false=>
       have gp':=of_decide_eq_false gp
       rw [hre] at gp'
       by_cases y12:(B.op M).code=12
       ·obtain ⟨c1,c2,c3⟩:=hin2 y12
        have gmin:minI (M+1) E=M+1:=by unfold minI;split<;>omega
        repeat' first|(with_reducible first|(refine nx ?_;intros)|refine t_br (fun hc=>?_) fun hc=>?_|apply And.intro|intro vr)|exact kp_fls|exact kpd|((with_reducible first|refine ny ?_|refine t_kLF ?_ ?_|refine t_dO 7 (fun _=>false) oMm5_0 fun K=>?_|refine t_dwh (h:=fun K KL=>?_));intros;simp only [go_sem,kp77,geff,g5,he1,gm,gm2,ga,gp,gmin,yes])
        all_goals try exact nd
        refine ⟨fk77,hB _ _ _ (tick s) _ _ (by omega) c1 c2 (fun _=>hgT.le) R1 fun m2 s2 hr2 hg2 h3=>?_⟩
        repeat' first|(with_reducible first|(refine nx ?_;intros)|refine t_br (fun hc=>?_) fun hc=>?_|apply And.intro|intro vr)|exact kp_fls|exact kpd|((with_reducible first|refine ny ?_|refine t_kLF ?_ ?_|refine t_dO 7 (fun _=>false) oMm5_0 fun K=>?_|refine t_dwh (h:=fun K KL=>?_));intros;simp only [go_sem,kp77,geff,yes])
        all_goals try exact nd
        refine ⟨⟨E+1,m2,s2,by omega,.inl (by omega),hFn,hg2,h3,fun s' h=>hv _ (rN gp' y12 hr2 h)⟩,by simp only;omega,?_⟩
        try simp only [updL_nil,updL_cons,delF_top,delF_upd,Nat.reduceEqDiff,reduceIte]
        refine le_ro1 (Nat.le_refl _) (ro_bds (by omega) hbd) ?_ ?_
        ·repeat' (first|exact low_top|(refine low_upd rfl ?_))
        exact lq
       ·have hEM:E=M:=k10 y12
        have gmin:minI (M+1) E=E:=by unfold minI;split<;>omega
        repeat' first|(with_reducible first|(refine nx ?_;intros)|refine t_br (fun hc=>?_) fun hc=>?_|apply And.intro|intro vr)|exact kp_fls|exact kpd|((with_reducible first|refine ny ?_|refine t_kLF ?_ ?_|refine t_dO 7 (fun _=>false) oMm5_0 fun K=>?_|refine t_dwh (h:=fun K KL=>?_));intros;simp only [go_sem,kp77,geff,g5,he1,gm,gm2,ga,gp,gmin,yes])
        all_goals try exact nd
        refine ⟨fk77,hB _ _ _ (tick s) _ _ (by omega) ⟨by omega,by omega,fun j j0 j1 _=>by omega⟩ (fun e e0 e1 _=>by omega) (fun _=>hgT.le) R1 fun m2 s2 hr2 hg2 h3=>?_⟩
        have e2:s2=tick s:=hr2.det (runs_end (fun q=>by omega))
        subst e2
        repeat' first|(with_reducible first|(refine nx ?_;intros)|refine t_br (fun hc=>?_) fun hc=>?_|apply And.intro|intro vr)|exact kp_fls|exact kpd|((with_reducible first|refine ny ?_|refine t_kLF ?_ ?_|refine t_dO 7 (fun _=>false) oMm5_0 fun K=>?_|refine t_dwh (h:=fun K KL=>?_));intros;simp only [go_sem,kp77,geff,yes])
        all_goals try exact nd
        refine ⟨⟨E+1,m2,tick s,by omega,.inl (by omega),hFn,hg2,h3,fun s' h=>hv _ (rO gp' y12 h)⟩,by simp only;omega,?_⟩
        try simp only [updL_nil,updL_cons,delF_top,delF_upd,Nat.reduceEqDiff,reduceIte]
        refine le_ro1 (Nat.le_refl _) (ro_bds (by omega) hbd) ?_ ?_
        ·repeat' (first|exact low_top|(refine low_upd rfl ?_))
        exact lq
     ·have hh:=hF.here hit
      rw [hXX] at hh
      have e10:(q==10)=false:=by simpa using q10
      have e11:(q==11)=false:=by simpa using q11
      have hok:=L1.okM hgT.le hcb hn hA R1.ver
      have Rn:=R1.plain (x:=⟨q,p,a,b,cc,d⟩) L1 he1 hvl i
      have hgn:=hgT.simple hrg
      have haf:=plain_simple (x:=⟨q,p,a,b,cc,d⟩) L1 R1.len R1.ver
      obtain ⟨f,xs,ys,t1,t2,⟨t3,t4,t5,t6⟩,⟨t7,t8⟩,t9,t10⟩:=tab_ok (x:=x) (y:=y) (B:=B) (mt:=mt) hok hrg hrd ⟨q10,q11,hh.1,hh.2⟩
      simp only at t1 t7 t8
      have e0:0+q.toNat*1=q.toNat:=by omega
      have u5:(q.toNat<16)=True:=eq_true (by omega)
      have hsl:=haf.left
      have t9':∀ σ z,closeL1 true σ (xs++[z]++ys)=none:=fun σ z=>by rw [List.append_assoc];exact t9 σ z
      have t11:∀ (ex:List AObj) (k:AV→List AObj→Prop),k (.lit (.bool (plainS ⟨q,p,a,b,cc,d⟩ (stepM m)).2)) (robj x y B mt (plainS ⟨q,p,a,b,cc,d⟩ (stepM m)).1 ex)→EC Tryz.prog f (xs++[opV ⟨q,p,a,b,cc,d⟩]++ys) (robj x y B mt (stepM m) ex) k:=fun ex k h=>by rw [List.append_assoc];exact t10 ex k h
      repeat' first|(with_reducible first|(refine nx ?_;intros)|refine t_br (fun hc=>?_) fun hc=>?_|apply And.intro|intro vr)|exact kp_fls|exact kpd|((with_reducible first|refine ny ?_|refine t_kLF ?_ ?_|refine t_dO 7 (fun _=>false) oMm5_0 fun K=>?_|refine t_dwh (h:=fun K KL=>?_));intros;simp only [go_sem,kp77,geff,g3,g4,hopd,yes])
      all_goals try exact nd
      refine ⟨fk76,step_ec (by omega) ?_⟩
      generalize stepM m=m1 at*
      repeat' first|(with_reducible first|(refine nx ?_;intros)|refine t_br (fun hc=>?_) fun hc=>?_|apply And.intro|intro vr)|exact kp_fls|exact kpd|((with_reducible first|refine ny ?_|refine t_kLF ?_ ?_|refine t_dO 7 (fun _=>false) oMm5_0 fun K=>?_|refine t_dwh (h:=fun K KL=>?_));intros;simp only [go_sem,kp77,geff,g5,he1,e10,e11,e0,t1,t9',u5,yes])
      all_goals try exact nd
      refine ⟨t2,t11 _ _ ?_⟩
      cases hq:(plainS ⟨q,p,a,b,cc,d⟩ m1).2 with
      |true=>
       have hf:(simpleS ⟨q,p,a,b,cc,d⟩ (tick s)).failed=false:=by rw [haf.ok,hq];rfl
       rw [hq,if_pos rfl,hf,if_neg (by simp)] at Rn
       have rS:=fun {s':St} hk=>runs_simple (B:=B) (mt:=mt) (seen:=[]) (i:=i) (to:=to) (s:=s) (s':=s') ⟨hit,hst⟩ (by rw [hXX];exact q10) (by rw [hXX];exact q11) hk
       rw [look_nil,hXX,hf,if_neg (by simp)] at rS
       generalize (plainS ⟨q,p,a,b,cc,d⟩ m1).1=m2 at*
       generalize simpleS ⟨q,p,a,b,cc,d⟩ (tick s)=s2 at*
       repeat' first|(with_reducible first|(refine nx ?_;intros)|refine t_br (fun hc=>?_) fun hc=>?_|apply And.intro|intro vr)|exact kp_fls|exact kpd|((with_reducible first|refine ny ?_|refine t_kLF ?_ ?_|refine t_dO 7 (fun _=>false) oMm5_0 fun K=>?_|refine t_dwh (h:=fun K KL=>?_));intros;simp only [go_sem,kp77,geff,hq,yes])
       all_goals try exact nd
       refine ⟨⟨i+1,m2,s2,by omega,.inl (by omega),hF.step ⟨by rw [hXX];exact q10,by rw [hXX];exact q11⟩ hit,fun _=>hgn,Rn,fun s' h=>hv _ (rS h)⟩,by simp only;omega,?_⟩
       try simp only [updL_nil,updL_cons,delF_top,delF_upd,Nat.reduceEqDiff,reduceIte]
       refine le_ro1 (Nat.le_refl _) (ro_bds (by omega) hbd) ?_ ?_
       ·repeat' (first|exact low_top|(refine low_upd rfl ?_))
       exact lq
      |false=>
       have hf:(simpleS ⟨q,p,a,b,cc,d⟩ (tick s)).failed=true:=by rw [haf.ok,hq];rfl
       rw [hq,if_neg (by simp),if_pos hf] at Rn
       have rS:=fun {s':St} hk=>runs_simple (B:=B) (mt:=mt) (seen:=[]) (i:=i) (to:=to) (s:=s) (s':=s') ⟨hit,hst⟩ (by rw [hXX];exact q10) (by rw [hXX];exact q11) hk
       rw [look_nil,hXX,if_pos hf] at rS
       have hgn':Gd n A c {simpleS ⟨q,p,a,b,cc,d⟩ (tick s) with at_:=i}:=⟨hgn.1,hgn.2,hgn.3,hgn.4,hgn.5,hgn.6,hgn.7⟩
       generalize (plainS ⟨q,p,a,b,cc,d⟩ m1).1=m2 at*
       generalize simpleS ⟨q,p,a,b,cc,d⟩ (tick s)=s2 at*
       repeat' first|(with_reducible first|(refine nx ?_;intros)|refine t_br (fun hc=>?_) fun hc=>?_|apply And.intro|intro vr)|exact kp_fls|exact kpd|((with_reducible first|refine ny ?_|refine t_kLF ?_ ?_|refine t_dO 7 (fun _=>false) oMm5_0 fun K=>?_|refine t_dwh (h:=fun K KL=>?_));intros;simp only [go_sem,kp77,geff,hq,yes])
       all_goals try exact nd
       refine ⟨fk78,fail_ec ?_⟩
       repeat' first|(with_reducible first|(refine nx ?_;intros)|refine t_br (fun hc=>?_) fun hc=>?_|apply And.intro|intro vr)|exact kp_fls|exact kpd|((with_reducible first|refine ny ?_|refine t_kLF ?_ ?_|refine t_dO 7 (fun _=>false) oMm5_0 fun K=>?_|refine t_dwh (h:=fun K KL=>?_));intros;simp only [go_sem,kp77,geff,yes])
       all_goals try exact nd
       refine ⟨⟨i+1,failM m2 i 22,{s2 with at_:=i},by omega,.inl (by omega),hF.step ⟨by rw [hXX];exact q10,by rw [hXX];exact q11⟩ hit,fun _=>hgn',Rn,fun s' h=>hv _ (rS h)⟩,by simp only;omega,?_⟩
       try simp only [updL_nil,updL_cons,delF_top,delF_upd,Nat.reduceEqDiff,reduceIte]
       refine le_ro1 (Nat.le_refl _) (ro_bds (by omega) hbd) ?_ ?_
       ·repeat' (first|exact low_top|(refine low_upd rfl ?_))
       exact lq
    ·have g5:decide ((stepM m).e=0)=false:=decide_eq_false he1
     have hrel:=R1.rel
     have e3:(stepM m).e=3:=by
       rcases hrel with q|q|q
       ·exact absurd q.1 he1
       ·exact q.1
       ·have:=L.fl
        have q2:s.failed=true:=q.2.2.1
        rw [this] at q2;cases q2
     have hl0:(tick s).left≤0:=by
       rcases hrel with q|q|q
       ·exact absurd q.1 he1
       ·exact q.2
       ·rw [e3] at q;exact absurd q.1 (by decide)
     have hrun:=endR_runs (B:=B) (mt:=mt) (seen:=[]) (t:= .blk i to) (s:=s)
     have hlt:=runs_tick hit hst hrun
     have hl1:(endR B mt [] (.blk i to) s).left≤0:=by
       have:(tick s).left=s.left - 1:=rfl
       omega
     repeat' first|(with_reducible first|(refine nx ?_;intros)|refine t_br (fun hc=>?_) fun hc=>?_|apply And.intro|intro vr)|exact kp_fls|exact kpd|((with_reducible first|refine ny ?_|refine t_kLF ?_ ?_|refine t_dO 7 (fun _=>false) oMm5_0 fun K=>?_|refine t_dwh (h:=fun K KL=>?_));intros;simp only [go_sem,kp77,geff,g3,g4,hopd,yes])
     all_goals try exact nd
     refine ⟨fk76,step_ec (by omega) ?_⟩
     generalize stepM m=m1 at*
     repeat' first|(with_reducible first|(refine nx ?_;intros)|refine t_br (fun hc=>?_) fun hc=>?_|apply And.intro|intro vr)|exact kp_fls|exact kpd|((with_reducible first|refine ny ?_|refine t_kLF ?_ ?_|refine t_dO 7 (fun _=>false) oMm5_0 fun K=>?_|refine t_dwh (h:=fun K KL=>?_));intros;simp only [go_sem,kp77,geff,g5,yes])
     all_goals try exact nd
     all_goals (refine nl ?_;simp only [go_sem,finE])
     exact ⟨_,_,rfl,LeA.refl _,ro_bds (by omega) hbd,h5 m1 _ (hv _ hrun) (fun e=>absurd e he1) ⟨R1.len,R1.ver,R1.st,.inr (.inl ⟨e3,hl1⟩)⟩⟩
   ·have g4:decide (m.e=0)=false:=decide_eq_false he
    repeat' first|(with_reducible first|(refine nx ?_;intros)|refine t_br (fun hc=>?_) fun hc=>?_|apply And.intro|intro vr)|exact kp_fls|exact kpd|((with_reducible first|refine ny ?_|refine t_kLF ?_ ?_|refine t_dO 7 (fun _=>false) oMm5_0 fun K=>?_|refine t_dwh (h:=fun K KL=>?_));intros;simp only [go_sem,kp77,geff,g3,g4,yes])
    all_goals try exact nd
    all_goals (refine nl ?_;simp only [go_sem,finE])
    exact ⟨_,_,rfl,LeA.refl _,ro_bds (by omega) hbd,h5 m s (hv _ (runs_end (fun q=>by rw [hr.stop he] at q;cases q.2))) hg hr⟩
  ·have g3:decide (i<to)=false:=decide_eq_false (by omega)
   repeat' first|(with_reducible first|(refine nx ?_;intros)|refine t_br (fun hc=>?_) fun hc=>?_|apply And.intro|intro vr)|exact kp_fls|exact kpd|((with_reducible first|refine ny ?_|refine t_kLF ?_ ?_|refine t_dO 7 (fun _=>false) oMm5_0 fun K=>?_|refine t_dwh (h:=fun K KL=>?_));intros;simp only [go_sem,kp77,geff,g3,yes])
   all_goals try exact nd
   all_goals (refine nl ?_;simp only [go_sem,finE])
   exact ⟨_,_,rfl,LeA.refl _,ro_bds (by omega) hbd,h5 m s (hv _ (runs_end (fun q=>by omega))) hg hr⟩
set_option maxHeartbeats 4000000 in
theorem blk_base:BlkM x y B mt n A c 0:=by
  intro i to m s ex k h1 h2 hF hg hr h5
  refine ec_fin fun hbd=>?_
  rw [ro_len] at hbd
  have h20:=h2.1
  refine ecR M5_ok (kp77) Tryz.func77 [] (h:=fun KF=>?_)
  unfold M5
  with_reducible repeat' first|(refine nx ?_;intros)|apply And.intro|intro vr|(refine ny ?_;intros;simp only [go_sem,kp77,geff])
  all_goals try exact nd
  refine t_loopF (ι:=Unit) (fun _=>[(8,.lit (.int .i64 i))]) (fun _=>robj x y B mt m ex) (fun _=>0) () ?_ ?_
  ·exact lf
  rintro ⟨⟩ K0
  have g3:decide (i<to)=false:=decide_eq_false (by omega)
  with_reducible repeat' first|(refine nx ?_;intros)|apply And.intro|intro vr|(refine ny ?_;intros;simp only [go_sem,kp77,geff,g3])
  all_goals try exact nd
  all_goals (refine nl ?_;simp only [go_sem,finE])
  exact ⟨_,_,rfl,LeA.refl _,ro_bds (by omega) hbd,h5 m s (runs_end (fun q=>by omega)) hg hr⟩
theorem blk_all (hK:Wk B mt n) (hF0:Fre B mt 0 B.ops.length) (hcb:c≤1000000) (hA:A≤1048576):∀ N:Nat,BlkM x y B mt n A c N
  |0=>blk_base
  |N+1=>blk_step hK hF0 hcb hA (blk_all hK hF0 hcb hA N)
end
end Go.Proofs.YtnlimcijgpaegaaGreat.Mm

namespace Go.Proofs.YtnlimcijgpaegaaGreat.Mm
open Go.Proofs.YtnlimcijgpaegaaGreat
open Go Go.Fw Bm
set_option maxRecDepth 20000
section
variable {x y:AObj} {B:Prg} {mt:List Int} {n A:Nat} {c:Int} {m:MS} {s:St} {ex:List AObj} {σ:List AObj} {k:AV→List AObj→Prop}
abbrev oMm6_0:List (Nat×Nat):=[(0,1),(2,1),(3,1),(4,1),(5,1),(7,1),(8,1),(10,1),(11,1),(12,1),(13,1),(14,1),(15,1),(16,1),(17,1),(18,1),(19,1),(20,1),(22,1),(1,0),(6,0),(9,0),(21,0),(23,1),(24,0)]
abbrev oMm6_1:List (Nat×Nat):=[(0,2),(1,2),(2,2),(3,2),(4,2),(5,2),(6,2),(7,0)]
attribute [go_sem] oMm6_0 oMm6_1
set_option maxHeartbeats 4000000 in
theorem set_ec {g:FuncId} {ys:List AV} (hk:k (.fn (.func 148) [] [.ref (σ.length+1) 0,.ref σ.length 0]) (σ++[.box 57 [.ref 5 0],.box 170 [.fn (.func g) [] ys]])):EC Tryz.prog 115 [.ref 5 0,.fn (.func g) [] ys] σ k:=by
  refine ecR M5_ok (kp115) Tryz.func115 [.tmp 4] (h:=fun KF=>?_)
  unfold M5
  with_reducible repeat' first|(refine nx ?_;intros)|refine t_br (fun hc=>?_) fun hc=>?_|refine t_bx ?_|apply And.intro|intro vr|((first|refine ny ?_|refine t_dwh (h:=fun K KL=>?_));intros;simp only [go_sem,kp115,geff,List.append_assoc,List.cons_append,List.nil_append,List.length_append,List.length_cons,List.length_nil,yes])
  all_goals try exact nd
  all_goals (refine nl ?_;simp only [go_sem,List.append_assoc,List.cons_append,List.nil_append])
  exact hk
theorem kp_8 {a0 a1 a2 a3 a4 a5 a6 a7:AObj} {a8:AObj} {l l':List AObj}:Kp (fun i=>i==8) (a0::a1::a2::a3::a4::a5::a6::a7::a8::l) (a0::a1::a2::a3::a4::a5::a6::a7::a8::l'):=fun o t cs hD ho=>by
  have e:o=8:=by simpa using hD
  subst e
  exact ho
set_option maxHeartbeats 8000000 in
theorem plain_ec (hk:k (.agg tabL) (mobj x y B mt m [.box 57 [.ref 5 0],.box 57 [.ref 5 0],.box 127 tabL,.box 57 [.ref 5 0],.box 170 [.fn (.func 116) [] []],.box 57 [.ref 5 0],.box 170 [.fn (.func 118) [] [.ref 8 0]],.box 57 [.ref 5 0],.box 170 [.fn (.func 119) [] [.ref 8 0]],.box 57 [.ref 5 0],.box 170 [.fn (.func 125) [] [.ref 8 0]]])):
    EC Tryz.prog 74 [.ref 5 0] (mobj x y B mt m [.box 57 [.ref 5 0]]) k:=by
  unfold mobj
  refine ecR M5_ok (kp74) Tryz.func74 [.cell 2 127] (h:=fun KF=>?_)
  unfold M5
  repeat' first|(with_reducible first|(refine nx ?_;intros)|apply And.intro|intro vr)|exact kp_8|exact kpd|((with_reducible first|refine ny ?_|refine t_kLF ?_ ?_|refine t_dO 1 (fun i=>i==8) oMm6_0 fun K=>?_);intros;simp only [go_sem,kp74,geff,yes])
  all_goals try exact nd
  refine ⟨fk115,set_ec ?_⟩
  repeat' first|(with_reducible first|(refine nx ?_;intros)|apply And.intro|intro vr)|exact kp_8|exact kpd|((with_reducible first|refine ny ?_|refine t_kLF ?_ ?_|refine t_dO 1 (fun i=>i==8) oMm6_0 fun K=>?_);intros;simp only [go_sem,kp74,geff,List.cons_append,List.nil_append,yes])
  all_goals try exact nd
  refine ⟨fk115,set_ec ?_⟩
  repeat' first|(with_reducible first|(refine nx ?_;intros)|apply And.intro|intro vr)|exact kp_8|exact kpd|((with_reducible first|refine ny ?_|refine t_kLF ?_ ?_|refine t_dO 1 (fun i=>i==8) oMm6_0 fun K=>?_);intros;simp only [go_sem,kp74,geff,List.cons_append,List.nil_append,yes])
  all_goals try exact nd
  refine ⟨fk115,set_ec ?_⟩
  repeat' first|(with_reducible first|(refine nx ?_;intros)|apply And.intro|intro vr)|exact kp_8|exact kpd|((with_reducible first|refine ny ?_|refine t_kLF ?_ ?_|refine t_dO 1 (fun i=>i==8) oMm6_0 fun K=>?_);intros;simp only [go_sem,kp74,geff,List.cons_append,List.nil_append,yes])
  all_goals try exact nd
  refine ⟨fk115,set_ec ?_⟩
  repeat' first|(with_reducible first|(refine nx ?_;intros)|apply And.intro|intro vr)|exact kp_8|exact kpd|((with_reducible first|refine ny ?_|refine t_kLF ?_ ?_|refine t_dO 1 (fun i=>i==8) oMm6_0 fun K=>?_);intros;simp only [go_sem,kp74,geff,List.cons_append,List.nil_append,yes])
  all_goals try exact nd
  all_goals (refine nl ?_;simp only [go_sem])
  exact hk
theorem mo_bds {n:Nat} {m':MS} (hn:7≤n) (h:BdS n (mobj x y B mt m ex)):BdS n (mobj x y B mt m' ex):=fun o t cs ho=>by
  rcases o with _|_|_|_|_|_|_|o
  ·exact h 0 t cs ho
  ·exact h 1 t cs ho
  ·exact h 2 t cs ho
  ·cases ho
  ·cases ho
  ·exact stO_bd (m:=m') hn 0 t cs ho
  ·cases ho
  ·exact h (o+7) t cs ho
def zerM (t:TypeId):AV:=if t=129 then .lit .nilFunc else if t=130 then .lit .nilFunc else zer t
theorem zM172:zerM 129= .lit .nilFunc:=rfl
theorem zM182:zerM 130= .lit .nilFunc:=rfl
theorem zM180:zerM 127=zer 127:=rfl
theorem iz129:(zeroT Tryz.prog 129).isSome=true:=by kernel_rfl
theorem iz130:(zeroT Tryz.prog 130).isSome=true:=by kernel_rfl
theorem zerM_ok:∀ t v,zeroT Tryz.prog t=some v→RC (fun _ _=>none) (zerM t) v:=fun t v h=>by
  unfold zerM
  by_cases e:t=129
  ·subst e
   rw [if_pos rfl]
   rw [show zeroT Tryz.prog 129=some .nilFunc from by kernel_rfl] at h
   cases h;exact .lit _
  ·rw [if_neg e]
   by_cases e2:t=130
   ·subst e2
    rw [if_pos rfl]
    rw [show zeroT Tryz.prog 130=some .nilFunc from by kernel_rfl] at h
    cases h;exact .lit _
   ·rw [if_neg e2];exact zer_ok t v h
attribute [go_sem] zM172 zM182 zM180 iz129 iz130
noncomputable def M6:Env:=envU Tryz.prog jkR zerM (fun _=>false) (fun _=>false) []
theorem M6_ok:EnvOk Tryz.prog M6:=envUOk zerM_ok
theorem setT:setRange [.lit .nilFunc,.lit .nilFunc,.lit .nilFunc,.lit .nilFunc,.lit .nilFunc,.lit .nilFunc,.lit .nilFunc,.lit .nilFunc,.lit .nilFunc,.lit .nilFunc,.lit .nilFunc,.lit .nilFunc,.lit .nilFunc,.lit .nilFunc,.lit .nilFunc,.lit .nilFunc] 0 tabL=tabL:=rfl
theorem solNil:(AV.lit Value.nilFunc).solid=true:=rfl
theorem stO_eq:stO B mt m= .box 62 [.lit (.int .i64 B.regs),.lit (.int .i64 B.arena),.sl false 6 (opsV B.ops),.sl false 2 (plsV B.ins),.sl false 2 (plsV B.outs),.sl false 3 (arrs B.types),.sl false 1 (ints .i64 mt),.arr 3 0,.arr 4 0,
  .lit (.int .i64 m.reads),.lit (.int .i64 m.writes),.lit (.int .i64 m.ops),.lit (.int .i64 m.peak),.arr 6 m.vb,.lit (.int .i64 m.steps),.lit (.int .i64 m.at_),.lit (.int .i64 m.e)]:=rfl
set_option maxHeartbeats 8000000 in
theorem run_ec (hK:Wk B mt n) (hF0:Fre B mt 0 B.ops.length) (hcb:c≤1000000) (hA:A≤1048576) (hg:m.e=0→Gd n A c s) (hr:Rp n m s)
    (hk:∀ m' s',Runs B mt [] (.blk 0 B.ops.length) s s'→(m'.e=0→Gd n A c s')→Rp n m' s'→k (.tup []) (mobj x y B mt m' [])):EC Tryz.prog 48 [.ref 5 0] (mobj x y B mt m []) k:=by
  refine ec_fin fun hbd=>?_
  have hL:=hK.len
  have hcl:Cl B mt 0 B.ops.length:=⟨Int.le_refl _,Int.le_refl _,fun j j0 j1 j2=>(hK.nest.at j0 j1 j2).2.1⟩
  refine ecR M6_ok (kp48) Tryz.func48 [] (h:=fun KF=>?_)
  unfold M6
  unfold mobj
  repeat' first|(with_reducible first|(refine nx ?_;intros)|apply And.intro|intro vr)|exact kp_8|exact kp_fls|exact kpd|((with_reducible first|refine ny ?_|refine t_kLF ?_ ?_|refine t_dO 5 (fun _=>false) oMm6_1 fun K=>?_);intros;simp only [go_sem,kp48,geff,yes])
  all_goals try exact nd
  refine ⟨fk74,plain_ec ?_⟩
  unfold mobj
  repeat' first|(with_reducible first|(refine nx ?_;intros)|apply And.intro|intro vr)|exact kp_8|exact kp_fls|exact kpd|((with_reducible first|refine ny ?_|refine t_kLF ?_ ?_|refine t_dO 5 (fun _=>false) oMm6_1 fun K=>?_);intros;simp only [go_sem,kp48,geff,setT,solNil,stO_eq,List.cons_append,List.nil_append,yes])
  all_goals try exact nd
  refine ⟨fk77,blk_all (x:=x) (y:=y) (n:=n) (A:=A) (c:=c) hK hF0 hcb hA B.ops.length 0 B.ops.length m s [] _ (by omega) hcl hF0 hg hr fun m2 s2 hr2 hg2 h2=>?_⟩
  repeat' first|(with_reducible first|(refine nx ?_;intros)|apply And.intro|intro vr)|exact kp_8|exact kp_fls|exact kpd|((with_reducible first|refine ny ?_|refine t_kLF ?_ ?_|refine t_dO 5 (fun _=>false) oMm6_1 fun K=>?_);intros;simp only [go_sem,kp48,geff,yes])
  all_goals try exact nd
  all_goals (refine nl ?_;simp only [go_sem,finE])
  exact ⟨_,_,rfl,LeA.refl _,mo_bds (Nat.le_refl _) hbd,hk m2 s2 hr2 hg2 h2⟩
end
end Go.Proofs.YtnlimcijgpaegaaGreat.Mm

namespace Go.Proofs.YtnlimcijgpaegaaGreat
open Go Go.Fw
set_option maxRecDepth 20000
set_option maxRecDepth 20000
attribute [go_sem] con46_f con46_c arrOf_agg slK_sl
noncomputable def E75:Env:=envJ (P:=Tryz.prog) jk zer (fun _=>false) (fun _=>false) [con46] []
theorem E75_ok:EnvOk Tryz.prog E75:=envJOk zer_ok
theorem inval_pc {a:Arr} (h:okA a):PC Tryz.prog 45 [arrV a] (.lit (.bool (!(ofE a==0)))):=by
  obtain ⟨h1,h2⟩:=h
  simp only [arrV]
  refine pcR E75_ok (kp45) Tryz.func45 [.tmp 2] (h:=fun KF=>?_)
  unfold E75
  with_reducible repeat' first|(refine nx ?_;intros)|apply And.intro|intro vr|(refine ny ?_;intros;simp only [go_sem,kp45,geff])
  all_goals try exact nd
  all_goals (refine nl ?_;simp only [go_sem])
  exact LeA.refl _
noncomputable def con45:PCon Tryz.prog where
  f:=45
  c:=fun
   |[xa]=>match arrOf xa with|some a=>some (okA a,.lit (.bool (!(ofE a==0))))|_=>none
   |_=>none
  ok:=by
   intro args p r hc hp
   split at hc
   ·split at hc
    ·rename_i ha
     cases hc
     exact PC.weak (inval_pc hp) ⟨arrOf_le ha,trivial⟩
    ·cases hc
   ·cases hc
  fk:=fk45
theorem con45_f:con45.f=45:=rfl
theorem con45_c {xa:AV}:con45.c [xa]=match arrOf xa with|some a=>some (okA a,.lit (.bool (!(ofE a==0))))|_=>none:=rfl
def idxA (p:Arr→Bool):List Arr→Int→Int
  |[],_=> -1
  |d::t,i=>if p d=true then i else idxA p t (i+1)
theorem idxA_any (p:Arr→Bool):∀ (l:List Arr) (i:Int),0≤i→decide (idxA p l i≥0)=l.any p
  |[],_,_=>rfl
  |d::t,i,hi=>by
   unfold idxA
   by_cases h:p d=true
   ·rw [if_pos h,List.any_cons,h,decide_eq_true hi];rfl
   ·rw [if_neg h,idxA_any p t (i+1) (by omega),List.any_cons]
    simp only [Bool.not_eq_true] at h
    rw [h];rfl
def invA (a:Arr):Bool:= !(ofE a==0)
noncomputable def E76:Env:=envJ (P:=Tryz.prog) jk zer (fun _=>false) (fun _=>false) [con45] []
theorem E76_ok:EnvOk Tryz.prog E76:=envJOk zer_ok
attribute [go_sem] con45_f con45_c
theorem idxa_pc {l:List Arr} (hl:l.length≤1000000) (hk:∀ a∈l,okA a):PC Tryz.prog 72 [.sl false 3 (arrs l),.fn (.func 45) [] []] (.lit (.int .i64 (idxA invA l 0))):=by
  generalize hR:idxA invA l 0=R
  refine pcR E76_ok (kp72) Tryz.func72 [.tmp 4] (h:=fun KF=>?_)
  unfold E76
  with_reducible repeat' first|(refine nx ?_;intros)|apply And.intro|intro vr|(refine ny ?_;intros;simp only [go_sem,kp72,geff,arrs_length])
  all_goals try exact nd
  refine t_loopF (ι:={i:Nat // i≤l.length∧idxA invA (l.drop i) i=R}) (fun i=>[(8,.lit (.int .i64 i.1))]) (fun i=>[]) (fun i=>l.length - i.1) ⟨0,by omega,hR⟩ ?_ ?_
  ·exact lf
  rintro ⟨i,hi,hF⟩ K0
  rcases Nat.lt_or_ge i l.length with hc|hc
  ·rw [drop_getD nilA hc,idxA] at hF
   have g3:decide ((i:Int)<(l.length:Int))=true:=decide_eq_true (by omega)
   have hm:okA (l.getD i nilA):=hk _ (getD_mem nilA hc)
   cases h4:(ofE (l.getD i nilA)==0) with
   |true=>
    rw [if_neg (by unfold invA;rw [h4];decide)] at hF
    with_reducible repeat' first|(refine nx ?_;intros)|apply And.intro|intro vr|(refine ny ?_;intros;simp only [go_sem,kp72,geff,g3,Int.toNat_natCast,arrs_length,arrV,arrOf_agg,slK_sl,h4,Bool.not_true])
    all_goals try exact nd
    exact ⟨⟨i+1,by omega,by rw [←hF];congr 1⟩,wf,lf⟩
   |false=>
    rw [if_pos (by unfold invA;rw [h4];decide)] at hF
    with_reducible repeat' first|(refine nx ?_;intros)|apply And.intro|intro vr|(refine ny ?_;intros;simp only [go_sem,kp72,geff,g3,Int.toNat_natCast,arrs_length,arrV,arrOf_agg,slK_sl,h4,Bool.not_false])
    all_goals try exact nd
    all_goals (refine nl ?_;simp only [go_sem])
    exact LeA.of_eq (by rw [←hF])
  ·have g3:decide ((i:Int)<(l.length:Int))=false:=decide_eq_false (by omega)
   rw [List.drop_eq_nil_of_le (by omega),idxA] at hF
   with_reducible repeat' first|(refine nx ?_;intros)|apply And.intro|intro vr|(refine ny ?_;intros;simp only [go_sem,kp72,geff,g3,Int.toNat_natCast,arrs_length])
   all_goals try exact nd
   all_goals (refine nl ?_;simp only [go_sem])
   exact LeA.of_eq (by rw [←hF])
noncomputable def con72:PCon Tryz.prog where
  f:=72
  c:=fun
   |[x,.fn (.func 45) [] []]=>match arrsOf x with|some l=>some (l.length≤1000000∧∀ a∈l,okA a,.lit (.int .i64 (idxA invA l 0)))|_=>none
   |_=>none
  ok:=by
   intro args p r hc hp
   split at hc
   ·split at hc
    ·rename_i hx
     cases hc
     exact PC.weak (idxa_pc hp.1 hp.2) ⟨arrsOf_le hx,LeA.refl _,trivial⟩
    ·cases hc
   ·cases hc
  fk:=fk72
theorem con72_f:con72.f=72:=rfl
theorem con72_c {x:AV}:con72.c [x,.fn (.func 45) [] []]=match arrsOf x with|some l=>some (l.length≤1000000∧∀ a∈l,okA a,.lit (.int .i64 (idxA invA l 0)))|_=>none:=rfl
attribute [go_sem] con72_f con72_c
noncomputable def E77:Env:=envJ (P:=Tryz.prog) jk zer (fun _=>false) (fun _=>false) [con72] []
theorem E77_ok:EnvOk Tryz.prog E77:=envJOk zer_ok
theorem anya_pc {l:List Arr} (hl:l.length≤1000000) (hk:∀ a∈l,okA a):PC Tryz.prog 44 [.sl false 3 (arrs l),.fn (.func 45) [] []] (.lit (.bool (l.any invA))):=by
  rw [←idxA_any invA l 0 (by omega)]
  refine pcR E77_ok (kp44) Tryz.func44 [.tmp 4] (h:=fun KF=>?_)
  unfold E77
  with_reducible repeat' first|(refine nx ?_;intros)|apply And.intro|intro vr|(refine ny ?_;intros;simp only [go_sem,kp44,geff,arrsOf_sl])
  all_goals try exact nd
  all_goals try exact hk _ (by assumption)
  all_goals (refine nl ?_;simp only [go_sem])
  exact LeA.refl _
noncomputable def con44:PCon Tryz.prog where
  f:=44
  c:=fun
   |[x,.fn (.func 45) [] []]=>match arrsOf x with|some l=>some (l.length≤1000000∧∀ a∈l,okA a,.lit (.bool (l.any invA)))|_=>none
   |_=>none
  ok:=by
   intro args p r hc hp
   split at hc
   ·split at hc
    ·rename_i hx
     cases hc
     exact PC.weak (anya_pc hp.1 hp.2) ⟨arrsOf_le hx,LeA.refl _,trivial⟩
    ·cases hc
   ·cases hc
  fk:=fk44
theorem con44_f:con44.f=44:=rfl
theorem con44_c {x:AV}:con44.c [x,.fn (.func 45) [] []]=match arrsOf x with|some l=>some (l.length≤1000000∧∀ a∈l,okA a,.lit (.bool (l.any invA)))|_=>none:=rfl
attribute [go_sem] con44_f con44_c
end Go.Proofs.YtnlimcijgpaegaaGreat

namespace Go.Proofs.YtnlimcijgpaegaaGreat.Mm
open Go.Proofs.YtnlimcijgpaegaaGreat
open Go Go.Fw Bm
def fillS (B:Prg):List Arr→Nat→List Int→Int→Int ⊕ (List Int×Int)
  |[],_,ar,pk=> .inr (ar,pk)
  |a::l,i,ar,pk=>if eqS a.e (B.types.getD i nilA).e=false then .inl 12 else if a.d≠(B.types.getD i nilA).d then .inl 14
   else fillS B l (i+1) (putI ar (B.ins.getD i (0,0)).1.toNat a.x) (maxI pk ((B.ins.getD i (0,0)).1+(B.ins.getD i (0,0)).2))
def startS (B:Prg) (ins:List Arr):Int ⊕ (List Int×Int):=
  if (!validS B||(ins.length:Int) !=B.ins.length||ins.any invA)=true then .inl 1 else fillS B ins 0 (List.replicate B.arena.toNat 0) 0
def s0 (B:Prg) (ar:List Int) (pk:Int):St:=⟨List.replicate B.regs.toNat 0,ar,0,0,0,pk,[],200001,false,0,false⟩
def m0 (B:Prg) (ar:List Int) (pk:Int):MS:=⟨List.replicate B.regs.toNat 0,ar,[],0,0,0,0,0,pk,0,0,0⟩
variable {B:Prg} {ar:List Int} {pk:Int} {l:List Arr}
theorem types_at {a:Int}:∀ {l:List Arr} {m:List (Int×Int)} {i:Nat},typesOk a l m=true→i<l.length→i<m.length→typeOk a (l.getD i nilA) (m.getD i (0,0))=true
  |t::ts,p::ps,0,h,_,_=>by
   simp only [typesOk,Bool.and_eq_true] at h;exact h.1
  |t::ts,p::ps,i+1,h,h1,h2=>by
   simp only [typesOk,Bool.and_eq_true] at h
   exact types_at (i:=i) h.2 (by simpa using h1) (by simpa using h2)
  |[],_,_,_,h,_=>by simp at h
  |_::_,[],_,_,_,h=>by simp at h
theorem ofE_inv {a:Arr} (h:invA a=false):(eqS a.e sInt||eqS a.e sBool)=true∧(sizeS a.d).2=0∧(a.x.length:Int)=(sizeS a.d).1∧∀ n∈a.x,vld a.e n=true:=by
  have h:ofE a=0:=by simpa [invA] using h
  unfold ofE at h
  split at h
  ·cases h
  ·rename_i h1
   split at h
   ·rename_i h2;exact absurd h h2
   ·rename_i h2
    split at h
    ·cases h
    ·rename_i h3
     split at h
     ·cases h
     ·rename_i h4
      refine ⟨by revert h1;cases (eqS a.e sInt||eqS a.e sBool)<;>simp,by simpa using h2,by simpa using h3,fun n hn=>?_⟩
      have:a.x.any (fun n=> !vld a.e n)=false:=by simpa using h4
      rw [List.any_eq_false] at this
      simpa using this n hn
theorem vld_int {s:ByteArray} {n:Int} (h:vld s n=true):vld sInt n=true:=by
  unfold vld at h ⊢
  rw [if_pos (by kernel_rfl)]
  split at h
  ·exact h
  ·split at h
   ·have:n=0∨n=1:=by simpa using h
    exact decide_eq_true (by omega)
   ·cases h
theorem putI_mem {P:Int→Prop}:∀ (m l:List Int) (i:Nat),(∀ n∈l,P n)→(∀ n∈m,P n)→∀ n∈putI l i m,P n
  |[],l,i,hl,_=>hl
  |x::m,l,i,hl,hm=>by
   simp only [putI]
   refine putI_mem m _ _ (fun n hn=>?_) (fun n hn=>hm n (by simp [hn]))
   rcases List.mem_or_eq_of_mem_set hn with h|rfl
   ·exact hl n h
   ·exact hm _ (by simp)
structure Fl (B:Prg) (ar:List Int) (pk:Int):Prop where
  len:(ar.length:Int)=B.arena
  words:∀ n∈ar,vld sInt n=true
  pk:0≤pk∧pk≤B.arena
theorem fl_start (h:0≤B.arena):Fl B (List.replicate B.arena.toNat 0) 0:=⟨by simp;omega,fun n hn=>by
  have:=(List.mem_replicate.1 hn).2
  subst this;decide,by omega⟩
structure In1 (B:Prg) (a:Arr) (i:Nat):Prop where
  off:0≤(B.ins.getD i (0,0)).1
  size:(a.x.length:Int)=(B.ins.getD i (0,0)).2
  fit:(B.ins.getD i (0,0)).1+a.x.length≤B.arena
  x:∀ n∈a.x,vld sInt n=true
theorem in1_of {a:Arr} {i:Nat} (hv:validS B=true) (ha:invA a=false) (hi:i<B.ins.length) (hd:a.d=(B.types.getD i nilA).d):In1 B a i:=by
  obtain ⟨_,_,_,_,h5,h6⟩:=valid_inv hv
  obtain ⟨_,a2,a3,a4⟩:=ofE_inv ha
  have ht:=types_at (i:=i) h6 (by omega) (by simp;omega)
  have e:(B.ins++B.outs).getD i (0,0)=B.ins.getD i (0,0):=by simp [List.getD,List.getElem?_append_left hi]
  rw [e] at ht
  simp only [typeOk,Bool.and_eq_true,decide_eq_true_eq] at ht
  obtain ⟨⟨⟨⟨⟨_,t2⟩,t3⟩,t4⟩,t5⟩,t6⟩:=ht
  rw [←hd] at t4 t6
  exact ⟨t5,by omega,by omega,fun n hn=>vld_int (a4 n hn)⟩
theorem Fl.next {a:Arr} {i:Nat} (h:Fl B ar pk) (hi:In1 B a i):Fl B (putI ar (B.ins.getD i (0,0)).1.toNat a.x) (maxI pk ((B.ins.getD i (0,0)).1+(B.ins.getD i (0,0)).2)):=by
  have h1:=hi.off
  have h2:=hi.size
  have h3:=hi.fit
  have h4:=h.pk
  exact ⟨by rw [putI_length];exact h.len,putI_mem _ _ _ h.words hi.x,by unfold maxI;split<;>omega⟩
theorem rp_start (n:Nat) (hn:B.regs.toNat=n):Rp n (m0 B ar pk) (s0 B ar pk):=⟨by simp [m0,hn],rfl,by simp [m0],.inl ⟨rfl,⟨by simp [s0],rfl,rfl,rfl,rfl,rfl,rfl,rfl,rfl,rfl,rfl,by simp [m0]⟩⟩⟩
theorem gd_start (n A:Nat) (hn:B.regs.toNat=n) (hA:B.arena=A) (h:Fl B ar pk):Gd n A 200001 (s0 B ar pk):=by
  have h1:=h.len
  have h2:=h.pk
  refine ⟨by simp [s0,hn],by simp [s0];omega,fun r hr=>?_,h.words,by simp only [s0];omega,by simp [s0],by simp only [s0];omega⟩
  have:=(List.mem_replicate.1 hr).2
  subst this;simp [maxC]
end Go.Proofs.YtnlimcijgpaegaaGreat.Mm

namespace Go.Proofs.YtnlimcijgpaegaaGreat.Mm
open Go.Proofs.YtnlimcijgpaegaaGreat
open Go Go.Fw Bm
set_option maxRecDepth 20000
section
variable {x y u v:AObj} {B:Prg} {mt:List Int} {m:MS} {ex:List AObj}
abbrev oMm7_0:List (Nat×Nat):=[(0,2),(1,2),(2,2),(3,2),(4,2),(5,2),(6,2),(7,2),(8,2),(9,2),(10,2),(11,2),(12,2),(13,0)]
abbrev oMm7_1:List (Nat×Nat):=[(0,1),(1,2),(2,2),(3,2),(4,2),(5,2),(6,2),(7,2),(8,1),(9,2),(10,2),(11,2),(12,2),(13,2),(14,1),(15,2),(16,2),(17,2),(18,1),(19,1),(20,2),(21,2),(22,2),(23,0)]
attribute [go_sem] oMm7_0 oMm7_1
theorem mo_len:(mobj x y B mt m ex).length=ex.length+7:=rfl
theorem mo_2:(mobj x y B mt m ex)[2]? =some (.box 26 [.lit (.int .i64 B.regs),.lit (.int .i64 B.arena),.sl false 6 (opsV B.ops),.sl false 2 (plsV B.ins),.sl false 2 (plsV B.outs),.sl false 3 (arrs B.types)]):=rfl
theorem mo_3:(mobj x y B mt m ex)[3]? =some (.arr 3 1 (ints .i64 m.regs) 0 false):=rfl
theorem mo_4:(mobj x y B mt m ex)[4]? =some (.arr 3 1 (ints .i64 m.arena) 0 false):=rfl
theorem mo_5:(mobj x y B mt m ex)[5]? =some (.box 62 [.lit (.int .i64 B.regs),.lit (.int .i64 B.arena),.sl false 6 (opsV B.ops),.sl false 2 (plsV B.ins),.sl false 2 (plsV B.outs),.sl false 3 (arrs B.types),.sl false 1 (ints .i64 mt),.arr 3 0,.arr 4 0,
  .lit (.int .i64 m.reads),.lit (.int .i64 m.writes),.lit (.int .i64 m.ops),.lit (.int .i64 m.peak),.arr 6 m.vb,.lit (.int .i64 m.steps),.lit (.int .i64 m.at_),.lit (.int .i64 m.e)]):=rfl
theorem mo_6:(mobj x y B mt m ex)[6]? =some (.arr 3 1 (ints .i64 m.viol) m.vv false):=rfl
theorem mo_7:(mobj x y B mt m (u::ex))[7]? =some u:=rfl
theorem mo_8:(mobj x y B mt m (u::v::ex))[8]? =some v:=rfl
theorem mo_app {l:List AObj}:mobj x y B mt m ex++l=mobj x y B mt m (ex++l):=rfl
theorem mo_s4 {l:List Int}:(mobj x y B mt m ex).set 4 (.arr 3 1 (ints .i64 l) 0 false)=mobj x y B mt {m with arena:=l} ex:=rfl
theorem mo_s6 {l:List Int} {k:Nat}:(mobj x y B mt m ex).set 6 (.arr 3 1 (ints .i64 l) k false)=mobj x y B mt {m with viol:=l,vv:=k} ex:=rfl
theorem mo_s5 {c1 c2 c3 c4 c5 c6 c7:Int} {k:Nat}:(mobj x y B mt m ex).set 5 (.box 62 [.lit (.int .i64 B.regs),.lit (.int .i64 B.arena),.sl false 6 (opsV B.ops),.sl false 2 (plsV B.ins),.sl false 2 (plsV B.outs),.sl false 3 (arrs B.types),.sl false 1 (ints .i64 mt),.arr 3 0,.arr 4 0,
  .lit (.int .i64 c1),.lit (.int .i64 c2),.lit (.int .i64 c3),.lit (.int .i64 c4),.arr 6 k,.lit (.int .i64 c5),.lit (.int .i64 c6),.lit (.int .i64 c7)])=mobj x y B mt {m with reads:=c1,writes:=c2,ops:=c3,peak:=c4,vb:=k,steps:=c5,at_:=c6,e:=c7} ex:=rfl
theorem mo_s7:(mobj x y B mt m (u::ex)).set 7 v=mobj x y B mt m (v::ex):=rfl
end
attribute [go_sem] mo_len mo_2 mo_3 mo_4 mo_5 mo_6 mo_7 mo_8 mo_app mo_s4 mo_s6 mo_s5 mo_s7
theorem BdS.app {n n':Nat} {σ l:List AObj} (h:BdS n σ) (hn:n≤n') (hl:l.all (lowO n')=true):BdS n' (σ++l):=fun o t cs ho=>by
  rcases Nat.lt_or_ge o σ.length with c|c
  ·rw [List.getElem?_append_left c] at ho
   intro i hi G v hG hr
   have:=h o t cs ho i hi G v (by omega) hr
   exact this.mono ⟨CLe.refl _,hn,fun _ _=>Nat.le_refl _,fun _ _ _=>rfl,fun _ _ _=>rfl⟩
  ·rw [List.getElem?_append_right c] at ho
   exact bds_low hl (o - σ.length) t cs ho
theorem ec_bds {P:Program} {f:FuncId} {args:List AV} {σ:List AObj} {k:AV→List AObj→Prop} (h:BdS σ.length σ→EC P f args σ k):EC P f args σ k:=fun cx G w vs hr hl=>h hr.bds cx G w vs hr hl
section
variable {x y u:AObj} {B:Prg} {mt:List Int} {m:MS} {k:AV→List AObj→Prop} {ins:List Arr}
theorem bd3 (h:BdS 2 [x,y]):BdS 3 [x,y,bxB B]:=BdS.app (σ:=[x,y]) (l:=[bxB B]) h (by omega) (by simp [lowO,bxB,low_lit,low_sl])
theorem bd7 (h:BdS 2 [x,y]):BdS 7 (mobj x y B mt m []):=BdS.app (σ:=[x,y]) h (by omega) (by simp [lowO,bxB,stO,low_lit,low_sl,low_arr])
theorem le_mo1 {n0:Nat} {f g:Nat→AV} (hn:n0≤7) (hb:BdS 2 [x,y]) (hg:∀ j,low1 7 (g j)=true) (h:∀ j,LeR (f j) (g j)):Le n0 ⟨f,mobj x y B mt m [u]⟩ ⟨g,mobj x y B mt m []⟩:=
  le_backB (l:=mobj x y B mt m []) (m:=[u]) rfl hn (bd7 hb) hg h
theorem rep_ints (n:Nat):List.replicate n (AV.lit (.int .i64 0))=ints .i64 (List.replicate n 0):=by simp [ints]
theorem kp_2 {a0 a1 a2:AObj} {l l':List AObj}:Kp (fun i=>i==2) (a0::a1::a2::l) (a0::a1::a2::l'):=fun o t cs hD ho=>by
  have e:o=2:=by simpa using hD
  subst e
  exact ho
theorem kp_mo2 {m':MS} {l l':List AObj}:Kp (fun i=>i==2) (mobj x y B mt m l) (mobj x y B mt m' l'):=kp_2
noncomputable def M7:Env:=envU Tryz.prog jkR zer (fun _=>false) (fun _=>false) [con20,con31,con44,con47]
theorem M7_ok:EnvOk Tryz.prog M7:=envUOk zer_ok
attribute [go_sem] con47_f con47_c
theorem m0ar {ar:List Int} {pk:Int}:(m0 B ar pk).arena=ar:=rfl
theorem m0pk {ar:List Int} {pk:Int}:(m0 B ar pk).peak=pk:=rfl
structure Fq (B:Prg) (ins:List Arr) where
  i:Nat
  ar:List Int
  pk:Int
  hi:i≤ins.length
  hf:Fl B ar pk
  hq:startS B ins=fillS B (ins.drop i) i ar pk
set_option maxHeartbeats 8000000 in
theorem start_ec (hO:OkB B∧B.ins.length≤100000∧B.outs.length≤100000) (hi:ins.length≤1000000∧∀ a∈ins,okA a)
    (hk1:∀ e σ',startS B ins= .inl e→k (.tup [.lit (.pointer none),.lit (.int .i64 e)]) (x::y::σ'))
    (hk2:∀ mt ar pk m' s',startS B ins= .inr (ar,pk)→validS B=true→matchS B.ops=some mt→Fl B ar pk→Runs B mt [] (.blk 0 B.ops.length) (s0 B ar pk) s'→Rp B.regs.toNat m' s'→(m'.e=0→Gd B.regs.toNat B.arena.toNat 200001 s')→k (.tup [.ref 5 0,.lit (.int .i64 m'.e)]) (mobj x y B mt m' [])):
    EC Tryz.prog 23 [bcV B,.sl false 3 (arrs ins)] [x,y] k:=by
  refine ec_bds fun hbd=>?_
  obtain ⟨hO,hi1,hi2⟩:=hO
  obtain ⟨hn1,hn2⟩:=hi
  simp only [bcV]
  cases hv:validS B with
  |false=>
   have e:startS B ins= .inl 1:=by unfold startS;rw [hv];rfl
   have hk:=fun σ'=>hk1 1 σ' e
   refine ecR M7_ok (kp23) Tryz.func23 [.tmp 4,.tmp 5] (h:=fun KF=>?_)
   unfold M7
   repeat' first|(with_reducible first|(refine nx ?_;intros)|apply And.intro|intro vr)|exact kp_fls|exact kp_2|exact kp_mo2|exact kpd|((with_reducible first|refine ny ?_|refine t_kLF ?_ ?_|refine t_dO 12 (fun _=>false) oMm7_0 fun K=>?_|refine t_dO 13 (fun _=>false) oMm7_1 fun K=>?_|refine t_dwh (h:=fun K KL=>?_));intros;simp only [go_sem,kp23,geff,bcOf_B,hv,Bool.not_false,List.cons_append,List.nil_append,yes])
   all_goals try exact nd
   all_goals (refine nl ?_;simp only [go_sem])
   exact hk _
  |true=>
   cases hl:((ins.length:Int) !=B.ins.length) with
   |true=>
    have e:startS B ins= .inl 1:=by unfold startS;rw [hv,hl];rfl
    have hk:=fun σ'=>hk1 1 σ' e
    refine ecR M7_ok (kp23) Tryz.func23 [.tmp 4,.tmp 5] (h:=fun KF=>?_)
    unfold M7
    repeat' first|(with_reducible first|(refine nx ?_;intros)|apply And.intro|intro vr)|exact kp_fls|exact kp_2|exact kp_mo2|exact kpd|((with_reducible first|refine ny ?_|refine t_kLF ?_ ?_|refine t_dO 12 (fun _=>false) oMm7_0 fun K=>?_|refine t_dO 13 (fun _=>false) oMm7_1 fun K=>?_|refine t_dwh (h:=fun K KL=>?_));intros;simp only [go_sem,kp23,geff,bcOf_B,hv,hl,Bool.not_true,List.cons_append,List.nil_append,yes])
    all_goals try exact nd
    all_goals (refine nl ?_;simp only [go_sem])
    exact hk _
   |false=>
    cases ha:ins.any invA with
    |true=>
     have e:startS B ins= .inl 1:=by unfold startS;rw [hv,hl,ha];rfl
     have hk:=fun σ'=>hk1 1 σ' e
     refine ecR M7_ok (kp23) Tryz.func23 [.tmp 4,.tmp 5] (h:=fun KF=>?_)
     unfold M7
     repeat' first|(with_reducible first|(refine nx ?_;intros)|apply And.intro|intro vr)|exact kp_fls|exact kp_2|exact kp_mo2|exact kpd|((with_reducible first|refine ny ?_|refine t_kLF ?_ ?_|refine t_dO 12 (fun _=>false) oMm7_0 fun K=>?_|refine t_dO 13 (fun _=>false) oMm7_1 fun K=>?_|refine t_dwh (h:=fun K KL=>?_));intros;simp only [go_sem,kp23,geff,bcOf_B,hv,hl,ha,Bool.not_true,List.cons_append,List.nil_append,yes])
     all_goals try exact nd
     all_goals try exact hn2 _ (by assumption)
     all_goals (refine nl ?_;simp only [go_sem])
     exact hk _
    |false=>
     have e:startS B ins=fillS B ins 0 (List.replicate B.arena.toNat 0) 0:=by unfold startS;rw [hv,hl,ha];rfl
     obtain ⟨⟨r0,r1⟩,⟨a0,a1⟩,⟨mt,hm⟩,hR,_,_⟩:=valid_inv hv
     have hO1:=hO.ops
     have hK:=wk_of hv hm hO1
     have hF0:=match_fre hm
     have hll:(ins.length:Int)=B.ins.length:=by simpa using hl
     have hmv:matchV B.ops= .tup [.sl false 1 (ints .i64 mt),.lit (.bool true)]:=by unfold matchV;rw [hm]
     refine ecR M7_ok (kp23) Tryz.func23 [.tmp 4,.tmp 5] (h:=fun KF=>?_)
     unfold M7
     repeat' first|(with_reducible first|(refine nx ?_;intros)|apply And.intro|intro vr)|exact kp_fls|exact kp_2|exact kp_mo2|exact kpd|((with_reducible first|refine ny ?_|refine t_kLF ?_ ?_|refine t_dO 12 (fun _=>false) oMm7_0 fun K=>?_|refine t_dO 13 (fun _=>false) oMm7_1 fun K=>?_);intros;simp only [go_sem,kp23,geff,bcOf_B,hv,hl,ha,hmv,Bool.not_true,List.cons_append,List.nil_append,yes])
     all_goals try exact nd
     all_goals try exact hn2 _ (by assumption)
     refine t_drawP ⟨upd (upd (upd topF 8 (.ref 5 0)) 2 (.ref 2 0)) 1 (.sl false 3 (arrs ins)),mobj x y B mt (m0 B (List.replicate B.arena.toNat 0) 0) []⟩ (fun i=>i==2) [(0,1),(1,1),(2,1),(3,1),(5,1),(6,1)] [4,7] [(8,1),(9,0),(10,1)] (by kernel_rfl) ?_ ?_
     rotate_left
     ·skip
      intro K
      simp only [pickO,pickG,List.getElem?_toArray,List.getElem?_cons_zero,List.getElem?_cons_succ,List.length_cons,List.length_nil,Nat.reduceAdd,lp_some]
      simp only [go_sem,pickO,pickG,geff,kp23,List.cons_append,List.nil_append,rep_ints]
      repeat' first|(with_reducible first|(refine nx ?_;intros)|apply And.intro|intro vr)|exact kp_fls|exact kp_2|exact kp_mo2|exact kpd|((with_reducible first|refine ny ?_|refine t_kLF ?_ ?_|refine t_kPE ?_ ?_|refine t_dO 12 (fun _=>false) oMm7_0 fun K=>?_|refine t_dO 13 (fun _=>false) oMm7_1 fun K=>?_);intros;simp only [go_sem,kp23,geff,List.cons_append,List.nil_append,rep_ints])
      all_goals try exact nd
      ·refine Le.trans (le_nilB 5 13 3 1 rfl ?_ ?_) ?_
       ·simp
       ·exact nil_sl
       exact lg
      ·refine le_swapM (τ:=[x,y,_]) (m:=[_]) (by simp) (bd3 hbd) rfl rfl rfl ?_ ?_
       ·repeat' (first|exact flatF_top|(refine flatF_upd rfl ?_))
       simp only [renF_upd,renF_top,ren1,renA,renO,sw,List.map_cons,List.map_nil,List.length_cons,List.length_nil,Nat.reduceAdd,Nat.reduceEqDiff,reduceIte,List.cons_append,List.nil_append]
       refine Le.trans (le_nilB 5 13 3 1 rfl ?_ ?_) ?_
       ·simp
       ·exact nil_sl
       exact lg
     have hpl:=hK.len
     repeat' first|(with_reducible first|(refine nx ?_;intros)|apply And.intro|intro vr)|exact kp_fls|exact kp_2|exact kp_mo2|exact kpd|((with_reducible first|refine ny ?_|refine t_kLF ?_ ?_|refine t_dO 12 (fun _=>false) oMm7_0 fun K=>?_|refine t_dO 13 (fun _=>false) oMm7_1 fun K=>?_|refine t_dwh (h:=fun K KL=>?_));intros;simp only [go_sem,kp23,geff,hv,yes])
     all_goals try exact nd
     refine t_loopF (ι:=Fq B ins) (fun q=>[(44,.lit (.int .i64 (q.i:Int)))]) (fun q=>mobj x y B mt (m0 B q.ar q.pk) []) (fun q=>ins.length - q.i) ⟨0,List.replicate B.arena.toNat 0,0,Nat.zero_le _,fl_start a0,e⟩ ?_ ?_
     ·exact lf
     rintro ⟨i,ar,pk,hil,hfl,hq⟩ K0
     have f1:=hfl.len
     have f2:=hfl.pk
     rcases Nat.lt_or_ge i ins.length with hc|hc
     ·have g3:decide ((i:Int)<(ins.length:Int))=true:=decide_eq_true (by omega)
      have hib:i<B.ins.length:=by omega
      have hmem:ins.getD i nilA∈ins:=by rw [List.getD_eq_getElem?_getD,List.getElem?_eq_getElem hc];exact List.getElem_mem hc
      have hoa:=hn2 _ hmem
      have hiv:invA (ins.getD i nilA)=false:=by
        have:=List.any_eq_false.1 ha _ hmem
        simpa using this
      have hdr:ins.drop i=ins.getD i nilA::ins.drop (i+1):=drop_getD nilA hc
      rw [hdr,fillS] at hq
      have hin:=fun hd=>in1_of hv hiv hib hd
      have hfn:=fun hd=>hfl.next (hin hd)
      generalize hX:ins.getD i nilA=X at*
      generalize hT:B.types.getD i nilA=T at*
      generalize hP:B.ins.getD i (0,0)=P at*
      obtain ⟨xe,xd,xx⟩:=X
      obtain ⟨te,td,tx⟩:=T
      obtain ⟨po,ps⟩:=P
      obtain ⟨ho1,ho2⟩:=hoa
      have vX:arrV ⟨xe,xd,xx⟩= .agg [.lit (.string xe),.sl false 1 (ints .i64 xd),.sl false 1 (ints .i64 xx)]:=rfl
      have vT:arrV ⟨te,td,tx⟩= .agg [.lit (.string te),.sl false 1 (ints .i64 td),.sl false 1 (ints .i64 tx)]:=rfl
      have vP:plV (po,ps)= .agg [.lit (.int .i64 po),.lit (.int .i64 ps)]:=rfl
      simp only at hq ho1 ho2
      cases he:eqS xe te with
      |false=>
       rw [if_pos he] at hq
       have hk:=fun σ'=>hk1 12 σ' hq
       repeat' first|(with_reducible first|(refine nx ?_;intros)|apply And.intro|intro vr)|exact kp_fls|exact kp_2|exact kp_mo2|exact kpd|((with_reducible first|refine ny ?_|refine t_kLF ?_ ?_|refine t_dO 12 (fun _=>false) oMm7_0 fun K=>?_|refine t_dO 13 (fun _=>false) oMm7_1 fun K=>?_|refine t_dwh (h:=fun K KL=>?_));intros;simp only [go_sem,kp23,geff,g3,hX,hT,vX,vT,he,Int.toNat_natCast,yes])
       all_goals try exact nd
       all_goals (refine nl ?_;simp only [go_sem])
       exact hk _
      |true=>
       rw [if_neg (by rw [he];decide)] at hq
       by_cases hd:xd=td
       ·subst hd
        rw [if_neg (by simp)] at hq
        have h1:=hin rfl
        have h2:=hfn rfl
        have q1:=h1.off
        have q2:=h1.size
        have q3:=h1.fit
        rw [hP] at q1 q2 q3
        simp only at q1 q2 q3 h2
        have g5:decide (xd=xd)=true:=decide_eq_true rfl
        have hmin:min xx.length (ar.length - po.toNat)=xx.length:=by omega
        have hcp:=setRange_ints .i64 xx ar po.toNat
        repeat' first|(with_reducible first|(refine nx ?_;intros)|apply And.intro|intro vr)|exact kp_fls|exact kp_2|exact kp_mo2|exact kpd|((with_reducible first|refine ny ?_|refine t_kLF ?_ ?_|refine t_dO 12 (fun _=>false) oMm7_0 fun K=>?_|refine t_dO 13 (fun _=>false) oMm7_1 fun K=>?_|refine t_dwh (h:=fun K KL=>?_));intros;simp only [go_sem,kp23,geff,g3,hX,hT,hP,vX,vT,vP,he,g5,m0ar,m0pk,Nat.zero_add,Nat.sub_zero,hmin,List.take_length,hcp,Int.toNat_natCast,yes])
        all_goals try exact nd
        refine ⟨⟨i+1,putI ar po.toNat xx,maxI pk (po+ps),by omega,h2,hq⟩,by simp only;omega,?_⟩
        try simp only [updL_nil,updL_cons,delF_top,delF_upd,Nat.reduceEqDiff,reduceIte]
        refine le_mo1 (m:=m0 B (putI ar po.toNat xx) (maxI pk (po+ps))) (by simp) hbd ?_ ?_
        ·repeat' (first|exact low_top|(refine low_upd rfl ?_))
        exact lq
       ·rw [if_pos hd] at hq
        have hk:=fun σ'=>hk1 14 σ' hq
        have g5:decide (xd=td)=false:=decide_eq_false hd
        repeat' first|(with_reducible first|(refine nx ?_;intros)|apply And.intro|intro vr)|exact kp_fls|exact kp_2|exact kp_mo2|exact kpd|((with_reducible first|refine ny ?_|refine t_kLF ?_ ?_|refine t_dO 12 (fun _=>false) oMm7_0 fun K=>?_|refine t_dO 13 (fun _=>false) oMm7_1 fun K=>?_|refine t_dwh (h:=fun K KL=>?_));intros;simp only [go_sem,kp23,geff,g3,hX,hT,vX,vT,he,g5,Int.toNat_natCast,yes])
        all_goals try exact nd
        all_goals (refine nl ?_;simp only [go_sem])
        exact hk _
     ·have g3:decide ((i:Int)<(ins.length:Int))=false:=decide_eq_false (by omega)
      have hq2:startS B ins= .inr (ar,pk):=by rw [hq,List.drop_eq_nil_of_le hc];rfl
      repeat' first|(with_reducible first|(refine nx ?_;intros)|apply And.intro|intro vr)|exact kp_fls|exact kp_2|exact kp_mo2|exact kpd|((with_reducible first|refine ny ?_|refine t_kLF ?_ ?_|refine t_dO 12 (fun _=>false) oMm7_0 fun K=>?_|refine t_dO 13 (fun _=>false) oMm7_1 fun K=>?_|refine t_dwh (h:=fun K KL=>?_));intros;simp only [go_sem,kp23,geff,g3,yes])
      all_goals try exact nd
      refine ⟨fk48,run_ec (s:=s0 B ar pk) (c:=200001) (A:=B.arena.toNat) hK hF0 (by omega) (by omega) (fun _=>gd_start _ _ rfl (by omega) hfl) (rp_start _ rfl) fun m2 s2 hr2 hg2 h2=>?_⟩
      repeat' first|(with_reducible first|(refine nx ?_;intros)|apply And.intro|intro vr)|exact kp_fls|exact kp_2|exact kp_mo2|exact kpd|((with_reducible first|refine ny ?_|refine t_kLF ?_ ?_|refine t_dO 12 (fun _=>false) oMm7_0 fun K=>?_|refine t_dO 13 (fun _=>false) oMm7_1 fun K=>?_|refine t_dwh (h:=fun K KL=>?_));intros;simp only [go_sem,kp23,geff,yes])
      all_goals try exact nd
      all_goals (refine nl ?_;simp only [go_sem])
      exact hk2 mt ar pk m2 s2 hq2 hv hm hfl hr2 h2 hg2
end
end Go.Proofs.YtnlimcijgpaegaaGreat.Mm

namespace Go.Proofs.YtnlimcijgpaegaaGreat.Bm
open Go.Proofs.YtnlimcijgpaegaaGreat
open Go Go.Fw
def SA (l:List Int):Prop:=l.Pairwise (fun a b=>a<b)
theorem sa_eq:∀ {l m:List Int},SA l→SA m→(∀ x,x∈l ↔ x∈m)→l=m
  |[],[],_,_,_=>rfl
  |[],b::m,_,_,h=>absurd ((h b).2 (by simp)) (by simp)
  |a::l,[],_,_,h=>absurd ((h a).1 (by simp)) (by simp)
  |a::l,b::m,h1,h2,h=>by
   obtain ⟨p1,p2⟩:=List.pairwise_cons.1 h1
   obtain ⟨q1,q2⟩:=List.pairwise_cons.1 h2
   have e:a=b:=by
     rcases List.mem_cons.1 ((h a).1 (by simp)) with e|e
     ·exact e
     ·rcases List.mem_cons.1 ((h b).2 (by simp)) with f|f
      ·exact f.symm
      ·have:=q1 a e;have:=p1 b f;omega
   subst e
   congr 1
   refine sa_eq p2 q2 fun x=>⟨fun hx=>?_,fun hx=>?_⟩
   ·rcases List.mem_cons.1 ((h x).1 (by simp [hx])) with e|e
    ·subst e;have:=p1 x hx;omega
    ·exact e
   ·rcases List.mem_cons.1 ((h x).2 (by simp [hx])) with e|e
    ·subst e;have:=q1 x hx;omega
    ·exact e
def noteR (n:Int):List Int→List Int
  |[]=>[n]
  |m::l=>if m<n then m::noteR n l else if m=n then m::l else n::m::l
theorem noteS_eq (n:Int):∀ l,noteS l n=noteR n l
  |[]=>rfl
  |m::l=>by
   have ih:=noteS_eq n l
   unfold noteS at ih ⊢
   unfold noteR
   by_cases h:m<n
   ·rw [if_pos h,←ih]
    simp only [List.takeWhile_cons,h,decide_true,if_true,List.length_cons,List.getD_cons_succ,List.take_succ_cons,List.drop_succ_cons]
    by_cases h2:(List.takeWhile (fun m=>decide (m<n)) l).length<l.length∧l.getD (List.takeWhile (fun m=>decide (m<n)) l).length 0=n
    ·rw [if_pos h2,if_pos ⟨by omega,h2.2⟩]
    ·rw [if_neg h2,if_neg (fun q=>h2 ⟨by omega,q.2⟩)];rfl
   ·rw [if_neg h]
    simp only [List.takeWhile_cons,h,decide_false,Bool.false_eq_true,if_false,List.length_nil,List.length_cons,List.getD_cons_zero,List.take_zero,List.drop_zero,List.nil_append]
    by_cases h2:m=n
    ·rw [if_pos ⟨by omega,h2⟩,if_pos h2]
    ·rw [if_neg (fun q=>h2 q.2),if_neg h2];rfl
theorem noteR_mem (n x:Int):∀ l,x∈noteR n l ↔ x=n∨x∈l
  |[]=>by simp [noteR]
  |m::l=>by
   unfold noteR
   split
   ·rw [List.mem_cons,noteR_mem n x l,List.mem_cons]
    constructor
    ·rintro (h|h|h)<;>simp [h]
    ·rintro (h|h|h)<;>simp [h]
   ·split
    ·rename_i h;subst h
     simp only [List.mem_cons]
     constructor
     ·exact fun h=> .inr h
     ·rintro (h|h)
      ·exact .inl h
      ·exact h
    ·exact List.mem_cons
theorem noteR_sa (n:Int):∀ {l},SA l→SA (noteR n l)
  |[],_=>by simp [noteR,SA]
  |m::l,h=>by
   obtain ⟨p1,p2⟩:=List.pairwise_cons.1 h
   unfold noteR
   split
   ·rename_i hm
    refine List.pairwise_cons.2 ⟨fun x hx=>?_,noteR_sa n p2⟩
    rcases (noteR_mem n x l).1 hx with e|e
    ·omega
    ·exact p1 x e
   ·split
    ·exact h
    ·refine List.pairwise_cons.2 ⟨fun x hx=>?_,h⟩
     rcases List.mem_cons.1 hx with e|e
     ·omega
     ·have:=p1 x e;omega
theorem fold_note:∀ (V l:List Int),SA l→SA (V.foldl noteS l)∧∀ x,x∈V.foldl noteS l ↔ x∈V∨x∈l
  |[],l,h=>⟨h,fun x=>by simp⟩
  |n::V,l,h=>by
   rw [List.foldl_cons,noteS_eq]
   obtain ⟨h1,h2⟩:=fold_note V (noteR n l) (noteR_sa n h)
   refine ⟨h1,fun x=>?_⟩
   rw [h2,noteR_mem,List.mem_cons]
   constructor
   ·rintro (h|h|h)<;>simp [h]
   ·rintro ((h|h)|h)<;>simp [h]
theorem compact_sa {zs:List Int} (h:zs.Pairwise (fun a b=>a≤b)):SA (Lib.compact zs)∧∀ x,x∈Lib.compact zs ↔ x∈zs:=by
  have hget:∀ i j,i≤j→j<zs.length→zs.toArray[i]! ≤zs.toArray[j]! :=fun i j hij hj=>by
    have hi:i<zs.length:=by omega
    have e1:zs.toArray[i]! =zs[i]:=by simp [hi]
    have e2:zs.toArray[j]! =zs[j]:=by simp [hj]
    rw [e1,e2]
    rcases Nat.lt_or_ge i j with c|c
    ·exact List.pairwise_iff_getElem.1 h i j hi hj c
    ·have:i=j:=by omega
     subst this;exact Int.le_refl _
  have key:∀ m,m≤zs.length→SA (Lib.compactUpTo zs.toArray m)∧(∀ x∈Lib.compactUpTo zs.toArray m,x≤zs.toArray[m - 1]!)∧∀ x,x∈Lib.compactUpTo zs.toArray m ↔ ∃ j,j<m∧zs.toArray[j]! =x:=by
    intro m
    induction m with
    |zero=>intro _;exact ⟨by simp [Lib.compactUpTo,SA],by simp [Lib.compactUpTo],by simp [Lib.compactUpTo]⟩
    |succ m ih=>
     intro hm
     obtain ⟨h1,h2,h3⟩:=ih (by omega)
     rw [Lib.compactUpTo_succ]
     by_cases hk:Lib.keeps zs.toArray m=true
     ·rw [if_pos hk]
      have hlt:∀ x∈Lib.compactUpTo zs.toArray m,x<zs.toArray[m]! :=fun x hx=>by
        obtain ⟨j,hj,_⟩:=(h3 x).1 hx
        have q1:=h2 x hx
        have q2:=hget (m - 1) m (by omega) (by omega)
        have q3:zs.toArray[m]! ≠zs.toArray[m - 1]! :=by
          have:=of_decide_eq_true hk
          rcases this with c|c
          ·omega
          ·exact c
        omega
      refine ⟨List.pairwise_append.2 ⟨h1,by simp,fun x hx y hy=>?_⟩,fun x hx=>?_,fun x=>?_⟩
      ·have:y=zs.toArray[m]! :=by simpa using hy
       rw [this];exact hlt x hx
      ·rw [Nat.add_sub_cancel]
       rcases List.mem_append.1 hx with hx|hx
       ·exact Int.le_of_lt (hlt x hx)
       ·have:x=zs.toArray[m]! :=by simpa using hx
        rw [this];exact Int.le_refl _
      ·rw [List.mem_append,h3]
       constructor
       ·rintro (⟨j,hj,e⟩|hx)
        ·exact ⟨j,by omega,e⟩
        ·exact ⟨m,by omega,by have:x=zs.toArray[m]! :=by simpa using hx
                              exact this.symm⟩
       ·rintro ⟨j,hj,e⟩
        by_cases c:j=m
        ·subst c;right;rw [←e];simp
        ·left;exact ⟨j,by omega,e⟩
     ·rw [if_neg hk,List.append_nil]
      have hk': ¬ (m=0∨zs.toArray[m]! ≠zs.toArray[m - 1]!):=fun q=>hk (decide_eq_true q)
      have hm0:m≠0:=fun q=>hk' (.inl q)
      have he:zs.toArray[m]! =zs.toArray[m - 1]! :=Classical.byContradiction fun q=>hk' (.inr q)
      refine ⟨h1,fun x hx=>?_,fun x=>?_⟩
      ·rw [Nat.add_sub_cancel,he];exact h2 x hx
      ·rw [h3]
       constructor
       ·rintro ⟨j,hj,e⟩;exact ⟨j,by omega,e⟩
       ·rintro ⟨j,hj,e⟩
        by_cases c:j=m
        ·subst c;exact ⟨j - 1,by omega,by rw [←he];exact e⟩
        ·exact ⟨j,by omega,e⟩
  obtain ⟨h1,_,h3⟩:=key zs.length (Nat.le_refl _)
  refine ⟨h1,fun x=>?_⟩
  unfold Lib.compact
  rw [h3]
  constructor
  ·rintro ⟨j,hj,e⟩
   have:zs.toArray[j]! =zs[j]:=by simp [hj]
   rw [this] at e;rw [←e];exact List.getElem_mem hj
  ·intro hx
   obtain ⟨j,hj,e⟩:=List.getElem_of_mem hx
   exact ⟨j,hj,by simp [hj,e]⟩
theorem compact_len (zs:List Int):(Lib.compact zs).length≤zs.length:=by
  unfold Lib.compact Lib.compactUpTo
  rw [List.length_map]
  exact Nat.le_trans (List.length_filter_le _ _) (by simp)
theorem sort_compact (V:List Int):Lib.compact (V.mergeSort fun x y=>decide (x≤y))=V.foldl noteS []:=by
  have hs:(V.mergeSort fun x y=>decide (x≤y)).Pairwise (fun a b=>a≤b):=by
    have:=List.pairwise_mergeSort (le:=fun (x y:Int)=>decide (x≤y)) (fun a b c h1 h2=>by simp only [decide_eq_true_eq] at*;omega) (fun a b=>by simp only [Bool.or_eq_true,decide_eq_true_eq];omega) V
    exact this.imp (fun h=>by simpa using h)
  obtain ⟨c1,c2⟩:=compact_sa hs
  obtain ⟨f1,f2⟩:=fold_note V [] (by simp [SA])
  refine sa_eq c1 f1 fun x=>?_
  rw [c2,f2,List.mem_mergeSort]
  simp
theorem compact_pos {zs:List Int} (h:zs≠[]):0<(Lib.compact zs).length:=by
  cases zs with
  |nil=>exact absurd rfl h
  |cons a l=>
   unfold Lib.compact Lib.compactUpTo
   rw [List.length_map]
   refine List.length_pos_of_mem (a:=0) ?_
   rw [List.mem_filter]
   exact ⟨by simp,Lib.keeps_lt_one _ 0 (by omega)⟩
end Go.Proofs.YtnlimcijgpaegaaGreat.Bm

namespace Go.Proofs
open Go.Shelf
def Tryz.lays125_ren:Go.Shelf.Ren:=⟨fun|125=>50|128=>88|129=>89|n=>n,fun|46=>99|3=>3|51=>141|53=>143|4=>4|5=>5|9=>9|n=>n,fun|n=>n⟩
theorem Tryz.lays125:Go.Proofs.Lays.n125 Tryz.prog Tryz.lays125_ren:={
  mixed:=by kernel_rfl
  f125:=Tryz.func50.trans (congrArg some (by kernel_rfl))
  f128:=Tryz.func88.trans (congrArg some (by kernel_rfl))
  f129:=Tryz.func89.trans (congrArg some (by kernel_rfl))
  t3:=Tryz.underlying3
  a3:=Tryz.isAgg3
  z3:=Tryz.sizeOf3
  v3:=Tryz.zeroValue3
  t4:=Tryz.underlying4
  a4:=Tryz.isAgg4
  z4:=Tryz.sizeOf4
  v4:=Tryz.zeroValue4
  t5:=Tryz.underlying5
  a5:=Tryz.isAgg5
  z5:=Tryz.sizeOf5
  v5:=Tryz.zeroValue5
  t9:=Tryz.underlying9
  a9:=Tryz.isAgg9
  z9:=Tryz.sizeOf9
  v9:=Tryz.zeroValue9
  t46:=Tryz.underlying99
  a46:=Tryz.isAgg99
  z46:=Tryz.sizeOf99
  v46:=Tryz.zeroValue99
  t51:=Tryz.underlying141
  a51:=Tryz.isAgg141
  z51:=Tryz.sizeOf141
  v51:=Tryz.zeroValue141
  t53:=Tryz.underlying143
  a53:=Tryz.isAgg143
  z53:=Tryz.sizeOf143
  v53:=Tryz.zeroValue143}
theorem Tryz.bits_Len (x:Int) (w:World) (h0:0≤x) (h1:x≤18446744073709551615):
    Calls Tryz.prog 50 #[.int .u64 x] w fun e w'=>e= .returned (.int .i64 (Lib.bitLen x.toNat))∧w'=w:=Any.bits_Len Tryz.lays125 x w h0 h1
def Tryz.lays189_ren:Go.Shelf.Ren:=⟨fun|189=>24|125=>50|257=>49|128=>88|129=>89|294=>79|295=>80|296=>81|297=>82|298=>83|299=>84|216=>85|300=>86|301=>87|328=>128|329=>129|330=>130|331=>131|332=>132|215=>133|343=>151|n=>n,fun|28=>34|3=>3|46=>99|0=>0|51=>141|53=>143|4=>4|183=>134|182=>133|131=>81|5=>5|9=>9|218=>172|222=>176|228=>191|229=>192|n=>n,fun|n=>n⟩
theorem Tryz.lays189:Go.Proofs.Lays.n189 Tryz.prog Tryz.lays189_ren:={
  mixed:=by kernel_rfl
  f125:=Tryz.func50.trans (congrArg some (by kernel_rfl))
  f128:=Tryz.func88.trans (congrArg some (by kernel_rfl))
  f129:=Tryz.func89.trans (congrArg some (by kernel_rfl))
  f189:=Tryz.func24.trans (congrArg some (by kernel_rfl))
  f215:=Tryz.func133.trans (congrArg some (by kernel_rfl))
  f216:=Tryz.func85.trans (congrArg some (by kernel_rfl))
  f257:=Tryz.func49.trans (congrArg some (by kernel_rfl))
  f294:=Tryz.func79.trans (congrArg some (by kernel_rfl))
  f295:=Tryz.func80.trans (congrArg some (by kernel_rfl))
  f296:=Tryz.func81.trans (congrArg some (by kernel_rfl))
  f297:=Tryz.func82.trans (congrArg some (by kernel_rfl))
  f298:=Tryz.func83.trans (congrArg some (by kernel_rfl))
  f299:=Tryz.func84.trans (congrArg some (by kernel_rfl))
  f300:=Tryz.func86.trans (congrArg some (by kernel_rfl))
  f301:=Tryz.func87.trans (congrArg some (by kernel_rfl))
  f328:=Tryz.func128.trans (congrArg some (by kernel_rfl))
  f329:=Tryz.func129.trans (congrArg some (by kernel_rfl))
  f330:=Tryz.func130.trans (congrArg some (by kernel_rfl))
  f331:=Tryz.func131.trans (congrArg some (by kernel_rfl))
  f332:=Tryz.func132.trans (congrArg some (by kernel_rfl))
  f343:=Tryz.func151.trans (congrArg some (by kernel_rfl))
  t0:=Tryz.underlying0
  a0:=Tryz.isAgg0
  z0:=Tryz.sizeOf0
  v0:=Tryz.zeroValue0
  t3:=Tryz.underlying3
  a3:=Tryz.isAgg3
  z3:=Tryz.sizeOf3
  v3:=Tryz.zeroValue3
  t4:=Tryz.underlying4
  a4:=Tryz.isAgg4
  z4:=Tryz.sizeOf4
  v4:=Tryz.zeroValue4
  t5:=Tryz.underlying5
  a5:=Tryz.isAgg5
  z5:=Tryz.sizeOf5
  v5:=Tryz.zeroValue5
  t9:=Tryz.underlying9
  a9:=Tryz.isAgg9
  z9:=Tryz.sizeOf9
  v9:=Tryz.zeroValue9
  t28:=Tryz.underlying34
  a28:=Tryz.isAgg34
  z28:=Tryz.sizeOf34
  v28:=Tryz.zeroValue34
  t46:=Tryz.underlying99
  a46:=Tryz.isAgg99
  z46:=Tryz.sizeOf99
  v46:=Tryz.zeroValue99
  t51:=Tryz.underlying141
  a51:=Tryz.isAgg141
  z51:=Tryz.sizeOf141
  v51:=Tryz.zeroValue141
  t53:=Tryz.underlying143
  a53:=Tryz.isAgg143
  z53:=Tryz.sizeOf143
  v53:=Tryz.zeroValue143
  t131:=Tryz.underlying81
  a131:=Tryz.isAgg81
  z131:=Tryz.sizeOf81
  v131:=Tryz.zeroValue81
  t182:=Tryz.underlying133
  a182:=Tryz.isAgg133
  z182:=Tryz.sizeOf133
  v182:=Tryz.zeroValue133
  t183:=Tryz.underlying134
  a183:=Tryz.isAgg134
  z183:=Tryz.sizeOf134
  v183:=Tryz.zeroValue134
  t218:=Tryz.underlying172
  a218:=Tryz.isAgg172
  z218:=Tryz.sizeOf172
  v218:=Tryz.zeroValue172
  t222:=Tryz.underlying176
  a222:=Tryz.isAgg176
  z222:=Tryz.sizeOf176
  v222:=Tryz.zeroValue176
  t228:=Tryz.underlying191
  a228:=Tryz.isAgg191
  z228:=Tryz.sizeOf191
  v228:=Tryz.zeroValue191
  t229:=Tryz.underlying192
  a229:=Tryz.isAgg192
  z229:=Tryz.sizeOf192
  v229:=Tryz.zeroValue192}
open Go.Sort Go.RowKit in
theorem Tryz.slices_Sort_int (blk off cap:Nat) (zs:List Int) (w:World) (hH:Holds (Value.int .i64) w blk off zs.toArray) (hblk:blk<w.heap.size) (hsz:zs.length<4611686018427387904):
    Calls Tryz.prog 24 #[.slice (some ⟨blk,off,none⟩) zs.length cap] w fun e w'=>
      e= .returned (.tuple #[])∧∃ n os,w'=grow (putRow (Value.int .i64) (Sort.ahead w n) blk off (zs.mergeSort fun x y=>decide (x≤y)).toArray) os:=Any.slices_Sort_int Tryz.lays189 blk off cap zs w hH hblk hsz
def Tryz.laysNm220_ren:Go.Shelf.Ren:=⟨fun|20=>26|n=>n,fun|22=>34|3=>3|4=>4|0=>0|n=>n,fun|n=>n⟩
theorem Tryz.laysNm220:Go.Proofs.Lays2.n20 Tryz.prog Tryz.laysNm220_ren:={
  mixed:=by kernel_rfl
  f20:=Tryz.func26.trans (congrArg some (by kernel_rfl))
  t0:=Tryz.underlying0
  a0:=Tryz.isAgg0
  z0:=Tryz.sizeOf0
  v0:=Tryz.zeroValue0
  t3:=Tryz.underlying3
  a3:=Tryz.isAgg3
  z3:=Tryz.sizeOf3
  v3:=Tryz.zeroValue3
  t4:=Tryz.underlying4
  a4:=Tryz.isAgg4
  z4:=Tryz.sizeOf4
  v4:=Tryz.zeroValue4
  t22:=Tryz.underlying34
  a22:=Tryz.isAgg34
  z22:=Tryz.sizeOf34
  v22:=Tryz.zeroValue34
  i3:=by kernel_rfl}
open Go.RowKit Go.Lib Go.Sort in
theorem Tryz.slices_Compact_int (blk off cap:Nat) (zs:List Int) (w:World) (hH:Holds (Value.int .i64) w blk off zs.toArray) (hsz:zs.length≤9223372036854775807) (hcap:zs.length≤cap):
    Calls Tryz.prog 26 #[.slice (some ⟨blk,off,none⟩) zs.length cap] w fun e w'=>e= .returned (.slice (some ⟨blk,off,none⟩) (Lib.compact zs).length cap)∧∃ q,w'=putRow (Value.int .i64) (Sort.ahead w q) blk off (Lib.compact zs++List.replicate (zs.length - (Lib.compact zs).length) 0).toArray:=Any.slices_Compact_int Tryz.laysNm220 blk off cap zs w hH hsz hcap
end Go.Proofs

namespace Go.Fw
open Go Go.Sort
variable {P:Program}
theorem EC.sortRow {α:Type} [Inhabited α] {enc:α→Value} (h1:∀ a,(enc a).oneCell'=true) {f:FuncId} {e:TypeId} {o ver:Nat} {d d':List α} (hne:d≠[]) (hd:d'.length=d.length)
    (hc:∀ (g cap:Nat) (w:World),Holds enc w g 0 d.toArray→g<w.heap.size→Calls P f [Value.slice (some ⟨g,0,none⟩) d.length cap].toArray w fun en w'=>en= .returned (.tuple #[])∧∃ n os,w'=grow (putRow enc (Go.Sort.ahead w n) g 0 d'.toArray) os)
    {σ:List AObj} {k:AV→List AObj→Prop} (ho:σ[o]? =some (.arr e 1 (d.map fun a=> .lit (enc a)) ver false)) (hk:k (.tup []) (σ.set o (.arr e 1 (d'.map fun a=> .lit (enc a)) ver false))):
    EC P f [.arr o ver] σ k:=by
  intro cx G w vs hr hl
  have hlt:o<σ.length:=(List.getElem?_eq_some_iff.1 ho).1
  have hok:=hr.ok o _ ho
  have hver:G.ver o=ver:=hok.1
  obtain ⟨_,⟨a0,c0,hb0,_⟩,h3⟩:=hok
  simp only [Bool.false_eq_true,if_false] at h3
  rcases h3 with ⟨h3,_⟩|⟨g,cap,cur,ha⟩
  ·exfalso;apply hne;simpa using h3
  have hbv:=ha.v
  simp only [List.length_map] at hbv
  have hcap:d.length≤cap:=by simpa using ha.le
  have hwid:∀ x∈d.map (fun a=>AV.lit (enc a)),x.cells.length=1:=ha.wid
  have hfl:=flat_length hwid
  have hsz:cur.size=cap:=by simpa using ha.size
  have hcell:∀ j,j<d.length→cur[j]? =some (enc (d.toArray[j]!)):=by
    intro j hj
    have h:=ha.rel j (by rw [hfl];simpa using hj)
    have e1:(flat (d.map fun a=>AV.lit (enc a))).getD j .top= .lit (enc d[j]):=by
      rw [flat_lits,getD_elem _ _ (by simpa using hj)]
      simp
    rw [e1] at h
    have hj':j<cur.size:=by omega
    have:cur.getD j undef=enc d[j]:=by
      generalize cur.getD j undef=v at h
      cases h;rfl
    rw [Array.getElem?_eq_getElem hj']
    simp only [Array.getD,hj',dite_true] at this
    rw [show cur[j]=enc d[j] from this]
    simp [hj]
  have hholds:Holds enc w g 0 d.toArray:=by
    intro j hj
    have hj':j<d.length:=by simpa using hj
    rw [Nat.zero_add]
    exact ⟨by rw [ha.blk.cell];exact hcell j hj',ha.blk.frozen j (by omega)⟩
  have hvs:vs=[.slice (some ⟨g,0,none⟩) d.length cap]:=by
    match vs,hl with
    |[],hl=>have:=hl.1;simp at this
    |v::v2::vs,hl=>have:=hl.1;simp at this
    |[v],hl=>
     have hv:=hl.2 0 (by simp)
     simp only [List.getD_cons_zero] at hv
     rw [hv.arr_inv.2.2 hver.symm,hbv]
  rw [hvs]
  refine (hc g cap w hholds ha.blk.lt).mono ?_
  rintro en w' ⟨rfl,q,os,rfl⟩
  obtain ⟨fz,hf1,hf2,hf3⟩:=ha.blk
  have hheap:=putRow_heap (enc:=enc) (w:=Go.Sort.ahead w q) (off:=0) (d:=d'.toArray) hf1
  have hown:ownB (G.b o)=some g:=by have hp:=ha.pos;rw [hbv];simp [ownB];omega
  have hps:(putCells enc 0 d'.toArray cur).size=cur.size:=by simp [putCells]
  have hget:∀ j,j<d'.length→(putCells enc 0 d'.toArray cur).getD j undef=enc d'[j]! :=by
    intro j hj
    have hj2:j<cur.size:=by omega
    have:(putCells enc 0 d'.toArray cur)[j]? =some (enc d'[j]!):=by
      simp only [putCells,Array.getElem?_mapIdx,Array.getElem?_eq_getElem hj2,Option.map_some,Nat.zero_add,Nat.zero_le,true_and,Nat.sub_zero,List.size_toArray,hj,if_true]
      simp [hj]
    rw [Array.getD_eq_getD_getElem?,this];rfl
  have hml:(d'.map fun a=>AV.lit (enc a)).length=d.length:=by simp [hd]
  have hwid':∀ x∈d'.map fun a=>AV.lit (enc a),x.cells.length=1:=by
    intro x hx
    obtain ⟨a,_,rfl⟩:=List.mem_map.1 hx
    rfl
  have hfl':=flat_length hwid'
  have hflg:∀ j,j<d.length→(flat (d'.map fun a=>AV.lit (enc a))).getD j .top= .lit (enc d'[j]!):=by
    intro j hj
    have h2:j<d'.length:=by omega
    rw [flat_lits,getD_elem _ _ (by rw [hml];exact hj)]
    simp [h2]
  have ht:Touch w (putRow enc (Go.Sort.ahead w q) g 0 d'.toArray) g:=⟨rfl,rfl,rfl,by simp [putRow,mapBlock,Go.Sort.ahead],fun k hk=>by have:=hheap.2 k hk;simpa using this⟩
  have hr1:=hr.touch (g:=g) (ob':= .arr e 1 (d'.map fun a=> .lit (enc a)) ver false) ho rfl hown ht ⟨hver,by rw [hbv,hml];exact ⟨_,_,rfl,fun _=>⟨_,rfl⟩⟩,by
    simp only [Bool.false_eq_true,if_false]
    rw [hbv]
    refine .inr ⟨g,cap,putCells enc 0 d'.toArray cur,by rw [hml],ha.pos,⟨fz,hheap.1,hf2,by rw [hps];exact hf3⟩,by rw [hml];exact hcap,ha.max,by rw [hps,hsz];simp,hwid',fun j hj=>?_,fun j hj=>?_,ha.unc⟩
    ·rw [hfl',hml,Nat.mul_one] at hj
     rw [hget j (by omega)];exact h1 _
    ·rw [hfl',hml,Nat.mul_one] at hj
     rw [hflg j hj,hget j (by omega)];exact .lit _⟩
  have hm:More (putRow enc (Go.Sort.ahead w q) g 0 d'.toArray) (grow (putRow enc (Go.Sort.ahead w q) g 0 d'.toArray) os):=⟨rfl,rfl,rfl,by simp [grow],fun k hk=>by simp only [grow];rw [Array.getElem?_append_left hk]⟩
  exact ⟨_,G,_,.tup [],rfl,Gh.le.refl G,hr1.more hm,.tup [] [] rfl (by simp),hk⟩
end Go.Fw
namespace Go.Proofs.YtnlimcijgpaegaaGreat.Mm
open Go.Proofs.YtnlimcijgpaegaaGreat
open Go Go.Fw Bm
set_option maxRecDepth 20000
section
variable {x y:AObj} {B:Prg} {mt:List Int} {m:MS} {ex:List AObj} {σ:List AObj} {k:AV→List AObj→Prop} {o ver:Nat}
theorem len_pc:PC Tryz.prog 50 [.lit (.int .u64 0)] (.lit (.int .i64 (Lib.bitLen 0))):=by
  intro C w vs hr hin
  obtain ⟨hl,hr⟩:=hr
  match vs,hl with
  |[v],_=>
   have h0:=hr 0 (by simp)
   have e:v= .int .u64 0:=by
     have:RC C (.lit (.int .u64 0)) v:=h0
     cases this;rfl
   subst e
   refine (Tryz.bits_Len 0 w (by decide) (by decide)).mono ?_
   rintro e w' ⟨rfl,rfl⟩
   exact ⟨_,C,rfl,CLe.refl _,.lit _,hin,More.refl _,fun _ _ _=>rfl⟩
noncomputable def con50:PCon Tryz.prog where
  f:=50
  c:=fun
   |[.lit (.int .u64 n)]=>if n=0 then some (True,.lit (.int .i64 (Lib.bitLen 0))) else none
   |_=>none
  ok:=by
   intro args p r hc hp
   split at hc
   ·split at hc
    ·rename_i h;subst h;cases hc;exact len_pc
    ·cases hc
   ·cases hc
  fk:=fk50
theorem con50_f:con50.f=50:=rfl
theorem con50_c:con50.c [.lit (.int .u64 0)]=some (True,.lit (.int .i64 (Lib.bitLen 0))):=rfl
attribute [go_sem] con50_f con50_c
noncomputable def M8:Env:=envU Tryz.prog jkR zer (fun _=>false) (fun _=>false) [con50]
theorem M8_ok:EnvOk Tryz.prog M8:=envUOk zer_ok
theorem wr0:IntKind.u64.wrap 0=0:=by decide
set_option maxHeartbeats 4000000 in
theorem ins_ec {v:AV} (hk:k (.tup []) σ):EC Tryz.prog 79 [v,.lit (.int .i64 0),.lit (.int .i64 0)] σ k:=by
  refine ec_fin fun hbd=>?_
  refine ecR M8_ok (kp79) Tryz.func79 [] (h:=fun KF=>?_)
  unfold M8
  with_reducible repeat' first|(refine nx ?_;intros)|apply And.intro|intro vr|(refine ny ?_;intros;simp only [go_sem,kp79,geff])
  all_goals try exact nd
  refine t_loopF (ι:=Unit) (fun _=>[(6,.lit (.int .i64 1))]) (fun _=>σ) (fun _=>0) () ?_ ?_
  ·exact lf
  rintro ⟨⟩ K0
  have g3:decide ((1:Int)<0)=false:=by decide
  with_reducible repeat' first|(refine nx ?_;intros)|apply And.intro|intro vr|(refine ny ?_;intros;simp only [go_sem,kp79,geff,g3])
  all_goals try exact nd
  all_goals (refine nl ?_;simp only [go_sem,finE])
  exact ⟨_,_,rfl,LeA.refl _,by rw [List.take_length];exact hbd,by rw [List.take_length];exact hk⟩
set_option maxHeartbeats 4000000 in
theorem pdq_ec {l:Int} (h:σ[o]? =some (.arr 3 1 (ints .i64 []) ver false)) (hk:k (.tup []) σ):EC Tryz.prog 49 [.arr o ver,.lit (.int .i64 0),.lit (.int .i64 0),.lit (.int .i64 l)] σ k:=by
  refine ec_fin fun hbd=>?_
  refine ecR M8_ok (kp49) Tryz.func49 [] (h:=fun KF=>?_)
  unfold M8
  with_reducible repeat' first|(refine nx ?_;intros)|apply And.intro|intro vr|(refine ny ?_;intros;simp only [go_sem,kp49,geff])
  all_goals try exact nd
  refine t_loopF (ι:=Unit) (fun _=>[]) (fun _=>σ) (fun _=>0) () ?_ ?_
  ·exact lf
  rintro ⟨⟩ K0
  have g3:decide ((0:Int)≤12)=true:=by decide
  with_reducible repeat' first|(refine nx ?_;intros)|apply And.intro|intro vr|(refine ny ?_;intros;simp only [go_sem,kp49,geff,g3,h])
  all_goals try exact nd
  refine ⟨fk79,ins_ec ?_⟩
  with_reducible repeat' first|(refine nx ?_;intros)|apply And.intro|intro vr|(refine ny ?_;intros;simp only [go_sem,kp49,geff,yes])
  all_goals try exact nd
  all_goals (refine nl ?_;simp only [go_sem,finE])
  exact ⟨_,_,rfl,LeA.refl _,by rw [List.take_length];exact hbd,by rw [List.take_length];exact hk⟩
set_option maxHeartbeats 4000000 in
theorem sort0_ec (h:σ[o]? =some (.arr 3 1 (ints .i64 []) ver false)) (hk:k (.tup []) σ):EC Tryz.prog 24 [.arr o ver] σ k:=by
  refine ec_fin fun hbd=>?_
  have i0:ints .i64 []=[]:=rfl
  refine ecR M8_ok (kp24) Tryz.func24 [] (h:=fun KF=>?_)
  unfold M8
  with_reducible repeat' first|(refine nx ?_;intros)|apply And.intro|intro vr|(refine ny ?_;intros;simp only [go_sem,kp24,geff,h,i0,wr0,yes])
  all_goals try exact nd
  refine ⟨fk49,pdq_ec h ?_⟩
  with_reducible repeat' first|(refine nx ?_;intros)|apply And.intro|intro vr|(refine ny ?_;intros;simp only [go_sem,kp24,geff,yes])
  all_goals try exact nd
  all_goals (refine nl ?_;simp only [go_sem,finE])
  exact ⟨_,_,rfl,LeA.refl _,by rw [List.take_length];exact hbd,by rw [List.take_length];exact hk⟩
def srt (V:List Int):List Int:=V.mergeSort fun x y=>decide (x≤y)
theorem srt_len (V:List Int):(srt V).length=V.length:=List.length_mergeSort _
theorem set_self {σ:List AObj} {o:Nat} {x:AObj} (h:σ[o]? =some x):σ.set o x=σ:=by
  apply List.ext_getElem?
  intro i
  rw [List.getElem?_set]
  split
  ·rename_i hi;subst hi;split
   ·rw [h]
   ·rename_i hlt;rw [List.getElem?_eq_none (by omega)]
  ·rfl
theorem sort_ec {V:List Int} (h:σ[o]? =some (.arr 3 1 (ints .i64 V) ver false)) (hV:V.length≤1000000) (hk:k (.tup []) (σ.set o (.arr 3 1 (ints .i64 (srt V)) ver false))):EC Tryz.prog 24 [.arr o ver] σ k:=by
  by_cases hne:V=[]
  ·subst hne
   have e:srt []=[]:=by simp [srt]
   rw [e,set_self h] at hk
   exact sort0_ec h hk
  ·refine EC.sortRow (enc:=Value.int .i64) (fun _=>rfl) (e:=3) (d:=V) (d':=srt V) hne (srt_len V) (fun g cap w hH hb=>?_) h hk
   exact Tryz.slices_Sort_int g 0 cap V w hH hb (by omega)
set_option maxHeartbeats 4000000 in
theorem compact0_ec (h:σ[o]? =some (.arr 3 1 (ints .i64 []) ver false)) (hk:k (.arr o ver) σ):EC Tryz.prog 26 [.arr o ver] σ k:=by
  refine ec_finK fun hbd=>?_
  have i0:ints .i64 []=[]:=rfl
  have hlt:=(List.getElem?_eq_some_iff.1 h).1
  refine ecR M8_ok (kp26) Tryz.func26 [.tmp 2] (h:=fun KF=>?_)
  unfold M8
  with_reducible repeat' first|(refine nx ?_;intros)|apply And.intro|intro vr|(refine ny ?_;intros;simp only [go_sem,kp26,geff,h,i0,yes])
  all_goals try exact nd
  all_goals (refine nl ?_;simp only [go_sem,finK])
  exact ⟨_,LeR.refl _,Bd.arr hlt,by rw [List.take_length];exact hbd,by rw [List.take_length];exact hk⟩
theorem compact_ec {V:List Int} (h:σ[o]? =some (.arr 3 1 (ints .i64 V) ver false)) (hne:V≠[]) (hV:V.length≤1000000) (hk:k (.arr o (ver+1)) (σ.set o (.arr 3 1 (ints .i64 (Lib.compact V)) (ver+1) false))):EC Tryz.prog 26 [.arr o ver] σ k:=by
  have hl:=compact_len V
  have hp:=compact_pos hne
  have hd:(Lib.compact V++List.replicate (V.length - (Lib.compact V).length) 0).length=V.length:=by simp;omega
  refine EC.ofRow (enc:=Value.int .i64) (fun _=>rfl) (e:=3) (rest:=[]) (d:=V) (d':=Lib.compact V++List.replicate (V.length - (Lib.compact V).length) 0) (m:=(Lib.compact V).length) hne hd hl hp (fun g cap w hH hc _=>?_) h ?_
  ·exact Tryz.slices_Compact_int g 0 cap V w hH (by omega) hc
  ·rw [List.take_left']
   ·exact hk
   ·rfl
end
end Go.Proofs.YtnlimcijgpaegaaGreat.Mm
