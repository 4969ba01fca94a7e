import Derived.Test.YtnlimcijgpaegaaGreatSA
import Derived.Test.YtnlimcijgpaegaaGreatFwB
import Derived.Lib.AppendZeros
import Derived.Lib.Walk
import Derived.Lib.Slices

set_option linter.all false

namespace Go.Proofs.YtnlimcijgpaegaaGreat.Bm
open Go.Proofs.YtnlimcijgpaegaaGreat
open Go Go.Fw
theorem right_reg {x:Ins} {f:List Bool} {regs:Int} (h:rightS x regs=true) (hf:formS x=some f) {i:Nat} (hi:i<4) (hb:f.getD i false=true):0≤(oprs x).getD i 0∧(oprs x).getD i 0<regs:=by
  unfold rightS at h
  rw [hf] at h
  simp only [Bool.and_eq_true] at h
  obtain ⟨⟨_,h⟩,_⟩:=h
  have hl:i<f.length:=by
    rcases Nat.lt_or_ge i f.length with h|h
    ·exact h
    ·simp [List.getD,h] at hb
  have key:∀ n,oprOk f regs i n=true→0≤n∧n<regs:=fun n hn=>by
    unfold oprOk at hn
    rw [if_neg (by omega),if_pos hb] at hn
    simpa using hn
  match i,hi with
  |0,_=>exact key _ h.1.1.1
  |1,_=>exact key _ h.1.1.2
  |2,_=>exact key _ h.1.2
  |3,_=>exact key _ h.2
theorem mem_pickR {w:Bool} {n:Int}:∀ {i:Nat} {f:List Bool} {l:List Int},n∈pickR w i f l→∃ k,f.getD k false=true∧l.getD k 0=n∧k<l.length
  |i,[],l,h=>by cases l<;>simp [pickR] at h
  |i,true::f,[],h=>by simp [pickR] at h
  |i,false::f,[],h=>by simp [pickR] at h
  |i,true::f,m::l,h=>by
   simp only [pickR] at h
   split at h
   ·rcases List.mem_cons.1 h with rfl|h
    ·exact ⟨0,rfl,rfl,by simp⟩
    ·obtain ⟨k,k1,k2,k3⟩:=mem_pickR h;exact ⟨k+1,by simpa using k1,by simpa using k2,by simpa using k3⟩
   ·obtain ⟨k,k1,k2,k3⟩:=mem_pickR h;exact ⟨k+1,by simpa using k1,by simpa using k2,by simpa using k3⟩
  |i,false::f,m::l,h=>by
   simp only [pickR] at h
   obtain ⟨k,k1,k2,k3⟩:=mem_pickR h;exact ⟨k+1,by simpa using k1,by simpa using k2,by simpa using k3⟩
theorem reads_reg {x:Ins} {regs:Int} (h:rightS x regs=true) {n:Int} (hn:n∈readsS x):0≤n∧n<regs:=by
  unfold readsS at hn
  cases hf:formS x with
  |none=>rw [hf] at hn;simp at hn
  |some f=>
   rw [hf] at hn
   obtain ⟨k,k1,k2,k3⟩:=mem_pickR hn
   rw [←k2]
   exact right_reg h hf k3 k1
structure Regs (x:Ins) (regs:Int):Prop where
  w:wrtB x.code=true→0≤x.a∧x.a<regs
  a:x.code=7∨x.code=11→0≤x.a∧x.a<regs
  b:x.code=2∨x.code=3∨x.code=4∨x.code=6∨x.code=7∨x.code=9∨x.code=10∨x.code=14→0≤x.b∧x.b<regs
  c:x.code=2∨x.code=3∨x.code=4∨x.code=10→0≤x.c∧x.c<regs
  code:x.code=1∨x.code=2∨x.code=3∨x.code=4∨x.code=5∨x.code=6∨x.code=7∨x.code=8∨x.code=9∨x.code=10∨x.code=11∨x.code=12∨x.code=13∨x.code=14∨x.code=15
  k1:x.code=1→ -maxC≤x.b∧x.b≤maxC
  k2:x.code=2→ -maxA≤x.d∧x.d≤maxA
  k10:x.code=10→1≤x.d∧x.d≤maxA
  k9:x.code=9→1≤x.a∧x.a≤1000000
theorem right_regs {x:Ins} {regs:Int} (h:rightS x regs=true):Regs x regs:=by
  cases hf:formS x with
  |none=>unfold rightS at h;rw [hf] at h;cases h
  |some f=>
   have key:=fun i (hi:i<4) (hb:f.getD i false=true)=>right_reg h hf hi hb
   have hrest:restOk x=true:=by
     unfold rightS at h;rw [hf] at h;simp only [Bool.and_eq_true] at h;exact h.2
   have f5:x.code=5→f.getD 0 false=true:=fun hc=>by
     unfold formS at hf
     rw [if_neg (by omega),if_neg (by omega),if_neg (by omega),if_pos hc] at hf
     simp only [Option.map_eq_some_iff] at hf
     obtain ⟨r,_,rfl⟩:=hf
     rw [Nat.add_comm];simp [List.replicate_succ]
   have hcode:x.code=1∨x.code=2∨x.code=3∨x.code=4∨x.code=5∨x.code=6∨x.code=7∨x.code=8∨x.code=9∨x.code=10∨x.code=11∨x.code=12∨x.code=13∨x.code=14∨x.code=15:=by
     unfold formS at hf
     repeat' split at hf
     all_goals first|omega|cases hf
   have fx:∀ (L:List Bool),(if x.code=1 then some [true,false] else if x.code=2∨x.code=10 then some [true,true,true,false] else if x.code=3∨x.code=4 then some [true,true,true]
     else if x.code=5 then some L else if x.code=6∨x.code=7∨x.code=14 then some [true,true] else if x.code=8∨x.code=11 then some [true] else if x.code=9 then some [false,true] else some [])=some f→x.code≠5→
     (wrtB x.code=true→f.getD 0 false=true)∧(x.code=7∨x.code=11→f.getD 0 false=true)∧
     (x.code=2∨x.code=3∨x.code=4∨x.code=6∨x.code=7∨x.code=9∨x.code=10∨x.code=14→f.getD 1 false=true)∧(x.code=2∨x.code=3∨x.code=4∨x.code=10→f.getD 2 false=true):=by
     intro L hL h5
     rcases hcode with e|e|e|e|e|e|e|e|e|e|e|e|e|e|e
     all_goals first|exact absurd e h5|skip
     all_goals (rw [e] at hL ⊢;simp at hL;subst hL;simp [wrtB])
   have all:(wrtB x.code=true→f.getD 0 false=true)∧(x.code=7∨x.code=11→f.getD 0 false=true)∧
     (x.code=2∨x.code=3∨x.code=4∨x.code=6∨x.code=7∨x.code=9∨x.code=10∨x.code=14→f.getD 1 false=true)∧(x.code=2∨x.code=3∨x.code=4∨x.code=10→f.getD 2 false=true):=by
     by_cases h5:x.code=5
     ·refine ⟨fun _=>f5 h5,?_,?_,?_⟩<;>intro h<;>omega
     ·refine fx [] ?_ h5
      have h0:=hf
      unfold formS at h0
      rcases hcode with e|e|e|e|e|e|e|e|e|e|e|e|e|e|e
      all_goals first|exact absurd e h5|(rw [e] at h0 ⊢;simpa using h0)
   obtain ⟨a1,a2,a3,a4⟩:=all
   refine ⟨fun hw=>key 0 (by decide) (a1 hw),fun hw=>key 0 (by decide) (a2 hw),fun hw=>key 1 (by decide) (a3 hw),fun hw=>key 2 (by decide) (a4 hw),hcode,fun e=>?_,fun e=>?_,fun e=>?_,fun e=>?_⟩
   all_goals (unfold restOk at hrest;rw [e] at hrest;simpa using hrest)
theorem Has.of_map {s:List Rng} {l:List Int} (h:InP s l):∀ {m:List Int},(∀ n∈m,0≤n∧n<s.length)→Has (m.map (gR s)) (m.map (gt l))
  |[],_=> .nil
  |n::m,hm=> .cons (h.at (hm n (by simp)).1 (hm n (by simp)).2) (Has.of_map h (fun k hk=>hm k (by simp [hk])))
theorem apply_wide {op:ByteArray} {xs:List Int} {n:Int} (h:El.applyS op xs=some n):(wideR op).has n:=by
  unfold El.applyS at h
  rcases El.ix_cases op with ⟨i,hi,_,hx,ht⟩|⟨hx,_⟩
  ·rw [hx] at h
   simp only [Option.bind_some] at h
   split at h
   ·rename_i hok
    cases h
    unfold wideR
    rw [ht]
    simp only
    have hl:xs.length=(El.psN i).length∧El.okA (El.psN i) xs=true:=by
      unfold El.okB at hok;rw [Bool.and_eq_true,decide_eq_true_eq] at hok;exact hok
    have hH:∀ (ys:List Int),Has (ys.map fun y=>(⟨y,y⟩:Rng)) ys:=fun ys=>by
      induction ys with
      |nil=>exact .nil
      |cons y ys ih=>exact .cons ⟨Int.le_refl _,Int.le_refl _⟩ ih
    have fitv:∀ p y,(p=El.sInt∨p=El.sBool∨p=El.sA)→El.vld (El.elT p) y=true→(⟨y,y⟩:Rng).within (fitR p):=by
      intro p y hp hv
      rcases hp with rfl|rfl|rfl
      ·have e:El.vld (El.elT El.sInt) y=decide (-2147483648≤y∧y≤2147483647):=rfl
       rw [e] at hv
       exact ⟨(of_decide_eq_true hv).1,(of_decide_eq_true hv).2⟩
      ·have e:El.vld (El.elT El.sBool) y=decide (y=0∨y=1):=rfl
       rw [e] at hv
       have:=of_decide_eq_true hv
       show (⟨y,y⟩:Rng).within boolR
       simp only [Rng.within,boolR];omega
      ·have e:El.vld (El.elT El.sA) y=decide (-2147483648≤y∧y≤2147483647):=rfl
       rw [e] at hv
       exact ⟨(of_decide_eq_true hv).1,(of_decide_eq_true hv).2⟩
    have hfit:∀ (ps:List ByteArray) (ys:List Int),(∀ p∈ps,p=El.sInt∨p=El.sBool∨p=El.sA)→El.okA ps ys=true→fitA ps (ys.map fun y=>(⟨y,y⟩:Rng))=true:=by
      intro ps
      induction ps with
      |nil=>intro ys _ _;simp [fitA]
      |cons p ps ih=>
       intro ys hp hv
       cases ys with
       |nil=>simp [fitA]
       |cons y ys=>
        simp only [El.okA,List.zip_cons_cons,List.all_cons,Bool.and_eq_true] at hv
        have:=ih ys (fun q hq=>hp q (by simp [hq])) (by simpa [El.okA] using hv.2)
        simp only [fitA,List.map_cons,List.zip_cons_cons,List.all_cons,Bool.and_eq_true,decide_eq_true_eq] at this ⊢
        exact ⟨⟨Int.le_refl _,fitv p y (hp p (by simp)) hv.1⟩,this⟩
    have hv:=val_has hi (hH xs) (by simpa using hl.1) (hfit _ _ (El.psN_el i hi) hl.2)
    have sub:∀ r:Rng,r.within (if eqS (El.rowsL.getD i default).rs El.sBool=true then boolR else intsR)→r.has (El.vS i xs)→(if eqS (El.rowsL.getD i default).rs El.sBool=true then boolR else intsR).has (El.vS i xs):=
      fun r hr hh=>⟨Int.le_trans hr.1 hh.1,Int.le_trans hh.2 hr.2⟩
    by_cases hb:10≤i∧i≤19
    ·have e:(if eqS (El.rowsL.getD i default).rs El.sBool=true then boolR else intsR)=boolR:=by
       have:∀ i,10≤i→i≤19→eqS (El.rowsL.getD i default).rs El.sBool=true:=by
         intro i h1 h2
         have:i=10∨i=11∨i=12∨i=13∨i=14∨i=15∨i=16∨i=17∨i=18∨i=19:=by omega
         rcases this with rfl|rfl|rfl|rfl|rfl|rfl|rfl|rfl|rfl|rfl<;>rfl
       rw [if_pos (this i hb.1 hb.2)]
     rw [e]
     have e2:rngV i (xs.map fun y=>(⟨y,y⟩:Rng))=boolR:=by
       have:i=10∨i=11∨i=12∨i=13∨i=14∨i=15∨i=16∨i=17∨i=18∨i=19:=by omega
       rcases this with rfl|rfl|rfl|rfl|rfl|rfl|rfl|rfl|rfl|rfl<;>simp [rngV]
     rw [e2] at hv;exact hv
    ·have e:(if eqS (El.rowsL.getD i default).rs El.sBool=true then boolR else intsR)=intsR:=by
       rw [if_neg]
       rcases rng_ix hi with rfl|rfl|rfl|rfl|rfl|rfl|rfl|rfl|rfl|rfl|rfl|rfl|rfl|rfl|rfl|rfl|rfl|rfl|rfl|rfl|rfl|rfl<;>first|decide|(exfalso;omega)
     rw [e]
     obtain ⟨_,k2⟩:=rng_ints hi (l:=xs.map fun y=>(⟨y,y⟩:Rng)) (by simpa using hl.1) (hfit _ _ (El.psN_el i hi) hl.2)
     exact ⟨Int.le_trans k2.1 hv.1,Int.le_trans hv.2 k2.2⟩
   ·cases h
  ·rw [hx] at h;cases h
theorem simple_sound {x:Ins} {s:List Rng} {st:St} (hx:Regs x s.length) (hr:rightS x s.length=true) (hl:InP s st.regs) (hw:Words st) (hc:x.code≠10∧x.code≠11) (hf:st.failed=false):
    ((simpleS x st).failed=false→InP (if wrtB x.code=true then withR s x.a (resultR x s) else s) (simpleS x st).regs)∧(failR x s st.arena.length=false→(simpleS x st).failed=false):=by
  have hput:∀ v,(resultR x s).has v→wrtB x.code=true→InP (if wrtB x.code=true then withR s x.a (resultR x s) else s) (st.put x.a v).regs:=fun v hv hb=>by
    rw [if_pos hb];exact hl.set hv
  have cs:=hx.code
  unfold simpleS
  rcases cs with e|e|e|e|e|e|e|e|e|e|e|e|e|e|e
  ·rw [if_pos e]
   exact ⟨fun _=>hput _ (by unfold resultR;rw [if_pos e];exact ⟨Int.le_refl _,Int.le_refl _⟩) (by rw [e];rfl),fun _=>hf⟩
  ·rw [if_neg (by omega),if_pos e]
   have hb:=hl.at (hx.b (.inl e)).1 (hx.b (.inl e)).2
   have hcc:=hl.at (hx.c (.inl e)).1 (hx.c (.inl e)).2
   have hsum:(sumR x s).has (gt st.regs x.b+x.d*gt st.regs x.c):=by
     have m1:=minI_le (x.d*(gR s x.c).lo) (x.d*(gR s x.c).hi)
     have m2:=maxI_ge (x.d*(gR s x.c).lo) (x.d*(gR s x.c).hi)
     have:(x.d*(gR s x.c).lo≤x.d*gt st.regs x.c∧x.d*gt st.regs x.c≤x.d*(gR s x.c).hi)∨(x.d*(gR s x.c).hi≤x.d*gt st.regs x.c∧x.d*gt st.regs x.c≤x.d*(gR s x.c).lo):=by
       rcases Int.le_total 0 x.d with h|h
       ·exact .inl ⟨Int.mul_le_mul_of_nonneg_left hcc.1 h,Int.mul_le_mul_of_nonneg_left hcc.2 h⟩
       ·exact .inr ⟨Int.mul_le_mul_of_nonpos_left h hcc.2,Int.mul_le_mul_of_nonpos_left h hcc.1⟩
     obtain ⟨b1,b2⟩:=hb
     unfold sumR Rng.has
     simp only
     generalize x.d*(gR s x.c).lo=p at*
     generalize x.d*(gR s x.c).hi=q at*
     generalize x.d*gt st.regs x.c=r at*
     omega
   by_cases hm:inMc (gt st.regs x.b+x.d*gt st.regs x.c)=true
   ·rw [if_pos hm]
    refine ⟨fun _=>hput _ ?_ (by rw [e];rfl),fun _=>hf⟩
    unfold resultR
    rw [if_neg (by omega),if_pos e]
    exact held_has hsum (by simpa [inMc,Rng.has,machR] using hm) fun _=>rfl
   ·rw [if_neg hm]
    refine ⟨fun h=>(Bool.noConfusion h),fun h=>?_⟩
    exfalso
    apply hm
    unfold failR at h
    rw [if_pos e] at h
    have hwi:(sumR x s).within machR:=by simpa using h
    have:machR.has (gt st.regs x.b+x.d*gt st.regs x.c):=⟨Int.le_trans hwi.1 hsum.1,Int.le_trans hsum.2 hwi.2⟩
    simpa [inMc,Rng.has,machR] using this
  ·rw [if_neg (by omega),if_neg (by omega),if_pos e]
   have hb:=hl.at (hx.b (.inr (.inl e))).1 (hx.b (.inr (.inl e))).2
   have hcc:=hl.at (hx.c (.inr (.inl e))).1 (hx.c (.inr (.inl e))).2
   refine ⟨fun _=>hput _ ?_ (by rw [e];rfl),fun _=>hf⟩
   unfold resultR
   rw [if_neg (by omega),if_neg (by omega),if_pos e]
   obtain ⟨b1,b2⟩:=hb
   obtain ⟨c1,c2⟩:=hcc
   have m1:=minI_le (gR s x.b).lo (gR s x.c).lo
   have m2:=minI_le (gR s x.b).hi (gR s x.c).hi
   have m3:=minI_le (gt st.regs x.b) (gt st.regs x.c)
   refine ⟨?_,?_⟩<;>simp only<;>omega
  ·rw [if_neg (by omega),if_neg (by omega),if_neg (by omega),if_pos e]
   have hb:=hl.at (hx.b (.inr (.inr (.inl e)))).1 (hx.b (.inr (.inr (.inl e)))).2
   have hcc:=hl.at (hx.c (.inr (.inr (.inl e)))).1 (hx.c (.inr (.inr (.inl e)))).2
   refine ⟨fun _=>hput _ ?_ (by rw [e];rfl),fun _=>hf⟩
   unfold resultR
   rw [if_neg (by omega),if_neg (by omega),if_neg (by omega),if_pos e]
   obtain ⟨b1,b2⟩:=hb
   obtain ⟨c1,c2⟩:=hcc
   have m1:=maxI_ge (gR s x.b).lo (gR s x.c).lo
   have m2:=maxI_ge (gR s x.b).hi (gR s x.c).hi
   have m3:=maxI_ge (gt st.regs x.b) (gt st.regs x.c)
   refine ⟨?_,?_⟩<;>simp only<;>omega
  ·rw [if_neg (by omega),if_neg (by omega),if_neg (by omega),if_neg (by omega),if_pos e]
   have hH:Has (pickedR x s) ((readsS x).map (gt st.regs)):=Has.of_map hl fun n hn=>reads_reg hr hn
   cases hap:El.applyS x.prim ((readsS x).map (gt st.regs)) with
   |none=>
    refine ⟨fun h=>(Bool.noConfusion h),fun h=>?_⟩
    exfalso
    unfold failR at h
    rw [if_neg (by omega),if_pos e] at h
    cases hfit:fitsR x.prim (pickedR x s) with
    |none=>rw [hfit] at h;cases h
    |some i=>
     obtain ⟨n,hn,_⟩:=prim_sound (r:=rngV i (pickedR x s)) (by unfold primR;rw [hfit];rfl) hH
     rw [hap] at hn;cases hn
   |some n=>
    refine ⟨fun _=>hput n ?_ (by rw [e];rfl),fun _=>hf⟩
    unfold resultR
    rw [if_neg (by omega),if_neg (by omega),if_neg (by omega),if_neg (by omega),if_pos e]
    cases hp:primR x.prim (pickedR x s) with
    |none=>exact apply_wide hap
    |some r=>
     obtain ⟨k,hk,hkr⟩:=prim_sound hp hH
     rw [hap] at hk;cases hk;exact hkr
  ·rw [if_neg (by omega),if_neg (by omega),if_neg (by omega),if_neg (by omega),if_neg (by omega),if_pos e]
   have hb:=hl.at (hx.b (.inr (.inr (.inr (.inl e))))).1 (hx.b (.inr (.inr (.inr (.inl e))))).2
   split
   ·rename_i hin
    refine ⟨fun _=>hput _ ?_ (by rw [e];rfl),fun _=>hf⟩
    have hm:gt st.arena (gt st.regs x.b)∈st.arena:=by
      unfold gt at hin ⊢
      have:(st.regs.getD x.b.toNat 0).toNat<st.arena.length:=by omega
      rw [getD_elem _ _ this]
      exact List.getElem_mem this
    have:=vld_int.1 (hw _ hm)
    unfold resultR
    rw [if_neg (by omega),if_neg (by omega),if_neg (by omega),if_neg (by omega),if_neg (by omega),if_neg (by omega),if_neg (by omega)]
    exact this
   ·rename_i hin
    refine ⟨fun h=>(Bool.noConfusion h),fun h=>?_⟩
    exfalso
    apply hin
    unfold failR at h
    rw [if_neg (by omega),if_neg (by omega),if_pos e] at h
    have hwi:(gR s x.b).within ⟨0,st.arena.length - 1⟩:=by simpa using h
    obtain ⟨w1,w2⟩:=hwi
    obtain ⟨b1,b2⟩:=hb
    simp only at w1 w2
    omega
  ·rw [if_neg (by omega),if_neg (by omega),if_neg (by omega),if_neg (by omega),if_neg (by omega),if_neg (by omega),if_pos e]
   have ha:=hl.at (hx.a (.inl e)).1 (hx.a (.inl e)).2
   have hb:=hl.at (hx.b (.inr (.inr (.inr (.inr (.inl e)))))).1 (hx.b (.inr (.inr (.inr (.inr (.inl e)))))).2
   split
   ·refine ⟨fun _=>?_,fun _=>hf⟩
    rw [if_neg (by rw [e];decide)];exact hl
   ·rename_i hin
    refine ⟨fun h=>(Bool.noConfusion h),fun h=>?_⟩
    exfalso
    apply hin
    unfold failR at h
    rw [if_neg (by omega),if_neg (by omega),if_neg (by omega),if_pos e] at h
    simp only [Bool.or_eq_false_iff,Bool.not_eq_false',decide_eq_true_eq] at h
    obtain ⟨⟨w1,w2⟩,w3⟩:=h
    simp only at w1 w2
    refine ⟨⟨?_,?_⟩,?_⟩
    ·have:=ha.1;omega
    ·have:=ha.2;omega
    ·exact vld_int.2 ⟨Int.le_trans w3.1 hb.1,Int.le_trans hb.2 w3.2⟩
  ·rw [if_neg (by omega),if_neg (by omega),if_neg (by omega),if_neg (by omega),if_neg (by omega),if_neg (by omega),if_neg (by omega),if_neg (by omega),if_neg (by omega),if_pos e]
   refine ⟨fun _=>hput _ ?_ (by rw [e];rfl),fun _=>hf⟩
   unfold resultR
   rw [if_neg (by omega),if_neg (by omega),if_neg (by omega),if_neg (by omega),if_neg (by omega),if_neg (by omega),if_pos e]
   exact ⟨by decide,by decide⟩
  ·rw [if_neg (by omega),if_neg (by omega),if_neg (by omega),if_neg (by omega),if_neg (by omega),if_neg (by omega),if_neg (by omega),if_neg (by omega),if_neg (by omega),if_neg (by omega),if_pos e]
   refine ⟨fun _=>?_,fun _=>?_⟩
   ·rw [if_neg (by rw [e];decide)];split<;>exact hl
   ·split<;>exact hf
  ·exact absurd e hc.1
  ·exact absurd e hc.2
  ·rw [if_neg (by omega),if_neg (by omega),if_neg (by omega),if_neg (by omega),if_neg (by omega),if_neg (by omega),if_neg (by omega),if_neg (by omega),if_neg (by omega),if_neg (by omega),if_neg (by omega)]
   exact ⟨fun _=>by rw [if_neg (by rw [e];decide)];exact hl,fun _=>hf⟩
  ·rw [if_neg (by omega),if_neg (by omega),if_neg (by omega),if_neg (by omega),if_neg (by omega),if_neg (by omega),if_neg (by omega),if_neg (by omega),if_neg (by omega),if_neg (by omega),if_neg (by omega)]
   exact ⟨fun _=>by rw [if_neg (by rw [e];decide)];exact hl,fun _=>hf⟩
  ·rw [if_neg (by omega),if_neg (by omega),if_neg (by omega),if_neg (by omega),if_neg (by omega),if_neg (by omega),if_neg (by omega),if_pos e]
   have hb:=hl.at (hx.b (by omega)).1 (hx.b (by omega)).2
   refine ⟨fun _=>hput _ ?_ (by rw [e];rfl),fun _=>hf⟩
   unfold resultR
   rw [if_neg (by omega),if_neg (by omega),if_neg (by omega),if_neg (by omega),if_neg (by omega),if_pos e]
   exact held_has hb (w32_has _) fun h=>w32_same h
  ·rw [if_neg (by omega),if_neg (by omega),if_neg (by omega),if_neg (by omega),if_neg (by omega),if_neg (by omega),if_neg (by omega),if_neg (by omega),if_pos e]
   exact ⟨fun _=>by rw [if_neg (by rw [e];decide)];exact hl,fun _=>hf⟩
end Go.Proofs.YtnlimcijgpaegaaGreat.Bm

namespace Go.Proofs.YtnlimcijgpaegaaGreat.Bm
open Go.Proofs.YtnlimcijgpaegaaGreat
open Go Go.Fw
section
variable {B:Prg} {mt:List Int}
theorem wipe_length (l:List (List Rng)) (i to:Int):(wipe l i to).length=l.length:=by simp [wipe]
theorem wipe_getD {l:List (List Rng)} {i to:Int} {j:Nat}:(wipe l i to).getD j []=if i≤j∧(j:Int)<to then [] else l.getD j []:=by
  unfold wipe
  by_cases h:j<l.length
  ·simp [List.getD,List.getElem?_mapIdx,h]
  ·simp [List.getD,List.getElem?_mapIdx,List.getElem?_eq_none (show l.length≤j by omega)]
def Cl (B:Prg) (mt:List Int) (i to:Int):Prop:=0≤i∧to≤B.ops.length∧∀ j:Int,i≤j→j<to→((B.op j).code=10∨(B.op j).code=11∨(B.op j).code=12)→gt mt j<to
theorem Cl.next {i j to:Int} (h:Cl B mt i to) (hj:i≤j):Cl B mt j to:=⟨by have:=h.1;omega,h.2.1,fun k k1 k2 k3=>h.2.2 k (by omega) k2 k3⟩
theorem Nest.inner (hN:Nest B.ops mt) {i:Int} (h0:0≤i) (h1:i<B.ops.length) (ho:(B.op i).code=10∨(B.op i).code=11∨(B.op i).code=12):Cl B mt (i+1) (gt mt i):=by
  obtain ⟨k1,k2,_,_⟩:=hN.at h0 h1 ho
  refine ⟨by omega,by omega,fun j j1 j2 j3=>?_⟩
  obtain ⟨n,rfl⟩:∃ n:Nat,i=n:=⟨i.toNat,by omega⟩
  obtain ⟨m,rfl⟩:∃ m:Nat,j=m:=⟨j.toNat,by omega⟩
  obtain ⟨e,q1,q2,q3,_,_,q6⟩:=hN.clo n (by omega) (by rw [←op_cd];simp [opnr];omega)
  have e1:gt mt (n:Int)=e:=by simp [gt];simpa [List.getD] using q1
  obtain ⟨f,f1,f2,f3⟩:=q6 m (by omega) (by omega) (by rw [←op_cd];simp [opnr];omega)
  have e2:gt mt (m:Int)=f:=by simp [gt];simpa [List.getD] using f1
  omega
theorem Nest.end_ (hN:Nest B.ops mt) {i to:Int} (hc:Cl B mt i to) (hi:i<to) (ho:(B.op i).code=11):
    i<gt mt i∧gt mt i≤gt mt (gt mt i)∧gt mt (gt mt i)<to∧endS B mt i=gt mt (gt mt i)∧Cl B mt (minI (gt mt i+1) (gt mt (gt mt i))) (gt mt (gt mt i))∧((B.op (gt mt i)).code≠12→gt mt (gt mt i)=gt mt i):=by
  have h1:i<B.ops.length:=by have:=hc.2.1;omega
  obtain ⟨k1,k2,k3,k4⟩:=hN.at hc.1 h1 (.inr (.inl ho))
  have hk:=hc.2.2 i (Int.le_refl _) hi (.inr (.inl ho))
  have h0:=hc.1
  by_cases e:(B.op (gt mt i)).code=12
  ·obtain ⟨j1,j2,_,_⟩:=hN.at (i:=gt mt i) (by omega) k2 (.inr (.inr e))
   have hin:=hN.inner (i:=gt mt i) (by omega) k2 (.inr (.inr e))
   refine ⟨k1,by omega,hc.2.2 _ (by omega) hk (.inr (.inr e)),by unfold endS;rw [if_pos e],?_,fun h=>absurd e h⟩
   rw [show minI (gt mt i+1) (gt mt (gt mt i))=gt mt i+1 by unfold minI;rw [if_neg (by omega)]]
   exact hin
  ·have e13:(B.op (gt mt i)).code=13:=by rcases k3 with h|h;exact absurd h e;exact h
   obtain ⟨n,hn⟩:∃ n:Nat,gt mt i=n:=⟨(gt mt i).toNat,by omega⟩
   have hs:gt mt (gt mt i)=gt mt i:=by
     have:=hN.self n (by omega) (by rw [←op_cd,←hn,e13];decide)
     rw [hn]
     simpa [gt,List.getD] using this
   rw [hs]
   refine ⟨k1,Int.le_refl _,hk,by unfold endS;rw [if_neg e],?_,fun _=>rfl⟩
   rw [show minI (gt mt i+1) (gt mt i)=gt mt i by unfold minI;rw [if_pos (by omega)]]
   exact ⟨by omega,by omega,fun j j1 j2 _=>by omega⟩
def VTk.lo:VTk→Int
  |.blk i _=>i
  |.lop i _=>i+1
def VTk.hi (mt:List Int):VTk→Int
  |.blk _ to=>to
  |.lop i _=>gt mt i
def VTk.ok (B:Prg) (mt:List Int):VTk→Prop
  |.blk i to=>Cl B mt i to
  |.lop i _=>0≤i∧i<B.ops.length∧(B.op i).code=10
def Wr (lo hi:Int) (w w':W):Prop:=w'.before.length=w.before.length∧∀ j:Nat,¬ (lo≤j∧(j:Int)<hi)→w'.before.getD j []=w.before.getD j []
theorem Wr.refl (lo hi:Int) (w:W):Wr lo hi w w:=⟨rfl,fun _ _=>rfl⟩
theorem Wr.trans {lo hi:Int} {a b c:W} (h:Wr lo hi a b) (k:Wr lo hi b c):Wr lo hi a c:=⟨k.1.trans h.1,fun j hj=>(k.2 j hj).trans (h.2 j hj)⟩
theorem Wr.wide {lo hi lo' hi':Int} {a b:W} (h:Wr lo hi a b) (h1:lo'≤lo) (h2:hi≤hi'):Wr lo' hi' a b:=⟨h.1,fun j hj=>h.2 j (by omega)⟩
theorem wr_wipe {lo hi:Int} {w:W}:Wr lo hi w {w with before:=wipe w.before lo hi}:=⟨wipe_length _ _ _,fun j hj=>by simp only [wipe_getD];rw [if_neg hj]⟩
theorem wr_set {i hi:Int} {w:W} {s:List Rng} (h0:0≤i) (h:i<hi):Wr i hi w {w with before:=w.before.set i.toNat s}:=⟨by simp,fun j hj=>by
  have:i.toNat≠j:=by omega
  simp [List.getD,List.getElem?_set_ne this]⟩
theorem part_inv {rec:VTk→List Rng→W→Option (List Rng×W)} {i to:Int} {s:List Rng} {r:Int} {x:Rng} {w:W} {o:Option (List Rng)} {w':W} (h:partV rec i to s r x w=some (o,w')):
    (x.lo>x.hi∧o=none∧w'={w with before:=wipe w.before i to})∨(¬ x.lo>x.hi∧∃ t,o=some t∧rec (.blk i to) (withR s r x) w=some (t,w')):=by
  unfold partV at h
  split at h
  ·rename_i hx;cases h;exact .inl ⟨hx,rfl,rfl⟩
  ·rename_i hx
   split at h
   ·rename_i t w1 hr;cases h;exact .inr ⟨hx,t,rfl,hr⟩
   ·cases h
inductive Step1 (B:Prg) (mt:List Int) (f:Nat) (i to:Int) (s:List Rng) (w:W) (r:List Rng×W):Prop
  |iff (yes no:Option (List Rng)) (w1 w2:W) (t:List Rng) (hc:(B.op i).code=11)
     (h1:partV (vrun B mt f) (i+1) (gt mt i) s (B.op i).a ⟨maxI (gR s (B.op i).a).lo 0,(gR s (B.op i).a).hi⟩ {w with before:=w.before.set i.toNat s}=some (yes,w1))
     (h2:partV (vrun B mt f) (minI (gt mt i+1) (gt mt (gt mt i))) (gt mt (gt mt i)) s (B.op i).a ⟨(gR s (B.op i).a).lo,minI (gR s (B.op i).a).hi (-1)⟩ w1=some (no,w2))
     (h3:hullsR yes no=some t) (h4:vrun B mt f (.blk (gt mt (gt mt i)+1) to) t w2=some r)
  |dead (hc:(B.op i).code=10) (hv:(gR s (B.op i).b).lo>(gR s (B.op i).c).hi - 1)
     (h1:vrun B mt f (.blk (gt mt i+1) to) s {w with before:=wipe (w.before.set i.toNat s) (i+1) (gt mt i)}=some r)
  |forr (t:List Rng) (w1:W) (hc:(B.op i).code=10) (hv: ¬ (gR s (B.op i).b).lo>(gR s (B.op i).c).hi - 1)
     (h1:vrun B mt f (.lop i ⟨(gR s (B.op i).b).lo,(gR s (B.op i).c).hi - 1⟩) (grownR ((lookH w.heads i).getD s) s) {w with before:=w.before.set i.toNat s}=some (t,w1))
     (h2:vrun B mt f (.blk (gt mt i+1) to) t w1=some r)
  |one (h1:(B.op i).code≠10) (h2:(B.op i).code≠11)
     (h3:vrun B mt f (.blk (i+1) to) (if wrtB (B.op i).code=true then withR s (B.op i).a (resultR (B.op i) s) else s) {w with before:=w.before.set i.toNat s}=some r)
theorem step1_of {f:Nat} {i to:Int} {s:List Rng} {w:W} {r:List Rng×W} (h:vrun B mt (f+1) (.blk i to) s w=some r) (hi:i<to):Step1 B mt f i to s w r:=by
  simp only [vrun] at h
  rw [if_pos hi] at h
  split at h
  ·rename_i hc
   split at h
   ·rename_i yes w1 h1
    split at h
    ·rename_i no w2 h2
     split at h
     ·rename_i t h3;exact .iff yes no w1 w2 t hc h1 h2 h3 h
     ·cases h
    ·cases h
   ·cases h
  ·rename_i h11
   split at h
   ·rename_i hc
    split at h
    ·rename_i hv;exact .dead hc hv h
    ·rename_i hv
     split at h
     ·rename_i t w1 h1;exact .forr t w1 hc hv h1 h
     ·cases h
   ·rename_i h10;exact .one h10 h11 h
theorem vrun_wr (hN:Nest B.ops mt):∀ (f:Nat) (tk:VTk) (s:List Rng) (w:W) (t:List Rng) (w':W),tk.ok B mt→vrun B mt f tk s w=some (t,w')→Wr tk.lo (tk.hi mt) w w'
  |0,_,_,_,_,_,_,h=>by simp [vrun] at h
  |f+1,.blk i to,s,w,t,w',hk,h=>by
   have hk':Cl B mt i to:=hk
   by_cases hi:i<to
   ·have hs:=wr_set (w:=w) (s:=s) hk'.1 hi
    rcases step1_of h hi with ⟨yes,no,w1,w2,t1,hc,h1,h2,h3,h4⟩|⟨hc,hv,h1⟩|⟨t1,w1,hc,hv,h1,h2⟩|⟨_,_,h3⟩
    ·obtain ⟨k1,k2,k3,_,k5,_⟩:=hN.end_ hk' hi hc
     have hin:=hN.inner hk'.1 (by have:=hk'.2.1;omega) (.inr (.inl hc))
     have e1:Wr i to {w with before:=w.before.set i.toNat s} w1:=by
       rcases part_inv h1 with ⟨_,_,rfl⟩|⟨_,u,_,hr⟩
       ·exact (wr_wipe (lo:=i+1) (hi:=gt mt i)).wide (by omega) (by omega)
       ·exact (vrun_wr hN f (.blk (i+1) (gt mt i)) _ _ _ _ hin hr).wide (by show i≤i+1;omega) (by show gt mt i≤to;omega)
     have e2:Wr i to w1 w2:=by
       have hmin:i≤minI (gt mt i+1) (gt mt (gt mt i)):=by unfold minI;split<;>omega
       rcases part_inv h2 with ⟨_,_,rfl⟩|⟨_,u,_,hr⟩
       ·exact wr_wipe.wide hmin (by omega)
       ·exact (vrun_wr hN f (.blk _ _) _ _ _ _ k5 hr).wide hmin (by show gt mt (gt mt i)≤to;omega)
     exact ((hs.trans e1).trans e2).trans ((vrun_wr hN f (.blk _ _) _ _ _ _ (hk'.next (by omega)) h4).wide (by show i≤gt mt (gt mt i)+1;omega) (Int.le_refl _))
    ·have hk1:=hk'.2.2 i (Int.le_refl _) hi (.inl hc)
     obtain ⟨k1,_,_,_⟩:=hN.at hk'.1 (by have:=hk'.2.1;omega) (.inl hc)
     have e1:Wr i to {w with before:=w.before.set i.toNat s} {w with before:=wipe (w.before.set i.toNat s) (i+1) (gt mt i)}:=(wr_wipe (w:={w with before:=w.before.set i.toNat s}) (lo:=i+1) (hi:=gt mt i)).wide (by omega) (by omega)
     exact (hs.trans e1).trans ((vrun_wr hN f (.blk _ _) _ _ _ _ (hk'.next (by omega)) h1).wide (by show i≤gt mt i+1;omega) (Int.le_refl _))
    ·have hk1:=hk'.2.2 i (Int.le_refl _) hi (.inl hc)
     have hlt:i<B.ops.length:=by have:=hk'.2.1;omega
     obtain ⟨k1,_,_,_⟩:=hN.at hk'.1 hlt (.inl hc)
     have e1:=(vrun_wr hN f (.lop i _) _ _ _ _ ⟨hk'.1,hlt,hc⟩ h1).wide (lo':=i) (hi':=to) (by show i≤i+1;omega) (by show gt mt i≤to;omega)
     exact (hs.trans e1).trans ((vrun_wr hN f (.blk _ _) _ _ _ _ (hk'.next (by omega)) h2).wide (by show i≤gt mt i+1;omega) (Int.le_refl _))
    ·exact hs.trans ((vrun_wr hN f (.blk _ _) _ _ _ _ (hk'.next (by omega)) h3).wide (by show i≤i+1;omega) (Int.le_refl _))
   ·simp only [vrun] at h
    rw [if_neg hi] at h
    cases h
    exact Wr.refl _ _ _
  |f+1,.lop i v,s,w,t,w',hk,h=>by
   obtain ⟨h0,h1,hc⟩:=hk
   have hin:=hN.inner h0 h1 (.inl hc)
   simp only [vrun] at h
   split at h
   ·rename_i t1 w1 hr
    have e0:=vrun_wr hN f (.blk (i+1) (gt mt i)) _ _ _ _ hin hr
    have e1:Wr (i+1) (gt mt i) w w1:=e0
    split at h
    ·cases h;exact e1
    ·exact e1.trans (vrun_wr hN f (.lop i v) _ _ _ _ ⟨h0,h1,hc⟩ h)
   ·cases h
end
end Go.Proofs.YtnlimcijgpaegaaGreat.Bm

namespace Go.Proofs.YtnlimcijgpaegaaGreat.Bm
open Go.Proofs.YtnlimcijgpaegaaGreat
open Go Go.Fw
section
variable {B:Prg} {mt:List Int}
theorem okR_sum {x:Ins} {n:Nat} {s:List Rng} (h:OkS n s):(sumR x s).lo≤(sumR x s).hi:=by
  have h1:=(h.at x.b).1
  have m1:=minI_le (x.d*(gR s x.c).lo) (x.d*(gR s x.c).hi)
  have m2:=maxI_ge (x.d*(gR s x.c).lo) (x.d*(gR s x.c).hi)
  unfold sumR
  simp only
  generalize x.d*(gR s x.c).lo=p at*
  generalize x.d*(gR s x.c).hi=q at*
  omega
theorem okR_result {x:Ins} {n:Nat} {s:List Rng} (h:OkS n s) {regs:Int} (hx:Regs x regs):OkR (resultR x s):=by
  unfold resultR
  split
  ·rename_i e
   have:=hx.k1 e
   exact ⟨Int.le_refl _,this.1,this.2⟩
  ·split
   ·exact okR_held (okR_sum h) okR_mach
   ·split
    ·have b:=h.at x.b
     have c:=h.at x.c
     obtain ⟨b1,b2,b3⟩:=b
     obtain ⟨c1,c2,c3⟩:=c
     have m1:=minI_le (gR s x.b).lo (gR s x.c).lo
     have m2:=minI_le (gR s x.b).hi (gR s x.c).hi
     refine ⟨?_,?_,?_⟩<;>simp only<;>omega
    ·split
     ·have b:=h.at x.b
      have c:=h.at x.c
      obtain ⟨b1,b2,b3⟩:=b
      obtain ⟨c1,c2,c3⟩:=c
      have m1:=maxI_ge (gR s x.b).lo (gR s x.c).lo
      have m2:=maxI_ge (gR s x.b).hi (gR s x.c).hi
      refine ⟨?_,?_,?_⟩<;>simp only<;>omega
     ·split
      ·split
       ·rename_i r hr;exact okR_prim hr
       ·unfold wideR
        split
        ·split
         ·exact okR_bool
         ·exact okR_ints
        ·exact okR_ints
      ·split
       ·exact okR_held (h.at x.b).1 okR_ints
       ·split
        ·exact okR_nil
        ·exact okR_ints
def HOk (n:Nat) (w:W):Prop:=∀ i l,lookH w.heads i=some l→OkS n l
theorem lookH_put {l:List (Int×List Rng)} {i j:Int} {s:List Rng}:lookH (putH l i s) j=if j=i then some s else lookH l j:=by
  induction l with
  |nil=>simp only [putH,lookH]
  |cons e l ih=>
   simp only [putH]
   by_cases h:i=e.1
   ·rw [if_pos h]
    simp only [lookH]
    by_cases k:j=i
    ·rw [if_pos k,if_pos k]
    ·rw [if_neg k,if_neg k,if_neg (by omega)]
   ·rw [if_neg h]
    simp only [lookH]
    by_cases k:j=e.1
    ·rw [if_pos k,if_neg (by omega),if_pos k]
    ·rw [if_neg k,if_neg k,ih]
theorem hulls_ok {n:Nat} {a b:Option (List Rng)} {t:List Rng} (h:hullsR a b=some t) (ha:∀ l,a=some l→OkS n l) (hb:∀ l,b=some l→OkS n l):OkS n t:=by
  cases a with
  |none=>exact hb t h
  |some a=>cases b with
   |none=>exact ha t h
   |some b=>cases h;exact (ha a rfl).hulls (hb b rfl)
theorem ok_yes {r:Rng} (h:OkR r) (hx: ¬ (⟨maxI r.lo 0,r.hi⟩:Rng).lo>(⟨maxI r.lo 0,r.hi⟩:Rng).hi):OkR ⟨maxI r.lo 0,r.hi⟩:=by
  obtain ⟨h1,h2,h3⟩:=h
  have m:=maxI_ge r.lo 0
  refine ⟨?_,?_,?_⟩<;>simp only [machR,maxC] at* <;>omega
theorem ok_no {r:Rng} (h:OkR r) (hx: ¬ (⟨r.lo,minI r.hi (-1)⟩:Rng).lo>(⟨r.lo,minI r.hi (-1)⟩:Rng).hi):OkR ⟨r.lo,minI r.hi (-1)⟩:=by
  obtain ⟨h1,h2,h3⟩:=h
  have m:=minI_le r.hi (-1)
  refine ⟨?_,?_,?_⟩<;>simp only [machR,maxC] at* <;>omega
def Rights (B:Prg) (n:Nat):Prop:=∀ i:Int,0≤i→i<B.ops.length→rightS (B.op i) n=true
theorem vrun_ok (hN:Nest B.ops mt) {n:Nat} (hR:Rights B n):∀ (f:Nat) (tk:VTk) (s:List Rng) (w:W) (t:List Rng) (w':W),vrun B mt f tk s w=some (t,w')→tk.ok B mt→OkS n s→HOk n w→(∀ i v,tk= .lop i v→OkR v)→OkS n t∧HOk n w'
  |0,_,_,_,_,_,h,_,_,_,_=>by simp [vrun] at h
  |f+1,.blk i to,s,w,t,w',h,hk,hs,hw,_=>by
   have hk':Cl B mt i to:=hk
   by_cases hi:i<to
   ·have hlt:i<B.ops.length:=by have:=hk'.2.1;omega
    rcases step1_of h hi with ⟨yes,no,w1,w2,t1,hc,h1,h2,h3,h4⟩|⟨hc,hv,h1⟩|⟨t1,w1,hc,hv,h1,h2⟩|⟨_,_,h3⟩
    ·obtain ⟨k1,k2,k3,_,k5,_⟩:=hN.end_ hk' hi hc
     have hin:=hN.inner hk'.1 hlt (.inr (.inl hc))
     have e1:(∀ l,yes=some l→OkS n l)∧HOk n w1:=by
       rcases part_inv h1 with ⟨_,rfl,rfl⟩|⟨hx,u,rfl,hr⟩
       ·exact ⟨by (intro l h;cases h),hw⟩
       ·obtain ⟨q1,q2⟩:=vrun_ok hN hR f (.blk (i+1) (gt mt i)) _ _ _ _ hr hin (hs.with (ok_yes (hs.at _) hx)) hw (by intro i v h;cases h)
        exact ⟨by intro l h;cases h;exact q1,q2⟩
     have e2:(∀ l,no=some l→OkS n l)∧HOk n w2:=by
       rcases part_inv h2 with ⟨_,rfl,rfl⟩|⟨hx,u,rfl,hr⟩
       ·exact ⟨by (intro l h;cases h),e1.2⟩
       ·obtain ⟨q1,q2⟩:=vrun_ok hN hR f (.blk _ _) _ _ _ _ hr k5 (hs.with (ok_no (hs.at _) hx)) e1.2 (by intro i v h;cases h)
        exact ⟨by intro l h;cases h;exact q1,q2⟩
     exact vrun_ok hN hR f (.blk _ _) _ _ _ _ h4 (hk'.next (by omega)) (hulls_ok h3 e1.1 e2.1) e2.2 (by intro i v h;cases h)
    ·obtain ⟨k1,_,_,_⟩:=hN.at hk'.1 hlt (.inl hc)
     exact vrun_ok hN hR f (.blk _ _) _ _ _ _ h1 (hk'.next (by omega)) hs hw (by intro i v h;cases h)
    ·obtain ⟨k1,_,_,_⟩:=hN.at hk'.1 hlt (.inl hc)
     have hh:OkS n ((lookH w.heads i).getD s):=by
       cases e:lookH w.heads i with
       |none=>exact hs
       |some l=>exact hw i l e
     have hb:=hs.at (B.op i).b
     have hcc:=hs.at (B.op i).c
     obtain ⟨q1,q2⟩:=vrun_ok hN hR f (.lop i _) _ _ _ _ h1 ⟨hk'.1,hlt,hc⟩ (hh.grown hs) hw (by
       intro j v hj
       cases hj
       obtain ⟨b1,b2,b3⟩:=hb
       obtain ⟨c1,c2,c3⟩:=hcc
       refine ⟨?_,?_,?_⟩<;>simp only [machR,maxC] at* <;>omega)
     exact vrun_ok hN hR f (.blk _ _) _ _ _ _ h2 (hk'.next (by omega)) q1 q2 (by intro i v h;cases h)
    ·refine vrun_ok hN hR f (.blk _ _) _ _ _ _ h3 (hk'.next (by omega)) ?_ hw (by intro i v h;cases h)
     split
     ·exact hs.with (okR_result hs (right_regs (hR i hk'.1 hlt)))
     ·exact hs
   ·simp only [vrun] at h
    rw [if_neg hi] at h
    cases h
    exact ⟨hs,hw⟩
  |f+1,.lop i v,s,w,t,w',h,hk,hs,hw,hv=>by
   obtain ⟨h0,h1,hc⟩:=hk
   have hin:=hN.inner h0 h1 (.inl hc)
   simp only [vrun] at h
   split at h
   ·rename_i t1 w1 hr
    obtain ⟨q1,q2⟩:=vrun_ok hN hR f (.blk (i+1) (gt mt i)) _ _ _ _ hr hin (hs.with (hv i v rfl)) (by
      intro j l hj
      simp only [lookH_put] at hj
      split at hj
      ·cases hj;exact hs
      ·exact hw j l hj) (by intro i v h;cases h)
    split at h
    ·cases h;exact ⟨hs,q2⟩
    ·exact vrun_ok hN hR f (.lop i v) _ _ _ _ h ⟨h0,h1,hc⟩ (hs.grown q1) q2 hv
   ·cases h
def Wider (n:Nat) (s t:List Rng):Prop:=∀ i,i<n→(s.getD i nilR).within (t.getD i nilR)
theorem wider_grown {n:Nat} {s t:List Rng} (hs:OkS n s) (ht:OkS n t):Wider n s (grownR s t)∧Wider n t (grownR s t):=by
  refine ⟨fun i hi=>?_,fun i hi=>?_⟩<;>unfold grownR<;>rw [getD_zip (by rw [hs.1];exact hi) (by rw [ht.1];exact hi)]
  ·exact grow_l (hs.2 i hi).2 (ht.2 i hi).2
  ·exact grow_r (hs.2 i hi).2 (ht.2 i hi).2
theorem Wider.trans {n:Nat} {a b c:List Rng} (h:Wider n a b) (k:Wider n b c):Wider n a c:=fun i hi=>Rng.within_trans (h i hi) (k i hi)
theorem lop_wider (hN:Nest B.ops mt) {n:Nat} (hR:Rights B n):∀ (f:Nat) (i:Int) (v:Rng) (s:List Rng) (w:W) (t:List Rng) (w':W),(VTk.lop i v).ok B mt→OkS n s→HOk n w→OkR v→vrun B mt f (.lop i v) s w=some (t,w')→Wider n s t
  |0,_,_,_,_,_,_,_,_,_,_,h=>by simp [vrun] at h
  |f+1,i,v,s,w,t,w',hk,hs,hw,hv,h=>by
   obtain ⟨h0,h1,hc⟩:=hk
   have hin:=hN.inner h0 h1 (.inl hc)
   simp only [vrun] at h
   split at h
   ·rename_i t1 w1 hr
    obtain ⟨q1,q2⟩:=vrun_ok hN hR f (.blk (i+1) (gt mt i)) _ _ _ _ hr hin (hs.with hv) (by
      intro j l hj
      simp only [lookH_put] at hj
      split at hj
      ·cases hj;exact hs
      ·exact hw j l hj) (by intro i v h;cases h)
    split at h
    ·cases h;exact fun i _=>Rng.within_refl _
    ·exact (wider_grown hs q1).1.trans (lop_wider hN hR f i v _ _ _ _ ⟨h0,h1,hc⟩ (hs.grown q1) q2 hv h)
   ·cases h
theorem InP.wider {n:Nat} {s t:List Rng} {l:List Int} (h:InP s l) (hs:s.length=n) (ht:t.length=n) (hw:Wider n s t):InP t l:=h.mono (by omega) (fun i hi=>hw i (by omega))
theorem InP.refine {s:List Rng} {l:List Int} (h:InP s l) {i:Int} {x:Rng} (hx:x.has (gt l i)):InP (withR s i x) l:=by
  refine ⟨by simp [withR,h.1],fun j hj=>?_⟩
  have hj':j<s.length:=by simpa [withR] using hj
  by_cases e:i.toNat=j
  ·subst e
   simpa [withR,List.getD,List.getElem?_set_self hj',gt] using hx
  ·have:=h.2 j hj'
   simpa [withR,List.getD,List.getElem?_set_ne e] using this
structure Pre (A:Int) (s:List Rng) (st:St):Prop where
  out:st.out=false
  words:Words st
  arena:(st.arena.length:Int)=A
  inp:stpS st=false→InP s st.regs
def Ver (B:Prg) (S:List (List Rng)) (A:Int):Prop:=∀ j:Nat,j<B.ops.length→S.getD j []≠[]→failR (B.op j) (S.getD j []) A=false
def Snd (B:Prg) (S:List (List Rng)) (A:Int) (t:List Rng) (st st':St):Prop:=Pre A t st'∧(Ver B S A→st.failed=false→st'.failed=false)
theorem Pre.wider {A:Int} {n:Nat} {s t:List Rng} {st:St} (h:Pre A s st) (hs:s.length=n) (ht:t.length=n) (hw:Wider n s t):Pre A t st:=⟨h.out,h.words,h.arena,fun k=>(h.inp k).wider hs ht hw⟩
theorem fail_none {x:Ins} {A:Int} (hx:Regs x 0):failR x [] A=false:=by
  unfold failR
  rcases hx.code with e|e|e|e|e|e|e|e|e|e|e|e|e|e|e
  all_goals first
    |(have:=hx.b (by omega);omega)
    |(have:=hx.w (by rw [e];rfl);omega)
    |(simp only [e];rw [if_neg (by omega),if_neg (by omega),if_neg (by omega),if_neg (by omega)])
theorem simple_keep {x:Ins} {st:St}:(simpleS x st).out=st.out∧(simpleS x st).arena.length=st.arena.length:=by
  refine simple_P (P:=fun r=>r.out=st.out∧r.arena.length=st.arena.length) ?_ ?_ ?_ ?_ ?_ ?_ ?_ ?_<;>intros<;>refine ⟨rfl,?_⟩<;>simp [St.put]
theorem vsound (hN:Nest B.ops mt) {n:Nat} (hR:Rights B n) {A:Int} {S:List (List Rng)} (hS:S.length=B.ops.length):∀ (f:Nat) (tk:VTk) (s:List Rng) (w:W) (t:List Rng) (w':W),vrun B mt f tk s w=some (t,w')→tk.ok B mt→OkS n s→HOk n w→(∀ i v,tk= .lop i v→OkR v)→
    w.before.length=B.ops.length→(∀ j:Nat,tk.lo≤j→(j:Int)<tk.hi mt→S.getD j []=w'.before.getD j [])→
    (∀ i to,tk= .blk i to→∀ st st',Pre A s st→Runs B mt S (.blk i to) st st'→Snd B S A t st st')∧
    (∀ i v,tk= .lop i v→∀ m hi st st',v.lo≤m→hi - 1≤v.hi→Pre A t st→Runs B mt S (.lop i m hi) st st'→Snd B S A t st st')
  |0,_,_,_,_,_,h,_,_,_,_,_,_=>by simp [vrun] at h
  |f+1,.blk i to,s,w,t,w',h,hk,hs,hw,_,hlen,hag=>by
   refine ⟨?_,by (intro i v h;cases h)⟩
   intro i' to' he st st' hpre hrun
   cases he
   have hk':Cl B mt i to:=hk
   by_cases hi:i<to
   ·have hlt:i<B.ops.length:=by have:=hk'.2.1;omega
    have h0:=hk'.1
    by_cases hst:stpS st=false
    ·have hc0:i<to∧stpS st=false:=⟨hi,hst⟩
     have hin:=hpre.inp hst
     have hx:=right_regs (hR i h0 hlt)
     have hn:n=s.length:=hs.1.symm
     subst hn
     have w0:(w.before.set i.toNat s).getD i.toNat []=s:=by simp [List.getD,List.getElem?_set_self (show i.toNat<w.before.length by omega)]
     have seen:w'.before.getD i.toNat []=s→look S i st=st:=fun e=>by
       have e2:S.getD i.toNat []=s:=by rw [hag i.toNat (by show i≤_;omega) (by show _<to;omega)];exact e
       unfold look
       rw [if_pos (by rw [hS];omega),e2]
       have:inR st.regs s=true:=inR_iff.2 hin
       rw [this]
       have:=hpre.out
       cases st
       simp at this ⊢
       exact this
     have keep:∀ {lo hi:Int} {a:W},Wr lo hi a w'→i<lo→a.before.getD i.toNat []=s→w'.before.getD i.toNat []=s:=fun hwr hlo ha=>by
       rw [hwr.2 i.toNat (by omega)];exact ha
     have tickp:Pre A s (tick st):=⟨hpre.out,hpre.words,hpre.arena,fun _=>hin⟩
     have hseen:∀ {j:Nat} {lo hi:Int} {a:W},Wr lo hi a w'→ ¬ (lo≤j∧(j:Int)<hi)→i≤j→(j:Int)<to→S.getD j []=a.before.getD j []:=fun hwr hj h1 h2=>by
       rw [hag _ (by show i≤_;omega) (by show _<to;omega),hwr.2 _ hj]
     rcases step1_of h hi with ⟨yes,no,w1,w2,t1,hc,h1,h2,h3,h4⟩|⟨hc,hv,h1⟩|⟨t1,w1,hc,hv,h1,h2⟩|⟨n10,n11,h3⟩
     ·
      obtain ⟨k1,k2,k3,k4,k5,k6⟩:=hN.end_ hk' hi hc
      have hinn:=hN.inner h0 hlt (.inr (.inl hc))
      have hmin:i<minI (gt mt i+1) (gt mt (gt mt i)):=by unfold minI;split<;>omega
      have hmin2:gt mt i≤minI (gt mt i+1) (gt mt (gt mt i)):=by unfold minI;split<;>omega
      have l0:({w with before:=w.before.set i.toNat s}:W).before.length=B.ops.length:=by simpa using hlen
      have wr1:Wr (i+1) (gt mt i) {w with before:=w.before.set i.toNat s} w1:=by
        rcases part_inv h1 with ⟨_,_,rfl⟩|⟨_,u,_,hr⟩
        ·exact wr_wipe
        ·exact vrun_wr hN f (.blk (i+1) (gt mt i)) _ _ _ _ hinn hr
      have wr2:Wr (minI (gt mt i+1) (gt mt (gt mt i))) (gt mt (gt mt i)) w1 w2:=by
        rcases part_inv h2 with ⟨_,_,rfl⟩|⟨_,u,_,hr⟩
        ·exact wr_wipe
        ·exact vrun_wr hN f (.blk _ _) _ _ _ _ k5 hr
      have wr3:=vrun_wr hN f (.blk (gt mt (gt mt i)+1) to) _ _ _ _ (hk'.next (by omega)) h4
      have wr3':Wr (gt mt (gt mt i)+1) to w2 w':=wr3
      have hlook:=seen (keep wr3' (by omega) (by rw [wr2.2 i.toNat (by omega),wr1.2 i.toNat (by omega)];exact w0))
      have e1:(∀ l,yes=some l→OkS s.length l)∧HOk s.length w1:=by
        rcases part_inv h1 with ⟨_,rfl,rfl⟩|⟨hx,u,rfl,hr⟩
        ·exact ⟨by (intro l h;cases h),hw⟩
        ·obtain ⟨q1,q2⟩:=vrun_ok hN hR f (.blk (i+1) (gt mt i)) _ _ _ _ hr hinn (hs.with (ok_yes (hs.at _) hx)) hw (by intro i v h;cases h)
         exact ⟨by intro l h;cases h;exact q1,q2⟩
      have e2:(∀ l,no=some l→OkS s.length l)∧HOk s.length w2:=by
        rcases part_inv h2 with ⟨_,rfl,rfl⟩|⟨hx,u,rfl,hr⟩
        ·exact ⟨by (intro l h;cases h),e1.2⟩
        ·obtain ⟨q1,q2⟩:=vrun_ok hN hR f (.blk _ _) _ _ _ _ hr k5 (hs.with (ok_no (hs.at _) hx)) e1.2 (by intro i v h;cases h)
         exact ⟨by intro l h;cases h;exact q1,q2⟩
      have okt:=hulls_ok h3 e1.1 e2.1
      have l1:w1.before.length=B.ops.length:=wr1.1.trans l0
      have l2:w2.before.length=B.ops.length:=wr2.1.trans l1
      have hra:=hin.at (hx.a (.inr hc)).1 (hx.a (.inr hc)).2
      have fin:∀ st1,Pre A t1 st1→(Ver B S A→st.failed=false→st1.failed=false)→Runs B mt S (.blk (endS B mt i+1) to) st1 st'→Snd B S A t st st':=fun st1 hp hv hr=>by
        rw [k4] at hr
        have:=(vsound hN hR hS f (.blk _ _) _ _ _ _ h4 (hk'.next (by omega)) okt e2.2 (by intro i v h;cases h) l2 (fun j j1 j2=>hag j (by show i≤_;have:gt mt (gt mt i)+1≤(j:Int):=j1;omega) j2)).1 _ _ rfl st1 st' hp hr
        exact ⟨this.1,fun hV hf=>this.2 hV (hv hV hf)⟩
      have wy:∀ l,yes=some l→Wider s.length l t1:=fun l e=>by
        subst e
        cases no with
        |none=>cases h3;exact fun i _=>Rng.within_refl _
        |some m=>
         cases h3
         exact fun i hi=>by rw [getD_zip (by rw [(e1.1 l rfl).1];exact hi) (by rw [(e2.1 m rfl).1];exact hi)];exact hull_l _ _
      have wn:∀ l,no=some l→Wider s.length l t1:=fun l e=>by
        subst e
        cases yes with
        |none=>cases h3;exact fun i _=>Rng.within_refl _
        |some m=>
         cases h3
         exact fun i hi=>by rw [getD_zip (by rw [(e1.1 m rfl).1];exact hi) (by rw [(e2.1 l rfl).1];exact hi)];exact hull_r _ _
      by_cases hp:gt (tick (look S i st)).regs (B.op i).a≥0
      ·have hp':gt st.regs (B.op i).a≥0:=by rw [hlook] at hp;exact hp
       have ra:=endR_runs (B:=B) (mt:=mt) (seen:=S) (t:= .blk (i+1) (gt mt i)) (s:=tick (look S i st))
       have rb:=endR_runs (B:=B) (mt:=mt) (seen:=S) (t:= .blk (endS B mt i+1) to) (s:=endR B mt S (.blk (i+1) (gt mt i)) (tick (look S i st)))
       have e:=hrun.det (runs_yes hc0 hc hp ra rb)
       rw [←e] at rb
       have hhas:(⟨maxI (gR s (B.op i).a).lo 0,(gR s (B.op i).a).hi⟩:Rng).has (gt st.regs (B.op i).a):=⟨by have:=maxI_ge (gR s (B.op i).a).lo 0;have:=hra.1;simp only;omega,hra.2⟩
       rcases part_inv h1 with ⟨hx,_,_⟩|⟨hx,u,hu,hr⟩
       ·exfalso;have:=Int.le_trans hhas.1 hhas.2;omega
       ·rw [hlook] at ra rb
        have hsub:=(vsound hN hR hS f (.blk (i+1) (gt mt i)) _ _ _ _ hr hinn (hs.with (ok_yes (hs.at _) hx)) hw (by intro i v h;cases h) l0 (fun j j1 j2=>by
          have j1':i+1≤(j:Int):=j1
          have j2':(j:Int)<gt mt i:=j2
          rw [hseen wr3' (by omega) (by omega) (by omega),wr2.2 j (by omega)])).1 _ _ rfl (tick st) _ ⟨hpre.out,hpre.words,hpre.arena,fun _=>hin.refine hhas⟩ ra
        exact fin _ (hsub.1.wider (e1.1 u hu).1 okt.1 (wy u hu)) (fun hV hf=>hsub.2 hV hf) rb
      ·have hp': ¬ gt st.regs (B.op i).a≥0:=by rw [hlook] at hp;exact hp
       have hhas:(⟨(gR s (B.op i).a).lo,minI (gR s (B.op i).a).hi (-1)⟩:Rng).has (gt st.regs (B.op i).a):=⟨hra.1,by have:=minI_le (gR s (B.op i).a).hi (-1);have:=hra.2;simp only;omega⟩
       rcases part_inv h2 with ⟨hx,_,_⟩|⟨hx,u,hu,hr⟩
       ·exfalso;have:=Int.le_trans hhas.1 hhas.2;omega
       ·by_cases he:(B.op (gt mt i)).code=12
        ·have ra:=endR_runs (B:=B) (mt:=mt) (seen:=S) (t:= .blk (gt mt i+1) (gt mt (gt mt i))) (s:=tick (look S i st))
         have rb:=endR_runs (B:=B) (mt:=mt) (seen:=S) (t:= .blk (endS B mt i+1) to) (s:=endR B mt S (.blk (gt mt i+1) (gt mt (gt mt i))) (tick (look S i st)))
         have e:=hrun.det (runs_no hc0 hc hp he ra rb)
         rw [←e] at rb
         rw [hlook] at ra rb
         have hkk:gt mt i<gt mt (gt mt i):=by
           have hk2:=hk'.2.2 i (Int.le_refl _) hi (.inr (.inl hc))
           have hk3:=hk'.2.1
           exact (hN.at (i:=gt mt i) (by omega) (by omega) (.inr (.inr he))).1
         have hm:minI (gt mt i+1) (gt mt (gt mt i))=gt mt i+1:=by unfold minI;rw [if_neg (by omega)]
         rw [hm] at hr k5
         have hsub:=(vsound hN hR hS f (.blk (gt mt i+1) (gt mt (gt mt i))) _ _ _ _ hr k5 (hs.with (ok_no (hs.at _) hx)) e1.2 (by intro i v h;cases h) l1 (fun j j1 j2=>by
           have j1':gt mt i+1≤(j:Int):=j1
           have j2':(j:Int)<gt mt (gt mt i):=j2
           rw [hseen wr3' (by omega) (by omega) (by omega)])).1 _ _ rfl (tick st) _ ⟨hpre.out,hpre.words,hpre.arena,fun _=>hin.refine hhas⟩ ra
         exact fin _ (hsub.1.wider (e2.1 u hu).1 okt.1 (wn u hu)) (fun hV hf=>hsub.2 hV hf) rb
        ·have rb:=endR_runs (B:=B) (mt:=mt) (seen:=S) (t:= .blk (endS B mt i+1) to) (s:=tick (look S i st))
         have e:=hrun.det (runs_none hc0 hc hp he rb)
         rw [←e] at rb
         rw [hlook] at rb
         have hke:=k6 he
         have hm:minI (gt mt i+1) (gt mt (gt mt i))=gt mt (gt mt i):=by unfold minI;rw [if_pos (by omega)]
         rw [hm] at hr
         have hu2:u=withR s (B.op i).a ⟨(gR s (B.op i).a).lo,minI (gR s (B.op i).a).hi (-1)⟩:=by
           cases f with
           |zero=>simp [vrun] at hr
           |succ f=>simp only [vrun] at hr;rw [if_neg (by omega)] at hr;cases hr;rfl
         have hpu:Pre A u (tick st):=⟨hpre.out,hpre.words,hpre.arena,fun _=>by rw [hu2];exact hin.refine hhas⟩
         exact fin _ (hpu.wider (e2.1 u hu).1 okt.1 (wn u hu)) (fun _ hf=>hf) rb
     ·
      obtain ⟨k1,_,_,_⟩:=hN.at h0 hlt (.inl hc)
      have hk1:=hk'.2.2 i (Int.le_refl _) hi (.inl hc)
      have wr1:=vrun_wr hN f (.blk (gt mt i+1) to) _ _ _ _ (hk'.next (by omega)) h1
      have wr1':Wr (gt mt i+1) to {w with before:=wipe (w.before.set i.toNat s) (i+1) (gt mt i)} w':=wr1
      have hlook:=seen (keep wr1' (by omega) (by simp only [wipe_getD];rw [if_neg (by omega)];exact w0))
      have hb:=hin.at (hx.b (by omega)).1 (hx.b (by omega)).2
      have hcc:=hin.at (hx.c (by omega)).1 (hx.c (by omega)).2
      have rl:Runs B mt S (.lop i (gt (tick (look S i st)).regs (B.op i).b) (gt (tick (look S i st)).regs (B.op i).c)) (tick (look S i st)) (tick (look S i st)):=runs_lend (fun hh=>by
        have h1:=hh.1
        rw [hlook] at h1
        have h2:gt st.regs (B.op i).b<gt st.regs (B.op i).c:=h1
        have:=hb.1;have:=hcc.2
        omega)
      have rb:=endR_runs (B:=B) (mt:=mt) (seen:=S) (t:= .blk (gt mt i+1) to) (s:=tick (look S i st))
      have e:=hrun.det (runs_for hc0 hc rl rb)
      rw [←e] at rb
      rw [hlook] at rb
      have:=(vsound hN hR hS f (.blk _ _) _ _ _ _ h1 (hk'.next (by omega)) hs hw (by intro i v h;cases h) (by simp only [wipe_length];simpa using hlen) (fun j j1 j2=>hag j (by show i≤_;have:gt mt i+1≤(j:Int):=j1;omega) j2)).1 _ _ rfl (tick st) st' tickp rb
      exact ⟨this.1,fun hV hf=>this.2 hV hf⟩
     ·
      obtain ⟨k1,_,_,_⟩:=hN.at h0 hlt (.inl hc)
      have hk1:=hk'.2.2 i (Int.le_refl _) hi (.inl hc)
      have hinn:=hN.inner h0 hlt (.inl hc)
      have l0:({w with before:=w.before.set i.toNat s}:W).before.length=B.ops.length:=by simpa using hlen
      have wr1:=vrun_wr hN f (.lop i _) _ _ _ _ ⟨h0,hlt,hc⟩ h1
      have wr1':Wr (i+1) (gt mt i) {w with before:=w.before.set i.toNat s} w1:=wr1
      have wr2:=vrun_wr hN f (.blk (gt mt i+1) to) _ _ _ _ (hk'.next (by omega)) h2
      have wr2':Wr (gt mt i+1) to w1 w':=wr2
      have hlook:=seen (keep wr2' (by omega) (by rw [wr1'.2 i.toNat (by omega)];exact w0))
      have hh:OkS s.length ((lookH w.heads i).getD s):=by
        cases e:lookH w.heads i with
        |none=>exact hs
        |some l=>exact hw i l e
      have hb:=hs.at (B.op i).b
      have hcc:=hs.at (B.op i).c
      have hv':OkR ⟨(gR s (B.op i).b).lo,(gR s (B.op i).c).hi - 1⟩:=by
        obtain ⟨b1,b2,b3⟩:=hb
        obtain ⟨c1,c2,c3⟩:=hcc
        refine ⟨?_,?_,?_⟩<;>simp only [machR,maxC] at* <;>omega
      obtain ⟨q1,q2⟩:=vrun_ok hN hR f (.lop i _) _ _ _ _ h1 ⟨h0,hlt,hc⟩ (hh.grown hs) hw (by intro j v hj;cases hj;exact hv')
      have hwid:Wider s.length s t1:=(wider_grown hh hs).2.trans (lop_wider hN hR f i _ _ {w with before:=w.before.set i.toNat s} _ _ ⟨h0,hlt,hc⟩ (hh.grown hs) hw hv' h1)
      have ra:=endR_runs (B:=B) (mt:=mt) (seen:=S) (t:= .lop i (gt (tick (look S i st)).regs (B.op i).b) (gt (tick (look S i st)).regs (B.op i).c)) (s:=tick (look S i st))
      have rb:=endR_runs (B:=B) (mt:=mt) (seen:=S) (t:= .blk (gt mt i+1) to) (s:=endR B mt S (.lop i (gt (tick (look S i st)).regs (B.op i).b) (gt (tick (look S i st)).regs (B.op i).c)) (tick (look S i st)))
      have e:=hrun.det (runs_for hc0 hc ra rb)
      rw [←e] at rb
      rw [hlook] at ra rb
      have hb':=hin.at (hx.b (by omega)).1 (hx.b (by omega)).2
      have hc':=hin.at (hx.c (by omega)).1 (hx.c (by omega)).2
      have hsub:=(vsound hN hR hS f (.lop i _) _ _ _ _ h1 ⟨h0,hlt,hc⟩ (hh.grown hs) hw (by intro j v hj;cases hj;exact hv') l0 (fun j j1 j2=>by
        have j1':i+1≤(j:Int):=j1
        have j2':(j:Int)<gt mt i:=j2
        rw [hseen wr2' (by omega) (by omega) (by omega)])).2 _ _ rfl _ _ (tick st) _ hb'.1 (by have:=hc'.2;show gt st.regs (B.op i).c - 1≤(gR s (B.op i).c).hi - 1;omega) (tickp.wider rfl q1.1 hwid) ra
      have:=(vsound hN hR hS f (.blk _ _) _ _ _ _ h2 (hk'.next (by omega)) q1 q2 (by intro i v h;cases h) (wr1'.1.trans l0) (fun j j1 j2=>hag j (by show i≤_;have:gt mt i+1≤(j:Int):=j1;omega) j2)).1 _ _ rfl _ st' hsub.1 rb
      exact ⟨this.1,fun hV hf=>this.2 hV (hsub.2 hV hf)⟩
     ·
      have wr1:=vrun_wr hN f (.blk (i+1) to) _ _ _ _ (hk'.next (by omega)) h3
      have wr1':Wr (i+1) to {w with before:=w.before.set i.toNat s} w':=wr1
      have hlook:=seen (keep wr1' (by omega) w0)
      have rb:=endR_runs (B:=B) (mt:=mt) (seen:=S) (t:= .blk (i+1) to) (s:=step1 B S i st)
      have e:=hrun.det (runs_simple hc0 n10 n11 rb)
      rw [←e] at rb
      have hf0:st.failed=false:=by simp [stpS] at hst;exact hst.1.2
      obtain ⟨s1,s2⟩:=simple_sound (st:=tick st) hx (hR i h0 hlt) hin hpre.words ⟨n10,n11⟩ hf0
      obtain ⟨o1,o2⟩:=simple_keep (x:=B.op i) (st:=tick st)
      have hok:OkS s.length (if wrtB (B.op i).code=true then withR s (B.op i).a (resultR (B.op i) s) else s):=by
        split
        ·exact hs.with (okR_result hs hx)
        ·exact hs
      have hfl:(step1 B S i st).failed=(simpleS (B.op i) (tick st)).failed:=by unfold step1;rw [hlook];split<;>rfl
      have hpre1:Pre A (if wrtB (B.op i).code=true then withR s (B.op i).a (resultR (B.op i) s) else s) (step1 B S i st):=by
        refine ⟨?_,?_,?_,fun hst1=>?_⟩
        ·unfold step1;rw [hlook];split<;>(show (simpleS (B.op i) (tick st)).out=false;rw [o1];exact hpre.out)
        ·have:=Words.simple (x:=B.op i) (s:=tick st) hpre.words
         unfold step1;rw [hlook];split<;>exact this
        ·unfold step1;rw [hlook];split<;>(show ((simpleS (B.op i) (tick st)).arena.length:Int)=A;rw [o2];exact hpre.arena)
        ·have hff:(step1 B S i st).failed=false:=by simp [stpS] at hst1;exact hst1.1.2
         rw [hfl] at hff
         have:=s1 hff
         have e9:(step1 B S i st).regs=(simpleS (B.op i) (tick st)).regs:=by unfold step1;rw [hlook];split<;>rfl
         rw [e9];exact this
      have:=(vsound hN hR hS f (.blk _ _) _ _ _ _ h3 (hk'.next (by omega)) hok hw (by intro i v h;cases h) (by simpa using hlen) (fun j j1 j2=>hag j (by show i≤_;have:i+1≤(j:Int):=j1;omega) j2)).1 _ _ rfl _ st' hpre1 rb
      refine ⟨this.1,fun hV hf=>this.2 hV ?_⟩
      rw [hfl]
      refine s2 ?_
      have e2:S.getD i.toNat []=s:=by rw [hag i.toNat (by show i≤_;omega) (by show _<to;omega)];exact keep wr1' (by omega) w0
      by_cases hnil:s=[]
      ·rw [hnil]
       rw [hnil] at hx
       exact fail_none hx
      ·have:=hV i.toNat (by omega) (by rw [e2];exact hnil)
       rw [e2,show ((i.toNat:Nat):Int)=i by omega] at this
       show failR (B.op i) s (st.arena.length:Int)=false
       rw [hpre.arena];exact this
    ·have e:=hrun.det (runs_end (fun h=>hst h.2))
     subst e
     exact ⟨⟨hpre.out,hpre.words,hpre.arena,fun h=>absurd h hst⟩,fun _ h=>h⟩
   ·simp only [vrun] at h
    rw [if_neg hi] at h
    cases h
    have e:=hrun.det (runs_end (fun h=>hi h.1))
    subst e
    exact ⟨hpre,fun _ h=>h⟩
  |f+1,.lop i v,s,w,t,w',h,hk,hs,hw,hv,hlen,hag=>by
   refine ⟨by (intro i v h;cases h),?_⟩
   intro i' v' he
   cases he
   obtain ⟨h0,h1,hc⟩:=hk
   have hin:=hN.inner h0 h1 (.inl hc)
   have hx:=right_regs (hR i h0 h1)
   have hokv:=hv i v rfl
   simp only [vrun] at h
   split at h
   ·rename_i t1 w1 hr
    have hw1:HOk n {w with heads:=putH w.heads i s}:=by
      intro j l hj
      simp only [lookH_put] at hj
      split at hj
      ·cases hj;exact hs
      ·exact hw j l hj
    obtain ⟨q1,q2⟩:=vrun_ok hN hR f (.blk (i+1) (gt mt i)) _ _ _ _ hr hin (hs.with hokv) hw1 (by intro i v h;cases h)
    split at h
    ·rename_i hgr
     cases h
     have hsub:=(vsound (A:=A) hN hR hS f (.blk (i+1) (gt mt i)) _ _ _ _ hr hin (hs.with hokv) hw1 (by intro i v h;cases h) hlen hag).1 _ _ rfl
     have hwid:Wider n t1 s:=by
       have:=(wider_grown hs q1).2
       rwa [hgr] at this
     have key:∀ (k:Nat) (m hi:Int) (st st':St),st.left.toNat≤k→v.lo≤m→hi - 1≤v.hi→Pre A s st→Runs B mt S (.lop i m hi) st st'→Snd B S A s st st':=by
       intro k
       induction k using Nat.strongRecOn with
       |_ k ih=>
        intro m hi st st' hk hm hhi hpre hrun
        by_cases hcc:m<hi∧stpS st=false
        ·have hpos:0<st.left:=by have:=hcc.2;simp [stpS] at this;omega
         have ra:=endR_runs (B:=B) (mt:=mt) (seen:=S) (t:= .blk (i+1) (gt mt i)) (s:=(tick st).put (B.op i).a m)
         have rb:=endR_runs (B:=B) (mt:=mt) (seen:=S) (t:= .lop i (m+(B.op i).d) hi) (s:=endR B mt S (.blk (i+1) (gt mt i)) ((tick st).put (B.op i).a m))
         have e:=hrun.det (runs_turn hcc ra rb)
         rw [←e] at rb
         have hp1:Pre A (withR s (B.op i).a v) ((tick st).put (B.op i).a m):=⟨hpre.out,hpre.words,hpre.arena,fun _=>(hpre.inp hcc.2).set ⟨hm,by omega⟩⟩
         have hs1:=hsub _ _ hp1 ra
         have hleft:=ra.left
         have hl2:((tick st).put (B.op i).a m).left=st.left - 1:=rfl
         have hs2:=ih (endR B mt S (.blk (i+1) (gt mt i)) ((tick st).put (B.op i).a m)).left.toNat (by omega) (m+(B.op i).d) hi _ st' (Nat.le_refl _) (by have:=(hx.k10 hc).1;omega) hhi (hs1.1.wider q1.1 hs.1 hwid) rb
         exact ⟨hs2.1,fun hV hf=>hs2.2 hV (hs1.2 hV hf)⟩
        ·have e:=hrun.det (runs_lend hcc)
         subst e
         exact ⟨hpre,fun _ h=>h⟩
     intro m hi st st' hm hhi hpre hrun
     exact key st.left.toNat m hi st st' (Nat.le_refl _) hm hhi hpre hrun
    ·have wr1:=vrun_wr hN f (.blk (i+1) (gt mt i)) _ _ _ _ hin hr
     exact (vsound hN hR hS f (.lop i v) _ _ _ _ h ⟨h0,h1,hc⟩ (hs.grown q1) q2 hv (wr1.1.trans hlen) hag).2 i v rfl
   ·cases h
end
end Go.Proofs.YtnlimcijgpaegaaGreat.Bm

namespace Go.Proofs.YtnlimcijgpaegaaGreat
open Go Go.Fw Bm
set_option maxRecDepth 20000
def opV (x:Ins):AV:= .agg [.lit (.int .i64 x.code),.lit (.string x.prim),.lit (.int .i64 x.a),.lit (.int .i64 x.b),.lit (.int .i64 x.c),.lit (.int .i64 x.d)]
def opsV (l:List Ins):List AV:=l.map opV
theorem opsV_length (l:List Ins):(opsV l).length=l.length:=by simp [opsV]
def jOp:AV:=opV nilI
theorem opsV_getJ (l:List Ins) (i:Nat):(opsV l).getD i jOp=opV (l.getD i nilI):=by
  simp only [opsV,jOp,List.getD_eq_getElem?_getD,List.getElem?_map];cases l[i]? <;>rfl
def opOf:AV→Option Ins
  |.agg [.lit (.int .i64 k),.lit (.string p),.lit (.int .i64 a),.lit (.int .i64 b),.lit (.int .i64 c),.lit (.int .i64 d)]=>some ⟨k,p,a,b,c,d⟩
  |_=>none
theorem opOf_agg {k a b c d:Int} {p:ByteArray}:opOf (.agg [.lit (.int .i64 k),.lit (.string p),.lit (.int .i64 a),.lit (.int .i64 b),.lit (.int .i64 c),.lit (.int .i64 d)])=some ⟨k,p,a,b,c,d⟩:=rfl
theorem opOf_V (x:Ins):opOf (opV x)=some x:=rfl
theorem opOf_inv {x:AV} {s:Ins} (h:opOf x=some s):x=opV s:=by
  unfold opOf at h
  split at h
  ·cases h;rfl
  ·cases h
theorem opOf_le {x:AV} {s:Ins} (h:opOf x=some s):LeA x (opV s):=by rw [opOf_inv h];exact LeA.refl _
def opL:List AV→Option (List Ins)
  |[]=>some []
  |x::xs=>match opOf x,opL xs with
   |some s,some l=>some (s::l)
   |_,_=>none
theorem opL_ops:∀ l:List Ins,opL (opsV l)=some l
  |[]=>rfl
  |s::l=>by
   show opL (opV s::opsV l)=_
   rw [opL,opOf_V,opL_ops l]
theorem opL_inv:∀ {xs:List AV} {l:List Ins},opL xs=some l→xs=opsV l
  |[],l,h=>by cases h;rfl
  |x::xs,l,h=>by
   unfold opL at h
   split at h
   ·rename_i s l' h1 h2
    cases h
    rw [opOf_inv h1,opL_inv h2];rfl
   ·cases h
def opsOf (x:AV):Option (List Ins):=(slA 6 x).bind opL
theorem opsOf_leR {x:AV} {l:List Ins} (h:opsOf x=some l):LeR x (.sl false 6 (opsV l)):=slA_leR (by
  unfold opsOf at h
  cases hx:slA 6 x with
  |none=>rw [hx] at h;cases h
  |some xs=>rw [hx] at h;rw [←opL_inv h])
theorem opsOf_le {x:AV} {l:List Ins} (h:opsOf x=some l):LeA x (.sl false 6 (opsV l)):=slA_le (by
  unfold opsOf at h
  cases hx:slA 6 x with
  |none=>rw [hx] at h;cases h
  |some xs=>rw [hx] at h;rw [←opL_inv h])
theorem opsOf_sl {b:Bool} {l:List Ins}:opsOf (.sl b 6 (opsV l))=some l:=by simp [opsOf,slA,opL_ops]
def plV (p:Int×Int):AV:= .agg [.lit (.int .i64 p.1),.lit (.int .i64 p.2)]
def plsV (l:List (Int×Int)):List AV:=l.map plV
theorem plsV_length (l:List (Int×Int)):(plsV l).length=l.length:=by simp [plsV]
def jPl:AV:=plV (0,0)
theorem plsV_getJ (l:List (Int×Int)) (i:Nat):(plsV l).getD i jPl=plV (l.getD i (0,0)):=by
  simp only [plsV,jPl,List.getD_eq_getElem?_getD,List.getElem?_map];cases l[i]? <;>rfl
def plOf:AV→Option (Int×Int)
  |.agg [.lit (.int .i64 a),.lit (.int .i64 b)]=>some (a,b)
  |_=>none
theorem plOf_inv {x:AV} {s:Int×Int} (h:plOf x=some s):x=plV s:=by
  unfold plOf at h
  split at h
  ·cases h;rfl
  ·cases h
def plL:List AV→Option (List (Int×Int))
  |[]=>some []
  |x::xs=>match plOf x,plL xs with
   |some s,some l=>some (s::l)
   |_,_=>none
theorem plL_pls:∀ l:List (Int×Int),plL (plsV l)=some l
  |[]=>rfl
  |s::l=>by
   show plL (plV s::plsV l)=_
   rw [plL,show plOf (plV s)=some s from rfl,plL_pls l]
theorem plL_inv:∀ {xs:List AV} {l:List (Int×Int)},plL xs=some l→xs=plsV l
  |[],l,h=>by cases h;rfl
  |x::xs,l,h=>by
   unfold plL at h
   split at h
   ·rename_i s l' h1 h2
    cases h
    rw [plOf_inv h1,plL_inv h2];rfl
   ·cases h
def plsOf (x:AV):Option (List (Int×Int)):=(slA 2 x).bind plL
theorem plsOf_le {x:AV} {l:List (Int×Int)} (h:plsOf x=some l):LeA x (.sl false 2 (plsV l)):=slA_le (by
  unfold plsOf at h
  cases hx:slA 2 x with
  |none=>rw [hx] at h;cases h
  |some xs=>rw [hx] at h;rw [←plL_inv h])
theorem plsOf_sl {b:Bool} {l:List (Int×Int)}:plsOf (.sl b 2 (plsV l))=some l:=by simp [plsOf,slA,plL_pls]
def jkV:TypeId→AV:=fun t=>if t=56 then jOp else if t=73 then jPl else jk t
theorem jkV_56:jkV 56=jOp:=rfl
theorem jkV_73:jkV 73=jPl:=rfl
theorem jkV_3:jkV 3= .lit (.int .i64 0):=rfl
theorem jkV_9:jkV 9= .lit (.string ByteArray.empty):=rfl
theorem jkV_34:jkV 34=jI:=rfl
theorem jkV_45:jkV 45=jA:=rfl
theorem typesV_some {r:El.Rw}:El.typesV (some r)= .tup [.sl false 1 (strs r.ps),.lit (.string r.rs),.lit (.bool true)]:=rfl
theorem typesV_none:El.typesV none= .tup [.lit (.slice none 0 0),.lit (.string ⟨#[]⟩),.lit (.bool false)]:=rfl
attribute [go_sem] jkV_56 jkV_73 jkV_3 jkV_9 jkV_34 jkV_45 opsV_getJ opsV_length plsV_getJ plsV_length typesV_some typesV_none opOf_agg
end Go.Proofs.YtnlimcijgpaegaaGreat

namespace Go.Proofs.YtnlimcijgpaegaaGreat
open Go Go.Fw Bm
set_option maxRecDepth 20000
theorem typesS_len {op:ByteArray} {r:El.Rw} (h:El.typesS op=some r):r.ps.length=1∨r.ps.length=2∨r.ps.length=3:=by
  have hm:r∈El.rowsL:=List.mem_of_find?_eq_some h
  have:∀ r∈El.rowsL,r.ps.length=1∨r.ps.length=2∨r.ps.length=3:=by decide
  exact this r hm
theorem szR4:(#[114,114,114,114]:Array UInt8).size=4:=rfl
theorem ci1:(1:Int)+((1:Nat):Int)=2:=rfl
theorem ci2:(1:Int)+((2:Nat):Int)=3:=rfl
theorem ci3:(1:Int)+((3:Nat):Int)=4:=rfl
theorem mi1:minI 4 1=1:=rfl
theorem mi2:minI 4 2=2:=rfl
theorem mi3:minI 4 3=3:=rfl
theorem mi4:minI 4 4=4:=rfl
attribute [go_sem] ci1 ci2 ci3 szR4 mi1 mi2 mi3 mi4
attribute [go_sem] El.con70_f El.con70_c
end Go.Proofs.YtnlimcijgpaegaaGreat

namespace Go.Proofs.YtnlimcijgpaegaaGreat
open Go Go.Fw Bm
set_option maxRecDepth 20000
noncomputable def V2:Env:=envJ (P:=Tryz.prog) jkV zer (fun _=>false) (fun _=>false) [] []
theorem V2_ok:EnvOk Tryz.prog V2:=envJOk zer_ok
def oprV (x:Ins):AV:= .agg [.lit (.int .i64 x.a),.lit (.int .i64 x.b),.lit (.int .i64 x.c),.lit (.int .i64 x.d)]
set_option maxHeartbeats 4000000 in
theorem opr_pc {x:Ins}:PC Tryz.prog 59 [opV x] (oprV x):=by
  simp only [opV]
  refine pcR V2_ok (kp59) Tryz.func59 [.cell 2 109] (h:=fun KF=>?_)
  unfold V2
  with_reducible repeat' first|(refine nx ?_;intros)|refine t_br (fun hc=>?_) fun hc=>?_|refine t_bx ?_|apply And.intro|intro vr|((first|refine ny ?_|refine t_dwh (h:=fun K KL=>?_));intros;simp only [go_sem,kp59,geff])
  all_goals try exact nd
  all_goals (refine nl ?_;simp only [go_sem])
  exact LeA.refl _
def wrtV (x:Ins):AV:= .tup [.lit (.int .i64 (if wrtB x.code=true then x.a else 0)),.lit (.bool (wrtB x.code))]
def kindOk (k n regs:Int):Bool:=
  if k=0 then decide (0≤n)&&decide (n<regs)
  else if k=1 then decide (-maxC≤n)&&decide (n≤maxC)
  else if k=2 then decide (-maxA≤n)&&decide (n≤maxA)
  else if k=3 then decide (1≤n)&&decide (n≤1000000)
  else decide (1≤n)&&decide (n≤maxA)
set_option maxHeartbeats 4000000 in
theorem within_pc {k n regs:Int}:PC Tryz.prog 60 [.lit (.int .i64 k),.lit (.int .i64 n),.lit (.int .i64 regs)] (.lit (.bool (kindOk k n regs))):=by
  generalize hR:kindOk k n regs=R
  refine pcR V2_ok (kp60) Tryz.func60 [.tmp 6] (h:=fun KF=>?_)
  unfold V2
  with_reducible repeat' first|(refine nx ?_;intros)|refine t_br (fun hc=>?_) fun hc=>?_|apply And.intro|intro vr|(refine ny ?_;intros;simp only [go_sem,kp60,geff])
  all_goals try exact nd
  all_goals (refine nl ?_;simp only [go_sem])
  all_goals (refine LeA.of_eq ?_;subst hR;first|(simp_all [kindOk,maxC,maxA];done)|(simp_all [kindOk,maxC,maxA];rfl))
noncomputable def con59:PCon Tryz.prog where
  f:=59
  c:=fun
   |[xx]=>match opOf xx with|some x=>some (True,oprV x)|_=>none
   |_=>none
  ok:=by
   intro args p r hc hp
   split at hc
   ·split at hc
    ·rename_i hx
     cases hc
     exact PC.weak opr_pc ⟨opOf_le hx,trivial⟩
    ·cases hc
   ·cases hc
  fk:=fk59
theorem con59_f:con59.f=59:=rfl
theorem con59_c {xx:AV}:con59.c [xx]=match opOf xx with|some x=>some (True,oprV x)|_=>none:=rfl
noncomputable def con60:PCon Tryz.prog where
  f:=60
  c:=fun
   |[.lit (.int .i64 k),.lit (.int .i64 n),.lit (.int .i64 r)]=>some (True,.lit (.bool (kindOk k n r)))
   |_=>none
  ok:=by
   intro args p r hc hp
   split at hc
   ·cases hc;exact within_pc
   ·cases hc
  fk:=fk60
theorem con60_f:con60.f=60:=rfl
theorem con60_c {k:Int} {n:Int} {r:Int}:con60.c [.lit (.int .i64 k),.lit (.int .i64 n),.lit (.int .i64 r)]=some (True,.lit (.bool (kindOk k n r))):=rfl
theorem oprV_mk {k a b c d:Int} {p:ByteArray}:oprV ⟨k,p,a,b,c,d⟩= .agg [.lit (.int .i64 a),.lit (.int .i64 b),.lit (.int .i64 c),.lit (.int .i64 d)]:=rfl
theorem wrtV_mk {k a b c d:Int} {p:ByteArray}:wrtV ⟨k,p,a,b,c,d⟩= .tup [.lit (.int .i64 (if wrtB k=true then a else 0)),.lit (.bool (wrtB k))]:=rfl
attribute [go_sem] oprV_mk wrtV_mk con59_f con59_c con60_f con60_c
end Go.Proofs.YtnlimcijgpaegaaGreat

namespace Go.Proofs.YtnlimcijgpaegaaGreat
open Go Go.Fw Bm
set_option maxRecDepth 20000
theorem stepP {P:Nat→Prop} {i:Nat} (h:∀ j,j<i→P j) (k:P i):∀ j,j<i+1→P j:=fun j hj=>by
  rcases (show j<i∨j=i by omega) with h1|rfl
  ·exact h j h1
  ·exact k
end Go.Proofs.YtnlimcijgpaegaaGreat

namespace Go.Proofs.YtnlimcijgpaegaaGreat
open Go Go.Fw Bm
set_option maxRecDepth 20000
def formsV:AV:= .agg [
  .lit (.string ByteArray.empty),.sl true 1 [],.lit (.bool false),.sl true 1 [],
  .lit (.string ⟨#[99,111,110,115,116]⟩),.sl true 1 [.lit (.int .i64 0),.lit (.int .i64 1)],.lit (.bool true),.lit (.slice none 0 0),
  .lit (.string ⟨#[97,100,100]⟩),.sl true 1 [.lit (.int .i64 0),.lit (.int .i64 0),.lit (.int .i64 0),.lit (.int .i64 2)],.lit (.bool true),.sl true 1 [.lit (.int .i64 1),.lit (.int .i64 2)],
  .lit (.string ⟨#[109,105,110]⟩),.sl true 1 [.lit (.int .i64 0),.lit (.int .i64 0),.lit (.int .i64 0)],.lit (.bool true),.sl true 1 [.lit (.int .i64 1),.lit (.int .i64 2)],
  .lit (.string ⟨#[109,97,120]⟩),.sl true 1 [.lit (.int .i64 0),.lit (.int .i64 0),.lit (.int .i64 0)],.lit (.bool true),.sl true 1 [.lit (.int .i64 1),.lit (.int .i64 2)],
  .lit (.string ⟨#[112,114,105,109]⟩),.sl true 1 [.lit (.int .i64 0)],.lit (.bool true),.lit (.slice none 0 0),
  .lit (.string ⟨#[108,111,97,100]⟩),.sl true 1 [.lit (.int .i64 0),.lit (.int .i64 0)],.lit (.bool true),.sl true 1 [.lit (.int .i64 1)],
  .lit (.string ⟨#[115,116,111,114,101]⟩),.sl true 1 [.lit (.int .i64 0),.lit (.int .i64 0)],.lit (.bool false),.sl true 1 [.lit (.int .i64 0),.lit (.int .i64 1)],
  .lit (.string ⟨#[109,105,115,115]⟩),.sl true 1 [.lit (.int .i64 0)],.lit (.bool true),.lit (.slice none 0 0),
  .lit (.string ⟨#[99,104,101,99,107]⟩),.sl true 1 [.lit (.int .i64 3),.lit (.int .i64 0)],.lit (.bool false),.sl true 1 [.lit (.int .i64 1)],
  .lit (.string ⟨#[102,111,114]⟩),.sl true 1 [.lit (.int .i64 0),.lit (.int .i64 0),.lit (.int .i64 0),.lit (.int .i64 4)],.lit (.bool true),.sl true 1 [.lit (.int .i64 1),.lit (.int .i64 2)],
  .lit (.string ⟨#[105,102]⟩),.sl true 1 [.lit (.int .i64 0)],.lit (.bool false),.sl true 1 [.lit (.int .i64 0)],
  .lit (.string ⟨#[101,108,115,101]⟩),.lit (.slice none 0 0),.lit (.bool false),.lit (.slice none 0 0),
  .lit (.string ⟨#[101,110,100]⟩),.lit (.slice none 0 0),.lit (.bool false),.lit (.slice none 0 0),
  .lit (.string ⟨#[119,114,97,112]⟩),.sl true 1 [.lit (.int .i64 0),.lit (.int .i64 0)],.lit (.bool true),.sl true 1 [.lit (.int .i64 1)],
  .lit (.string ⟨#[115,107,105,112]⟩),.lit (.slice none 0 0),.lit (.bool false),.lit (.slice none 0 0)]
noncomputable def V4:Env:=envJ (P:=Tryz.prog) jkV zer (fun _=>false) (fun _=>false) [] []
theorem V4_ok:EnvOk Tryz.prog V4:=envJOk zer_ok
set_option maxHeartbeats 8000000 in
theorem forms_pc:PC Tryz.prog 100 [] formsV:=by
  refine pcR V4_ok (kp100) Tryz.func100 [.cell 0 151] (h:=fun KF=>?_)
  unfold V4
  with_reducible repeat' first|(refine nx ?_;intros)|refine t_br (fun hc=>?_) fun hc=>?_|refine t_bx ?_|apply And.intro|intro vr|((first|refine ny ?_|refine t_dwh (h:=fun K KL=>?_));intros;simp only [go_sem,kp100,geff])
  all_goals try exact nd
  all_goals (refine nl ?_;simp only [go_sem])
  exact LeA.refl _
noncomputable def con100:PCon Tryz.prog where
  f:=100
  c:=fun
   |[]=>some (True,formsV)
   |_=>none
  ok:=by
   intro args p r hc hp
   split at hc
   ·cases hc;exact forms_pc
   ·cases hc
  fk:=fk100
theorem con100_f:con100.f=100:=rfl
theorem con100_c:con100.c []=some (True,formsV):=rfl
attribute [go_sem] con100_f con100_c
def kndL (c:Int):List Int:=
  if c=1 then [0,1]
  else if c=2 then [0,0,0,2]
  else if c=3 then [0,0,0]
  else if c=4 then [0,0,0]
  else if c=5 then [0]
  else if c=6 then [0,0]
  else if c=7 then [0,0]
  else if c=8 then [0]
  else if c=9 then [3,0]
  else if c=10 then [0,0,0,4]
  else if c=11 then [0]
  else if c=12 then []
  else if c=13 then []
  else if c=14 then [0,0]
  else if c=15 then []
  else []
def redL (c:Int):List Int:=
  if c=1 then []
  else if c=2 then [1,2]
  else if c=3 then [1,2]
  else if c=4 then [1,2]
  else if c=5 then []
  else if c=6 then [1]
  else if c=7 then [0,1]
  else if c=8 then []
  else if c=9 then [1]
  else if c=10 then [1,2]
  else if c=11 then [0]
  else if c=12 then []
  else if c=13 then []
  else if c=14 then [1]
  else if c=15 then []
  else []
def namL (c:Int):ByteArray:=
  if c=1 then ⟨#[99,111,110,115,116]⟩
  else if c=2 then ⟨#[97,100,100]⟩
  else if c=3 then ⟨#[109,105,110]⟩
  else if c=4 then ⟨#[109,97,120]⟩
  else if c=5 then ⟨#[112,114,105,109]⟩
  else if c=6 then ⟨#[108,111,97,100]⟩
  else if c=7 then ⟨#[115,116,111,114,101]⟩
  else if c=8 then ⟨#[109,105,115,115]⟩
  else if c=9 then ⟨#[99,104,101,99,107]⟩
  else if c=10 then ⟨#[102,111,114]⟩
  else if c=11 then ⟨#[105,102]⟩
  else if c=12 then ⟨#[101,108,115,101]⟩
  else if c=13 then ⟨#[101,110,100]⟩
  else if c=14 then ⟨#[119,114,97,112]⟩
  else if c=15 then ⟨#[115,107,105,112]⟩
  else ⟨#[]⟩
def kndS (x:Ins):List Int:=if x.code=5 then (match El.typesS x.prim with
  |some r=>0::List.replicate r.ps.length 0
  |none=>[0]) else kndL x.code
def redS (x:Ins):List Int:=if x.code=5 then (match El.typesS x.prim with
  |some r=>(List.range r.ps.length).map fun i:Nat=>(i:Int)+1
  |none=>[]) else redL x.code
def shpOk (x:Ins):Bool:=if x.code<1∨x.code>15 then false else if x.code=5 then (El.typesS x.prim).isSome else true
def shpV (x:Ins):AV:= .tup [.agg [.lit (.string (namL x.code)),.sl false 1 (ints .i64 (kndS x)),.lit (.bool (wrtB x.code)),.sl false 1 (ints .i64 (redS x))],.lit (.bool (shpOk x))]
end Go.Proofs.YtnlimcijgpaegaaGreat

namespace Go.Proofs.YtnlimcijgpaegaaGreat
open Go Go.Fw Bm
set_option maxRecDepth 20000
noncomputable def V5:Env:=envJ (P:=Tryz.prog) jkV zer (fun _=>false) (fun _=>false) [con100] []
theorem V5_ok:EnvOk Tryz.prog V5:=envJOk zer_ok
attribute [go_sem] formsV
set_option maxHeartbeats 8000000 in
theorem wrt_pc {x:Ins}:PC Tryz.prog 66 [opV x] (wrtV x):=by
  obtain ⟨k,p,a,b,c,d⟩:=x
  simp only [opV]
  rcases (show k<1∨k>15∨k=1∨k=2∨k=3∨k=4∨k=5∨k=6∨k=7∨k=8∨k=9∨k=10∨k=11∨k=12∨k=13∨k=14∨k=15 by omega) with h|h|rfl|rfl|rfl|rfl|rfl|rfl|rfl|rfl|rfl|rfl|rfl|rfl|rfl|rfl|rfl
  ·have e:wrtV ⟨k,p,a,b,c,d⟩= .tup [.lit (.int .i64 0),.lit (.bool false)]:=by
     have:wrtB k=false:=by simp only [wrtB];simp;omega
     rw [wrtV_mk,this];rfl
   rw [e]
   have g1:decide (k<1)=true:=decide_eq_true h
   have hk:k.toNat=0:=by omega
   refine pcR V5_ok (kp66) Tryz.func66 [.tmp 2,.tmp 3] (h:=fun KF=>?_)
   unfold V5
   with_reducible repeat' first|(refine nx ?_;intros)|apply And.intro|intro vr|((first|refine ny ?_|refine t_dwh (h:=fun K KL=>?_));intros;simp only [go_sem,kp66,geff,g1,hk,yes])
   all_goals try exact nd
   all_goals (refine nl ?_;simp only [go_sem])
   exact LeA.refl _
  ·have e:wrtV ⟨k,p,a,b,c,d⟩= .tup [.lit (.int .i64 0),.lit (.bool false)]:=by
     have:wrtB k=false:=by simp only [wrtB];simp;omega
     rw [wrtV_mk,this];rfl
   rw [e]
   have g1:decide (k<1)=false:=decide_eq_false (by omega)
   have g2:decide (k>15)=true:=decide_eq_true h
   have hk: ¬ k.toNat*4≤60:=by omega
   refine pcR V5_ok (kp66) Tryz.func66 [.tmp 2,.tmp 3] (h:=fun KF=>?_)
   unfold V5
   with_reducible repeat' first|(refine nx ?_;intros)|apply And.intro|intro vr|((first|refine ny ?_|refine t_dwh (h:=fun K KL=>?_));intros;simp only [go_sem,kp66,geff,g1,g2,hk,yes])
   all_goals try exact nd
   all_goals (refine nl ?_;simp only [go_sem])
   exact LeA.refl _
  all_goals
    refine pcR V5_ok (kp66) Tryz.func66 [.tmp 2,.tmp 3] (h:=fun KF=>?_)
    unfold V5
    with_reducible repeat' first|(refine nx ?_;intros)|apply And.intro|intro vr|((first|refine ny ?_|refine t_dwh (h:=fun K KL=>?_));intros;simp only [go_sem,kp66,geff,yes])
    all_goals try exact nd
    all_goals (refine nl ?_;simp only [go_sem])
    exact LeA.refl _
noncomputable def con66:PCon Tryz.prog where
  f:=66
  c:=fun
   |[xx]=>match opOf xx with|some x=>some (True,wrtV x)|_=>none
   |_=>none
  ok:=by
   intro args p r hc hp
   split at hc
   ·split at hc
    ·rename_i hx
     cases hc
     exact PC.weak wrt_pc ⟨opOf_le hx,trivial⟩
    ·cases hc
   ·cases hc
  fk:=fk66
theorem con66_f:con66.f=66:=rfl
theorem con66_c {xx:AV}:con66.c [xx]=match opOf xx with|some x=>some (True,wrtV x)|_=>none:=rfl
attribute [go_sem] con66_f con66_c
theorem shpV_of {k a b c d:Int} {p:ByteArray} (h:k≠5):shpV ⟨k,p,a,b,c,d⟩= .tup [.agg [.lit (.string (namL k)),.sl false 1 (ints .i64 (kndL k)),.lit (.bool (wrtB k)),.sl false 1 (ints .i64 (redL k))],.lit (.bool (if k<1∨k>15 then false else true))]:=by
  simp only [shpV,kndS,redS,shpOk,if_neg h]
end Go.Proofs.YtnlimcijgpaegaaGreat

namespace Go.Proofs.YtnlimcijgpaegaaGreat
open Go Go.Fw Bm
set_option maxRecDepth 20000
def kA (j:Nat):List Int:=0::List.replicate j 0
def rB (j:Nat):List Int:=(List.range j).map fun i:Nat=>(i:Int)+1
theorem kA_length (j:Nat):(ints .i64 (kA j)).length=j+1:=by simp [kA,ints]
theorem rB_length (j:Nat):(ints .i64 (rB j)).length=j:=by simp [rB,ints]
theorem kA_app (j:Nat):ints .i64 (kA j)++[.lit (.int .i64 0)]=ints .i64 (kA (j+1)):=by
  rw [ints_append1,kA,kA,List.replicate_succ',List.cons_append]
theorem rB_app (j:Nat):ints .i64 (rB j)++[.lit (.int .i64 ((j:Int)+1))]=ints .i64 (rB (j+1)):=by
  rw [ints_append1,rB,rB,List.range_succ,List.map_append];rfl
theorem kndS_5 {a b c d:Int} {p:ByteArray}:kndS ⟨5,p,a,b,c,d⟩=match El.typesS p with
  |some r=>kA r.ps.length
  |none=>[0]:=rfl
theorem redS_5 {a b c d:Int} {p:ByteArray}:redS ⟨5,p,a,b,c,d⟩=match El.typesS p with
  |some r=>rB r.ps.length
  |none=>[]:=rfl
theorem shpV_5 {a b c d:Int} {p:ByteArray} {r:El.Rw} (h:El.typesS p=some r):shpV ⟨5,p,a,b,c,d⟩= .tup [.agg [.lit (.string ⟨#[112,114,105,109]⟩),.sl false 1 (ints .i64 (kA r.ps.length)),.lit (.bool true),.sl false 1 (ints .i64 (rB r.ps.length))],.lit (.bool true)]:=by
  simp only [shpV,kndS_5,redS_5,shpOk,h];rfl
theorem shpV_5n {a b c d:Int} {p:ByteArray} (h:El.typesS p=none):shpV ⟨5,p,a,b,c,d⟩= .tup [.agg [.lit (.string ⟨#[112,114,105,109]⟩),.sl false 1 [.lit (.int .i64 0)],.lit (.bool true),.sl false 1 []],.lit (.bool false)]:=by
  simp only [shpV,kndS_5,redS_5,shpOk,h];rfl
noncomputable def V6:Env:=envJ (P:=Tryz.prog) jkV zer (fun _=>false) (fun _=>false) [con100,El.con70] []
theorem V6_ok:EnvOk Tryz.prog V6:=envJOk zer_ok
set_option maxHeartbeats 8000000 in
theorem shape_pc {x:Ins}:PC Tryz.prog 58 [opV x] (shpV x):=by
  obtain ⟨k,p,a,b,c,d⟩:=x
  simp only [opV]
  rcases (show k<1∨k>15∨k=5∨k=1∨k=2∨k=3∨k=4∨k=6∨k=7∨k=8∨k=9∨k=10∨k=11∨k=12∨k=13∨k=14∨k=15 by omega) with h|h|rfl|rfl|rfl|rfl|rfl|rfl|rfl|rfl|rfl|rfl|rfl|rfl|rfl|rfl|rfl
  ·rw [shpV_of (by omega),if_pos (.inl h)]
   have g1:decide (k<1)=true:=decide_eq_true h
   have e1:kndL k=[]:=by unfold kndL;repeat (rw [if_neg (by omega)])
   have e2:redL k=[]:=by unfold redL;repeat (rw [if_neg (by omega)])
   have e3:namL k=ByteArray.empty:=by unfold namL;(repeat rw [if_neg (by omega)]);rfl
   have e4:wrtB k=false:=by simp only [wrtB];simp;omega
   rw [e1,e2,e3,e4]
   refine pcR V6_ok (kp58) Tryz.func58 [.cell 2 106,.tmp 3] (h:=fun KF=>?_)
   unfold V6
   repeat' first|(with_reducible first|(refine nx ?_;intros)|refine t_br (fun hc=>?_) fun hc=>?_|apply And.intro|intro vr)|exact kpd|((with_reducible refine t_drawG (id:=3) (fun i=>i==0) 4 [(1,1),(2,1),(0,1),(3,1),(4,3),(5,0)] (by kernel_rfl) (by kernel_rfl) (by kernel_rfl) fun K=>?_);simp only [noA,List.filter_cons,List.filter_nil,Nat.reduceBEq,Bool.not_false,Bool.not_true,reduceIte,if_true,Bool.false_eq_true];simp only [pickO,List.getElem?_toArray,List.getElem?_cons_zero,List.getElem?_cons_succ,Nat.reduceAdd,Nat.reduceSub,fo_some];refine nh ?_;intro KL;simp only [go_sem,kp58,geff,g1])|((with_reducible first|refine ny ?_|refine t_kLF ?_ ?_|refine t_drawX (id:=10) (fun i=>i==0) [(0,1),(2,1),(4,1),(6,1),(7,1),(8,1),(1,3),(5,3),(3,0),(10,1),(9,0),(11,0),(12,1),(13,0)] (by kernel_rfl) fun K=>?_);intros;simp only [go_sem,kp58,geff,g1])
   all_goals try exact nd
   all_goals (refine nl ?_;simp only [go_sem])
   exact LeA.tup ⟨LeA.agg ⟨LeA.refl _,LeA.slx rfl,LeA.refl _,LeA.slx rfl,trivial⟩,LeA.refl _,trivial⟩
  ·rw [shpV_of (by omega),if_pos (.inr h)]
   have g1:decide (k<1)=false:=decide_eq_false (by omega)
   have g2:decide (k>15)=true:=decide_eq_true h
   have e1:kndL k=[]:=by unfold kndL;repeat (rw [if_neg (by omega)])
   have e2:redL k=[]:=by unfold redL;repeat (rw [if_neg (by omega)])
   have e3:namL k=ByteArray.empty:=by unfold namL;(repeat rw [if_neg (by omega)]);rfl
   have e4:wrtB k=false:=by simp only [wrtB];simp;omega
   rw [e1,e2,e3,e4]
   refine pcR V6_ok (kp58) Tryz.func58 [.cell 2 106,.tmp 3] (h:=fun KF=>?_)
   unfold V6
   repeat' first|(with_reducible first|(refine nx ?_;intros)|refine t_br (fun hc=>?_) fun hc=>?_|apply And.intro|intro vr)|exact kpd|((with_reducible refine t_drawG (id:=3) (fun i=>i==0) 4 [(1,1),(2,1),(0,1),(3,1),(4,3),(5,0)] (by kernel_rfl) (by kernel_rfl) (by kernel_rfl) fun K=>?_);simp only [noA,List.filter_cons,List.filter_nil,Nat.reduceBEq,Bool.not_false,Bool.not_true,reduceIte,if_true,Bool.false_eq_true];simp only [pickO,List.getElem?_toArray,List.getElem?_cons_zero,List.getElem?_cons_succ,Nat.reduceAdd,Nat.reduceSub,fo_some];refine nh ?_;intro KL;simp only [go_sem,kp58,geff,g1,g2])|((with_reducible first|refine ny ?_|refine t_kLF ?_ ?_|refine t_drawX (id:=10) (fun i=>i==0) [(0,1),(2,1),(4,1),(6,1),(7,1),(8,1),(1,3),(5,3),(3,0),(10,1),(9,0),(11,0),(12,1),(13,0)] (by kernel_rfl) fun K=>?_);intros;simp only [go_sem,kp58,geff,g1,g2])
   all_goals try exact nd
   all_goals (refine nl ?_;simp only [go_sem])
   exact LeA.tup ⟨LeA.agg ⟨LeA.refl _,LeA.slx rfl,LeA.refl _,LeA.slx rfl,trivial⟩,LeA.refl _,trivial⟩
  ·cases hT:El.typesS p with
   |none=>
    rw [shpV_5n hT]
    refine pcR V6_ok (kp58) Tryz.func58 [.cell 2 106,.tmp 3] (h:=fun KF=>?_)
    unfold V6
    repeat' first|(with_reducible first|(refine nx ?_;intros)|refine t_br (fun hc=>?_) fun hc=>?_|apply And.intro|intro vr)|exact kpd|((with_reducible refine t_drawG (id:=3) (fun i=>i==0) 4 [(1,1),(2,1),(0,1),(3,1),(4,3),(5,0)] (by kernel_rfl) (by kernel_rfl) (by kernel_rfl) fun K=>?_);simp only [noA,List.filter_cons,List.filter_nil,Nat.reduceBEq,Bool.not_false,Bool.not_true,reduceIte,if_true,Bool.false_eq_true];simp only [pickO,List.getElem?_toArray,List.getElem?_cons_zero,List.getElem?_cons_succ,Nat.reduceAdd,Nat.reduceSub,fo_some];refine nh ?_;intro KL;simp only [go_sem,kp58,geff,hT,yes])|((with_reducible first|refine ny ?_|refine t_kLF ?_ ?_|refine t_drawX (id:=10) (fun i=>i==0) [(0,1),(2,1),(4,1),(6,1),(7,1),(8,1),(1,3),(5,3),(3,0),(10,1),(9,0),(11,0),(12,1),(13,0)] (by kernel_rfl) fun K=>?_);intros;simp only [go_sem,kp58,geff,hT,yes])
    all_goals try exact nd
    refine t_loopF (ι:=Unit) (fun i=>[(35,.lit (.int .i64 0))]) (fun i=>[.box 56 [.lit (.int .i64 5),.lit (.string p),.lit (.int .i64 a),.lit (.int .i64 b),.lit (.int .i64 c),.lit (.int .i64 d)],.box 106 [.lit (.string ByteArray.empty),.sl true 1 [],.lit (.bool false),.sl true 1 []],.box 106 [.lit (.string ⟨#[112,114,105,109]⟩),.sl true 1 [.lit (.int .i64 0)],.lit (.bool true),.lit (.slice none 0 0)]]) (fun i=>0) () ?_ ?_
    ·exact lf
    rintro ⟨⟩ K0
    repeat' first|(with_reducible first|(refine nx ?_;intros)|refine t_br (fun hc=>?_) fun hc=>?_|apply And.intro|intro vr)|exact kpd|((with_reducible refine t_drawG (id:=3) (fun i=>i==0) 4 [(1,1),(2,1),(0,1),(3,1),(4,3),(5,0)] (by kernel_rfl) (by kernel_rfl) (by kernel_rfl) fun K=>?_);simp only [noA,List.filter_cons,List.filter_nil,Nat.reduceBEq,Bool.not_false,Bool.not_true,reduceIte,if_true,Bool.false_eq_true];simp only [pickO,List.getElem?_toArray,List.getElem?_cons_zero,List.getElem?_cons_succ,Nat.reduceAdd,Nat.reduceSub,fo_some];refine nh ?_;intro KL;simp only [go_sem,kp58,geff,hT,yes])|((with_reducible first|refine ny ?_|refine t_kLF ?_ ?_|refine t_drawX (id:=10) (fun i=>i==0) [(0,1),(2,1),(4,1),(6,1),(7,1),(8,1),(1,3),(5,3),(3,0),(10,1),(9,0),(11,0),(12,1),(13,0)] (by kernel_rfl) fun K=>?_);intros;simp only [go_sem,kp58,geff,hT,yes])
    all_goals try exact nd
    all_goals (refine nl ?_;simp only [go_sem])
    exact LeA.tup ⟨LeA.agg ⟨LeA.refl _,LeA.slx rfl,LeA.refl _,LeA.nil _ _,trivial⟩,LeA.refl _,trivial⟩
   |some r=>
    rw [shpV_5 hT]
    have hl3:r.ps.length≤3:=by rcases typesS_len hT with h|h|h<;>omega
    generalize hn:r.ps.length=n at hl3
    have hs:(strs r.ps).length=n:=by rw [strs_length,hn]
    refine pcR V6_ok (kp58) Tryz.func58 [.cell 2 106,.tmp 3] (h:=fun KF=>?_)
    unfold V6
    repeat' first|(with_reducible first|(refine nx ?_;intros)|refine t_br (fun hc=>?_) fun hc=>?_|apply And.intro|intro vr)|exact kpd|((with_reducible refine t_drawG (id:=3) (fun i=>i==0) 4 [(1,1),(2,1),(0,1),(3,1),(4,3),(5,0)] (by kernel_rfl) (by kernel_rfl) (by kernel_rfl) fun K=>?_);simp only [noA,List.filter_cons,List.filter_nil,Nat.reduceBEq,Bool.not_false,Bool.not_true,reduceIte,if_true,Bool.false_eq_true];simp only [pickO,List.getElem?_toArray,List.getElem?_cons_zero,List.getElem?_cons_succ,Nat.reduceAdd,Nat.reduceSub,fo_some];refine nh ?_;intro KL;simp only [go_sem,kp58,geff,hT,hs,yes])|((with_reducible first|refine ny ?_|refine t_kLF ?_ ?_|refine t_drawX (id:=10) (fun i=>i==0) [(0,1),(2,1),(4,1),(6,1),(7,1),(8,1),(1,3),(5,3),(3,0),(10,1),(9,0),(11,0),(12,1),(13,0)] (by kernel_rfl) fun K=>?_);intros;simp only [go_sem,kp58,geff,hT,hs,yes])
    all_goals try exact nd
    refine t_loopF (ι:={i:Nat // i≤n}) (fun x=>[(35,.lit (.int .i64 x.1))]) (fun x=>match x.1 with
      |0=>[.box 56 [.lit (.int .i64 5),.lit (.string p),.lit (.int .i64 a),.lit (.int .i64 b),.lit (.int .i64 c),.lit (.int .i64 d)],.box 106 [.lit (.string ByteArray.empty),.sl true 1 [],.lit (.bool false),.sl true 1 []],.box 106 [.lit (.string ⟨#[112,114,105,109]⟩),.sl true 1 [.lit (.int .i64 0)],.lit (.bool true),.lit (.slice none 0 0)]]
      |j+1=>[.box 56 [.lit (.int .i64 5),.lit (.string p),.lit (.int .i64 a),.lit (.int .i64 b),.lit (.int .i64 c),.lit (.int .i64 d)],.box 106 [.lit (.string ByteArray.empty),.sl true 1 [],.lit (.bool false),.sl true 1 []],.box 106 [.lit (.string ⟨#[112,114,105,109]⟩),.arr 3 j,.lit (.bool true),.arr 4 j],
       .arr 3 1 (ints .i64 (kA (j+1))) j false,.arr 3 1 (ints .i64 (rB (j+1))) j false]) (fun x=>n - x.1) ⟨0,by omega⟩ ?_ ?_
    ·skip
     refine Le.frameS (by first|rfl|(simp only [go_sem];try rfl)) ?_
     exact lq
    rintro ⟨i,hi⟩ K0
    cases i with
    |zero=>
     rcases Nat.lt_or_ge 0 n with hc|hc
     ·have g3:decide (((0:Nat):Int)<(n:Int))=true:=decide_eq_true (by omega)
      repeat' first|(with_reducible first|(refine nx ?_;intros)|refine t_br (fun hc=>?_) fun hc=>?_|apply And.intro|intro vr)|exact kpd|((with_reducible refine t_drawG (id:=3) (fun i=>i==0) 4 [(1,1),(2,1),(0,1),(3,1),(4,3),(5,0)] (by kernel_rfl) (by kernel_rfl) (by kernel_rfl) fun K=>?_);simp only [noA,List.filter_cons,List.filter_nil,Nat.reduceBEq,Bool.not_false,Bool.not_true,reduceIte,if_true,Bool.false_eq_true];simp only [pickO,List.getElem?_toArray,List.getElem?_cons_zero,List.getElem?_cons_succ,Nat.reduceAdd,Nat.reduceSub,fo_some];refine nh ?_;intro KL;simp only [go_sem,kp58,geff,g3,yes])|((with_reducible first|refine ny ?_|refine t_kLF ?_ ?_|refine t_drawX (id:=10) (fun i=>i==0) [(0,1),(2,1),(4,1),(6,1),(7,1),(8,1),(1,3),(5,3),(3,0),(10,1),(9,0),(11,0),(12,1),(13,0)] (by kernel_rfl) fun K=>?_);intros;simp only [go_sem,kp58,geff,g3,yes])
      all_goals try exact nd
      exact ⟨⟨1,by omega⟩,wf,lf⟩
     ·have g3:decide (((0:Nat):Int)<(n:Int))=false:=decide_eq_false (by omega)
      have h0:n=0:=by omega
      subst h0
      repeat' first|(with_reducible first|(refine nx ?_;intros)|refine t_br (fun hc=>?_) fun hc=>?_|apply And.intro|intro vr)|exact kpd|((with_reducible refine t_drawG (id:=3) (fun i=>i==0) 4 [(1,1),(2,1),(0,1),(3,1),(4,3),(5,0)] (by kernel_rfl) (by kernel_rfl) (by kernel_rfl) fun K=>?_);simp only [noA,List.filter_cons,List.filter_nil,Nat.reduceBEq,Bool.not_false,Bool.not_true,reduceIte,if_true,Bool.false_eq_true];simp only [pickO,List.getElem?_toArray,List.getElem?_cons_zero,List.getElem?_cons_succ,Nat.reduceAdd,Nat.reduceSub,fo_some];refine nh ?_;intro KL;simp only [go_sem,kp58,geff,g3,yes])|((with_reducible first|refine ny ?_|refine t_kLF ?_ ?_|refine t_drawX (id:=10) (fun i=>i==0) [(0,1),(2,1),(4,1),(6,1),(7,1),(8,1),(1,3),(5,3),(3,0),(10,1),(9,0),(11,0),(12,1),(13,0)] (by kernel_rfl) fun K=>?_);intros;simp only [go_sem,kp58,geff,g3,yes])
      all_goals try exact nd
      all_goals (refine nl ?_;simp only [go_sem])
      exact LeA.tup ⟨LeA.agg ⟨LeA.refl _,LeA.slx rfl,LeA.refl _,LeA.nil _ _,trivial⟩,LeA.refl _,trivial⟩
    |succ j=>
     rcases Nat.lt_or_ge (j+1) n with hc|hc
     ·have g3:decide (((j+1:Nat):Int)<(n:Int))=true:=decide_eq_true (by omega)
      repeat' first|(with_reducible first|(refine nx ?_;intros)|refine t_br (fun hc=>?_) fun hc=>?_|apply And.intro|intro vr)|exact kpd|((with_reducible refine t_drawG (id:=3) (fun i=>i==0) 4 [(1,1),(2,1),(0,1),(3,1),(4,3),(5,0)] (by kernel_rfl) (by kernel_rfl) (by kernel_rfl) fun K=>?_);simp only [noA,List.filter_cons,List.filter_nil,Nat.reduceBEq,Bool.not_false,Bool.not_true,reduceIte,if_true,Bool.false_eq_true];simp only [pickO,List.getElem?_toArray,List.getElem?_cons_zero,List.getElem?_cons_succ,Nat.reduceAdd,Nat.reduceSub,fo_some];refine nh ?_;intro KL;simp only [go_sem,kp58,geff,g3,yes,kA_app,rB_app,kA_length,rB_length])|((with_reducible first|refine ny ?_|refine t_kLF ?_ ?_|refine t_drawX (id:=10) (fun i=>i==0) [(0,1),(2,1),(4,1),(6,1),(7,1),(8,1),(1,3),(5,3),(3,0),(10,1),(9,0),(11,0),(12,1),(13,0)] (by kernel_rfl) fun K=>?_);intros;simp only [go_sem,kp58,geff,g3,yes,kA_app,rB_app,kA_length,rB_length])
      all_goals try exact nd
      exact ⟨⟨j+2,by omega⟩,wf,lf⟩
     ·have g3:decide (((j+1:Nat):Int)<(n:Int))=false:=decide_eq_false (by omega)
      have h0:n=j+1:=by omega
      subst h0
      repeat' first|(with_reducible first|(refine nx ?_;intros)|refine t_br (fun hc=>?_) fun hc=>?_|apply And.intro|intro vr)|exact kpd|((with_reducible refine t_drawG (id:=3) (fun i=>i==0) 4 [(1,1),(2,1),(0,1),(3,1),(4,3),(5,0)] (by kernel_rfl) (by kernel_rfl) (by kernel_rfl) fun K=>?_);simp only [noA,List.filter_cons,List.filter_nil,Nat.reduceBEq,Bool.not_false,Bool.not_true,reduceIte,if_true,Bool.false_eq_true];simp only [pickO,List.getElem?_toArray,List.getElem?_cons_zero,List.getElem?_cons_succ,Nat.reduceAdd,Nat.reduceSub,fo_some];refine nh ?_;intro KL;simp only [go_sem,kp58,geff,g3,yes])|((with_reducible first|refine ny ?_|refine t_kLF ?_ ?_|refine t_drawX (id:=10) (fun i=>i==0) [(0,1),(2,1),(4,1),(6,1),(7,1),(8,1),(1,3),(5,3),(3,0),(10,1),(9,0),(11,0),(12,1),(13,0)] (by kernel_rfl) fun K=>?_);intros;simp only [go_sem,kp58,geff,g3,yes])
      all_goals try exact nd
      all_goals (refine nl ?_;simp only [go_sem])
      exact LeA.refl _
  all_goals
    rw [shpV_of (by decide),if_neg (by decide)]
    refine pcR V6_ok (kp58) Tryz.func58 [.cell 2 106,.tmp 3] (h:=fun KF=>?_)
    unfold V6
    repeat' first|(with_reducible first|(refine nx ?_;intros)|refine t_br (fun hc=>?_) fun hc=>?_|apply And.intro|intro vr)|exact kpd|((with_reducible refine t_drawG (id:=3) (fun i=>i==0) 4 [(1,1),(2,1),(0,1),(3,1),(4,3),(5,0)] (by kernel_rfl) (by kernel_rfl) (by kernel_rfl) fun K=>?_);simp only [noA,List.filter_cons,List.filter_nil,Nat.reduceBEq,Bool.not_false,Bool.not_true,reduceIte,if_true,Bool.false_eq_true];simp only [pickO,List.getElem?_toArray,List.getElem?_cons_zero,List.getElem?_cons_succ,Nat.reduceAdd,Nat.reduceSub,fo_some];refine nh ?_;intro KL;simp only [go_sem,kp58,geff,yes])|((with_reducible first|refine ny ?_|refine t_kLF ?_ ?_|refine t_drawX (id:=10) (fun i=>i==0) [(0,1),(2,1),(4,1),(6,1),(7,1),(8,1),(1,3),(5,3),(3,0),(10,1),(9,0),(11,0),(12,1),(13,0)] (by kernel_rfl) fun K=>?_);intros;simp only [go_sem,kp58,geff,yes])
    all_goals try exact nd
    all_goals (refine nl ?_;simp only [go_sem])
    exact LeA.tup ⟨LeA.agg ⟨LeA.refl _,(by first|exact LeA.slx rfl|exact LeA.nil _ _),LeA.refl _,(by first|exact LeA.slx rfl|exact LeA.nil _ _),trivial⟩,LeA.refl _,trivial⟩
noncomputable def con58:PCon Tryz.prog where
  f:=58
  c:=fun
   |[xx]=>match opOf xx with|some x=>some (True,shpV x)|_=>none
   |_=>none
  ok:=by
   intro args p r hc hp
   split at hc
   ·split at hc
    ·rename_i hx
     cases hc
     exact PC.weak shape_pc ⟨opOf_le hx,trivial⟩
    ·cases hc
   ·cases hc
  fk:=fk58
theorem con58_f:con58.f=58:=rfl
theorem con58_c {xx:AV}:con58.c [xx]=match opOf xx with|some x=>some (True,shpV x)|_=>none:=rfl
attribute [go_sem] con58_f con58_c
end Go.Proofs.YtnlimcijgpaegaaGreat

namespace Go.Proofs.YtnlimcijgpaegaaGreat
open Go Go.Fw Bm
set_option maxRecDepth 20000
def opk (l:List Int) (regs:Int) (i:Nat) (n:Int):Bool:=if i<l.length then kindOk (l.getD i 0) n regs else decide (n=0)
def rightK (x:Ins) (regs:Int):Bool:=(shpOk x&&(decide (x.code=5)||decide (x.prim.data.toList=[])))&&(opk (kndS x) regs 0 x.a&&opk (kndS x) regs 1 x.b&&opk (kndS x) regs 2 x.c&&opk (kndS x) regs 3 x.d)
theorem right_knd (x:Ins) (regs:Int):rightS x regs=rightK x regs:=by
  obtain ⟨k,p,a,b,c,d⟩:=x
  rcases (show k<1∨k>15∨k=5∨k=1∨k=2∨k=3∨k=4∨k=6∨k=7∨k=8∨k=9∨k=10∨k=11∨k=12∨k=13∨k=14∨k=15 by omega) with h|h|rfl|rfl|rfl|rfl|rfl|rfl|rfl|rfl|rfl|rfl|rfl|rfl|rfl|rfl|rfl
  ·have e1:formS ⟨k,p,a,b,c,d⟩=none:=by unfold formS;simp only;repeat rw [if_neg (by omega)]
   simp [rightS,rightK,e1,shpOk,h]
  ·have e1:formS ⟨k,p,a,b,c,d⟩=none:=by unfold formS;simp only;repeat rw [if_neg (by omega)]
   simp [rightS,rightK,e1,shpOk,h]
  ·cases hT:El.typesS p with
   |none=>
    have e1:formS ⟨5,p,a,b,c,d⟩=none:=by simp [formS,hT]
    simp [rightS,rightK,e1,shpOk,hT]
   |some r=>
    have e1:formS ⟨5,p,a,b,c,d⟩=some (List.replicate (1+r.ps.length) true):=by simp [formS,hT]
    have e2:kndS ⟨5,p,a,b,c,d⟩=kA r.ps.length:=by rw [kndS_5,hT]
    rcases typesS_len hT with h|h|h<;>rw [h] at e1 e2<;>rw [Bool.eq_iff_iff]<;>simp [rightS,rightK,e1,e2,shpOk,hT,oprOk,opk,kA,kindOk,restOk]
  all_goals (rw [Bool.eq_iff_iff];simp [rightS,formS,rightK,shpOk,oprOk,opk,kndS,kndL,kindOk,restOk])
  all_goals
    constructor
    ·rintro ⟨⟨h,h1⟩,h2⟩;exact ⟨h,by omega⟩
    ·rintro ⟨h,h1⟩;exact ⟨⟨h,by omega⟩,by omega⟩
noncomputable def V7:Env:=envJ (P:=Tryz.prog) jkV zer (fun _=>false) (fun _=>false) [con58,con59,con60] []
theorem V7_ok:EnvOk Tryz.prog V7:=envJOk zer_ok
set_option maxHeartbeats 8000000 in
theorem right_pc {x:Ins} {regs:Int}:PC Tryz.prog 34 [opV x,.lit (.int .i64 regs)] (.lit (.bool (rightS x regs))):=by
  obtain ⟨k,p,a,b,c,d⟩:=x
  rw [right_knd]
  simp only [opV]
  generalize hR:rightK ⟨k,p,a,b,c,d⟩ regs=R
  have hS:shpV ⟨k,p,a,b,c,d⟩= .tup [.agg [.lit (.string (namL k)),.sl false 1 (ints .i64 (kndS ⟨k,p,a,b,c,d⟩)),.lit (.bool (wrtB k)),.sl false 1 (ints .i64 (redS ⟨k,p,a,b,c,d⟩))],.lit (.bool (shpOk ⟨k,p,a,b,c,d⟩))]:=rfl
  simp only [rightK] at hR
  generalize kndS ⟨k,p,a,b,c,d⟩=L at hR hS
  generalize redS ⟨k,p,a,b,c,d⟩=M at hS
  generalize shpOk ⟨k,p,a,b,c,d⟩=ok at hR hS
  have hRR:=hR.symm
  have hLl:(ints .i64 L).length=L.length:=ints_length _ _
  cases ok with
  |false=>
   refine pcR V7_ok (kp34) Tryz.func34 [.tmp 4] (h:=fun KF=>?_)
   unfold V7
   with_reducible repeat' first|(refine nx ?_;intros)|refine t_br (fun hc=>?_) fun hc=>?_|apply And.intro|intro vr|(refine ny ?_;intros;simp only [go_sem,kp34,geff,hS,Bool.not_false])
   all_goals try exact nd
   all_goals (refine nl ?_;simp only [go_sem])
   exact LeA.of_eq (by rw [hRR];simp)
  |true=>
   refine pcR V7_ok (kp34) Tryz.func34 [.tmp 4] (h:=fun KF=>?_)
   unfold V7
   with_reducible repeat' first|(refine nx ?_;intros)|refine t_br (fun hc=>?_) fun hc=>?_|apply And.intro|intro vr|(refine ny ?_;intros;simp only [go_sem,kp34,geff,hS,Bool.not_true])
   all_goals try exact nd
   ·skip
    all_goals (refine nl ?_;simp only [go_sem])
    refine LeA.of_eq ?_
    rw [hRR]
    simp_all [eqS]
   have hpk:(decide (k=5)||decide (p.data.toList=[]))=true:=by
     have h1:=hc
     simp only [eqS,Bool.and_eq_false_iff,bne_eq_false_iff_eq,Bool.not_eq_false',beq_iff_eq] at h1
     rcases h1 with h1|h1
     ·simp [h1]
     ·rw [h1];simp
   refine t_loopF (ι:={i:Nat // i≤4∧∀ j,j<i→opk L regs j ([a,b,c,d].getD j 0)=true}) (fun i=>[(28,.lit (.int .i64 i.1))]) (fun i=>[.box 56 [.lit (.int .i64 k),.lit (.string p),.lit (.int .i64 a),.lit (.int .i64 b),.lit (.int .i64 c),.lit (.int .i64 d)],.box 106 [.lit (.string (namL k)),.sl false 1 (ints .i64 L),.lit (.bool (wrtB k)),.sl false 1 (ints .i64 M)]]) (fun i=>4 - i.1) ⟨0,by omega,by omega⟩ ?_ ?_
   ·exact lf
   rintro ⟨i,hi,hP⟩ K0
   rcases (show i=0∨i=1∨i=2∨i=3∨i=4 by omega) with rfl|rfl|rfl|rfl|rfl
   ·have h0:((((0:Nat):Int)):Int)=0:=rfl
    rcases Nat.lt_or_ge 0 L.length with hlt|hlt
    ·have g1:decide ((0:Int)<(L.length:Int))=true:=decide_eq_true (by omega)
     have g2:decide ((0:Int)≥(L.length:Int))=false:=decide_eq_false (by omega)
     cases hq:kindOk (L.getD 0 0) a regs with
     |true=>
      have hok:opk L regs 0 ([a,b,c,d].getD 0 0)=true:=by unfold opk;rw [if_pos hlt];exact hq
      with_reducible repeat' first|(refine nx ?_;intros)|refine t_br (fun hc=>?_) fun hc=>?_|apply And.intro|intro vr|(refine ny ?_;intros;simp only [go_sem,kp34,geff,h0,g1,g2,hq,yes])
      all_goals try exact nd
      exact ⟨⟨0+1,by omega,stepP hP hok⟩,wf,lf⟩
     |false=>
      have hno:opk L regs 0 a=false:=by unfold opk;rw [if_pos hlt];exact hq
      with_reducible repeat' first|(refine nx ?_;intros)|refine t_br (fun hc=>?_) fun hc=>?_|apply And.intro|intro vr|(refine ny ?_;intros;simp only [go_sem,kp34,geff,h0,g1,g2,hq,yes])
      all_goals try exact nd
      all_goals (refine nl ?_;simp only [go_sem])
      exact LeA.of_eq (by rw [hRR,hno];simp)
    ·have g1:decide ((0:Int)<(L.length:Int))=false:=decide_eq_false (by omega)
     have g2:decide ((0:Int)≥(L.length:Int))=true:=decide_eq_true (by omega)
     have hq:opk L regs 0 a=decide (a=0):=by unfold opk;rw [if_neg (by omega)]
     with_reducible repeat' first|(refine nx ?_;intros)|refine t_br (fun hc=>?_) fun hc=>?_|apply And.intro|intro vr|(refine ny ?_;intros;simp only [go_sem,kp34,geff,h0,g1,g2,yes])
     all_goals try exact nd
     ·skip
      all_goals (refine nl ?_;simp only [go_sem])
      have hno:opk L regs 0 a=false:=by rw [hq];exact decide_eq_false (by simpa using hc)
      exact LeA.of_eq (by rw [hRR,hno];simp)
     ·have hok:opk L regs 0 ([a,b,c,d].getD 0 0)=true:=by
        show opk L regs 0 a=true
        rw [hq];exact decide_eq_true (by simpa using hc)
      exact ⟨⟨0+1,by omega,stepP hP hok⟩,wf,lf⟩
   ·have h0:((((1:Nat):Int)):Int)=1:=rfl
    rcases Nat.lt_or_ge 1 L.length with hlt|hlt
    ·have g1:decide ((1:Int)<(L.length:Int))=true:=decide_eq_true (by omega)
     have g2:decide ((1:Int)≥(L.length:Int))=false:=decide_eq_false (by omega)
     cases hq:kindOk (L.getD 1 0) b regs with
     |true=>
      have hok:opk L regs 1 ([a,b,c,d].getD 1 0)=true:=by unfold opk;rw [if_pos hlt];exact hq
      with_reducible repeat' first|(refine nx ?_;intros)|refine t_br (fun hc=>?_) fun hc=>?_|apply And.intro|intro vr|(refine ny ?_;intros;simp only [go_sem,kp34,geff,h0,g1,g2,hq,yes])
      all_goals try exact nd
      exact ⟨⟨1+1,by omega,stepP hP hok⟩,wf,lf⟩
     |false=>
      have hno:opk L regs 1 b=false:=by unfold opk;rw [if_pos hlt];exact hq
      with_reducible repeat' first|(refine nx ?_;intros)|refine t_br (fun hc=>?_) fun hc=>?_|apply And.intro|intro vr|(refine ny ?_;intros;simp only [go_sem,kp34,geff,h0,g1,g2,hq,yes])
      all_goals try exact nd
      all_goals (refine nl ?_;simp only [go_sem])
      exact LeA.of_eq (by rw [hRR,hno];simp)
    ·have g1:decide ((1:Int)<(L.length:Int))=false:=decide_eq_false (by omega)
     have g2:decide ((1:Int)≥(L.length:Int))=true:=decide_eq_true (by omega)
     have hq:opk L regs 1 b=decide (b=0):=by unfold opk;rw [if_neg (by omega)]
     with_reducible repeat' first|(refine nx ?_;intros)|refine t_br (fun hc=>?_) fun hc=>?_|apply And.intro|intro vr|(refine ny ?_;intros;simp only [go_sem,kp34,geff,h0,g1,g2,yes])
     all_goals try exact nd
     ·skip
      all_goals (refine nl ?_;simp only [go_sem])
      have hno:opk L regs 1 b=false:=by rw [hq];exact decide_eq_false (by simpa using hc)
      exact LeA.of_eq (by rw [hRR,hno];simp)
     ·have hok:opk L regs 1 ([a,b,c,d].getD 1 0)=true:=by
        show opk L regs 1 b=true
        rw [hq];exact decide_eq_true (by simpa using hc)
      exact ⟨⟨1+1,by omega,stepP hP hok⟩,wf,lf⟩
   ·have h0:((((2:Nat):Int)):Int)=2:=rfl
    rcases Nat.lt_or_ge 2 L.length with hlt|hlt
    ·have g1:decide ((2:Int)<(L.length:Int))=true:=decide_eq_true (by omega)
     have g2:decide ((2:Int)≥(L.length:Int))=false:=decide_eq_false (by omega)
     cases hq:kindOk (L.getD 2 0) c regs with
     |true=>
      have hok:opk L regs 2 ([a,b,c,d].getD 2 0)=true:=by unfold opk;rw [if_pos hlt];exact hq
      with_reducible repeat' first|(refine nx ?_;intros)|refine t_br (fun hc=>?_) fun hc=>?_|apply And.intro|intro vr|(refine ny ?_;intros;simp only [go_sem,kp34,geff,h0,g1,g2,hq,yes])
      all_goals try exact nd
      exact ⟨⟨2+1,by omega,stepP hP hok⟩,wf,lf⟩
     |false=>
      have hno:opk L regs 2 c=false:=by unfold opk;rw [if_pos hlt];exact hq
      with_reducible repeat' first|(refine nx ?_;intros)|refine t_br (fun hc=>?_) fun hc=>?_|apply And.intro|intro vr|(refine ny ?_;intros;simp only [go_sem,kp34,geff,h0,g1,g2,hq,yes])
      all_goals try exact nd
      all_goals (refine nl ?_;simp only [go_sem])
      exact LeA.of_eq (by rw [hRR,hno];simp)
    ·have g1:decide ((2:Int)<(L.length:Int))=false:=decide_eq_false (by omega)
     have g2:decide ((2:Int)≥(L.length:Int))=true:=decide_eq_true (by omega)
     have hq:opk L regs 2 c=decide (c=0):=by unfold opk;rw [if_neg (by omega)]
     with_reducible repeat' first|(refine nx ?_;intros)|refine t_br (fun hc=>?_) fun hc=>?_|apply And.intro|intro vr|(refine ny ?_;intros;simp only [go_sem,kp34,geff,h0,g1,g2,yes])
     all_goals try exact nd
     ·skip
      all_goals (refine nl ?_;simp only [go_sem])
      have hno:opk L regs 2 c=false:=by rw [hq];exact decide_eq_false (by simpa using hc)
      exact LeA.of_eq (by rw [hRR,hno];simp)
     ·have hok:opk L regs 2 ([a,b,c,d].getD 2 0)=true:=by
        show opk L regs 2 c=true
        rw [hq];exact decide_eq_true (by simpa using hc)
      exact ⟨⟨2+1,by omega,stepP hP hok⟩,wf,lf⟩
   ·have h0:((((3:Nat):Int)):Int)=3:=rfl
    rcases Nat.lt_or_ge 3 L.length with hlt|hlt
    ·have g1:decide ((3:Int)<(L.length:Int))=true:=decide_eq_true (by omega)
     have g2:decide ((3:Int)≥(L.length:Int))=false:=decide_eq_false (by omega)
     cases hq:kindOk (L.getD 3 0) d regs with
     |true=>
      have hok:opk L regs 3 ([a,b,c,d].getD 3 0)=true:=by unfold opk;rw [if_pos hlt];exact hq
      with_reducible repeat' first|(refine nx ?_;intros)|refine t_br (fun hc=>?_) fun hc=>?_|apply And.intro|intro vr|(refine ny ?_;intros;simp only [go_sem,kp34,geff,h0,g1,g2,hq,yes])
      all_goals try exact nd
      exact ⟨⟨3+1,by omega,stepP hP hok⟩,wf,lf⟩
     |false=>
      have hno:opk L regs 3 d=false:=by unfold opk;rw [if_pos hlt];exact hq
      with_reducible repeat' first|(refine nx ?_;intros)|refine t_br (fun hc=>?_) fun hc=>?_|apply And.intro|intro vr|(refine ny ?_;intros;simp only [go_sem,kp34,geff,h0,g1,g2,hq,yes])
      all_goals try exact nd
      all_goals (refine nl ?_;simp only [go_sem])
      exact LeA.of_eq (by rw [hRR,hno];simp)
    ·have g1:decide ((3:Int)<(L.length:Int))=false:=decide_eq_false (by omega)
     have g2:decide ((3:Int)≥(L.length:Int))=true:=decide_eq_true (by omega)
     have hq:opk L regs 3 d=decide (d=0):=by unfold opk;rw [if_neg (by omega)]
     with_reducible repeat' first|(refine nx ?_;intros)|refine t_br (fun hc=>?_) fun hc=>?_|apply And.intro|intro vr|(refine ny ?_;intros;simp only [go_sem,kp34,geff,h0,g1,g2,yes])
     all_goals try exact nd
     ·skip
      all_goals (refine nl ?_;simp only [go_sem])
      have hno:opk L regs 3 d=false:=by rw [hq];exact decide_eq_false (by simpa using hc)
      exact LeA.of_eq (by rw [hRR,hno];simp)
     ·have hok:opk L regs 3 ([a,b,c,d].getD 3 0)=true:=by
        show opk L regs 3 d=true
        rw [hq];exact decide_eq_true (by simpa using hc)
      exact ⟨⟨3+1,by omega,stepP hP hok⟩,wf,lf⟩
   ·have hR4:R=true:=by
      rw [hRR,show opk L regs 0 a=true from hP 0 (by omega),show opk L regs 1 b=true from hP 1 (by omega),show opk L regs 2 c=true from hP 2 (by omega),show opk L regs 3 d=true from hP 3 (by omega),hpk]
      rfl
    have h0:((((4:Nat):Int)):Int)=4:=rfl
    with_reducible repeat' first|(refine nx ?_;intros)|refine t_br (fun hc=>?_) fun hc=>?_|apply And.intro|intro vr|(refine ny ?_;intros;simp only [go_sem,kp34,geff,h0])
    all_goals try exact nd
    all_goals (refine nl ?_;simp only [go_sem])
    exact LeA.of_eq (by rw [hR4])
noncomputable def con34:PCon Tryz.prog where
  f:=34
  c:=fun
   |[xx,.lit (.int .i64 r)]=>match opOf xx with|some x=>some (True,.lit (.bool (rightS x r)))|_=>none
   |_=>none
  ok:=by
   intro args p r hc hp
   split at hc
   ·split at hc
    ·rename_i hx
     cases hc
     exact PC.weak right_pc ⟨opOf_le hx,LeA.refl _,trivial⟩
    ·cases hc
   ·cases hc
  fk:=fk34
theorem con34_f:con34.f=34:=rfl
theorem con34_c {xx:AV} {r:Int}:con34.c [xx,.lit (.int .i64 r)]=match opOf xx with|some x=>some (True,.lit (.bool (rightS x r)))|_=>none:=rfl
attribute [go_sem] con34_f con34_c
end Go.Proofs.YtnlimcijgpaegaaGreat

namespace Go.Proofs.YtnlimcijgpaegaaGreat
open Go Go.Fw Bm
set_option maxRecDepth 20000
def opAt (a b c d m:Int):Int:=[a,b,c,d].getD m.toNat 0
theorem reads_red (k:Int) (p:ByteArray) (a b c d:Int):readsS ⟨k,p,a,b,c,d⟩=(redS ⟨k,p,a,b,c,d⟩).map (opAt a b c d):=by
  rcases (show k<1∨k>15∨k=5∨k=1∨k=2∨k=3∨k=4∨k=6∨k=7∨k=8∨k=9∨k=10∨k=11∨k=12∨k=13∨k=14∨k=15 by omega) with h|h|rfl|rfl|rfl|rfl|rfl|rfl|rfl|rfl|rfl|rfl|rfl|rfl|rfl|rfl|rfl
  ·have e1:formS ⟨k,p,a,b,c,d⟩=none:=by unfold formS;simp only;repeat rw [if_neg (by omega)]
   have e2:redS ⟨k,p,a,b,c,d⟩=[]:=by unfold redS redL;repeat rw [if_neg (by simp only;omega)]
   simp [readsS,e1,e2]
  ·have e1:formS ⟨k,p,a,b,c,d⟩=none:=by unfold formS;simp only;repeat rw [if_neg (by omega)]
   have e2:redS ⟨k,p,a,b,c,d⟩=[]:=by unfold redS redL;repeat rw [if_neg (by simp only;omega)]
   simp [readsS,e1,e2]
  ·cases hT:El.typesS p with
   |none=>
    have e1:formS ⟨5,p,a,b,c,d⟩=none:=by simp [formS,hT]
    simp [readsS,e1,redS_5,hT]
   |some r=>
    have e1:formS ⟨5,p,a,b,c,d⟩=some (List.replicate (1+r.ps.length) true):=by simp [formS,hT]
    have e2:redS ⟨5,p,a,b,c,d⟩=rB r.ps.length:=by rw [redS_5,hT]
    rcases typesS_len hT with h|h|h<;>rw [h] at e1 e2<;>simp only [readsS,e1,e2]<;>rfl
  all_goals rfl
theorem redS_lit {k a b c d:Int} {p:ByteArray} (h:k≠5):redS ⟨k,p,a,b,c,d⟩=redL k:=if_neg h
theorem mem_getD {l:List Int} {i:Nat} (h:i<l.length):l.getD i 0∈l:=by
  rw [List.getD_eq_getElem?_getD,List.getElem?_eq_getElem h];exact List.getElem_mem h
theorem redS_bd (x:Ins):(redS x).length≤3∧∀ m∈redS x,m=0∨m=1∨m=2∨m=3:=by
  obtain ⟨k,p,a,b,c,d⟩:=x
  rcases (show k<1∨k>15∨k=5∨k=1∨k=2∨k=3∨k=4∨k=6∨k=7∨k=8∨k=9∨k=10∨k=11∨k=12∨k=13∨k=14∨k=15 by omega) with h|h|rfl|rfl|rfl|rfl|rfl|rfl|rfl|rfl|rfl|rfl|rfl|rfl|rfl|rfl|rfl
  ·have e2:redS ⟨k,p,a,b,c,d⟩=[]:=by unfold redS redL;repeat rw [if_neg (by simp only;omega)]
   rw [e2];simp
  ·have e2:redS ⟨k,p,a,b,c,d⟩=[]:=by unfold redS redL;repeat rw [if_neg (by simp only;omega)]
   rw [e2];simp
  ·cases hT:El.typesS p with
   |none=>rw [redS_5,hT];simp
   |some r=>
    have e2:redS ⟨5,p,a,b,c,d⟩=rB r.ps.length:=by rw [redS_5,hT]
    rw [e2]
    rcases typesS_len hT with h|h|h<;>rw [h]<;>exact ⟨by decide,by decide⟩
  all_goals (rw [redS_lit (by decide)];exact ⟨by decide,by decide⟩)
noncomputable def V8:Env:=envJ (P:=Tryz.prog) jkV zer (fun _=>false) (fun _=>false) [con58,con59] []
theorem V8_ok:EnvOk Tryz.prog V8:=envJOk zer_ok
set_option maxHeartbeats 8000000 in
theorem reads_pc {x:Ins}:PC Tryz.prog 71 [opV x] (.sl false 1 (ints .i64 (readsS x))):=by
  obtain ⟨hM,hB⟩:=redS_bd x
  obtain ⟨k,p,a,b,c,d⟩:=x
  rw [reads_red]
  simp only [opV]
  have hS:shpV ⟨k,p,a,b,c,d⟩= .tup [.agg [.lit (.string (namL k)),.sl false 1 (ints .i64 (kndS ⟨k,p,a,b,c,d⟩)),.lit (.bool (wrtB k)),.sl false 1 (ints .i64 (redS ⟨k,p,a,b,c,d⟩))],.lit (.bool (shpOk ⟨k,p,a,b,c,d⟩))]:=rfl
  generalize kndS ⟨k,p,a,b,c,d⟩=L at hS
  generalize redS ⟨k,p,a,b,c,d⟩=M at hS hM hB
  generalize shpOk ⟨k,p,a,b,c,d⟩=ok at hS
  have hMl:(ints .i64 M).length=M.length:=ints_length _ _
  refine pcR V8_ok (kp71) Tryz.func71 [.tmp 2] (h:=fun KF=>?_)
  unfold V8
  with_reducible repeat' first|(refine nx ?_;intros)|apply And.intro|intro vr|(refine ny ?_;intros;simp only [go_sem,kp71,geff,hS])
  all_goals try exact nd
  refine t_loopF (ι:={q:Nat×Nat // q.1≤M.length}) (fun i=>[(16,.lit (.int .i64 i.1.1)),(5,.arr 2 i.1.2)]) (fun i=>[.box 56 [.lit (.int .i64 k),.lit (.string p),.lit (.int .i64 a),.lit (.int .i64 b),.lit (.int .i64 c),.lit (.int .i64 d)],.box 106 [.lit (.string (namL k)),.sl false 1 (ints .i64 L),.lit (.bool (wrtB k)),.sl false 1 (ints .i64 M)],.arr 3 1 (ints .i64 ((M.take i.1.1).map (opAt a b c d))) i.1.2 false]) (fun i=>M.length - i.1.1) ⟨(0,0),by simp⟩ ?_ ?_
  ·refine (le_nil 5 3 1 rfl).trans ?_
   exact lf
  rintro ⟨⟨i,v⟩,hi⟩ K0
  simp only at hi
  rcases Nat.lt_or_ge i M.length with hc|hc
  ·have g3:decide ((i:Int)<(M.length:Int))=true:=decide_eq_true (by omega)
   have hn:((M.take i).map (opAt a b c d)).length=i:=by simp;omega
   have hap:∀ n:Int,ints .i64 ((M.take i).map (opAt a b c d))++[.lit (.int .i64 n)]=ints .i64 ((M.take i).map (opAt a b c d)++[n]):=fun n=>ints_append1 _ _ _
   have htk:∀ m,M.getD i 0=m→(M.take i).map (opAt a b c d)++[opAt a b c d m]=(M.take (i+1)).map (opAt a b c d):=fun m hm=>by
     rw [List.take_add_one,List.getElem?_eq_getElem hc,List.map_append]
     rw [List.getD_eq_getElem?_getD,List.getElem?_eq_getElem hc] at hm
     simp only [Option.getD_some] at hm
     rw [hm];rfl
   rcases hB _ (mem_getD hc) with hm|hm|hm|hm
   ·have hq:(M.take i).map (opAt a b c d)++[a]=(M.take (i+1)).map (opAt a b c d):=htk 0 hm
    with_reducible repeat' first|(refine nx ?_;intros)|apply And.intro|intro vr|(refine ny ?_;intros;simp only [go_sem,kp71,geff,g3,hm,hap,hq,Int.toNat_natCast,yes])
    all_goals try exact nd
    exact ⟨⟨(i+1,v+1),by simp only;omega⟩,wf,lf⟩
   ·have hq:(M.take i).map (opAt a b c d)++[b]=(M.take (i+1)).map (opAt a b c d):=htk 1 hm
    with_reducible repeat' first|(refine nx ?_;intros)|apply And.intro|intro vr|(refine ny ?_;intros;simp only [go_sem,kp71,geff,g3,hm,hap,hq,Int.toNat_natCast,yes])
    all_goals try exact nd
    exact ⟨⟨(i+1,v+1),by simp only;omega⟩,wf,lf⟩
   ·have hq:(M.take i).map (opAt a b c d)++[c]=(M.take (i+1)).map (opAt a b c d):=htk 2 hm
    with_reducible repeat' first|(refine nx ?_;intros)|apply And.intro|intro vr|(refine ny ?_;intros;simp only [go_sem,kp71,geff,g3,hm,hap,hq,Int.toNat_natCast,yes])
    all_goals try exact nd
    exact ⟨⟨(i+1,v+1),by simp only;omega⟩,wf,lf⟩
   ·have hq:(M.take i).map (opAt a b c d)++[d]=(M.take (i+1)).map (opAt a b c d):=htk 3 hm
    with_reducible repeat' first|(refine nx ?_;intros)|apply And.intro|intro vr|(refine ny ?_;intros;simp only [go_sem,kp71,geff,g3,hm,hap,hq,Int.toNat_natCast,yes])
    all_goals try exact nd
    exact ⟨⟨(i+1,v+1),by simp only;omega⟩,wf,lf⟩
  ·have g3:decide ((i:Int)<(M.length:Int))=false:=decide_eq_false (by omega)
   have e:M.take i=M:=List.take_of_length_le hc
   with_reducible repeat' first|(refine nx ?_;intros)|apply And.intro|intro vr|(refine ny ?_;intros;simp only [go_sem,kp71,geff,g3,e])
   all_goals try exact nd
   all_goals (refine nl ?_;simp only [go_sem])
   exact LeA.slx rfl
noncomputable def con71:PCon Tryz.prog where
  f:=71
  c:=fun
   |[xx]=>match opOf xx with|some x=>some (True,.sl false 1 (ints .i64 (readsS x)))|_=>none
   |_=>none
  ok:=by
   intro args p r hc hp
   split at hc
   ·split at hc
    ·rename_i hx
     cases hc
     exact PC.weak reads_pc ⟨opOf_le hx,trivial⟩
    ·cases hc
   ·cases hc
  fk:=fk71
theorem con71_f:con71.f=71:=rfl
theorem con71_c {xx:AV}:con71.c [xx]=match opOf xx with|some x=>some (True,.sl false 1 (ints .i64 (readsS x)))|_=>none:=rfl
attribute [go_sem] con71_f con71_c
end Go.Proofs.YtnlimcijgpaegaaGreat

namespace Go.Proofs.YtnlimcijgpaegaaGreat
open Go Go.Fw Bm
set_option maxRecDepth 20000
theorem opV_mk {k a b c d:Int} {p:ByteArray}:opV ⟨k,p,a,b,c,d⟩= .agg [.lit (.int .i64 k),.lit (.string p),.lit (.int .i64 a),.lit (.int .i64 b),.lit (.int .i64 c),.lit (.int .i64 d)]:=rfl
attribute [go_sem] opV_mk
def stI (st:List Nat):List Int:=st.reverse.map fun n:Nat=>(n:Int)
theorem stI_cons (j:Nat) (st:List Nat):stI (j::st)=stI st++[(j:Int)]:=by simp [stI]
theorem stI_length (st:List Nat):(stI st).length=st.length:=by simp [stI]
def matchV (ops:List Ins):AV:=match matchS ops with
  |some mt=> .tup [.sl false 1 (ints .i64 mt),.lit (.bool true)]
  |none=> .tup [.sl false 1 [],.lit (.bool false)]
def mtV (r:Option (List Int)):AV:=match r with
  |some mt=> .tup [.sl false 1 (ints .i64 mt),.lit (.bool true)]
  |none=> .tup [.sl false 1 [],.lit (.bool false)]
theorem drop_getI {l:List Ins} {i:Nat} (h:i<l.length):l.drop i=l.getD i nilI::l.drop (i+1):=by
  rw [List.drop_eq_getElem_cons h,List.getD_eq_getElem?_getD,List.getElem?_eq_getElem h];rfl
theorem mt_none {r:Option (List Int)} (h:r=none):LeA (.tup [.lit (.slice none 0 0),.lit (.bool false)]) (mtV r):=by
  subst h;exact LeA.tup ⟨LeA.nil _ _,LeA.refl _,trivial⟩
theorem mt_some {r:Option (List Int)} {l:List Int} (h:r=some l):LeA (.tup [.sl false 1 (ints .i64 l),.lit (.bool true)]) (mtV r):=by
  subst h;exact LeA.refl _
theorem stP {i:Nat} {st:List Nat} (hs:∀ j∈st,j<i):∀ j∈i::st,j<i+1:=fun j hj=>(List.mem_cons.1 hj).elim (fun h=>by omega) (fun h=>by have:=hs j h;omega)
theorem stQ {i j:Nat} {st:List Nat} (hs:∀ k∈j::st,k<i):∀ k∈st,k<i:=fun k hk=>hs k (List.mem_cons_of_mem _ hk)
theorem stW {i:Nat} {st:List Nat} (hs:∀ j∈st,j<i):∀ j∈st,j<i+1:=fun j hj=>by have:=hs j hj;omega
theorem stI_last (j:Nat) (st:List Nat):(stI (j::st)).getD st.length 0=(j:Int):=by
  rw [stI_cons,getD_app_right _ _ _ (by rw [stI_length];exact Nat.le_refl _),stI_length,Nat.sub_self];rfl
theorem stI_take (j:Nat) (st:List Nat):(ints .i64 (stI (j::st))).take st.length=ints .i64 (stI st):=by
  rw [stI_cons]
  simp only [ints,List.map_append]
  rw [List.take_append_of_le_length (by simp [stI_length]),List.take_of_length_le (by simp [stI_length])]
theorem stI_tk (j:Nat) (st:List Nat):(stI (j::st)).take (0+st.length)=stI st:=by
  rw [Nat.zero_add,stI_cons,List.take_append_of_le_length (by simp [stI_length]),List.take_of_length_le (by simp [stI_length])]
theorem stI_n0:((stI []).length:Int) - 1= -1:=rfl
theorem stI_n1 (j:Nat) (st:List Nat):((stI (j::st)).length:Int) - 1=(st.length:Int):=by rw [stI_length,List.length_cons];omega
noncomputable def V9:Env:=envJ (P:=Tryz.prog) jkV zer (fun _=>false) (fun _=>false) [] []
theorem V9_ok:EnvOk Tryz.prog V9:=envJOk zer_ok
structure Mt (ops:List Ins) (R:Option (List Int)) where
  i:Nat
  u:Nat
  v:Nat
  out:List Int
  st:List Nat
  hi:i≤ops.length
  ho:out.length=i
  hs:∀ j∈st,j<i
  h4:st.length≤40
  hF:matchG ops (ops.drop i) i out st=R
set_option maxHeartbeats 8000000 in
theorem match_pc {ops:List Ins} (hl:ops.length≤1000000):PC Tryz.prog 31 [.sl false 6 (opsV ops)] (matchV ops):=by
  show PC _ _ _ (mtV (matchS ops))
  generalize hR:matchS ops=R
  unfold matchS at hR
  by_cases hn:ops.length>5000
  ·rw [if_pos hn] at hR
   have g1:decide ((ops.length:Int)>5000)=true:=decide_eq_true (by omega)
   refine pcR V9_ok (kp31) Tryz.func31 [.tmp 2,.tmp 3] (h:=fun KF=>?_)
   unfold V9
   with_reducible repeat' first|(refine nx ?_;intros)|refine t_br (fun hc=>?_) fun hc=>?_|apply And.intro|intro vr|(refine ny ?_;intros;simp only [go_sem,kp31,geff,g1])
   all_goals try exact nd
   all_goals (refine nl ?_;simp only [go_sem])
   exact mt_none hR.symm
  ·rw [if_neg hn] at hR
   have g1:decide ((ops.length:Int)>5000)=false:=decide_eq_false (by omega)
   refine pcR V9_ok (kp31) Tryz.func31 [.tmp 2,.tmp 3] (h:=fun KF=>?_)
   unfold V9
   with_reducible repeat' first|(refine nx ?_;intros)|refine t_br (fun hc=>?_) fun hc=>?_|apply And.intro|intro vr|(refine ny ?_;intros;simp only [go_sem,kp31,geff,g1])
   all_goals try exact nd
   refine t_loopF (ι:=Mt ops R) (fun i=>[(14,.lit (.int .i64 i.i)),(4,.arr 0 i.u),(5,.arr 1 i.v)]) (fun i=>[.arr 3 1 (ints .i64 i.out) i.u false,.arr 3 1 (ints .i64 (stI i.st)) i.v false]) (fun i=>ops.length - i.i) ⟨0,0,0,[],[],by omega,rfl,by simp,by simp,by simpa using hR⟩ ?_ ?_
   ·refine (le_nil 4 3 1 rfl).trans ?_
    refine (le_nil 5 3 1 rfl).trans ?_
    exact lf
   rintro ⟨i,u,v,out,st,hi,ho,hs,h4,hF⟩ K0
   have hol:(ints .i64 out).length=i:=by rw [ints_length,ho]
   have hsl:(ints .i64 (stI st)).length=st.length:=by rw [ints_length,stI_length]
   rcases Nat.lt_or_ge i ops.length with hc|hc
   ·have g3:decide ((i:Int)<(ops.length:Int))=true:=decide_eq_true (by omega)
    have hap:∀ n:Int,ints .i64 out++[.lit (.int .i64 n)]=ints .i64 (out++[n]):=fun n=>ints_append1 _ _ _
    have has:∀ n:Int,ints .i64 (stI st)++[.lit (.int .i64 n)]=ints .i64 (stI st++[n]):=fun n=>ints_append1 _ _ _
    rw [drop_getI hc] at hF
    generalize hx:ops.getD i nilI=x at hF
    obtain ⟨k,p,a,b,c,d⟩:=x
    simp only [matchG] at hF
    rcases (show k=10∨k=11∨k=12∨k=13∨(k≠10∧k≠11∧k≠12∧k≠13) by omega) with rfl|rfl|rfl|rfl|hk
    ·rw [if_pos (by omega)] at hF
     have hnx:stI st++[(i:Int)]=stI (i::st):=(stI_cons i st).symm
     by_cases h40:st.length≥40
     ·rw [if_pos h40] at hF
      have k5:decide ((st.length:Int)+1>40)=true:=decide_eq_true (by omega)
      with_reducible repeat' first|(refine nx ?_;intros)|refine t_br (fun hc=>?_) fun hc=>?_|apply And.intro|intro vr|(refine ny ?_;intros;simp only [go_sem,kp31,geff,g3,hx,k5,hap,has,hol,hnx,stI_length,List.length_cons,Int.natCast_add,Int.natCast_one,Int.toNat_natCast,yes])
      all_goals try exact nd
      all_goals (refine nl ?_;simp only [go_sem])
      exact mt_none hF.symm
     ·rw [if_neg h40] at hF
      have k5:decide ((st.length:Int)+1>40)=false:=decide_eq_false (by omega)
      with_reducible repeat' first|(refine nx ?_;intros)|refine t_br (fun hc=>?_) fun hc=>?_|apply And.intro|intro vr|(refine ny ?_;intros;simp only [go_sem,kp31,geff,g3,hx,k5,hap,has,hol,hnx,stI_length,List.length_cons,Int.natCast_add,Int.natCast_one,Int.toNat_natCast,yes])
      all_goals try exact nd
      refine ⟨⟨i+1,u+1,v+1,out++[(i:Int)],i::st,by omega,by simp [ho],stP hs,by simp only [List.length_cons];omega,hF⟩,by first|(simp only;omega)|omega,?_⟩
      try simp only [updL_nil,updL_cons,delF_top,delF_upd,Nat.reduceEqDiff,reduceIte]
      refine le_backD (by first|rfl|(simp only [go_sem];try rfl)) (by first|exact Nat.zero_le _|simp) (by first|rfl|simp [lowO,low_lit,low_sl,low_ref,low_arr,low_sub,low_mp]) ?_ ?_
      ·repeat' (first|exact low_top|(refine low_upd rfl ?_))
      exact lq
    ·rw [if_pos (by omega)] at hF
     have hnx:stI st++[(i:Int)]=stI (i::st):=(stI_cons i st).symm
     by_cases h40:st.length≥40
     ·rw [if_pos h40] at hF
      have k5:decide ((st.length:Int)+1>40)=true:=decide_eq_true (by omega)
      with_reducible repeat' first|(refine nx ?_;intros)|refine t_br (fun hc=>?_) fun hc=>?_|apply And.intro|intro vr|(refine ny ?_;intros;simp only [go_sem,kp31,geff,g3,hx,k5,hap,has,hol,hnx,stI_length,List.length_cons,Int.natCast_add,Int.natCast_one,Int.toNat_natCast,yes])
      all_goals try exact nd
      all_goals (refine nl ?_;simp only [go_sem])
      exact mt_none hF.symm
     ·rw [if_neg h40] at hF
      have k5:decide ((st.length:Int)+1>40)=false:=decide_eq_false (by omega)
      with_reducible repeat' first|(refine nx ?_;intros)|refine t_br (fun hc=>?_) fun hc=>?_|apply And.intro|intro vr|(refine ny ?_;intros;simp only [go_sem,kp31,geff,g3,hx,k5,hap,has,hol,hnx,stI_length,List.length_cons,Int.natCast_add,Int.natCast_one,Int.toNat_natCast,yes])
      all_goals try exact nd
      refine ⟨⟨i+1,u+1,v+1,out++[(i:Int)],i::st,by omega,by simp [ho],stP hs,by simp only [List.length_cons];omega,hF⟩,by first|(simp only;omega)|omega,?_⟩
      try simp only [updL_nil,updL_cons,delF_top,delF_upd,Nat.reduceEqDiff,reduceIte]
      refine le_backD (by first|rfl|(simp only [go_sem];try rfl)) (by first|exact Nat.zero_le _|simp) (by first|rfl|simp [lowO,low_lit,low_sl,low_ref,low_arr,low_sub,low_mp]) ?_ ?_
      ·repeat' (first|exact low_top|(refine low_upd rfl ?_))
      exact lq
    ·rw [if_neg (by omega),if_pos rfl] at hF
     cases st with
     |nil=>
      have k6:decide ((-1:Int)<0)=true:=by decide
      with_reducible repeat' first|(refine nx ?_;intros)|refine t_br (fun hc=>?_) fun hc=>?_|apply And.intro|intro vr|(refine ny ?_;intros;simp only [go_sem,kp31,geff,g3,hx,hap,hol,stI_n0,k6,Int.toNat_natCast,yes])
      all_goals try exact nd
      all_goals (refine nl ?_;simp only [go_sem])
      exact mt_none hF.symm
     |cons j st=>
      have hj:=hs j (List.mem_cons_self ..)
      have h4s:st.length≤39:=by simp only [List.length_cons] at h4;omega
      have hL:=stI_length st
      have hLj:(stI (j::st)).length=st.length+1:=stI_length (j::st)
      have k6:decide ((st.length:Int)<0)=false:=decide_eq_false (by omega)
      have hso:∀ n:Int,(ints .i64 (out++[(i:Int)])).set j (.lit (.int .i64 n))=ints .i64 ((out++[(i:Int)]).set j n):=fun n=>ints_set _ _ _ _
      simp only at hF
      generalize hy:ops.getD j nilI=y at hF
      obtain ⟨k',p',a',b',c',d'⟩:=y
      simp only at hF
      by_cases h11:k'=11
      ·rw [if_pos h11] at hF
       have k7:(k' !=11)=false:=by simp [h11]
       have hnx:ints .i64 (stI st)++[.lit (.int .i64 (i:Int))]=ints .i64 (stI (i::st)):=by rw [stI_cons];exact ints_append1 _ _ _
       with_reducible repeat' first|(refine nx ?_;intros)|refine t_br (fun hc=>?_) fun hc=>?_|apply And.intro|intro vr|(refine ny ?_;intros;simp only [go_sem,kp31,geff,g3,hx,hy,hap,hol,hso,stI_n1,stI_last,stI_take,stI_tk,hnx,k6,k7,Int.toNat_natCast,yes])
       all_goals try exact nd
       refine ⟨⟨i+1,u+1,v+2,(out++[(i:Int)]).set j (i:Int),i::st,by omega,by simp [ho],stP (stQ hs),h4,hF⟩,by first|(simp only;omega)|omega,?_⟩
       try simp only [updL_nil,updL_cons,delF_top,delF_upd,Nat.reduceEqDiff,reduceIte]
       refine le_backD (by first|rfl|(simp only [go_sem];try rfl)) (by first|exact Nat.zero_le _|simp) (by first|rfl|simp [lowO,low_lit,low_sl,low_ref,low_arr,low_sub,low_mp]) ?_ ?_
       ·repeat' (first|exact low_top|(refine low_upd rfl ?_))
       exact lq
      ·rw [if_neg h11] at hF
       have k7:(k' !=11)=true:=by simp [h11]
       with_reducible repeat' first|(refine nx ?_;intros)|refine t_br (fun hc=>?_) fun hc=>?_|apply And.intro|intro vr|(refine ny ?_;intros;simp only [go_sem,kp31,geff,g3,hx,hy,hap,hol,hso,stI_n1,stI_last,stI_take,stI_tk,k6,k7,Int.toNat_natCast,yes])
       all_goals try exact nd
       all_goals (refine nl ?_;simp only [go_sem])
       exact mt_none hF.symm
    ·rw [if_neg (by omega),if_neg (by omega),if_pos rfl] at hF
     cases st with
     |nil=>
      have k6:decide ((-1:Int)<0)=true:=by decide
      with_reducible repeat' first|(refine nx ?_;intros)|refine t_br (fun hc=>?_) fun hc=>?_|apply And.intro|intro vr|(refine ny ?_;intros;simp only [go_sem,kp31,geff,g3,hx,hap,hol,stI_n0,k6,Int.toNat_natCast,yes])
      all_goals try exact nd
      all_goals (refine nl ?_;simp only [go_sem])
      exact mt_none hF.symm
     |cons j st=>
      have hj:=hs j (List.mem_cons_self ..)
      have h4s:st.length≤39:=by simp only [List.length_cons] at h4;omega
      have hL:=stI_length st
      have hLj:(stI (j::st)).length=st.length+1:=stI_length (j::st)
      have k6:decide ((st.length:Int)<0)=false:=decide_eq_false (by omega)
      have hso:∀ n:Int,(ints .i64 (out++[(i:Int)])).set j (.lit (.int .i64 n))=ints .i64 ((out++[(i:Int)]).set j n):=fun n=>ints_set _ _ _ _
      simp only at hF
      with_reducible repeat' first|(refine nx ?_;intros)|refine t_br (fun hc=>?_) fun hc=>?_|apply And.intro|intro vr|(refine ny ?_;intros;simp only [go_sem,kp31,geff,g3,hx,hap,hol,hso,stI_n1,stI_last,stI_take,stI_tk,k6,Int.toNat_natCast,yes])
      all_goals try exact nd
      refine ⟨⟨i+1,u+1,v+1,(out++[(i:Int)]).set j (i:Int),st,by omega,by simp [ho],stW (stQ hs),by simp only [List.length_cons] at h4;omega,hF⟩,by simp only;omega,?_⟩
      refine (le_cut 5 (by simp only [go_sem];rfl) rfl).trans ?_
      try simp only [go_sem,stI_take,stI_tk]
      try simp only [updL_nil,updL_cons,delF_top,delF_upd,Nat.reduceEqDiff,reduceIte]
      refine le_backD (by first|rfl|(simp only [go_sem];try rfl)) (by first|exact Nat.zero_le _|simp) (by first|rfl|simp [lowO,low_lit,low_sl,low_ref,low_arr,low_sub,low_mp]) ?_ ?_
      ·repeat' (first|exact low_top|(refine low_upd rfl ?_))
      exact lq
    ·rw [if_neg (by omega),if_neg (by omega),if_neg (by omega)] at hF
     have k1:(k==10)=false:=by simpa using hk.1
     have k2:(k==11)=false:=by simpa using hk.2.1
     have k3:(k==12)=false:=by simpa using hk.2.2.1
     have k4:(k==13)=false:=by simpa using hk.2.2.2
     with_reducible repeat' first|(refine nx ?_;intros)|refine t_br (fun hc=>?_) fun hc=>?_|apply And.intro|intro vr|(refine ny ?_;intros;simp only [go_sem,kp31,geff,g3,hx,k1,k2,k3,k4,hap,hol,stI_length,Int.toNat_natCast,yes])
     all_goals try exact nd
     refine ⟨⟨i+1,u+1,v,out++[(i:Int)],st,by omega,by simp [ho],fun j hj=>by have:=hs j hj;omega,h4,hF⟩,by first|(simp only;omega)|omega,?_⟩
     try simp only [updL_nil,updL_cons,delF_top,delF_upd,Nat.reduceEqDiff,reduceIte]
     refine le_backD (by first|rfl|(simp only [go_sem];try rfl)) (by first|exact Nat.zero_le _|simp) (by first|rfl|simp [lowO,low_lit,low_sl,low_ref,low_arr,low_sub,low_mp]) ?_ ?_
     ·repeat' (first|exact low_top|(refine low_upd rfl ?_))
     exact lq
   ·have g3:decide ((i:Int)<(ops.length:Int))=false:=decide_eq_false (by omega)
    rw [List.drop_eq_nil_of_le hc] at hF
    cases st with
    |nil=>
     with_reducible repeat' first|(refine nx ?_;intros)|refine t_br (fun hc=>?_) fun hc=>?_|apply And.intro|intro vr|(refine ny ?_;intros;simp only [go_sem,kp31,geff,g3,stI_length,List.length_nil,yes])
     all_goals try exact nd
     all_goals (refine nl ?_;simp only [go_sem])
     exact mt_some (by rw [←hF];rfl)
    |cons j st=>
     have k5:decide (((j::st).length:Int)>0)=true:=decide_eq_true (by simp only [List.length_cons];omega)
     with_reducible repeat' first|(refine nx ?_;intros)|refine t_br (fun hc=>?_) fun hc=>?_|apply And.intro|intro vr|(refine ny ?_;intros;simp only [go_sem,kp31,geff,g3,stI_length,k5,yes])
     all_goals try exact nd
     all_goals (refine nl ?_;simp only [go_sem])
     exact mt_none (by rw [←hF];rfl)
end Go.Proofs.YtnlimcijgpaegaaGreat

namespace Go.Proofs.YtnlimcijgpaegaaGreat
open Go Go.Fw Bm
set_option maxRecDepth 20000
def zs (n:Nat):List Int:=List.replicate n 0
end Go.Proofs.YtnlimcijgpaegaaGreat

namespace Go.Proofs.YtnlimcijgpaegaaGreat
open Go Go.Fw
set_option maxRecDepth 20000
theorem le_nil {n0:Nat} {f:Nat→AV} {σ:List AObj} (i e sz:Nat) (h:f i= .lit (.slice none 0 0)):Le n0 ⟨f,σ⟩ ⟨upd f i (.arr σ.length 0),σ++[.arr e sz [] 0 false]⟩:=by
  intro cx G w N a _ hr hf
  obtain ⟨G',h1,h2,h3⟩:=Rel.newEmpty hr e sz none
  refine ⟨G',h2,hf.size,hf.defers,fun j=>?_⟩
  have hj:R G' (f j) (a.tmps.getD j undef):=(hf.rel j).mono h1
  simp only [upd]
  split
  ·rename_i e;subst e;rw [h] at hj;rw [hj.lit_inv];exact h3
  ·exact hj
theorem getD_mem {α:Type} {l:List α} {i:Nat} (z:α) (h:i<l.length):l.getD i z∈l:=by
  rw [List.getD_eq_getElem?_getD,List.getElem?_eq_getElem h];exact List.getElem_mem _
end Go.Proofs.YtnlimcijgpaegaaGreat

namespace Go.Proofs.YtnlimcijgpaegaaGreat
open Go Go.Fw
set_option maxRecDepth 20000
end Go.Proofs.YtnlimcijgpaegaaGreat

namespace Go.Proofs.YtnlimcijgpaegaaGreat
open Go Go.Fw
set_option maxRecDepth 20000
end Go.Proofs.YtnlimcijgpaegaaGreat

namespace Go.Proofs.YtnlimcijgpaegaaGreat
open Go Go.Fw
set_option maxRecDepth 20000
end Go.Proofs.YtnlimcijgpaegaaGreat

namespace Go.Proofs.YtnlimcijgpaegaaGreat
open Go Go.Fw Bm
set_option maxRecDepth 20000
def bcV (B:Prg):AV:= .agg [.lit (.int .i64 B.regs),.lit (.int .i64 B.arena),.sl false 6 (opsV B.ops),.sl false 2 (plsV B.ins),.sl false 2 (plsV B.outs),.sl false 3 (arrs B.types)]
theorem bcV_mk {r a:Int} {o:List Ins} {i u:List (Int×Int)} {t:List Arr}:bcV ⟨r,a,o,i,u,t⟩= .agg [.lit (.int .i64 r),.lit (.int .i64 a),.sl false 6 (opsV o),.sl false 2 (plsV i),.sl false 2 (plsV u),.sl false 3 (arrs t)]:=rfl
def bcOf:AV→Option Prg
  |.agg [.lit (.int .i64 r),.lit (.int .i64 a),o,i,u,t]=>match opsOf o,plsOf i,plsOf u,arrsOf t with
   |some o,some i,some u,some t=>some ⟨r,a,o,i,u,t⟩
   |_,_,_,_=>none
  |_=>none
theorem bcOf_agg {r a:Int} {o i u t:AV}:bcOf (.agg [.lit (.int .i64 r),.lit (.int .i64 a),o,i,u,t])=match opsOf o,plsOf i,plsOf u,arrsOf t with
    |some o,some i,some u,some t=>some ⟨r,a,o,i,u,t⟩
    |_,_,_,_=>none:=rfl
theorem bcOf_le {x:AV} {B:Prg} (h:bcOf x=some B):LeA x (bcV B):=by
  unfold bcOf at h
  split at h
  ·split at h
   ·rename_i h1 h2 h3 h4
    cases h
    exact LeA.agg ⟨LeA.refl _,LeA.refl _,opsOf_le h1,plsOf_le h2,plsOf_le h3,arrsOf_le h4,trivial⟩
   ·cases h
  ·cases h
structure OkB (B:Prg):Prop where
  ops:B.ops.length≤1000000
  ins:B.ins.length≤1000000
  outs:B.outs.length≤1000000
  types:B.types.length≤1000000
  dims:∀ t∈B.types,okA t
noncomputable def V11:Env:=envJ (P:=Tryz.prog) jkV zer (fun _=>false) (fun _=>false) [con62] []
theorem V11_ok:EnvOk Tryz.prog V11:=envJOk zer_ok
attribute [go_sem] con62_f con62_c opsOf_sl plsOf_sl arrsOf_sl slK_sl szV_def arrOf_agg
def typdB (t:Arr):Bool:=((sizeS t.d).2==0)&&(eqS t.e sInt||eqS t.e sBool)&&((t.x.length:Int)==0)
theorem typeOk_eq (arena:Int) (t:Arr) (p:Int×Int):typeOk arena t p=(typdB t&&(p.2==(sizeS t.d).1)&& !decide (p.1<0)&& !decide (p.1>arena - (sizeS t.d).1)):=by
  rw [Bool.eq_iff_iff];simp [typeOk,typdB]
  intros;exact and_comm
set_option maxHeartbeats 4000000 in
theorem typed_pc {t:Arr} (h:okA t):PC Tryz.prog 36 [arrV t] (.tup [.lit (.int .i64 (sizeS t.d).1),.lit (.bool (typdB t))]):=by
  obtain ⟨h1,h2⟩:=h
  simp only [arrV]
  refine pcR V11_ok (kp36) Tryz.func36 [.tmp 2,.tmp 3] (h:=fun KF=>?_)
  unfold V11
  with_reducible repeat' first|(refine nx ?_;intros)|apply And.intro|intro vr|((first|refine ny ?_|refine t_dwh (h:=fun K KL=>?_));intros;simp only [go_sem,kp36,geff])
  all_goals try exact nd
  all_goals (refine nl ?_;simp only [go_sem])
  refine LeA.of_eq ?_
  simp only [typdB,sInt,sBool]
  try rfl
noncomputable def con36:PCon Tryz.prog where
  f:=36
  c:=fun
   |[xt]=>match arrOf xt with|some t=>some (okA t,.tup [.lit (.int .i64 (sizeS t.d).1),.lit (.bool (typdB t))])|_=>none
   |_=>none
  ok:=by
   intro args p r hc hp
   split at hc
   ·split at hc
    ·rename_i ht
     cases hc
     exact PC.weak (typed_pc hp) ⟨arrOf_le ht,trivial⟩
    ·cases hc
   ·cases hc
  fk:=fk36
theorem con36_f:con36.f=36:=rfl
theorem con36_c {xt:AV}:con36.c [xt]=match arrOf xt with|some t=>some (okA t,.tup [.lit (.int .i64 (sizeS t.d).1),.lit (.bool (typdB t))])|_=>none:=rfl
def formedB (ops:List Ins) (regs:Int):Bool:=ops.all (fun x=>rightS x regs)&&(matchS ops).isSome
theorem matchV_eq (ops:List Ins):∃ l,matchV ops= .tup [.sl false 1 (ints .i64 l),.lit (.bool (matchS ops).isSome)]:=by
  unfold matchV
  cases matchS ops with
  |none=>exact ⟨[],rfl⟩
  |some l=>exact ⟨l,rfl⟩
attribute [go_sem] con36_f con36_c
theorem plsV_app (a b:List (Int×Int)):plsV a++plsV b=plsV (a++b):=by simp [plsV]
end Go.Proofs.YtnlimcijgpaegaaGreat

namespace Go.Fw
open Go
variable {P:Program}
theorem le_dropM {n0:Nat} {f:Nat→AV} {l m:List AObj} (hn:n0≤l.length) (hb:l.all (lowO l.length)=true) (hf:∀ j,low1 l.length (f j)=true):Le n0 ⟨f,l++m⟩ ⟨f,l⟩:=by
  intro cx G w N a h0 hr hfr
  have get:∀ {o:Nat} {x:AObj},l[o]? =some x→(l++m)[o]? =some x:=fun {o x} h=>by
    rw [List.getElem?_append_left (List.getElem?_eq_some_iff.1 h).1];exact h
  refine ⟨{G with n:=l.length},⟨rfl,?_,?_,?_,hr.cell,hr.os,hr.tape,hr.output,hr.size,hr.block,hr.old,?_⟩,hfr.size,hfr.defers,fun j=>low1_R (hfr.rel j) (hf j)⟩
  ·intro o x ho
   have hk:=hr.ok o x (get ho)
   cases x with
   |gone=>trivial
   |box t cs=>
    have hm:lowO l.length (.box t cs)=true:=by
      rw [List.all_eq_true] at hb
      exact hb _ (List.mem_of_getElem? ho)
    obtain ⟨g,cur,h1,h2,h3,h4,h5⟩:=hk
    simp only [lowO,List.all_eq_true] at hm
    exact ⟨g,cur,h1,h2,h3,fun i hi=>⟨low1_R (h4 i hi).1 (hm _ (getD_mem' hi)),(h4 i hi).2⟩,h5⟩
   |arr e sz xs ver fz=>
    obtain ⟨h1,h2,h3⟩:=hk
    refine ⟨h1,h2,?_⟩
    cases fz with
    |true=>exact h3
    |false=>
     simp only [Bool.false_eq_true,if_false] at h3 ⊢
     rcases h3 with h3|⟨g,cap,cur,h3⟩
     ·exact .inl h3
     ·exact .inr ⟨g,cap,cur,h3.keep (CLe.refl _) rfl h3.unc⟩
   |map es=>
    obtain ⟨g,ents,clock,h1,h2⟩:=hk
    exact ⟨g,ents,clock,h1,h2.keep (CLe.refl _) rfl h2.unc⟩
  ·intro o1 o2 ob1 ob2 g h1 h2 h3 h4 h5 h6
   exact hr.inj o1 o2 ob1 ob2 g (get h1) h2 (get h3) h4 h5 h6
  ·intro o x g h1 h2 h3
   exact hr.own o x g (get h1) h2 h3
  ·have h:=hr.le0
   exact ⟨h.C,by show cx.G0.n≤l.length;omega,h.ver,h.b,h.p⟩
theorem le_backM {n0:Nat} {f g:Nat→AV} {σ l m:List AObj} (e:σ=l++m) (hn:n0≤l.length) (hb:l.all (lowO l.length)=true) (hg:∀ j,low1 l.length (g j)=true) (h:∀ j,LeR (f j) (g j)):Le n0 ⟨f,σ⟩ ⟨g,l⟩:=by
  subst e
  exact (Le.frame h).trans (le_dropM hn hb hg)
end Go.Fw

namespace Go.Proofs.YtnlimcijgpaegaaGreat
open Go Go.Fw Bm
set_option maxRecDepth 20000
theorem bcOf_mk {r a:Int} {o:List Ins} {i u:List (Int×Int)} {t:List Arr}:bcOf (.agg [.lit (.int .i64 r),.lit (.int .i64 a),.sl false 6 (opsV o),.sl false 2 (plsV i),.sl false 2 (plsV u),.sl false 3 (arrs t)])=some ⟨r,a,o,i,u,t⟩:=by
  rw [bcOf_agg,opsOf_sl,plsOf_sl,plsOf_sl,arrsOf_sl]
attribute [go_sem] arrs_length bcOf_mk
def headB (B:Prg):Bool:=decide (B.regs<0)||decide (B.regs>200)||decide (B.arena<0)||decide (B.arena>1048576)|| !formedB B.ops B.regs||((B.types.length:Int) !=(B.ins.length:Int)+(B.outs.length:Int))
theorem valid_eq (B:Prg):validS B=(!headB B&&typesOk B.arena B.types (B.ins++B.outs)):=by
  rw [Bool.eq_iff_iff];simp only [validS,headB,formedB,maxA,Bool.and_eq_true,Bool.not_eq_true',Bool.or_eq_false_iff,decide_eq_true_eq,decide_eq_false_iff_not,bne_eq_false_iff_eq,Bool.not_eq_false']
  constructor
  ·rintro ⟨⟨⟨⟨⟨h1,h2⟩,h3⟩,h4⟩,h5⟩,h6⟩;have h2:=of_decide_eq_true h2;exact ⟨⟨⟨⟨⟨⟨by omega,by omega⟩,by omega⟩,by omega⟩,h4,h5⟩,by omega⟩,h6⟩
  ·rintro ⟨⟨⟨⟨⟨⟨h1,h2⟩,h3⟩,h3'⟩,h4,h5⟩,h⟩,h6⟩;exact ⟨⟨⟨⟨⟨by omega,decide_eq_true (by omega)⟩,by omega⟩,h4⟩,h5⟩,h6⟩
theorem drop_getP {l:List (Int×Int)} {i:Nat} (h:i<l.length):l.drop i=l.getD i (0,0)::l.drop (i+1):=drop_getD _ h
end Go.Proofs.YtnlimcijgpaegaaGreat

namespace Go.Proofs.YtnlimcijgpaegaaGreat
open Go Go.Fw Bm
set_option maxRecDepth 20000
noncomputable def V13:Env:=envJ (P:=Tryz.prog) jkV zer (fun _=>false) (fun _=>false) [con34] []
theorem V13_ok:EnvOk Tryz.prog V13:=envJOk zer_ok
theorem notr_ec {r:Int} {c1 c2 c3 c4 c5:AV} {x:Ins} {k:AV→List AObj→Prop} (hk:k (.lit (.bool (!rightS x r))) [.box 26 [.lit (.int .i64 r),c1,c2,c3,c4,c5]]):
    EC Tryz.prog 33 [opV x,.ref 0 0] [.box 26 [.lit (.int .i64 r),c1,c2,c3,c4,c5]] k:=by
  refine ec_fin fun hbd=>?_
  obtain ⟨q,p,a,b,c,d⟩:=x
  simp only [opV]
  refine ecR V13_ok (kp33) Tryz.func33 [.tmp 3] (h:=fun KF=>?_)
  unfold V13
  with_reducible repeat' first|(refine nx ?_;intros)|apply And.intro|intro vr|(refine ny ?_;intros;simp only [go_sem,kp33,geff,yes])
  all_goals try exact nd
  all_goals (refine nl ?_;simp only [go_sem,finE])
  exact ⟨_,_,rfl,LeA.refl _,hbd,hk⟩
noncomputable def ecn33:ECon Tryz.prog where
  f:=33
  c:=fun args σ k=>match args,σ with
   |[x,.ref 0 0],[.box 26 [.lit (.int .i64 r),c1,c2,c3,c4,c5]]=>match opOf x with
    |some x=>k (.lit (.bool (!rightS x r))) [.box 26 [.lit (.int .i64 r),c1,c2,c3,c4,c5]]
    |none=>False
   |_,_=>False
  ok:=by
   intro args σ k h
   split at h
   ·split at h
    ·rename_i hx
     rw [opOf_inv hx]
     exact notr_ec h
    ·exact h.elim
   ·exact h.elim
  fk:=fk33
theorem ecn33_f:ecn33.f=33:=rfl
theorem ecn33_c {x c1 c2 c3 c4 c5:AV} {r:Int} {k:AV→List AObj→Prop}:ecn33.c [x,.ref 0 0] [.box 26 [.lit (.int .i64 r),c1,c2,c3,c4,c5]] k=match opOf x with
      |some x=>k (.lit (.bool (!rightS x r))) [.box 26 [.lit (.int .i64 r),c1,c2,c3,c4,c5]]
      |none=>False:=rfl
attribute [go_sem] ecn33_f ecn33_c
noncomputable def W13:Env:=envJ (P:=Tryz.prog) jkV zer (fun _=>false) (fun _=>false) [] [ecn33]
theorem W13_ok:EnvOk Tryz.prog W13:=envJOk zer_ok
def idxI (p:Ins→Bool):List Ins→Int→Int
  |[],_=> -1
  |d::t,i=>if p d=true then i else idxI p t (i+1)
theorem idxI_any (p:Ins→Bool):∀ (l:List Ins) (i:Int),0≤i→decide (idxI p l i≥0)=l.any p
  |[],_,_=>rfl
  |d::t,i,hi=>by
   unfold idxI
   by_cases h:p d=true
   ·rw [if_pos h,List.any_cons,h,decide_eq_true hi];rfl
   ·rw [if_neg h,idxI_any p t (i+1) (by omega),List.any_cons]
    simp only [Bool.not_eq_true] at h
    rw [h];rfl
def notR (r:Int) (x:Ins):Bool:= !rightS x r
theorem idxi_ec {l:List Ins} {r:Int} {c1 c2 c3 c4 c5:AV} {k:AV→List AObj→Prop} (hl:l.length≤1000000)
    (hk:k (.lit (.int .i64 (idxI (notR r) l 0))) [.box 26 [.lit (.int .i64 r),c1,c2,c3,c4,c5]]):
    EC Tryz.prog 57 [.sl false 6 (opsV l),.fn (.func 33) [] [.ref 0 0]] [.box 26 [.lit (.int .i64 r),c1,c2,c3,c4,c5]] k:=by
  generalize hR:idxI (notR r) l 0=R at hk
  refine ecR W13_ok (kp57) Tryz.func57 [.tmp 4] (h:=fun KF=>?_)
  unfold W13
  with_reducible repeat' first|(refine nx ?_;intros)|apply And.intro|intro vr|(refine ny ?_;intros;simp only [go_sem,kp57,geff])
  all_goals try exact nd
  refine t_loopF (ι:={i:Nat // i≤l.length∧idxI (notR r) (l.drop i) i=R}) (fun i=>[(8,.lit (.int .i64 i.1))]) (fun i=>[.box 26 [.lit (.int .i64 r),c1,c2,c3,c4,c5]]) (fun i=>l.length - i.1) ⟨0,by omega,hR⟩ ?_ ?_
  ·exact lf
  rintro ⟨i,hi,hF⟩ K0
  rcases Nat.lt_or_ge i l.length with hc|hc
  ·rw [drop_getI hc,idxI] at hF
   have g3:decide ((i:Int)<(l.length:Int))=true:=decide_eq_true (by omega)
   generalize hx:l.getD i nilI=x at hF
   cases h4:rightS x r with
   |true=>
    rw [if_neg (by unfold notR;rw [h4];decide)] at hF
    obtain ⟨q,p,a,b,c,d⟩:=x
    with_reducible repeat' first|(refine nx ?_;intros)|apply And.intro|intro vr|(refine ny ?_;intros;simp only [go_sem,kp57,geff,g3,hx,h4,Int.toNat_natCast,Bool.not_true,yes])
    all_goals try exact nd
    exact ⟨⟨i+1,by omega,by rw [←hF];congr 1⟩,wf,lf⟩
   |false=>
    rw [if_pos (by unfold notR;rw [h4];decide)] at hF
    obtain ⟨q,p,a,b,c,d⟩:=x
    with_reducible repeat' first|(refine nx ?_;intros)|apply And.intro|intro vr|(refine ny ?_;intros;simp only [go_sem,kp57,geff,g3,hx,h4,Int.toNat_natCast,Bool.not_false,yes])
    all_goals try exact nd
    all_goals (refine nl ?_;simp only [go_sem])
    rw [hF];exact hk
  ·have g3:decide ((i:Int)<(l.length:Int))=false:=decide_eq_false (by omega)
   rw [List.drop_eq_nil_of_le (by omega),idxI] at hF
   with_reducible repeat' first|(refine nx ?_;intros)|apply And.intro|intro vr|(refine ny ?_;intros;simp only [go_sem,kp57,geff,g3,Int.toNat_natCast])
   all_goals try exact nd
   all_goals (refine nl ?_;simp only [go_sem])
   rw [hF];exact hk
noncomputable def ecn57:ECon Tryz.prog where
  f:=57
  c:=fun args σ k=>match args,σ with
   |[x,.fn (.func 33) [] [.ref 0 0]],[.box 26 [.lit (.int .i64 r),c1,c2,c3,c4,c5]]=>match opsOf x with
    |some x=>x.length≤1000000∧k (.lit (.int .i64 (idxI (notR r) x 0))) [.box 26 [.lit (.int .i64 r),c1,c2,c3,c4,c5]]
    |none=>False
   |_,_=>False
  ok:=by
   intro args σ k h
   split at h
   ·split at h
    ·rename_i hx
     exact EC.weak (idxi_ec h.1 h.2) (LeRL.cons (opsOf_leR hx) (LeRL.cons (LeR.refl _) LeRL.nil))
    ·exact h.elim
   ·exact h.elim
  fk:=fk57
theorem ecn57_f:ecn57.f=57:=rfl
theorem ecn57_c {x c1 c2 c3 c4 c5:AV} {r:Int} {k:AV→List AObj→Prop}:ecn57.c [x,.fn (.func 33) [] [.ref 0 0]] [.box 26 [.lit (.int .i64 r),c1,c2,c3,c4,c5]] k=match opsOf x with
      |some x=>x.length≤1000000∧k (.lit (.int .i64 (idxI (notR r) x 0))) [.box 26 [.lit (.int .i64 r),c1,c2,c3,c4,c5]]
      |none=>False:=rfl
attribute [go_sem] ecn57_f ecn57_c
noncomputable def X13:Env:=envJ (P:=Tryz.prog) jkV zer (fun _=>false) (fun _=>false) [] [ecn57]
theorem X13_ok:EnvOk Tryz.prog X13:=envJOk zer_ok
theorem anyi_ec {l:List Ins} {r:Int} {c1 c2 c3 c4 c5:AV} {k:AV→List AObj→Prop} (hl:l.length≤1000000)
    (hk:k (.lit (.bool (l.any (notR r)))) [.box 26 [.lit (.int .i64 r),c1,c2,c3,c4,c5]]):
    EC Tryz.prog 32 [.sl false 6 (opsV l),.fn (.func 33) [] [.ref 0 0]] [.box 26 [.lit (.int .i64 r),c1,c2,c3,c4,c5]] k:=by
  rw [←idxI_any (notR r) l 0 (by omega)] at hk
  refine ecR X13_ok (kp32) Tryz.func32 [.tmp 4] (h:=fun KF=>?_)
  unfold X13
  with_reducible repeat' first|(refine nx ?_;intros)|apply And.intro|intro vr|(refine ny ?_;intros;simp only [go_sem,kp32,geff])
  all_goals try exact nd
  all_goals (refine nl ?_;simp only [go_sem])
  exact hk
noncomputable def ecn32:ECon Tryz.prog where
  f:=32
  c:=fun args σ k=>match args,σ with
   |[x,.fn (.func 33) [] [.ref 0 0]],[.box 26 [.lit (.int .i64 r),c1,c2,c3,c4,c5]]=>match opsOf x with
    |some x=>x.length≤1000000∧k (.lit (.bool (x.any (notR r)))) [.box 26 [.lit (.int .i64 r),c1,c2,c3,c4,c5]]
    |none=>False
   |_,_=>False
  ok:=by
   intro args σ k h
   split at h
   ·split at h
    ·rename_i hx
     exact EC.weak (anyi_ec h.1 h.2) (LeRL.cons (opsOf_leR hx) (LeRL.cons (LeR.refl _) LeRL.nil))
    ·exact h.elim
   ·exact h.elim
  fk:=fk32
theorem ecn32_f:ecn32.f=32:=rfl
theorem ecn32_c {x c1 c2 c3 c4 c5:AV} {r:Int} {k:AV→List AObj→Prop}:ecn32.c [x,.fn (.func 33) [] [.ref 0 0]] [.box 26 [.lit (.int .i64 r),c1,c2,c3,c4,c5]] k=match opsOf x with
      |some x=>x.length≤1000000∧k (.lit (.bool (x.any (notR r)))) [.box 26 [.lit (.int .i64 r),c1,c2,c3,c4,c5]]
      |none=>False:=rfl
attribute [go_sem] ecn32_f ecn32_c
end Go.Proofs.YtnlimcijgpaegaaGreat

set_option linter.unusedVariables false
namespace Go.Proofs
open Go.RowKit
set_option maxHeartbeats 2000000 in
set_option maxRecDepth 100000 in
theorem Tryz.growP_run (n:Nat) (h0:0<n) (h63:n≤1000000) (w:World):
    Calls Tryz.prog 61 #[.slice none 0 0,.int .i64 n] w fun e w'=>e= .returned (.slice (some ⟨w.heap.size,0,none⟩) 0 (grownCap w n 0 73))∧∃ cur,cur.size=grownCap w n 0 73*2∧w'=w.drew.alloc (.cells cur 73):=by
  obtain ⟨i0,hi,hz0,hz1,hz2⟩:=info_parts (show (Tryz.prog.info? 73).map (fun i=>(i.zero,i.size,i.bytes))=some (some (.agg #[.int .i64 0,.int .i64 0]),2,16) from by kernel_rfl)
  have h:=Lib.run_append_nil_zeros (P:=Tryz.prog) w 23 3 23 73 i0 (.agg #[.int .i64 0,.int .i64 0]) .i64 .i64 Tryz.underlying23 Tryz.underlying3 hi hz0 n h0 (by omega) (by omega) (by rw [hz2];omega)
  go_enter Tryz.func61,Tryz.ntmps61
  go_wp2_with (at_builtin;refine Lib.wpList_append_run _ rfl _ _ _ _ rfl _ _ rfl rfl _ _ h ?_)
  go_ret
  exact ⟨rfl,_,by have:=grownCap_ge w n 0 73;simp [size_zeroCells];omega,rfl⟩
set_option maxHeartbeats 2000000 in
set_option maxRecDepth 100000 in
theorem Tryz.growP_zero (w:World):Calls Tryz.prog 61 #[.slice none 0 0,.int .i64 0] w fun e w'=>e= .returned (.slice none 0 0)∧w'=w:=by
  go_enter Tryz.func61,Tryz.ntmps61
  go_wp2
  go_ret
  exact ⟨rfl,rfl⟩
namespace YtnlimcijgpaegaaGreat
open Go.Fw
theorem growP_ec {n:Nat} (h0:0<n) (hn:n≤1000000) {σ:List AObj} {k:AV→List AObj→Prop} (hk:k (.arr σ.length 0) (σ++[.arr 73 2 [] 0 false])):EC Tryz.prog 61 [.lit (.slice none 0 0),.lit (.int .i64 n)] σ k:=by
  intro cx G w vs hr hl
  obtain ⟨h1,h2⟩:=hl
  match vs,h1 with
  |[a,b],_=>
   have ha:=(show R G (.lit (.slice none 0 0)) a from h2 0 (by simp)).lit_inv
   have hb:=(show R G (.lit (.int .i64 n)) b from h2 1 (by simp)).lit_inv
   subst ha;subst hb
   refine (Tryz.growP_run n h0 hn w).mono ?_
   rintro e w' ⟨rfl,cur,hc,rfl⟩
   have hge:=grownCap_ge w n 0 73
   obtain ⟨G',g1,g2,g3⟩:=(hr.more (More.drawn w (w.drawn+1))).newArr 73 2 (xs:=[]) (cur:=cur) (cap:=grownCap w n 0 73) (fz:=(0,0)) ⟨by simp,by simp,by simp⟩ (by omega) (by simp) (grownCap_le_maxLen w n 0 73 (by unfold maxLen;omega)) (by omega) ⟨Nat.le_refl _,fun off _ h=>by simp at h⟩
   exact ⟨_,G',_,_,rfl,g1,g2,g3,hk⟩
theorem growP_ec0 {σ:List AObj} {k:AV→List AObj→Prop} (hk:k (.lit (.slice none 0 0)) σ):EC Tryz.prog 61 [.lit (.slice none 0 0),.lit (.int .i64 0)] σ k:=by
  intro cx G w vs hr hl
  obtain ⟨h1,h2⟩:=hl
  match vs,h1 with
  |[a,b],_=>
   have ha:=(show R G (.lit (.slice none 0 0)) a from h2 0 (by simp)).lit_inv
   have hb:=(show R G (.lit (.int .i64 0)) b from h2 1 (by simp)).lit_inv
   subst ha;subst hb
   refine (Tryz.growP_zero w).mono ?_
   rintro e w' ⟨rfl,rfl⟩
   exact ⟨_,G,_,_,rfl,Gh.le.refl G,hr,.clo _ _ (.lit _),hk⟩
end YtnlimcijgpaegaaGreat
end Go.Proofs

namespace Go.Proofs.YtnlimcijgpaegaaGreat
open Go Go.Fw Bm
set_option maxRecDepth 20000
def pss (L:List (List (Int×Int))):List AV:=L.map fun l=> .sl false 2 (plsV l)
def jPs:AV:= .sl false 2 (plsV [])
def jkC:TypeId→AV:=fun t=>if t=23 then jPs else jkV t
theorem jkC_23:jkC 23=jPs:=rfl
theorem pss_length (L:List (List (Int×Int))):(pss L).length=L.length:=by simp [pss]
theorem pss_getJ (L:List (List (Int×Int))) (i:Nat):(pss L).getD i jPs= .sl false 2 (plsV (L.getD i [])):=by
  simp only [pss,jPs,List.getD_eq_getElem?_getD,List.getElem?_map];cases L[i]? <;>rfl
attribute [go_sem] jkC_23 pss_length pss_getJ
noncomputable def ecn61:ECon Tryz.prog where
  f:=61
  c:=fun args σ k=>match args with
   |[.lit (.slice none 0 0),.lit (.int .i64 n)]=>0≤n∧n≤1000000∧(n=0→k (.lit (.slice none 0 0)) σ)∧(n≠0→k (.arr σ.length 0) (σ++[.arr 73 2 [] 0 false]))
   |_=>False
  ok:=by
   intro args σ k h
   split at h
   ·rename_i n
    obtain ⟨m,rfl⟩:∃ m:Nat,n=m:=⟨n.toNat,by omega⟩
    rcases Nat.eq_zero_or_pos m with rfl|hm
    ·exact growP_ec0 (h.2.2.1 rfl)
    ·exact growP_ec hm (by omega) (h.2.2.2 (by omega))
   ·exact h.elim
  fk:=fk61
theorem ecn61_f:ecn61.f=61:=rfl
theorem ecn61_c {n:Int} {σ:List AObj} {k:AV→List AObj→Prop}:ecn61.c [.lit (.slice none 0 0),.lit (.int .i64 n)] σ k=(0≤n∧n≤1000000∧(n=0→k (.lit (.slice none 0 0)) σ)∧(n≠0→k (.arr σ.length 0) (σ++[.arr 73 2 [] 0 false]))):=rfl
attribute [go_sem] ecn61_f ecn61_c
noncomputable def V14:Env:=envJ (P:=Tryz.prog) jkC zer (fun _=>false) (fun _=>false) [] [ecn61]
theorem V14_ok:EnvOk Tryz.prog V14:=envJOk zer_ok
theorem flat_take {L:List (List (Int×Int))} {i:Nat} (h:i<L.length):(L.take (i+1)).flatten=(L.take i).flatten++L.getD i []:=by
  rw [List.take_add_one,List.getElem?_eq_getElem h,List.getD_eq_getElem?_getD,List.getElem?_eq_getElem h,List.flatten_append];simp
theorem flat_le (L:List (List (Int×Int))) (i:Nat):(L.take i).flatten.length≤L.flatten.length:=by
  have h:L.flatten=(L.take i).flatten++(L.drop i).flatten:=by rw [←List.flatten_append,List.take_append_drop]
  rw [h,List.length_append];omega
set_option maxHeartbeats 4000000 in
theorem concat_pc {L:List (List (Int×Int))} (hl:L.flatten.length≤1000000) (hL:L.length≤1000000):PC Tryz.prog 35 [.sl false 1 (pss L)] (.sl false 2 (plsV L.flatten)):=by
  refine pcR V14_ok (kp35) Tryz.func35 [.tmp 2] (h:=fun KF=>?_)
  unfold V14
  with_reducible repeat' first|(refine nx ?_;intros)|apply And.intro|intro vr|(refine ny ?_;intros;simp only [go_sem,kp35,geff])
  all_goals try exact nd
  refine t_loopF (ι:={i:Nat // i≤L.length}) (fun i=>[(11,.lit (.int .i64 i.1)),(3,.lit (.int .i64 (L.take i.1).flatten.length))]) (fun i=>[]) (fun i=>L.length - i.1) ⟨0,by omega⟩ ?_ ?_
  ·exact lf
  rintro ⟨i,hi⟩ K0
  rcases Nat.lt_or_ge i L.length with hc|hc
  ·have g3:decide ((i:Int)<(L.length:Int))=true:=decide_eq_true (by omega)
   have hf:=flat_take hc
   have hle:=flat_le L (i+1)
   have hlen:=congrArg List.length hf
   rw [List.length_append] at hlen
   have g8:((L.take i).flatten.length:Int)+((L.getD i []).length:Int)=((L.take (i+1)).flatten.length:Nat):=by omega
   have g9:decide ((((L.take (i+1)).flatten.length:Nat):Int)<0)=false:=decide_eq_false (by omega)
   with_reducible repeat' first|(refine nx ?_;intros)|apply And.intro|intro vr|(refine ny ?_;intros;simp only [go_sem,kp35,geff,updL_cons,updL_nil,Int.toNat_natCast,g3,g8,g9])
   all_goals try exact nd
   exact ⟨⟨i+1,by omega⟩,wf,lf⟩
  ·have g3:decide ((i:Int)<(L.length:Int))=false:=decide_eq_false (by omega)
   have e:L.take i=L:=List.take_of_length_le hc
   have z0:L.take 0=[]:=List.take_zero
   rcases Nat.eq_zero_or_pos L.flatten.length with ht|ht
   ·have g4:((L.flatten.length:Nat):Int)=0:=by omega
    with_reducible repeat' first|(refine nx ?_;intros)|apply And.intro|intro vr|(refine ny ?_;intros;simp only [go_sem,kp35,geff,updL_cons,updL_nil,Int.toNat_natCast,g3,e,g4,true_imp_iff,ne_eq,not_true_eq_false,false_imp_iff])
    all_goals try exact nd
    refine t_loopF (ι:={p:Nat×Nat // p.1≤L.length}) (fun i=>[(27,.lit (.int .i64 i.1.1)),(6,.arr 0 i.1.2)]) (fun i=>[.arr 73 2 (plsV (L.take i.1.1).flatten) i.1.2 false]) (fun i=>L.length - i.1.1) ⟨(0,0),by simp⟩ ?_ ?_
    ·refine (le_nil 6 73 2 rfl).trans ?_
     exact lf
    rintro ⟨⟨i,ver⟩,hi⟩ K1
    simp only at hi
    rcases Nat.lt_or_ge i L.length with hc|hc
    ·have g3:decide ((i:Int)<(L.length:Int))=true:=decide_eq_true (by omega)
     have hf:=flat_take hc
     have hle:=flat_le L (i+1)
     have hlen:=congrArg List.length hf
     rw [List.length_append] at hlen
     with_reducible repeat' first|(refine nx ?_;intros)|apply And.intro|intro vr|(refine ny ?_;intros;simp only [go_sem,kp35,geff,updL_cons,updL_nil,Int.toNat_natCast,g3,plsV_app,←hf])
     all_goals try (first|(with_reducible assumption)|(intros;(try simp only [Bool.and_eq_true,Bool.or_eq_true,Bool.or_eq_false_iff,Bool.not_eq_true',Bool.not_eq_false',decide_eq_true_eq,decide_eq_false_iff_not,beq_iff_eq,beq_eq_false_iff_ne,bne_iff_ne,bne_eq_false_iff_eq,ne_eq,inI64,plsV_length] at*)<;>omega)|(intros;(with_reducible first|refine impB_ofR ?_|refine and_ofB ?_ ?_)<;>with_reducible first|assumption|(refine impB_ofR ?_;assumption))|((try simp only [Bool.and_eq_true] at vr);simp only [impB,vr,Bool.or_true,Bool.true_or,Bool.and_self,Bool.not_true,Bool.not_false,Bool.and_true];done))
     exact ⟨⟨(i+1,ver+1),by simp only;omega⟩,wf,lf⟩
    ·have g3:decide ((i:Int)<(L.length:Int))=false:=decide_eq_false (by omega)
     have e:L.take i=L:=List.take_of_length_le hc
     with_reducible repeat' first|(refine nx ?_;intros)|apply And.intro|intro vr|(refine ny ?_;intros;simp only [go_sem,kp35,geff,updL_cons,updL_nil,Int.toNat_natCast,g3,e])
     all_goals try exact nd
     all_goals (refine nl ?_;simp only [go_sem])
     exact LeA.refl _
   ·have g4:(((L.flatten.length:Nat):Int)=0)=False:=eq_false (by omega)
    with_reducible repeat' first|(refine nx ?_;intros)|apply And.intro|intro vr|(refine ny ?_;intros;simp only [go_sem,kp35,geff,updL_cons,updL_nil,Int.toNat_natCast,g3,e,g4,true_imp_iff,ne_eq,not_false_eq_true,false_imp_iff])
    all_goals try exact nd
    refine t_loopF (ι:={p:Nat×Nat // p.1≤L.length}) (fun i=>[(27,.lit (.int .i64 i.1.1)),(6,.arr 0 i.1.2)]) (fun i=>[.arr 73 2 (plsV (L.take i.1.1).flatten) i.1.2 false]) (fun i=>L.length - i.1.1) ⟨(0,0),by simp⟩ ?_ ?_
    ·exact lf
    rintro ⟨⟨i,ver⟩,hi⟩ K1
    simp only at hi
    rcases Nat.lt_or_ge i L.length with hc|hc
    ·have g3:decide ((i:Int)<(L.length:Int))=true:=decide_eq_true (by omega)
     have hf:=flat_take hc
     have hle:=flat_le L (i+1)
     have hlen:=congrArg List.length hf
     rw [List.length_append] at hlen
     with_reducible repeat' first|(refine nx ?_;intros)|apply And.intro|intro vr|(refine ny ?_;intros;simp only [go_sem,kp35,geff,updL_cons,updL_nil,Int.toNat_natCast,g3,plsV_app,←hf])
     all_goals try (first|(with_reducible assumption)|(intros;(try simp only [Bool.and_eq_true,Bool.or_eq_true,Bool.or_eq_false_iff,Bool.not_eq_true',Bool.not_eq_false',decide_eq_true_eq,decide_eq_false_iff_not,beq_iff_eq,beq_eq_false_iff_ne,bne_iff_ne,bne_eq_false_iff_eq,ne_eq,inI64,plsV_length] at*)<;>omega)|(intros;(with_reducible first|refine impB_ofR ?_|refine and_ofB ?_ ?_)<;>with_reducible first|assumption|(refine impB_ofR ?_;assumption))|((try simp only [Bool.and_eq_true] at vr);simp only [impB,vr,Bool.or_true,Bool.true_or,Bool.and_self,Bool.not_true,Bool.not_false,Bool.and_true];done))
     exact ⟨⟨(i+1,ver+1),by simp only;omega⟩,wf,lf⟩
    ·have g3:decide ((i:Int)<(L.length:Int))=false:=decide_eq_false (by omega)
     have e:L.take i=L:=List.take_of_length_le hc
     with_reducible repeat' first|(refine nx ?_;intros)|apply And.intro|intro vr|(refine ny ?_;intros;simp only [go_sem,kp35,geff,updL_cons,updL_nil,Int.toNat_natCast,g3,e])
     all_goals try exact nd
     all_goals (refine nl ?_;simp only [go_sem])
     exact LeA.refl _
end Go.Proofs.YtnlimcijgpaegaaGreat

namespace Go.Proofs.YtnlimcijgpaegaaGreat
open Go Go.Fw Bm
set_option maxRecDepth 20000
noncomputable def con31:PCon Tryz.prog where
  f:=31
  c:=fun
   |[xx]=>match opsOf xx with|some x=>some ((x.length≤1000000),matchV x)|_=>none
   |_=>none
  ok:=by
   intro args p r hc hp
   split at hc
   ·split at hc
    ·rename_i hx
     cases hc
     exact PC.weak (match_pc hp) ⟨opsOf_le hx,trivial⟩
    ·cases hc
   ·cases hc
  fk:=fk31
theorem con31_f:con31.f=31:=rfl
theorem con31_c {xx:AV}:con31.c [xx]=match opsOf xx with|some x=>some ((x.length≤1000000),matchV x)|_=>none:=rfl
attribute [go_sem] con31_f con31_c
theorem concat2_pc {a b:List (Int×Int)} {b1 b2 b3:Bool} (h:a.length≤100000∧b.length≤100000):PC Tryz.prog 35 [.sl b1 1 [.sl b2 2 (plsV a),.sl b3 2 (plsV b)]] (.sl false 2 (plsV (a++b))):=by
  have:=concat_pc (L:=[a,b]) (by simp;omega) (by simp)
  rw [show [a,b].flatten=a++b by simp] at this
  refine PC.weak this ⟨LeA.sl rfl (by intro y hy;simp [pss] at hy;rcases hy with rfl|rfl<;>rfl) ⟨LeA.full _ _ _,LeA.full _ _ _,trivial⟩,trivial⟩
noncomputable def con35:PCon Tryz.prog where
  f:=35
  c:=fun
   |[.sl _ 1 [.sl _ 2 x,.sl _ 2 y]]=>match plL x,plL y with
    |some a,some b=>some (a.length≤100000∧b.length≤100000,.sl false 2 (plsV (a++b)))
    |_,_=>none
   |_=>none
  ok:=by
   intro args p r hc hp
   split at hc
   ·split at hc
    ·rename_i hx hy
     cases hc
     rw [plL_inv hx,plL_inv hy]
     exact concat2_pc hp
    ·cases hc
   ·cases hc
  fk:=fk35
theorem con35_f:con35.f=35:=rfl
theorem con35_c {b1 b2 b3:Bool} {x y:List AV}:con35.c [.sl b1 1 [.sl b2 2 x,.sl b3 2 y]]=match plL x,plL y with
      |some a,some b=>some (a.length≤100000∧b.length≤100000,.sl false 2 (plsV (a++b)))
      |_,_=>none:=rfl
attribute [go_sem] con35_f con35_c plL_pls
noncomputable def V15:Env:=envJ (P:=Tryz.prog) jkV zer (fun _=>false) (fun t=>t==52) [con31,con35,con36] [ecn32]
theorem V15_ok:EnvOk Tryz.prog V15:=envJOk zer_ok
theorem any_all {l:List Ins} {r:Int}:l.any (notR r)= !(l.all fun x=>rightS x r):=by
  induction l with
  |nil=>rfl
  |cons x l ih=>simp only [List.any_cons,List.all_cons,ih,notR,Bool.not_and]
set_option maxHeartbeats 8000000 in
theorem bvalid_pc {B:Prg} (h:OkB B) (hi:B.ins.length≤100000∧B.outs.length≤100000):PC Tryz.prog 20 [bcV B] (.lit (.bool (validS B))):=by
  rw [valid_eq]
  have hT:=h.types;have hD:=h.dims;have hO:=h.ops
  obtain ⟨r,a,o,ii,u,t⟩:=B
  simp only at hT hD hO hi
  obtain ⟨ml,hml⟩:=matchV_eq o
  generalize hR:(!headB ⟨r,a,o,ii,u,t⟩&&typesOk a t (ii++u))=R
  simp only [headB,formedB] at hR
  simp only [bcV_mk]
  refine pcR V15_ok (kp20) Tryz.func20 [.tmp 2] (h:=fun KF=>?_)
  unfold V15
  cases hm:(matchS o).isSome with
  |false=>
   rw [hm] at hR
   repeat' (first
    |(with_reducible first|refine nx ?_|refine t_seq fun K=>?_|refine t_bx ?_|apply And.intro|intro vr)
    |((with_reducible refine t_cond fun A B=>?_);simp only [go_sem,kp20,geff_true,geff_false,hml,any_all,hm];first|(with_reducible refine A.h ?_)|(with_reducible refine B.h ?_)|(refine And.intro (fun hc=>A.h ?_) (fun hc=>B.h ?_)))
    |((with_reducible first|refine ny ?_|refine t_dwh (h:=fun K KL=>?_));intros;simp only [go_sem,kp20,geff_true,geff_false,hml,any_all,hm])
    |((with_reducible refine t_geffS (fun hg=>?_) (fun hg=>?_))<;>((try simp only [Bool.not_eq_true',Bool.not_eq_false',Bool.and_eq_true,Bool.or_eq_false_iff] at hg);simp only [hg,go_sem,kp20,geff_true,geff_false,hml,any_all,hm])))
   all_goals try exact nd
   all_goals
     all_goals (refine nl ?_;simp only [go_sem])
     refine LeA.of_eq ?_
     rw [←hR]
     simp
  |true=>
  rw [hm] at hR
  cases hA:(o.all fun x=>rightS x r) with
  |false=>
   rw [hA] at hR
   repeat' (first
    |(with_reducible first|refine nx ?_|refine t_seq fun K=>?_|refine t_bx ?_|apply And.intro|intro vr)
    |((with_reducible refine t_cond fun A B=>?_);simp only [go_sem,kp20,geff_true,geff_false,hml,any_all,hm,hA];first|(with_reducible refine A.h ?_)|(with_reducible refine B.h ?_)|(refine And.intro (fun hc=>A.h ?_) (fun hc=>B.h ?_)))
    |((with_reducible first|refine ny ?_|refine t_dwh (h:=fun K KL=>?_));intros;simp only [go_sem,kp20,geff_true,geff_false,hml,any_all,hm,hA])
    |((with_reducible refine t_geffS (fun hg=>?_) (fun hg=>?_))<;>((try simp only [Bool.not_eq_true',Bool.not_eq_false',Bool.and_eq_true,Bool.or_eq_false_iff] at hg);simp only [hg,go_sem,kp20,geff_true,geff_false,hml,any_all,hm,hA])))
   all_goals try exact nd
   all_goals
     all_goals (refine nl ?_;simp only [go_sem])
     refine LeA.of_eq ?_
     rw [←hR]
     simp
  |true=>
  rw [hA] at hR
  repeat' (first
   |(with_reducible first|refine nx ?_|refine t_seq fun K=>?_|refine t_bx ?_|apply And.intro|intro vr)
   |((with_reducible refine t_cond fun A B=>?_);simp only [go_sem,kp20,geff_true,geff_false,hml,any_all,hm,hA];first|(with_reducible refine A.h ?_)|(with_reducible refine B.h ?_)|(refine And.intro (fun hc=>A.h ?_) (fun hc=>B.h ?_)))
   |((with_reducible first|refine ny ?_|refine t_dwh (h:=fun K KL=>?_));intros;simp only [go_sem,kp20,geff_true,geff_false,hml,any_all,hm,hA])
   |((with_reducible refine t_geffS (fun hg=>?_) (fun hg=>?_))<;>((try simp only [Bool.not_eq_true',Bool.not_eq_false',Bool.and_eq_true,Bool.or_eq_false_iff] at hg);simp only [hg,go_sem,kp20,geff_true,geff_false,hml,any_all,hm,hA])))
  all_goals try exact nd
  ·skip
   all_goals (refine nl ?_;simp only [go_sem])
   refine LeA.of_eq ?_
   rw [←hR]
   simp_all
   intro k1 k2 k3 k4 k5
   exfalso
   omega
  have hH:headB ⟨r,a,o,ii,u,t⟩=false:=by simp only [headB,formedB,hA,hm];simp_all
  have hRT:typesOk a t (ii++u)=R:=by rw [←hR];simp only [headB,formedB,hA,hm] at hH;rw [hH];rfl
  have hla:0≤a∧a≤1048576:=by simp only [headB,Bool.or_eq_false_iff,decide_eq_false_iff_not] at hH;omega
  have hlt:t.length=ii.length+u.length:=by simp only [headB,Bool.or_eq_false_iff,bne_eq_false_iff_eq] at hH;omega
  clear hR hH hc
  refine t_loopF (ι:={j:Nat // j≤t.length∧typesOk a (t.drop j) ((ii++u).drop j)=R}) (fun i=>[(61,.lit (.int .i64 i.1))]) (fun i=>[.box 26 [.lit (.int .i64 r),.lit (.int .i64 a),.sl false 6 (opsV o),.sl false 2 (plsV ii),.sl false 2 (plsV u),.sl false 3 (arrs t)]]) (fun i=>t.length - i.1) ⟨0,by omega,hRT⟩ ?_ ?_
  ·exact lf
  rintro ⟨j,hj,hF⟩ K0
  have hcl:(ii++u).length=t.length:=by rw [List.length_append];omega
  rcases Nat.lt_or_ge j t.length with hc|hc
  ·have g3:decide ((j:Int)<(t.length:Int))=true:=decide_eq_true (by omega)
   have hpl:j<(ii++u).length:=by rw [List.length_append];omega
   rw [drop_getD nilA hc,drop_getP hpl,typesOk,typeOk_eq] at hF
   have hm:okA (t.getD j nilA):=hD _ (getD_mem nilA hc)
   generalize hp:(ii++u).getD j (0,0)=p at hF
   generalize hy:t.getD j nilA=y at hF hm
   obtain ⟨po,ps⟩:=p
   have hbd:=sizeS_bd y.d
   obtain ⟨e,d,x⟩:=y
   simp only at hF hbd
   have hpy:arrV ⟨e,d,x⟩= .agg [.lit (.string e),.sl false 1 (ints .i64 d),.sl false 1 (ints .i64 x)]:=rfl
   have hpp:plV (po,ps)= .agg [.lit (.int .i64 po),.lit (.int .i64 ps)]:=rfl
   with_reducible repeat' first|(refine nx ?_;intros)|refine t_br (fun hc=>?_) fun hc=>?_|apply And.intro|intro vr|(refine ny ?_;intros;simp only [go_sem,kp20,geff,g3,hcl,hy,hpy,hp,hpp,Int.toNat_natCast,yes])
   all_goals try exact nd
   ·skip
    all_goals (refine nl ?_;simp only [go_sem])
    refine LeA.of_eq ?_
    rw [←hF]
    revert hc
    simp only [bne]
    cases typdB ⟨e,d,x⟩<;>cases (ps==(sizeS d).1)<;>cases decide (po<0)<;>cases decide (po>a - (sizeS d).1)<;>simp
   ·skip
    have hF':typesOk a (t.drop (j+1)) ((ii++u).drop (j+1))=R:=by rw [←hF];simp_all
    refine ⟨⟨j+1,by omega,hF'⟩,by first|(simp only;omega)|omega,?_⟩
    try simp only [updL_nil,updL_cons,delF_top,delF_upd,Nat.reduceEqDiff,reduceIte]
    refine le_backM (by first|rfl|(simp only [go_sem];try rfl)) (by first|exact Nat.zero_le _|simp) (by first|rfl|simp [lowO,low_lit,low_sl,low_ref,low_arr,low_sub,low_mp]) ?_ ?_
    ·repeat' (first|exact low_top|(refine low_upd rfl ?_))
    exact lq
  ·have g3:decide ((j:Int)<(t.length:Int))=false:=decide_eq_false (by omega)
   rw [List.drop_eq_nil_of_le hc] at hF
   with_reducible repeat' first|(refine nx ?_;intros)|refine t_br (fun hc=>?_) fun hc=>?_|apply And.intro|intro vr|(refine ny ?_;intros;simp only [go_sem,kp20,geff,g3,hcl])
   all_goals try exact nd
   all_goals (refine nl ?_;simp only [go_sem])
   exact LeA.of_eq (by rw [←hF];rfl)
end Go.Proofs.YtnlimcijgpaegaaGreat

namespace Go.Proofs.YtnlimcijgpaegaaGreat
open Go Go.Fw Bm
set_option maxRecDepth 20000
def rgV (r:Rng):AV:= .agg [.lit (.int .i64 r.lo),.lit (.int .i64 r.hi)]
theorem rgV_mk {a b:Int}:rgV ⟨a,b⟩= .agg [.lit (.int .i64 a),.lit (.int .i64 b)]:=rfl
theorem rgV_def {r:Rng}:rgV r= .agg [.lit (.int .i64 r.lo),.lit (.int .i64 r.hi)]:=rfl
def rgsV (l:List Rng):List AV:=l.map rgV
theorem rgsV_length (l:List Rng):(rgsV l).length=l.length:=by simp [rgsV]
def jR:AV:=rgV nilR
theorem rgsV_getJ (l:List Rng) (i:Nat):(rgsV l).getD i jR=rgV (l.getD i nilR):=by
  simp only [rgsV,jR,List.getD_eq_getElem?_getD,List.getElem?_map];cases l[i]? <;>rfl
def rngOf:AV→Option Rng
  |.agg [.lit (.int .i64 a),.lit (.int .i64 b)]=>some ⟨a,b⟩
  |_=>none
theorem rngOf_agg {a b:Int}:rngOf (.agg [.lit (.int .i64 a),.lit (.int .i64 b)])=some ⟨a,b⟩:=rfl
theorem rngOf_V {r:Rng}:rngOf (rgV r)=some r:=rfl
theorem rngOf_inv {x:AV} {s:Rng} (h:rngOf x=some s):x=rgV s:=by
  unfold rngOf at h
  split at h
  ·cases h;rfl
  ·cases h
theorem rngOf_le {x:AV} {s:Rng} (h:rngOf x=some s):LeA x (rgV s):=by rw [rngOf_inv h];exact LeA.refl _
def rngL:List AV→Option (List Rng)
  |[]=>some []
  |x::xs=>match rngOf x,rngL xs with
   |some s,some l=>some (s::l)
   |_,_=>none
theorem rngL_rgs:∀ l:List Rng,rngL (rgsV l)=some l
  |[]=>rfl
  |s::l=>by
   show rngL (rgV s::rgsV l)=_
   rw [rngL,rngOf_V,rngL_rgs l]
theorem rngL_inv:∀ {xs:List AV} {l:List Rng},rngL xs=some l→xs=rgsV l
  |[],l,h=>by cases h;rfl
  |x::xs,l,h=>by
   unfold rngL at h
   split at h
   ·rename_i s l' h1 h2
    cases h
    rw [rngOf_inv h1,rngL_inv h2];rfl
   ·cases h
def rngsOf (x:AV):Option (List Rng):=(slA 2 x).bind rngL
theorem rngsOf_le {x:AV} {l:List Rng} (h:rngsOf x=some l):LeA x (.sl false 2 (rgsV l)):=slA_le (by
  unfold rngsOf at h
  cases hx:slA 2 x with
  |none=>rw [hx] at h;cases h
  |some xs=>rw [hx] at h;rw [←rngL_inv h])
theorem rngsOf_leR {x:AV} {l:List Rng} (h:rngsOf x=some l):LeR x (.sl false 2 (rgsV l)):=slA_leR (by
  unfold rngsOf at h
  cases hx:slA 2 x with
  |none=>rw [hx] at h;cases h
  |some xs=>rw [hx] at h;rw [←rngL_inv h])
theorem rngsOf_sl {b:Bool} {l:List Rng}:rngsOf (.sl b 2 (rgsV l))=some l:=by simp [rngsOf,slA,rngL_rgs]
theorem rngsOf_nil:rngsOf (.lit (.slice none 0 0))=some []:=rfl
def jkR:TypeId→AV:=fun t=>if t=89 then jR else if t=180 then jR else jkC t
theorem jkR_89:jkR 89=jR:=rfl
theorem jkR_180:jkR 180=jR:=rfl
theorem jkR_56:jkR 56=jOp:=rfl
theorem jkR_73:jkR 73=jPl:=rfl
theorem jkR_23:jkR 23=jPs:=rfl
theorem jkR_3:jkR 3= .lit (.int .i64 0):=rfl
theorem jkR_9:jkR 9= .lit (.string ByteArray.empty):=rfl
theorem jkR_34:jkR 34=jI:=rfl
theorem jkR_45:jkR 45=jA:=rfl
attribute [go_sem] jkR_89 jkR_180 jkR_56 jkR_73 jkR_23 jkR_3 jkR_9 jkR_34 jkR_45 rgsV_getJ rgsV_length rngOf_V rngOf_agg rngsOf_sl rngsOf_nil
noncomputable def B0:Env:=envJ (P:=Tryz.prog) jkR zer (fun _=>false) (fun _=>false) [] []
theorem B0_ok:EnvOk Tryz.prog B0:=envJOk zer_ok
theorem ints_pc:PC Tryz.prog 43 [] (rgV intsR):=by
  refine pcR B0_ok (kp43) Tryz.func43 [.cell 0 89] (h:=fun KF=>?_)
  unfold B0
  with_reducible repeat' first|(refine nx ?_;intros)|refine t_br (fun hc=>?_) fun hc=>?_|refine t_bx ?_|apply And.intro|intro vr|((first|refine ny ?_|refine t_dwh (h:=fun K KL=>?_));intros;simp only [go_sem,kp43,geff])
  all_goals try exact nd
  all_goals (refine nl ?_;simp only [go_sem])
  exact LeA.refl _
theorem mach_pc:PC Tryz.prog 40 [] (rgV machR):=by
  refine pcR B0_ok (kp40) Tryz.func40 [.cell 0 89] (h:=fun KF=>?_)
  unfold B0
  with_reducible repeat' first|(refine nx ?_;intros)|refine t_br (fun hc=>?_) fun hc=>?_|refine t_bx ?_|apply And.intro|intro vr|((first|refine ny ?_|refine t_dwh (h:=fun K KL=>?_));intros;simp only [go_sem,kp40,geff])
  all_goals try exact nd
  all_goals (refine nl ?_;simp only [go_sem])
  exact LeA.refl _
theorem within_dec (a b:Rng):(decide (a.lo≥b.lo)&&decide (a.hi≤b.hi))=decide (a.within b):=by
  rw [Bool.eq_iff_iff,Bool.and_eq_true,decide_eq_true_eq,decide_eq_true_eq,decide_eq_true_eq];exact Iff.rfl
theorem in_pc {a b:Rng}:PC Tryz.prog 39 [rgV a,rgV b] (.lit (.bool (decide (a.within b)))):=by
  rw [←within_dec]
  obtain ⟨a,a'⟩:=a
  obtain ⟨b,b'⟩:=b
  simp only [rgV_mk]
  refine pcR B0_ok (kp39) Tryz.func39 [.tmp 4] (h:=fun KF=>?_)
  unfold B0
  with_reducible repeat' first|(refine nx ?_;intros)|apply And.intro|intro vr|(refine ny ?_;intros;simp only [go_sem,kp39,geff])
  all_goals try exact nd
  all_goals (refine nl ?_;simp only [go_sem])
  exact LeA.refl _
noncomputable def con43:PCon Tryz.prog where
  f:=43
  c:=fun
   |[]=>some (True,rgV intsR)
   |_=>none
  ok:=by
   intro args p r hc hp
   split at hc
   ·cases hc;exact ints_pc
   ·cases hc
  fk:=fk43
theorem con43_f:con43.f=43:=rfl
theorem con43_c:con43.c []=some (True,rgV intsR):=rfl
noncomputable def con40:PCon Tryz.prog where
  f:=40
  c:=fun
   |[]=>some (True,rgV machR)
   |_=>none
  ok:=by
   intro args p r hc hp
   split at hc
   ·cases hc;exact mach_pc
   ·cases hc
  fk:=fk40
theorem con40_f:con40.f=40:=rfl
theorem con40_c:con40.c []=some (True,rgV machR):=rfl
noncomputable def con39:PCon Tryz.prog where
  f:=39
  c:=fun
   |[xa,xb]=>match rngOf xa,rngOf xb with|some a,some b=>some (True,.lit (.bool (decide (a.within b))))|_,_=>none
   |_=>none
  ok:=by
   intro args p r hc hp
   split at hc
   ·split at hc
    ·rename_i ha hb
     cases hc
     exact PC.weak in_pc ⟨rngOf_le ha,rngOf_le hb,trivial⟩
    ·cases hc
   ·cases hc
  fk:=fk39
theorem con39_f:con39.f=39:=rfl
theorem con39_c {xa:AV} {xb:AV}:con39.c [xa,xb]=match rngOf xa,rngOf xb with|some a,some b=>some (True,.lit (.bool (decide (a.within b))))|_,_=>none:=rfl
theorem intsR_V:rgV intsR= .agg [.lit (.int .i64 (-2147483648)),.lit (.int .i64 2147483647)]:=rfl
theorem machR_V:rgV machR= .agg [.lit (.int .i64 (-1099511627776)),.lit (.int .i64 1099511627776)]:=rfl
attribute [go_sem] con43_f con43_c con40_f con40_c con39_f con39_c intsR_V machR_V rgV_mk
noncomputable def B1:Env:=envJ (P:=Tryz.prog) jkR zer (fun _=>false) (fun _=>false) [con39] []
theorem B1_ok:EnvOk Tryz.prog B1:=envJOk zer_ok
theorem or_pc {a b:Rng}:PC Tryz.prog 107 [rgV a,rgV b] (rgV (heldR a b)):=by
  unfold heldR
  obtain ⟨a,a'⟩:=a
  obtain ⟨b,b'⟩:=b
  by_cases h:Rng.within ⟨a,a'⟩ ⟨b,b'⟩
  ·rw [if_pos h]
   have h1:=decide_eq_true h
   simp only [rgV_mk]
   refine pcR B1_ok (kp107) Tryz.func107 [.cell 4 89] (h:=fun KF=>?_)
   unfold B1
   with_reducible repeat' first|(refine nx ?_;intros)|refine t_br (fun hc=>?_) fun hc=>?_|refine t_bx ?_|apply And.intro|intro vr|((first|refine ny ?_|refine t_dwh (h:=fun K KL=>?_));intros;simp only [go_sem,kp107,geff,h1])
   all_goals try exact nd
   all_goals (refine nl ?_;simp only [go_sem])
   exact LeA.refl _
  ·rw [if_neg h]
   have h1:=decide_eq_false h
   simp only [rgV_mk]
   refine pcR B1_ok (kp107) Tryz.func107 [.cell 4 89] (h:=fun KF=>?_)
   unfold B1
   with_reducible repeat' first|(refine nx ?_;intros)|refine t_br (fun hc=>?_) fun hc=>?_|refine t_bx ?_|apply And.intro|intro vr|((first|refine ny ?_|refine t_dwh (h:=fun K KL=>?_));intros;simp only [go_sem,kp107,geff,h1])
   all_goals try exact nd
   all_goals (refine nl ?_;simp only [go_sem])
   exact LeA.refl _
theorem hull_pc {a b:Rng}:PC Tryz.prog 142 [rgV a,rgV b] (rgV (hullR a b)):=by
  obtain ⟨a,a'⟩:=a
  obtain ⟨b,b'⟩:=b
  simp only [rgV_mk]
  refine pcR B1_ok (kp142) Tryz.func142 [.cell 4 89] (h:=fun KF=>?_)
  unfold B1
  with_reducible repeat' first|(refine nx ?_;intros)|refine t_br (fun hc=>?_) fun hc=>?_|refine t_bx ?_|apply And.intro|intro vr|((first|refine ny ?_|refine t_dwh (h:=fun K KL=>?_));intros;simp only [go_sem,kp142,geff])
  all_goals try exact nd
  all_goals (refine nl ?_;simp only [go_sem])
  exact LeA.refl _
theorem bits_pc {x:AV}:PC Tryz.prog 164 [x] (rgV boolR):=by
  refine pcR B1_ok (kp164) Tryz.func164 [.cell 2 89] (h:=fun KF=>?_)
  unfold B1
  with_reducible repeat' first|(refine nx ?_;intros)|refine t_br (fun hc=>?_) fun hc=>?_|refine t_bx ?_|apply And.intro|intro vr|((first|refine ny ?_|refine t_dwh (h:=fun K KL=>?_));intros;simp only [go_sem,kp164,geff])
  all_goals try exact nd
  all_goals (refine nl ?_;simp only [go_sem])
  exact LeA.refl _
noncomputable def con107:PCon Tryz.prog where
  f:=107
  c:=fun
   |[xa,xb]=>match rngOf xa,rngOf xb with|some a,some b=>some (True,rgV (heldR a b))|_,_=>none
   |_=>none
  ok:=by
   intro args p r hc hp
   split at hc
   ·split at hc
    ·rename_i ha hb
     cases hc
     exact PC.weak or_pc ⟨rngOf_le ha,rngOf_le hb,trivial⟩
    ·cases hc
   ·cases hc
  fk:=fk107
theorem con107_f:con107.f=107:=rfl
theorem con107_c {xa:AV} {xb:AV}:con107.c [xa,xb]=match rngOf xa,rngOf xb with|some a,some b=>some (True,rgV (heldR a b))|_,_=>none:=rfl
noncomputable def con142:PCon Tryz.prog where
  f:=142
  c:=fun
   |[xa,xb]=>match rngOf xa,rngOf xb with|some a,some b=>some (True,rgV (hullR a b))|_,_=>none
   |_=>none
  ok:=by
   intro args p r hc hp
   split at hc
   ·split at hc
    ·rename_i ha hb
     cases hc
     exact PC.weak hull_pc ⟨rngOf_le ha,rngOf_le hb,trivial⟩
    ·cases hc
   ·cases hc
  fk:=fk142
theorem con142_f:con142.f=142:=rfl
theorem con142_c {xa:AV} {xb:AV}:con142.c [xa,xb]=match rngOf xa,rngOf xb with|some a,some b=>some (True,rgV (hullR a b))|_,_=>none:=rfl
attribute [go_sem] con107_f con107_c con142_f con142_c
end Go.Proofs.YtnlimcijgpaegaaGreat

namespace Go.Proofs.YtnlimcijgpaegaaGreat
open Go Go.Fw Bm
set_option maxRecDepth 20000
abbrev oVb1_0:List (Nat×Nat):=[(0,1),(1,1),(2,1),(3,1),(4,1),(5,1),(6,1),(7,1),(8,1),(9,1),(10,1),(11,1),(12,1),(13,1),(14,1),(15,1),(16,1),(17,1),(18,1),(19,1),(20,1),(21,0)]
abbrev oVb1_1:List (Nat×Nat):=[(0,1),(1,1),(2,1),(3,1),(4,1),(5,1),(6,1),(7,1),(8,1),(9,1),(10,1),(11,1),(12,1),(13,1),(14,1),(15,1),(16,1),(17,1),(18,1),(19,0)]
abbrev oVb1_2:List (Nat×Nat):=[(0,1),(1,1),(2,1),(3,1),(4,1),(5,1),(6,1),(7,0)]
attribute [go_sem] oVb1_0 oVb1_1 oVb1_2
noncomputable def B2:Env:=envJ (P:=Tryz.prog) jkR zer (fun _=>false) (fun _=>false) [con43,con107,con142] []
theorem B2_ok:EnvOk Tryz.prog B2:=envJOk zer_ok
def IntR (r:Rng):Prop:= -2147483648≤r.lo∧r.lo≤r.hi∧r.hi≤2147483647
attribute [go_sem] rgV_def
theorem rgsV2 {a b:Rng}:rgsV [a,b]=[rgV a,rgV b]:=rfl
theorem rgsV3 {a b c:Rng}:rgsV [a,b,c]=[rgV a,rgV b,rgV c]:=rfl
section
theorem add_pc {a b:Rng} (ha:IntR a) (hb:IntR b):PC Tryz.prog 157 [.sl false 2 (rgsV [a,b])] (rgV (rngV 0 [a,b])):=by
  obtain ⟨a,a'⟩:=a
  obtain ⟨b,b'⟩:=b
  obtain ⟨a1,a2,a3⟩:=ha
  obtain ⟨b1,b2,b3⟩:=hb
  simp only [rgsV2,rgV_mk]
  simp only at a1 a2 a3 b1 b2 b3
  refine pcR B2_ok (kp157) Tryz.func157 [.cell 2 89] (h:=fun KF=>?_)
  unfold B2
  repeat' first|(with_reducible first|(refine nx ?_;intros)|apply And.intro|intro vr)|exact kpd|((with_reducible first|refine ny ?_|refine t_kLF ?_ ?_|refine t_dO 1 (fun _=>false) oVb1_0 fun K=>?_);intros;simp only [go_sem,kp157,geff])
  all_goals try exact nd
  all_goals (refine nl ?_;simp only [go_sem])
  exact LeA.refl _
theorem sub_pc {a b:Rng} (ha:IntR a) (hb:IntR b):PC Tryz.prog 158 [.sl false 2 (rgsV [a,b])] (rgV (rngV 1 [a,b])):=by
  obtain ⟨a,a'⟩:=a
  obtain ⟨b,b'⟩:=b
  obtain ⟨a1,a2,a3⟩:=ha
  obtain ⟨b1,b2,b3⟩:=hb
  simp only [rgsV2,rgV_mk]
  simp only at a1 a2 a3 b1 b2 b3
  refine pcR B2_ok (kp158) Tryz.func158 [.cell 2 89] (h:=fun KF=>?_)
  unfold B2
  repeat' first|(with_reducible first|(refine nx ?_;intros)|apply And.intro|intro vr)|exact kpd|((with_reducible first|refine ny ?_|refine t_kLF ?_ ?_|refine t_dO 1 (fun _=>false) oVb1_0 fun K=>?_);intros;simp only [go_sem,kp158,geff])
  all_goals try exact nd
  all_goals (refine nl ?_;simp only [go_sem])
  exact LeA.refl _
theorem min_pc {a b:Rng}:PC Tryz.prog 160 [.sl false 2 (rgsV [a,b])] (rgV (rngV 5 [a,b])):=by
  obtain ⟨a,a'⟩:=a
  obtain ⟨b,b'⟩:=b
  simp only [rgsV2,rgV_mk]
  refine pcR B2_ok (kp160) Tryz.func160 [.cell 2 89] (h:=fun KF=>?_)
  unfold B2
  repeat' first|(with_reducible first|(refine nx ?_;intros)|apply And.intro|intro vr)|exact kpd|((with_reducible first|refine ny ?_|refine t_kLF ?_ ?_|refine t_dO 1 (fun _=>false) oVb1_1 fun K=>?_);intros;simp only [go_sem,kp160,geff])
  all_goals try exact nd
  all_goals (refine nl ?_;simp only [go_sem])
  exact LeA.refl _
theorem max_pc {a b:Rng}:PC Tryz.prog 161 [.sl false 2 (rgsV [a,b])] (rgV (rngV 6 [a,b])):=by
  obtain ⟨a,a'⟩:=a
  obtain ⟨b,b'⟩:=b
  simp only [rgsV2,rgV_mk]
  refine pcR B2_ok (kp161) Tryz.func161 [.cell 2 89] (h:=fun KF=>?_)
  unfold B2
  repeat' first|(with_reducible first|(refine nx ?_;intros)|apply And.intro|intro vr)|exact kpd|((with_reducible first|refine ny ?_|refine t_kLF ?_ ?_|refine t_dO 1 (fun _=>false) oVb1_1 fun K=>?_);intros;simp only [go_sem,kp161,geff])
  all_goals try exact nd
  all_goals (refine nl ?_;simp only [go_sem])
  exact LeA.refl _
theorem mod_pc {a b:Rng} (hb:IntR b):PC Tryz.prog 162 [.sl false 2 (rgsV [a,b])] (rgV (rngV 4 [a,b])):=by
  obtain ⟨a,a'⟩:=a
  obtain ⟨b,b'⟩:=b
  obtain ⟨b1,b2,b3⟩:=hb
  simp only [rgsV2,rgV_mk]
  simp only at b1 b2 b3
  by_cases h:b≥1
  ·have e:rngV 4 [⟨a,a'⟩,⟨b,b'⟩]=⟨0,b' - 1⟩:=by show (if b≥1 then _ else _)=_;rw [if_pos h]
   have h1:=decide_eq_true h
   rw [e]
   refine pcR B2_ok (kp162) Tryz.func162 [.cell 2 89] (h:=fun KF=>?_)
   unfold B2
   with_reducible repeat' first|(refine nx ?_;intros)|apply And.intro|intro vr|(refine ny ?_;intros;simp only [go_sem,kp162,geff,h1])
   all_goals try exact nd
   all_goals (refine nl ?_;simp only [go_sem])
   exact LeA.refl _
  ·have e:rngV 4 [⟨a,a'⟩,⟨b,b'⟩]=intsR:=by show (if b≥1 then _ else _)=_;rw [if_neg h]
   have h1:=decide_eq_false h
   rw [e]
   refine pcR B2_ok (kp162) Tryz.func162 [.cell 2 89] (h:=fun KF=>?_)
   unfold B2
   with_reducible repeat' first|(refine nx ?_;intros)|apply And.intro|intro vr|(refine ny ?_;intros;simp only [go_sem,kp162,geff,h1])
   all_goals try exact nd
   all_goals (refine nl ?_;simp only [go_sem])
   exact LeA.refl _
theorem sign_pc {x:AV}:PC Tryz.prog 163 [x] (rgV ⟨-1,1⟩):=by
  refine pcR B2_ok (kp163) Tryz.func163 [.cell 2 89] (h:=fun KF=>?_)
  unfold B2
  with_reducible repeat' first|(refine nx ?_;intros)|refine t_br (fun hc=>?_) fun hc=>?_|refine t_bx ?_|apply And.intro|intro vr|((first|refine ny ?_|refine t_dwh (h:=fun K KL=>?_));intros;simp only [go_sem,kp163,geff])
  all_goals try exact nd
  all_goals (refine nl ?_;simp only [go_sem])
  exact LeA.refl _
theorem sel_pc {a b c:Rng}:PC Tryz.prog 165 [.sl false 2 (rgsV [a,b,c])] (rgV (rngV 20 [a,b,c])):=by
  obtain ⟨a,a'⟩:=a
  obtain ⟨b,b'⟩:=b
  obtain ⟨c,c'⟩:=c
  simp only [rgsV3,rgV_mk]
  refine pcR B2_ok (kp165) Tryz.func165 [.cell 2 89] (h:=fun KF=>?_)
  unfold B2
  repeat' first|(with_reducible first|(refine nx ?_;intros)|apply And.intro|intro vr)|exact kpd|((with_reducible first|refine ny ?_|refine t_kLF ?_ ?_|refine t_dO 1 (fun _=>false) oVb1_2 fun K=>?_);intros;simp only [go_sem,kp165,geff])
  all_goals try exact nd
  all_goals (refine nl ?_;simp only [go_sem])
  exact LeA.refl _
end
def minL (m:Int) (l:List Int):Int:=l.foldl minI m
def maxL (m:Int) (l:List Int):Int:=l.foldl maxI m
theorem drop_getZ {l:List Int} {i:Nat} (h:i<l.length):l.drop i=l.getD i 0::l.drop (i+1):=drop_getD _ h
theorem minL_pc {m:Int} {l:List Int} (hl:l.length≤100):PC Tryz.prog 110 [.sl false 1 (ints .i64 (m::l))] (.lit (.int .i64 (minL m l))):=by
  generalize hR:minL m l=R
  have hll:(m::l).length=l.length+1:=rfl
  have g0:decide ((((m::l).length:Nat):Int)<1)=false:=decide_eq_false (by rw [hll];omega)
  have e0:(m::l).getD 0 0=m:=rfl
  refine pcR B2_ok (kp110) Tryz.func110 [.tmp 2] (h:=fun KF=>?_)
  unfold B2
  with_reducible repeat' first|(refine nx ?_;intros)|refine t_br (fun hc=>?_) fun hc=>?_|apply And.intro|intro vr|(refine ny ?_;intros;simp only [go_sem,kp110,geff,g0,ints_length,e0])
  all_goals try exact nd
  refine t_loopF (ι:={q:Nat×Int // 1≤q.1∧q.1≤(m::l).length∧minL q.2 ((m::l).drop q.1)=R}) (fun i=>[(4,.lit (.int .i64 i.1.1)),(3,.lit (.int .i64 i.1.2))]) (fun i=>[]) (fun i=>(m::l).length - i.1.1) ⟨(1,m),by simp,by simp,hR⟩ ?_ ?_
  ·exact lf
  rintro ⟨⟨i,a⟩,h1,hi,hF⟩ K0
  simp only at h1 hi hF
  rcases Nat.lt_or_ge i (m::l).length with hc|hc
  ·have g3:decide ((i:Int)<(((m::l).length:Nat):Int))=true:=decide_eq_true (by omega)
   rw [drop_getZ hc] at hF
   generalize hx:(m::l).getD i 0=x at hF
   with_reducible repeat' first|(refine nx ?_;intros)|refine t_br (fun hc=>?_) fun hc=>?_|apply And.intro|intro vr|(refine ny ?_;intros;simp only [go_sem,kp110,geff,g3,hx,ints_length,Int.toNat_natCast])
   all_goals try exact nd
   exact ⟨⟨(i+1,minI a x),by simp only;omega,by simp only;omega,hF⟩,wf,lf⟩
  ·have g3:decide ((i:Int)<(((m::l).length:Nat):Int))=false:=decide_eq_false (by omega)
   rw [List.drop_eq_nil_of_le hc] at hF
   with_reducible repeat' first|(refine nx ?_;intros)|refine t_br (fun hc=>?_) fun hc=>?_|apply And.intro|intro vr|(refine ny ?_;intros;simp only [go_sem,kp110,geff,g3,ints_length])
   all_goals try exact nd
   all_goals (refine nl ?_;simp only [go_sem])
   exact LeA.of_eq (by rw [←hF];rfl)
theorem maxL_pc {m:Int} {l:List Int} (hl:l.length≤100):PC Tryz.prog 111 [.sl false 1 (ints .i64 (m::l))] (.lit (.int .i64 (maxL m l))):=by
  generalize hR:maxL m l=R
  have hll:(m::l).length=l.length+1:=rfl
  have g0:decide ((((m::l).length:Nat):Int)<1)=false:=decide_eq_false (by rw [hll];omega)
  have e0:(m::l).getD 0 0=m:=rfl
  refine pcR B2_ok (kp111) Tryz.func111 [.tmp 2] (h:=fun KF=>?_)
  unfold B2
  with_reducible repeat' first|(refine nx ?_;intros)|refine t_br (fun hc=>?_) fun hc=>?_|apply And.intro|intro vr|(refine ny ?_;intros;simp only [go_sem,kp111,geff,g0,ints_length,e0])
  all_goals try exact nd
  refine t_loopF (ι:={q:Nat×Int // 1≤q.1∧q.1≤(m::l).length∧maxL q.2 ((m::l).drop q.1)=R}) (fun i=>[(4,.lit (.int .i64 i.1.1)),(3,.lit (.int .i64 i.1.2))]) (fun i=>[]) (fun i=>(m::l).length - i.1.1) ⟨(1,m),by simp,by simp,hR⟩ ?_ ?_
  ·exact lf
  rintro ⟨⟨i,a⟩,h1,hi,hF⟩ K0
  simp only at h1 hi hF
  rcases Nat.lt_or_ge i (m::l).length with hc|hc
  ·have g3:decide ((i:Int)<(((m::l).length:Nat):Int))=true:=decide_eq_true (by omega)
   rw [drop_getZ hc] at hF
   generalize hx:(m::l).getD i 0=x at hF
   with_reducible repeat' first|(refine nx ?_;intros)|refine t_br (fun hc=>?_) fun hc=>?_|apply And.intro|intro vr|(refine ny ?_;intros;simp only [go_sem,kp111,geff,g3,hx,ints_length,Int.toNat_natCast])
   all_goals try exact nd
   exact ⟨⟨(i+1,maxI a x),by simp only;omega,by simp only;omega,hF⟩,wf,lf⟩
  ·have g3:decide ((i:Int)<(((m::l).length:Nat):Int))=false:=decide_eq_false (by omega)
   rw [List.drop_eq_nil_of_le hc] at hF
   with_reducible repeat' first|(refine nx ?_;intros)|refine t_br (fun hc=>?_) fun hc=>?_|apply And.intro|intro vr|(refine ny ?_;intros;simp only [go_sem,kp111,geff,g3,ints_length])
   all_goals try exact nd
   all_goals (refine nl ?_;simp only [go_sem])
   exact LeA.of_eq (by rw [←hF];rfl)
end Go.Proofs.YtnlimcijgpaegaaGreat

namespace Go.Fw
open Go
variable {P:Program} {E:Env} {keep:Nat→List Nat} {n0:Nat}
theorem low1_bd {n:Nat} {x:AV} (h:low1 n x=true):Bd n x:=fun _ _ _ hr=>low1_R hr h
theorem bds_low {n:Nat} {σ:List AObj} (h:σ.all (lowO n)=true):BdS n σ:=by
  intro o t cs ho i hi
  rw [List.all_eq_true] at h
  have:=h _ (List.mem_of_getElem? ho)
  simp only [lowO,List.all_eq_true] at this
  exact low1_bd (this _ (getD_mem' hi))
theorem le_dropB {f:Nat→AV} {l m:List AObj} (hn:n0≤l.length) (hb:BdS l.length l) (hf:∀ j,low1 l.length (f j)=true):Le n0 ⟨f,l++m⟩ ⟨f,l⟩:=by
  intro cx G w N a h0 hr hfr
  have hlen:l.length≤(l++m).length:=by simp
  have e:(l++m).take l.length=l:=by simp
  have h1:=hr.trunc hlen (by omega) (by rw [e];exact hb)
  rw [e] at h1
  exact ⟨{G with n:=l.length},h1,hfr.size,hfr.defers,fun j=>low1_R (hfr.rel j) (hf j)⟩
theorem le_backB {f g:Nat→AV} {σ l m:List AObj} (e:σ=l++m) (hn:n0≤l.length) (hb:BdS l.length l) (hg:∀ j,low1 l.length (g j)=true) (h:∀ j,LeR (f j) (g j)):Le n0 ⟨f,σ⟩ ⟨g,l⟩:=by
  subst e
  exact (Le.frame h).trans (le_dropB hn hb hg)
theorem BdS.same {n:Nat} {σ τ:List AObj} (h:BdS n σ) (hs:∀ (o:Nat) (t:TypeId) (cs:List AV),τ[o]? =some (AObj.box t cs)→σ[o]? =some (AObj.box t cs)):BdS n τ:=
  fun o t cs ho=>h o t cs (hs o t cs ho)
section
variable {D:Nat→Bool} {ds:List (Option Tmp)} {K:AS→Prop} {f:Nat→AV} {σ σ':List AObj} {n:Nat} {x:AV} {d:Option Tmp}
theorem a4_nil:all4 P E D ds n f σ K []=True:=rfl
theorem a4_cons {i:Nat} {op:Op} {ty:TypeId} {pos:String} {af:Array Edge} {r:List (Nat×Oper)} {l:List ((Nat×Oper)×List (Nat×Oper))}:
    all4 P E D ds n f σ K (((i,⟨d,op,ty,pos,af,none⟩),r)::l)=(avop P E (aev f) σ ⟨d,op,ty,pos,af,none⟩ (kPE P E D ds n r K d f σ)∧all4 P E D ds n f σ K l):=rfl
theorem pk_nil {α:Type}:picks ([]:List α)=[]:=rfl
theorem pk_cons {α:Type} {a:α} {l:List α}:picks (a::l)=(a,l)::(picks l).map fun p=>(p.1,a::p.2):=rfl
instance {s:AS} {g:List (Nat×Oper)}:Ny (perm4 P E D ds 0 g K s) (K s):=⟨fun h=>h⟩
instance {g:List (Nat×Oper)}:Ny (perm4 P E D ds (n+1) g K ⟨f,σ⟩) (all4 P E D ds n f σ K (picks g)):=⟨t_p4⟩
end
attribute [go_sem] a4_nil a4_cons pk_nil pk_cons lp_some
theorem lg {G:Prop} (h:G:=by
  try simp only [updL_nil,updL_cons,delF_top,delF_upd,Nat.reduceEqDiff,reduceIte]
  refine Le.frameS (by first|rfl|(simp only [go_sem];try rfl)) ?_
  repeat' (first|exact leF_top _|exact (fun _=>LeR.refl _)|(with_reducible refine leF_sl ?_ ?_)|(refine leF_upd ?_ ?_))
  all_goals (first|exact LeR.top _|exact LeR.refl _|(refine LeR.of_eq ?_;(try simp only [go_sem]);try rfl)|((try simp only [go_sem]);try rfl))):G:=h
def sw (n o:Nat):Nat:=if o=n then n+1 else if o=n+1 then n else o
def renF (p:Nat→Nat) (f:Nat→AV):Nat→AV:=fun j=>ren1 p (f j)
theorem renF_top {p:Nat→Nat}:renF p topF=topF:=rfl
theorem renF_upd {p:Nat→Nat} {f:Nat→AV} {i:Nat} {x:AV}:renF p (upd f i x)=upd (renF p f) i (ren1 p x):=by
  funext j;simp only [renF,upd];split<;>rfl
theorem flatF_top:∀ j,flat1 (topF j)=true:=fun _=>rfl
theorem flatF_upd {f:Nat→AV} {i:Nat} {x:AV} (hx:flat1 x=true) (hf:∀ j,flat1 (f j)=true):∀ j,flat1 (upd f i x j)=true:=by
  intro j;simp only [upd];split
  ·exact hx
  ·exact hf j
theorem le_swap2 {τ:List AObj} {x y:AObj} {f:Nat→AV} {S:AS} (hn:n0≤τ.length) (hτ:BdS τ.length τ) (hx:flatO x=true) (hy:flatO y=true) (hf:∀ j,flat1 (f j)=true)
    (hs:Le n0 ⟨renF (sw τ.length) f,τ++[renO (sw τ.length) y,renO (sw τ.length) x]⟩ S):Le n0 ⟨f,τ++[x,y]⟩ S:=by
  refine Le.trans (le_ren (l:=[x,y]) (l':=[renO (sw τ.length) y,renO (sw τ.length) x]) (sw τ.length) (sw τ.length) hn hτ rfl ?_ ?_ ?_ ?_ fun j=>⟨hf j,rfl⟩) hs
  ·intro o ho;unfold sw;rw [if_neg (by omega),if_neg (by omega)];exact ⟨rfl,rfl⟩
  ·intro k hk
   simp only [List.length_cons,List.length_nil] at hk
   rcases (show k=0∨k=1 by omega) with rfl|rfl<;>simp [sw]
  ·intro k hk
   simp only [List.length_cons,List.length_nil] at hk
   rcases (show k=0∨k=1 by omega) with rfl|rfl<;>simp [sw]
  ·intro k hk
   simp only [List.length_cons,List.length_nil] at hk
   rcases (show k=0∨k=1 by omega) with rfl|rfl<;>simp [sw,hx,hy]
theorem le_arrE {f:Nat→AV} {σ:List AObj} {o e sz ver:Nat} {xs ys:List AV} (ho:σ[o]? =some (.arr e sz xs ver false)) (hl:ys.length=xs.length) (hw:∀ y∈ys,y.cells.length=sz) (hf:(flat ys).length=(flat xs).length)
    (h:∀ i,i<(flat xs).length→LeA ((flat xs).getD i .top) ((flat ys).getD i .top)):Le n0 ⟨f,σ⟩ ⟨f,σ.set o (.arr e sz ys ver false)⟩:=by
  intro cx G w N a _ hr hfr
  obtain ⟨h1,h2,h3⟩:=hr.ok o _ ho
  simp only [Bool.false_eq_true,if_false] at h3
  rcases h3 with ⟨rfl,_⟩|⟨g,cap,cur,h3⟩
  ·have:ys=[]:=by cases ys with
     |nil=>rfl
     |cons y ys=>cases hl
   subst this
   have e':σ.set o (.arr e sz [] ver false)=σ:=by
     apply List.ext_getElem?
     intro i
     rw [List.getElem?_set]
     split
     ·rename_i hi;subst hi;split
      ·rw [ho]
      ·rename_i hlt;rw [List.getElem?_eq_none (by omega)]
     ·rfl
   exact ⟨G,by simp only [e'];exact hr,hfr⟩
  ·refine ⟨G,hr.touch (g:=g) ho rfl (by rw [h3.v];have:=h3.pos;simp [ownB];omega) (Touch.refl w g) ⟨h1,?_,?_⟩,hfr⟩
   ·obtain ⟨a',cap',q1,q2⟩:=h2
    rw [hl]
    exact ⟨a',cap',q1,fun hy=>q2 (fun hx=>hy (by subst hx;cases ys with
      |nil=>rfl
      |cons y ys=>cases hl))⟩
   ·simp only [Bool.false_eq_true,if_false]
    exact .inr ⟨g,cap,cur,⟨by rw [hl];exact h3.v,h3.pos,h3.blk,by rw [hl];exact h3.le,h3.max,h3.size,hw,fun i hi=>h3.one i (by omega),fun i hi=>h i (by omega) _ _ (h3.rel i (by omega)),h3.unc⟩⟩
end Go.Fw

namespace Go.Proofs.YtnlimcijgpaegaaGreat
open Go Go.Fw Bm
set_option maxRecDepth 20000
def mnL (l:List Int):Int:=minL (l.headD 0) l.tail
def mxL (l:List Int):Int:=maxL (l.headD 0) l.tail
theorem mnL_pc {l:List Int} (h:0<l.length∧l.length≤100):PC Tryz.prog 110 [.sl false 1 (ints .i64 l)] (.lit (.int .i64 (mnL l))):=by
  cases l with
  |nil=>exact absurd h.1 (by simp)
  |cons m l=>exact minL_pc (by have:=h.2;simp only [List.length_cons] at this;omega)
theorem mxL_pc {l:List Int} (h:0<l.length∧l.length≤100):PC Tryz.prog 111 [.sl false 1 (ints .i64 l)] (.lit (.int .i64 (mxL l))):=by
  cases l with
  |nil=>exact absurd h.1 (by simp)
  |cons m l=>exact maxL_pc (by have:=h.2;simp only [List.length_cons] at this;omega)
noncomputable def con110:PCon Tryz.prog where
  f:=110
  c:=fun
   |[xl]=>match slK .i64 xl with|some l=>some ((0<l.length∧l.length≤100),.lit (.int .i64 (mnL l)))|_=>none
   |_=>none
  ok:=by
   intro args p r hc hp
   split at hc
   ·split at hc
    ·rename_i hl
     cases hc
     exact PC.weak (mnL_pc hp) ⟨slK_le hl,trivial⟩
    ·cases hc
   ·cases hc
  fk:=fk110
theorem con110_f:con110.f=110:=rfl
theorem con110_c {xl:AV}:con110.c [xl]=match slK .i64 xl with|some l=>some ((0<l.length∧l.length≤100),.lit (.int .i64 (mnL l)))|_=>none:=rfl
noncomputable def con111:PCon Tryz.prog where
  f:=111
  c:=fun
   |[xl]=>match slK .i64 xl with|some l=>some ((0<l.length∧l.length≤100),.lit (.int .i64 (mxL l)))|_=>none
   |_=>none
  ok:=by
   intro args p r hc hp
   split at hc
   ·split at hc
    ·rename_i hl
     cases hc
     exact PC.weak (mxL_pc hp) ⟨slK_le hl,trivial⟩
    ·cases hc
   ·cases hc
  fk:=fk111
theorem con111_f:con111.f=111:=rfl
theorem con111_c {xl:AV}:con111.c [xl]=match slK .i64 xl with|some l=>some ((0<l.length∧l.length≤100),.lit (.int .i64 (mxL l)))|_=>none:=rfl
attribute [go_sem] con110_f con110_c con111_f con111_c
noncomputable def B3:Env:=envJ (P:=Tryz.prog) jkR zer (fun _=>false) (fun _=>false) [con110,con111] []
theorem B3_ok:EnvOk Tryz.prog B3:=envJOk zer_ok
theorem around_pc {l:List Int} (h:0<l.length∧l.length≤100):PC Tryz.prog 69 [.sl false 1 (ints .i64 l)] (rgV ⟨mnL l,mxL l⟩):=by
  refine pcR B3_ok (kp69) Tryz.func69 [.cell 2 89] (h:=fun KF=>?_)
  unfold B3
  with_reducible repeat' first|(refine nx ?_;intros)|apply And.intro|intro vr|(refine ny ?_;intros;simp only [go_sem,kp69,geff])
  all_goals try exact nd
  all_goals (refine nl ?_;simp only [go_sem])
  exact LeA.refl _
noncomputable def con69:PCon Tryz.prog where
  f:=69
  c:=fun
   |[xl]=>match slK .i64 xl with|some l=>some ((0<l.length∧l.length≤100),rgV ⟨mnL l,mxL l⟩)|_=>none
   |_=>none
  ok:=by
   intro args p r hc hp
   split at hc
   ·split at hc
    ·rename_i hl
     cases hc
     exact PC.weak (around_pc hp) ⟨slK_le hl,trivial⟩
    ·cases hc
   ·cases hc
  fk:=fk69
theorem con69_f:con69.f=69:=rfl
theorem con69_c {xl:AV}:con69.c [xl]=match slK .i64 xl with|some l=>some ((0<l.length∧l.length≤100),rgV ⟨mnL l,mxL l⟩)|_=>none:=rfl
theorem ints4 {a b c d:Int}:([.lit (.int .i64 a),.lit (.int .i64 b),.lit (.int .i64 c),.lit (.int .i64 d)]:List AV)=ints .i64 [a,b,c,d]:=rfl
theorem slK_ints {b:Bool} {l:List Int}:slK .i64 (.sl b 1 (ints .i64 l))=some l:=slK_sl
attribute [go_sem] con69_f con69_c
noncomputable def B4:Env:=envJ (P:=Tryz.prog) jkR zer (fun _=>false) (fun _=>false) [con69,con43,con107] []
theorem B4_ok:EnvOk Tryz.prog B4:=envJOk zer_ok
theorem mulBd {a b:Int} (ha: -2147483648≤a∧a≤2147483647) (hb: -2147483648≤b∧b≤2147483647):inI64 (a*b):=by
  unfold inI64
  have h1:(a+2147483648)*(b+2147483648)≥0:=Int.mul_nonneg (by omega) (by omega)
  have h2:(2147483648 - a)*(b+2147483648)≥0:=Int.mul_nonneg (by omega) (by omega)
  have h3:(a+2147483648)*(2147483648 - b)≥0:=Int.mul_nonneg (by omega) (by omega)
  have h4:(2147483648 - a)*(2147483648 - b)≥0:=Int.mul_nonneg (by omega) (by omega)
  rw [Int.add_mul,Int.mul_add,Int.mul_add] at h1
  rw [Int.sub_mul,Int.mul_add,Int.mul_add] at h2
  rw [Int.add_mul,Int.mul_sub,Int.mul_sub] at h3
  rw [Int.sub_mul,Int.mul_sub,Int.mul_sub] at h4
  omega
theorem mul_pc {a b:Rng} (ha:IntR a) (hb:IntR b):PC Tryz.prog 159 [.sl false 2 (rgsV [a,b])] (rgV (rngV 2 [a,b])):=by
  obtain ⟨a,a'⟩:=a
  obtain ⟨b,b'⟩:=b
  obtain ⟨a1,a2,a3⟩:=ha
  obtain ⟨b1,b2,b3⟩:=hb
  simp only [rgsV2,rgV_mk]
  simp only at a1 a2 a3 b1 b2 b3
  refine pcR B4_ok (kp159) Tryz.func159 [.cell 2 89] (h:=fun KF=>?_)
  unfold B4
  with_reducible repeat' first|(refine nx ?_;intros)|apply And.intro|intro vr|(refine ny ?_;intros;simp only [go_sem,kp159,geff])
  refine t_drawP ⟨upd (upd (upd topF 4 (.ref 2 0)) 3 (.ref 1 0)) 2 (.ref 0 0),[.box 89 [.lit (.int .i64 0),.lit (.int .i64 0)],.box 89 [.lit (.int .i64 a),.lit (.int .i64 a')],.box 89 [.lit (.int .i64 b),.lit (.int .i64 b')]]⟩ (fun _=>false) [(0,1),(1,1),(2,1),(3,1),(4,1),(5,1)] [6,7] [(8,0),(9,0)] (by kernel_rfl) ?_ ?_
  ·skip
   with_reducible repeat' first|(refine nx ?_;intros)|apply And.intro|intro vr|(refine ny ?_;intros;simp only [go_sem,kp159,geff,ints4,slK_ints])
   all_goals try exact nd
   all_goals try exact mulBd (by omega) (by omega)
   all_goals (refine nl ?_;simp only [go_sem])
   exact LeA.refl _
  ·skip
   intro K
   simp only [pickO,pickG,List.getElem?_toArray,List.getElem?_cons_zero,List.getElem?_cons_succ,List.length_cons,List.length_nil,Nat.reduceAdd,lp_some]
   simp only [go_sem,pickO,pickG,geff,kp159]
   repeat' first|(with_reducible first|(refine nx ?_;intros)|apply And.intro|intro vr)|exact kpd|((with_reducible first|refine ny ?_|refine t_kLF ?_ ?_|refine t_kPE ?_ ?_);intros;simp only [go_sem,kp159,geff])
   ·exact lg
   ·skip
    refine le_swap2 (τ:=[.box 89 [.lit (.int .i64 0),.lit (.int .i64 0)]]) (by first|exact Nat.zero_le _|simp) (by first|assumption|exact bds_low (by first|rfl|simp [lowO,low_lit,low_sl,low_ref,low_arr,low_sub,low_mp])) rfl rfl ?_ ?_
    ·repeat' (first|exact flatF_top|(refine flatF_upd rfl ?_))
    simp only [renF_upd,renF_top,ren1,renA,renO,sw,List.map_cons,List.map_nil,List.length_cons,List.length_nil,Nat.reduceAdd,Nat.reduceEqDiff,reduceIte,List.cons_append,List.nil_append]
    exact lg
end Go.Proofs.YtnlimcijgpaegaaGreat

namespace Go.Proofs.YtnlimcijgpaegaaGreat
open Go Go.Fw Bm
set_option maxRecDepth 20000
noncomputable def B5:Env:=envJ (P:=Tryz.prog) jkR zer (fun _=>false) (fun _=>false) [El.con70,con39,con43] []
theorem B5_ok:EnvOk Tryz.prog B5:=envJOk zer_ok
theorem wide_pc {op:ByteArray}:PC Tryz.prog 109 [.lit (.string op)] (rgV (wideR op)):=by
  unfold wideR
  cases hT:El.typesS op with
  |none=>
   refine pcR B5_ok (kp109) Tryz.func109 [.cell 2 89] (h:=fun KF=>?_)
   unfold B5
   with_reducible repeat' first|(refine nx ?_;intros)|refine t_br (fun hc=>?_) fun hc=>?_|refine t_bx ?_|apply And.intro|intro vr|((first|refine ny ?_|refine t_dwh (h:=fun K KL=>?_));intros;simp only [go_sem,kp109,geff,hT])
   all_goals try exact nd
   all_goals (refine nl ?_;simp only [go_sem])
   exact LeA.refl _
  |some r=>
   obtain ⟨o,ps,rs⟩:=r
   simp only
   cases hb:eqS rs El.sBool with
   |true=>
    have hb':eqS rs ⟨#[98,111,111,108]⟩=true:=hb
    refine pcR B5_ok (kp109) Tryz.func109 [.cell 2 89] (h:=fun KF=>?_)
    unfold B5
    with_reducible repeat' first|(refine nx ?_;intros)|refine t_br (fun hc=>?_) fun hc=>?_|refine t_bx ?_|apply And.intro|intro vr|((first|refine ny ?_|refine t_dwh (h:=fun K KL=>?_));intros;simp only [go_sem,kp109,geff,hT,hb'])
    all_goals try exact nd
    all_goals (refine nl ?_;simp only [go_sem])
    exact LeA.refl _
   |false=>
    have hb':eqS rs ⟨#[98,111,111,108]⟩=false:=hb
    refine pcR B5_ok (kp109) Tryz.func109 [.cell 2 89] (h:=fun KF=>?_)
    unfold B5
    with_reducible repeat' first|(refine nx ?_;intros)|refine t_br (fun hc=>?_) fun hc=>?_|refine t_bx ?_|apply And.intro|intro vr|((first|refine ny ?_|refine t_dwh (h:=fun K KL=>?_));intros;simp only [go_sem,kp109,geff,hT,hb'])
    all_goals try exact nd
    all_goals (refine nl ?_;simp only [go_sem])
    exact LeA.refl _
def fitB (p:ByteArray) (r:Rng):Bool:=decide (r.lo≤r.hi)&&decide (r.within (fitR p))
def fitsB (op:ByteArray) (l:List Rng):Bool:=match El.typesS op with
  |some r=>decide (l.length=r.ps.length)&&(r.ps.zip l).all fun p=>fitB p.1 p.2
  |none=>false
theorem fit_eq (p:ByteArray) (r:Rng):(decide (r.lo>r.hi)|| !decide (r.within intsR)||(eqS p ⟨#[98,111,111,108]⟩&& !decide (r.within ⟨0,1⟩)))= !fitB p r:=by
  unfold fitB fitR
  rw [show El.sBool=(⟨#[98,111,111,108]⟩:ByteArray) from rfl]
  have k:r.within ⟨0,1⟩→r.within intsR:=fun h=>by
    obtain ⟨h1,h2⟩:=h
    simp only at h1 h2
    refine ⟨?_,?_⟩<;>simp only [intsR]<;>omega
  cases eqS p ⟨#[98,111,111,108]⟩ with
  |true=>
   rw [if_pos rfl,show boolR=⟨0,1⟩ from rfl,Bool.true_and]
   by_cases h1:r.lo≤r.hi
   ·by_cases h3:r.within ⟨0,1⟩
    ·rw [decide_eq_true h1,decide_eq_true h3,decide_eq_true (k h3),decide_eq_false (by omega)];rfl
    ·rw [decide_eq_true h1,decide_eq_false h3,decide_eq_false (show ¬ r.lo>r.hi by omega)];cases decide (r.within intsR)<;>rfl
   ·rw [decide_eq_false h1,decide_eq_true (show r.lo>r.hi by omega)];rfl
  |false=>
   rw [if_neg (by decide),Bool.false_and,Bool.or_false]
   by_cases h1:r.lo≤r.hi
   ·rw [decide_eq_true h1,decide_eq_false (show ¬ r.lo>r.hi by omega)];rfl
   ·rw [decide_eq_false h1,decide_eq_true (show r.lo>r.hi by omega)];rfl
theorem drop_getS {l:List ByteArray} {i:Nat} (h:i<l.length):l.drop i=l.getD i ByteArray.empty::l.drop (i+1):=drop_getD _ h
theorem drop_getR {l:List Rng} {i:Nat} (h:i<l.length):l.drop i=l.getD i nilR::l.drop (i+1):=drop_getD _ h
set_option maxHeartbeats 4000000 in
theorem fits_pc {op:ByteArray} {l:List Rng} (hl:l.length≤1000000):PC Tryz.prog 41 [.lit (.string op),.sl false 2 (rgsV l)] (.lit (.bool (fitsB op l))):=by
  unfold fitsB
  cases hT:El.typesS op with
  |none=>
   refine pcR B5_ok (kp41) Tryz.func41 [.tmp 4] (h:=fun KF=>?_)
   unfold B5
   with_reducible repeat' first|(refine nx ?_;intros)|apply And.intro|intro vr|((first|refine ny ?_|refine t_dwh (h:=fun K KL=>?_));intros;simp only [go_sem,kp41,geff,hT,Bool.not_false,Bool.true_or])
   all_goals try exact nd
   all_goals (refine nl ?_;simp only [go_sem])
   exact LeA.refl _
  |some r=>
   obtain ⟨o,ps,rs⟩:=r
   simp only
   by_cases hn:l.length=ps.length
   ·rw [decide_eq_true hn,Bool.true_and]
    generalize hR:((ps.zip l).all fun p=>fitB p.1 p.2)=R
    have h1:((l.length:Int) !=(ps.length:Int))=false:=by simp [hn]
    refine pcR B5_ok (kp41) Tryz.func41 [.tmp 4] (h:=fun KF=>?_)
    unfold B5
    with_reducible repeat' first|(refine nx ?_;intros)|apply And.intro|intro vr|((first|refine ny ?_|refine t_dwh (h:=fun K KL=>?_));intros;simp only [go_sem,kp41,geff,hT,h1,strs_length,Bool.not_true,Bool.false_or])
    all_goals try exact nd
    refine t_loopF (ι:={i:Nat // i≤l.length∧(((ps.drop i).zip (l.drop i)).all fun p=>fitB p.1 p.2)=R}) (fun i=>[(27,.lit (.int .i64 i.1))]) (fun i=>[]) (fun i=>l.length - i.1) ⟨0,by omega,hR⟩ ?_ ?_
    ·exact lf
    rintro ⟨i,hi,hF⟩ K0
    rcases Nat.lt_or_ge i l.length with hc|hc
    ·have g3:decide ((i:Int)<(l.length:Int))=true:=decide_eq_true (by omega)
     rw [drop_getR hc,drop_getS (show i<ps.length by omega),List.zip_cons_cons,List.all_cons] at hF
     generalize hx:l.getD i nilR=x at hF
     generalize hp:ps.getD i ByteArray.empty=p at hF
     have hfe:=fit_eq p x
     obtain ⟨x,x'⟩:=x
     simp only at hF hfe
     cases hb:fitB p ⟨x,x'⟩ with
     |true=>
      rw [hb,Bool.true_and] at hF
      rw [hb] at hfe
      with_reducible repeat' first|(refine nx ?_;intros)|apply And.intro|intro vr|((first|refine ny ?_|refine t_dwh (h:=fun K KL=>?_));intros;simp only [go_sem,kp41,geff,g3,hx,hp,hfe,strs_length,Int.toNat_natCast,Bool.not_true,yes])
      all_goals try exact nd
      refine ⟨⟨i+1,by omega,hF⟩,by first|(simp only;omega)|omega,?_⟩
      try simp only [updL_nil,updL_cons,delF_top,delF_upd,Nat.reduceEqDiff,reduceIte]
      refine le_backM (by first|rfl|(simp only [go_sem];try rfl)) (by first|exact Nat.zero_le _|simp) (by first|rfl|simp [lowO,low_lit,low_sl,low_ref,low_arr,low_sub,low_mp]) ?_ ?_
      ·repeat' (first|exact low_top|(refine low_upd rfl ?_))
      exact lq
     |false=>
      rw [hb,Bool.false_and] at hF
      rw [hb] at hfe
      with_reducible repeat' first|(refine nx ?_;intros)|apply And.intro|intro vr|((first|refine ny ?_|refine t_dwh (h:=fun K KL=>?_));intros;simp only [go_sem,kp41,geff,g3,hx,hp,hfe,strs_length,Int.toNat_natCast,Bool.not_false,yes])
      all_goals try exact nd
      all_goals (refine nl ?_;simp only [go_sem])
      exact LeA.of_eq (by rw [←hF])
    ·have g3:decide ((i:Int)<(l.length:Int))=false:=decide_eq_false (by omega)
     rw [List.drop_eq_nil_of_le hc,List.zip_nil_right] at hF
     with_reducible repeat' first|(refine nx ?_;intros)|apply And.intro|intro vr|((first|refine ny ?_|refine t_dwh (h:=fun K KL=>?_));intros;simp only [go_sem,kp41,geff,g3])
     all_goals try exact nd
     all_goals (refine nl ?_;simp only [go_sem])
     exact LeA.of_eq (by rw [←hF];rfl)
   ·rw [decide_eq_false hn,Bool.false_and]
    have h1:((l.length:Int) !=(ps.length:Int))=true:=by simp;omega
    refine pcR B5_ok (kp41) Tryz.func41 [.tmp 4] (h:=fun KF=>?_)
    unfold B5
    with_reducible repeat' first|(refine nx ?_;intros)|apply And.intro|intro vr|((first|refine ny ?_|refine t_dwh (h:=fun K KL=>?_));intros;simp only [go_sem,kp41,geff,hT,h1,strs_length,Bool.not_true,Bool.false_or])
    all_goals try exact nd
    all_goals (refine nl ?_;simp only [go_sem])
    exact LeA.refl _
noncomputable def con109:PCon Tryz.prog where
  f:=109
  c:=fun
   |[.lit (.string p)]=>some (True,rgV (wideR p))
   |_=>none
  ok:=by
   intro args p r hc hp
   split at hc
   ·cases hc;exact wide_pc
   ·cases hc
  fk:=fk109
theorem con109_f:con109.f=109:=rfl
theorem con109_c {p:ByteArray}:con109.c [.lit (.string p)]=some (True,rgV (wideR p)):=rfl
noncomputable def con41:PCon Tryz.prog where
  f:=41
  c:=fun
   |[.lit (.string p),xl]=>match rngsOf xl with|some l=>some (l.length≤1000000,.lit (.bool (fitsB p l)))|_=>none
   |_=>none
  ok:=by
   intro args p r hc hp
   split at hc
   ·split at hc
    ·rename_i hl
     cases hc
     exact PC.weak (fits_pc hp) ⟨LeA.refl _,rngsOf_le hl,trivial⟩
    ·cases hc
   ·cases hc
  fk:=fk41
theorem con41_f:con41.f=41:=rfl
theorem con41_c {p:ByteArray} {xl:AV}:con41.c [.lit (.string p),xl]=match rngsOf xl with|some l=>some (l.length≤1000000,.lit (.bool (fitsB p l)))|_=>none:=rfl
noncomputable def con157:PCon Tryz.prog where
  f:=157
  c:=fun
   |[x]=>match rngsOf x with|some [a,b]=>some (IntR a∧IntR b,rgV (rngV 0 [a,b]))|_=>none
   |_=>none
  ok:=by
   intro args p r hc hp
   split at hc
   ·split at hc
    ·rename_i hx
     cases hc
     exact PC.weak (add_pc hp.1 hp.2) ⟨rngsOf_le hx,trivial⟩
    ·cases hc
   ·cases hc
  fk:=fk157
theorem con157_f:con157.f=157:=rfl
theorem con157_c {x:AV}:con157.c [x]=match rngsOf x with|some [a,b]=>some (IntR a∧IntR b,rgV (rngV 0 [a,b]))|_=>none:=rfl
noncomputable def con158:PCon Tryz.prog where
  f:=158
  c:=fun
   |[x]=>match rngsOf x with|some [a,b]=>some (IntR a∧IntR b,rgV (rngV 1 [a,b]))|_=>none
   |_=>none
  ok:=by
   intro args p r hc hp
   split at hc
   ·split at hc
    ·rename_i hx
     cases hc
     exact PC.weak (sub_pc hp.1 hp.2) ⟨rngsOf_le hx,trivial⟩
    ·cases hc
   ·cases hc
  fk:=fk158
theorem con158_f:con158.f=158:=rfl
theorem con158_c {x:AV}:con158.c [x]=match rngsOf x with|some [a,b]=>some (IntR a∧IntR b,rgV (rngV 1 [a,b]))|_=>none:=rfl
noncomputable def con159:PCon Tryz.prog where
  f:=159
  c:=fun
   |[x]=>match rngsOf x with|some [a,b]=>some (IntR a∧IntR b,rgV (rngV 2 [a,b]))|_=>none
   |_=>none
  ok:=by
   intro args p r hc hp
   split at hc
   ·split at hc
    ·rename_i hx
     cases hc
     exact PC.weak (mul_pc hp.1 hp.2) ⟨rngsOf_le hx,trivial⟩
    ·cases hc
   ·cases hc
  fk:=fk159
theorem con159_f:con159.f=159:=rfl
theorem con159_c {x:AV}:con159.c [x]=match rngsOf x with|some [a,b]=>some (IntR a∧IntR b,rgV (rngV 2 [a,b]))|_=>none:=rfl
noncomputable def con160:PCon Tryz.prog where
  f:=160
  c:=fun
   |[x]=>match rngsOf x with|some [a,b]=>some (True,rgV (rngV 5 [a,b]))|_=>none
   |_=>none
  ok:=by
   intro args p r hc hp
   split at hc
   ·split at hc
    ·rename_i hx
     cases hc
     exact PC.weak min_pc ⟨rngsOf_le hx,trivial⟩
    ·cases hc
   ·cases hc
  fk:=fk160
theorem con160_f:con160.f=160:=rfl
theorem con160_c {x:AV}:con160.c [x]=match rngsOf x with|some [a,b]=>some (True,rgV (rngV 5 [a,b]))|_=>none:=rfl
noncomputable def con161:PCon Tryz.prog where
  f:=161
  c:=fun
   |[x]=>match rngsOf x with|some [a,b]=>some (True,rgV (rngV 6 [a,b]))|_=>none
   |_=>none
  ok:=by
   intro args p r hc hp
   split at hc
   ·split at hc
    ·rename_i hx
     cases hc
     exact PC.weak max_pc ⟨rngsOf_le hx,trivial⟩
    ·cases hc
   ·cases hc
  fk:=fk161
theorem con161_f:con161.f=161:=rfl
theorem con161_c {x:AV}:con161.c [x]=match rngsOf x with|some [a,b]=>some (True,rgV (rngV 6 [a,b]))|_=>none:=rfl
noncomputable def con162:PCon Tryz.prog where
  f:=162
  c:=fun
   |[x]=>match rngsOf x with|some [a,b]=>some (IntR b,rgV (rngV 4 [a,b]))|_=>none
   |_=>none
  ok:=by
   intro args p r hc hp
   split at hc
   ·split at hc
    ·rename_i hx
     cases hc
     exact PC.weak (mod_pc hp) ⟨rngsOf_le hx,trivial⟩
    ·cases hc
   ·cases hc
  fk:=fk162
theorem con162_f:con162.f=162:=rfl
theorem con162_c {x:AV}:con162.c [x]=match rngsOf x with|some [a,b]=>some (IntR b,rgV (rngV 4 [a,b]))|_=>none:=rfl
noncomputable def con163:PCon Tryz.prog where
  f:=163
  c:=fun
   |[_]=>some (True,rgV ⟨-1,1⟩)
   |_=>none
  ok:=by
   intro args p r hc hp
   split at hc
   ·cases hc;exact sign_pc
   ·cases hc
  fk:=fk163
theorem con163_f:con163.f=163:=rfl
theorem con163_c {x:AV}:con163.c [x]=some (True,rgV ⟨-1,1⟩):=rfl
noncomputable def con164:PCon Tryz.prog where
  f:=164
  c:=fun
   |[_]=>some (True,rgV boolR)
   |_=>none
  ok:=by
   intro args p r hc hp
   split at hc
   ·cases hc;exact bits_pc
   ·cases hc
  fk:=fk164
theorem con164_f:con164.f=164:=rfl
theorem con164_c {x:AV}:con164.c [x]=some (True,rgV boolR):=rfl
noncomputable def con165:PCon Tryz.prog where
  f:=165
  c:=fun
   |[x]=>match rngsOf x with|some [a,b,c]=>some (True,rgV (rngV 20 [a,b,c]))|_=>none
   |_=>none
  ok:=by
   intro args p r hc hp
   split at hc
   ·split at hc
    ·rename_i hx
     cases hc
     exact PC.weak sel_pc ⟨rngsOf_le hx,trivial⟩
    ·cases hc
   ·cases hc
  fk:=fk165
theorem con165_f:con165.f=165:=rfl
theorem con165_c {x:AV}:con165.c [x]=match rngsOf x with|some [a,b,c]=>some (True,rgV (rngV 20 [a,b,c]))|_=>none:=rfl
attribute [go_sem] con109_f con109_c con41_f con41_c con157_f con157_c con158_f con158_c con159_f con159_c con160_f con160_c con161_f con161_c con162_f con162_c con163_f con163_c con164_f con164_c con165_f con165_c
def rangesM:List (Value×AV):=[(.string ⟨#[97,100,100]⟩,.fn (.func 157) [] []),(.string ⟨#[115,117,98]⟩,.fn (.func 158) [] []),(.string ⟨#[109,117,108]⟩,.fn (.func 159) [] []),(.string ⟨#[109,105,110]⟩,.fn (.func 160) [] []),
  (.string ⟨#[109,97,120]⟩,.fn (.func 161) [] []),(.string ⟨#[109,111,100]⟩,.fn (.func 162) [] []),(.string ⟨#[115,105,103,110]⟩,.fn (.func 163) [] []),(.string ⟨#[116,111,105,110,116]⟩,.fn (.func 164) [] []),(.string ⟨#[115,101,108,101,99,116]⟩,.fn (.func 165) [] [])]
def rgM1:List (Value×AV):=[(.string ⟨#[97,100,100]⟩,.fn (.func 157) [] [])]
def rgM2:List (Value×AV):=[(.string ⟨#[97,100,100]⟩,.fn (.func 157) [] []),(.string ⟨#[115,117,98]⟩,.fn (.func 158) [] [])]
def rgM3:List (Value×AV):=[(.string ⟨#[97,100,100]⟩,.fn (.func 157) [] []),(.string ⟨#[115,117,98]⟩,.fn (.func 158) [] []),(.string ⟨#[109,117,108]⟩,.fn (.func 159) [] [])]
def rgM4:List (Value×AV):=[(.string ⟨#[97,100,100]⟩,.fn (.func 157) [] []),(.string ⟨#[115,117,98]⟩,.fn (.func 158) [] []),(.string ⟨#[109,117,108]⟩,.fn (.func 159) [] []),(.string ⟨#[109,105,110]⟩,.fn (.func 160) [] [])]
def rgM5:List (Value×AV):=[(.string ⟨#[97,100,100]⟩,.fn (.func 157) [] []),(.string ⟨#[115,117,98]⟩,.fn (.func 158) [] []),(.string ⟨#[109,117,108]⟩,.fn (.func 159) [] []),(.string ⟨#[109,105,110]⟩,.fn (.func 160) [] []),(.string ⟨#[109,97,120]⟩,.fn (.func 161) [] [])]
def rgM6:List (Value×AV):=[(.string ⟨#[97,100,100]⟩,.fn (.func 157) [] []),(.string ⟨#[115,117,98]⟩,.fn (.func 158) [] []),(.string ⟨#[109,117,108]⟩,.fn (.func 159) [] []),(.string ⟨#[109,105,110]⟩,.fn (.func 160) [] []),(.string ⟨#[109,97,120]⟩,.fn (.func 161) [] []),(.string ⟨#[109,111,100]⟩,.fn (.func 162) [] [])]
def rgM7:List (Value×AV):=[(.string ⟨#[97,100,100]⟩,.fn (.func 157) [] []),(.string ⟨#[115,117,98]⟩,.fn (.func 158) [] []),(.string ⟨#[109,117,108]⟩,.fn (.func 159) [] []),(.string ⟨#[109,105,110]⟩,.fn (.func 160) [] []),(.string ⟨#[109,97,120]⟩,.fn (.func 161) [] []),(.string ⟨#[109,111,100]⟩,.fn (.func 162) [] []),(.string ⟨#[115,105,103,110]⟩,.fn (.func 163) [] [])]
def rgM8:List (Value×AV):=[(.string ⟨#[97,100,100]⟩,.fn (.func 157) [] []),(.string ⟨#[115,117,98]⟩,.fn (.func 158) [] []),(.string ⟨#[109,117,108]⟩,.fn (.func 159) [] []),(.string ⟨#[109,105,110]⟩,.fn (.func 160) [] []),(.string ⟨#[109,97,120]⟩,.fn (.func 161) [] []),(.string ⟨#[109,111,100]⟩,.fn (.func 162) [] []),(.string ⟨#[115,105,103,110]⟩,.fn (.func 163) [] []),(.string ⟨#[116,111,105,110,116]⟩,.fn (.func 164) [] [])]
theorem put_0:putA .string (.string ⟨#[97,100,100]⟩) (.fn (.func 157) [] []) []=some rgM1:=by kernel_rfl
theorem put_1:putA .string (.string ⟨#[115,117,98]⟩) (.fn (.func 158) [] []) rgM1=some rgM2:=by kernel_rfl
theorem put_2:putA .string (.string ⟨#[109,117,108]⟩) (.fn (.func 159) [] []) rgM2=some rgM3:=by kernel_rfl
theorem put_3:putA .string (.string ⟨#[109,105,110]⟩) (.fn (.func 160) [] []) rgM3=some rgM4:=by kernel_rfl
theorem put_4:putA .string (.string ⟨#[109,97,120]⟩) (.fn (.func 161) [] []) rgM4=some rgM5:=by kernel_rfl
theorem put_5:putA .string (.string ⟨#[109,111,100]⟩) (.fn (.func 162) [] []) rgM5=some rgM6:=by kernel_rfl
theorem put_6:putA .string (.string ⟨#[115,105,103,110]⟩) (.fn (.func 163) [] []) rgM6=some rgM7:=by kernel_rfl
theorem put_7:putA .string (.string ⟨#[116,111,105,110,116]⟩) (.fn (.func 164) [] []) rgM7=some rgM8:=by kernel_rfl
theorem put_8:putA .string (.string ⟨#[115,101,108,101,99,116]⟩) (.fn (.func 165) [] []) rgM8=some rangesM:=by kernel_rfl
theorem und81:Tryz.prog.underlying 188=some (.map 9 186):=by kernel_rfl
theorem und9:Tryz.prog.underlying 9=some .string:=by kernel_rfl
theorem und3:Tryz.prog.underlying 3=some (.int .i64):=by kernel_rfl
noncomputable def B6:Env:=envJ (P:=Tryz.prog) jkR zer (fun _=>false) (fun _=>false) [] []
theorem B6_ok:EnvOk Tryz.prog B6:=envJOk zer_ok
theorem ranges_ec {σ:List AObj} {k:AV→List AObj→Prop} (hk:k (.mp σ.length) (σ++[.map rangesM])):EC Tryz.prog 144 [] σ k:=by
  refine ecR B6_ok (kp144) Tryz.func144 [.tmp 0] (h:=fun KF=>?_)
  unfold B6
  with_reducible repeat' first|(refine nx ?_;intros)|refine t_br (fun hc=>?_) fun hc=>?_|refine t_bx ?_|apply And.intro|intro vr|((first|refine ny ?_|refine t_dwh (h:=fun K KL=>?_));intros;simp only [go_sem,kp144,geff,und81,und9,put_0,put_1,put_2,put_3,put_4,put_5,put_6,put_7,put_8])
  all_goals try exact nd
  all_goals (refine nl ?_;simp only [go_sem])
  exact hk
end Go.Proofs.YtnlimcijgpaegaaGreat

namespace Go.Proofs.YtnlimcijgpaegaaGreat
open Go Go.Fw Bm
set_option maxRecDepth 20000
theorem fits_is (op:ByteArray) (l:List Rng):fitsB op l=(fitsR op l).isSome:=by
  unfold fitsB fitsR
  rcases El.ix_cases op with ⟨i,_,_,h1,h2⟩|⟨h1,h2⟩
  ·rw [h1,h2]
   simp only [Option.bind_some]
   show (decide (l.length=(El.psN i).length)&&fitA (El.psN i) l)=_
   cases (decide (l.length=(El.psN i).length)&&fitA (El.psN i) l)<;>rfl
  ·rw [h1,h2];rfl
theorem fitA_int:∀ {ps:List ByteArray} {l:List Rng},fitA ps l=true→l.length=ps.length→∀ r∈l,IntR r
  |[],[],_,_,r,hr=>by cases hr
  |[],_::_,_,h,_,_=>by cases h
  |_::_,[],_,h,_,_=>by cases h
  |p::ps,x::l,h,hl,r,hr=>by
   unfold fitA at h
   rw [List.zip_cons_cons,List.all_cons,Bool.and_eq_true,Bool.and_eq_true,decide_eq_true_eq,decide_eq_true_eq] at h
   obtain ⟨⟨h1,h2⟩,h3⟩:=h
   rcases List.mem_cons.1 hr with rfl|hr
   ·obtain ⟨h4,h5⟩:=h2
    have:fitR p=boolR∨fitR p=intsR:=by unfold fitR;split<;>simp
    rcases this with e|e<;>rw [e] at h4 h5<;>simp only [boolR,intsR] at h4 h5<;>exact ⟨by omega,h1,by omega⟩
   ·exact fitA_int h3 (by simpa using hl) r hr
def primV (op:ByteArray) (l:List Rng):AV:=match primR op l with
  |some r=> .tup [rgV r,.lit (.bool true)]
  |none=> .tup [rgV nilR,.lit (.bool false)]
theorem primV_none {op:ByteArray} {l:List Rng} (h:fitsR op l=none):primV op l= .tup [.agg [.lit (.int .i64 0),.lit (.int .i64 0)],.lit (.bool false)]:=by
  simp only [primV,primR,h];rfl
theorem primV_some {op:ByteArray} {l:List Rng} {i:Nat} (h:fitsR op l=some i):primV op l= .tup [rgV (rngV i l),.lit (.bool true)]:=by
  simp only [primV,primR,h];rfl
theorem fits_op {op:ByteArray} {l:List Rng} {i:Nat} (h:fitsR op l=some i):op=(El.rowsL.getD i default).op:=by
  obtain ⟨h1,_,_⟩:=fits_inv h
  rcases El.ix_cases op with ⟨j,_,e,h3,_⟩|⟨h3,_⟩
  ·rw [h1] at h3;cases h3;exact e
  ·rw [h1] at h3;cases h3
noncomputable def ecn144:ECon Tryz.prog where
  f:=144
  c:=fun args σ k=>match args with
   |[]=>k (.mp σ.length) (σ++[.map rangesM])
   |_=>False
  ok:=by
   intro args σ k h
   split at h
   ·exact ranges_ec h
   ·exact h.elim
  fk:=fk144
theorem ecn144_f:ecn144.f=144:=rfl
theorem ecn144_c {σ:List AObj} {k:AV→List AObj→Prop}:ecn144.c [] σ k=k (.mp σ.length) (σ++[.map rangesM]):=rfl
attribute [go_sem] ecn144_f ecn144_c
theorem keyT_s:keyT .string=true:=rfl
theorem zeroT79:(zeroT Tryz.prog 186).isSome=true:=by kernel_rfl
noncomputable def B7:Env:=envJ (P:=Tryz.prog) jkR zer (fun _=>false) (fun _=>false) [con41,con109,con157,con158,con159,con160,con161,con162,con163,con164,con165] [ecn144]
theorem B7_ok:EnvOk Tryz.prog B7:=envJOk zer_ok
theorem fnd_0:findA .string (.string ⟨#[97,100,100]⟩) rangesM=some (some (.fn (.func 157) [] [])):=by kernel_rfl
theorem fnd_1:findA .string (.string ⟨#[115,117,98]⟩) rangesM=some (some (.fn (.func 158) [] [])):=by kernel_rfl
theorem fnd_2:findA .string (.string ⟨#[109,117,108]⟩) rangesM=some (some (.fn (.func 159) [] [])):=by kernel_rfl
theorem fnd_3:findA .string (.string ⟨#[100,105,118]⟩) rangesM=some (none):=by kernel_rfl
theorem fnd_4:findA .string (.string ⟨#[109,111,100]⟩) rangesM=some (some (.fn (.func 162) [] [])):=by kernel_rfl
theorem fnd_5:findA .string (.string ⟨#[109,105,110]⟩) rangesM=some (some (.fn (.func 160) [] [])):=by kernel_rfl
theorem fnd_6:findA .string (.string ⟨#[109,97,120]⟩) rangesM=some (some (.fn (.func 161) [] [])):=by kernel_rfl
theorem fnd_7:findA .string (.string ⟨#[110,101,103]⟩) rangesM=some (none):=by kernel_rfl
theorem fnd_8:findA .string (.string ⟨#[97,98,115]⟩) rangesM=some (none):=by kernel_rfl
theorem fnd_9:findA .string (.string ⟨#[115,105,103,110]⟩) rangesM=some (some (.fn (.func 163) [] [])):=by kernel_rfl
theorem fnd_10:findA .string (.string ⟨#[108,116]⟩) rangesM=some (none):=by kernel_rfl
theorem fnd_11:findA .string (.string ⟨#[108,101]⟩) rangesM=some (none):=by kernel_rfl
theorem fnd_12:findA .string (.string ⟨#[103,116]⟩) rangesM=some (none):=by kernel_rfl
theorem fnd_13:findA .string (.string ⟨#[103,101]⟩) rangesM=some (none):=by kernel_rfl
theorem fnd_14:findA .string (.string ⟨#[101,113]⟩) rangesM=some (none):=by kernel_rfl
theorem fnd_15:findA .string (.string ⟨#[110,101]⟩) rangesM=some (none):=by kernel_rfl
theorem fnd_16:findA .string (.string ⟨#[97,110,100]⟩) rangesM=some (none):=by kernel_rfl
theorem fnd_17:findA .string (.string ⟨#[111,114]⟩) rangesM=some (none):=by kernel_rfl
theorem fnd_18:findA .string (.string ⟨#[120,111,114]⟩) rangesM=some (none):=by kernel_rfl
theorem fnd_19:findA .string (.string ⟨#[110,111,116]⟩) rangesM=some (none):=by kernel_rfl
theorem fnd_20:findA .string (.string ⟨#[115,101,108,101,99,116]⟩) rangesM=some (some (.fn (.func 165) [] [])):=by kernel_rfl
theorem fnd_21:findA .string (.string ⟨#[116,111,105,110,116]⟩) rangesM=some (some (.fn (.func 164) [] [])):=by kernel_rfl
set_option maxHeartbeats 8000000 in
theorem prim_pc {op:ByteArray} {l:List Rng} (hl:l.length≤1000000):PC Tryz.prog 108 [.lit (.string op),.sl false 2 (rgsV l)] (primV op l):=by
  have hb:=fits_is op l
  cases hF:fitsR op l with
  |none=>
   rw [hF] at hb
   rw [primV_none hF]
   have hb':fitsB op l=false:=hb
   refine pcR B7_ok (kp108) Tryz.func108 [.cell 4 89,.tmp 5] (h:=fun KF=>?_)
   unfold B7
   with_reducible repeat' first|(refine nx ?_;intros)|apply And.intro|intro vr|(refine ny ?_;intros;simp only [go_sem,kp108,geff,hb',Bool.not_false])
   all_goals try exact nd
   all_goals (refine nl ?_;simp only [go_sem])
   exact LeA.refl _
  |some i=>
   rw [hF] at hb
   have hb':fitsB op l=true:=hb
   obtain ⟨_,h2,h3⟩:=fits_inv hF
   have hop:=fits_op hF
   have hI:=fitA_int h3 h2
   rw [primV_some hF]
   clear hb hF h3
   rcases rng_ix (row_lt (by assumption)) with rfl|rfl|rfl|rfl|rfl|rfl|rfl|rfl|rfl|rfl|rfl|rfl|rfl|rfl|rfl|rfl|rfl|rfl|rfl|rfl|rfl|rfl
   ·obtain rfl:op=⟨#[97,100,100]⟩:=hop
    obtain ⟨a,b,rfl⟩:=len2L (show l.length=2 from h2)
    have ia:=hI a (by simp)
    have ib:=hI b (by simp)
    refine pcR B7_ok (kp108) Tryz.func108 [.cell 4 89,.tmp 5] (h:=fun KF=>?_)
    unfold B7
    with_reducible repeat' first|(refine nx ?_;intros)|apply And.intro|intro vr|(refine ny ?_;intros;simp only [go_sem,kp108,geff,hb',fnd_0,und81,und9,keyT_s,zeroT79,Bool.not_true])
    all_goals try exact nd
    all_goals (refine nl ?_;simp only [go_sem])
    exact LeA.refl _
   ·obtain rfl:op=⟨#[115,117,98]⟩:=hop
    obtain ⟨a,b,rfl⟩:=len2L (show l.length=2 from h2)
    have ia:=hI a (by simp)
    have ib:=hI b (by simp)
    refine pcR B7_ok (kp108) Tryz.func108 [.cell 4 89,.tmp 5] (h:=fun KF=>?_)
    unfold B7
    with_reducible repeat' first|(refine nx ?_;intros)|apply And.intro|intro vr|(refine ny ?_;intros;simp only [go_sem,kp108,geff,hb',fnd_1,und81,und9,keyT_s,zeroT79,Bool.not_true])
    all_goals try exact nd
    all_goals (refine nl ?_;simp only [go_sem])
    exact LeA.refl _
   ·obtain rfl:op=⟨#[109,117,108]⟩:=hop
    obtain ⟨a,b,rfl⟩:=len2L (show l.length=2 from h2)
    have ia:=hI a (by simp)
    have ib:=hI b (by simp)
    refine pcR B7_ok (kp108) Tryz.func108 [.cell 4 89,.tmp 5] (h:=fun KF=>?_)
    unfold B7
    with_reducible repeat' first|(refine nx ?_;intros)|apply And.intro|intro vr|(refine ny ?_;intros;simp only [go_sem,kp108,geff,hb',fnd_2,und81,und9,keyT_s,zeroT79,Bool.not_true])
    all_goals try exact nd
    all_goals (refine nl ?_;simp only [go_sem])
    exact LeA.refl _
   ·obtain rfl:op=⟨#[100,105,118]⟩:=hop
    obtain ⟨a,b,rfl⟩:=len2L (show l.length=2 from h2)
    have ia:=hI a (by simp)
    have ib:=hI b (by simp)
    have hw:rngV 3 [a,b]=wideR ⟨#[100,105,118]⟩:=rfl
    rw [hw]
    refine pcR B7_ok (kp108) Tryz.func108 [.cell 4 89,.tmp 5] (h:=fun KF=>?_)
    unfold B7
    with_reducible repeat' first|(refine nx ?_;intros)|apply And.intro|intro vr|(refine ny ?_;intros;simp only [go_sem,kp108,geff,hb',fnd_3,und81,und9,keyT_s,zeroT79,Bool.not_true])
    all_goals try exact nd
    all_goals (refine nl ?_;simp only [go_sem])
    exact LeA.refl _
   ·obtain rfl:op=⟨#[109,111,100]⟩:=hop
    obtain ⟨a,b,rfl⟩:=len2L (show l.length=2 from h2)
    have ia:=hI a (by simp)
    have ib:=hI b (by simp)
    refine pcR B7_ok (kp108) Tryz.func108 [.cell 4 89,.tmp 5] (h:=fun KF=>?_)
    unfold B7
    with_reducible repeat' first|(refine nx ?_;intros)|apply And.intro|intro vr|(refine ny ?_;intros;simp only [go_sem,kp108,geff,hb',fnd_4,und81,und9,keyT_s,zeroT79,Bool.not_true])
    all_goals try exact nd
    all_goals (refine nl ?_;simp only [go_sem])
    exact LeA.refl _
   ·obtain rfl:op=⟨#[109,105,110]⟩:=hop
    obtain ⟨a,b,rfl⟩:=len2L (show l.length=2 from h2)
    have ia:=hI a (by simp)
    have ib:=hI b (by simp)
    refine pcR B7_ok (kp108) Tryz.func108 [.cell 4 89,.tmp 5] (h:=fun KF=>?_)
    unfold B7
    with_reducible repeat' first|(refine nx ?_;intros)|apply And.intro|intro vr|(refine ny ?_;intros;simp only [go_sem,kp108,geff,hb',fnd_5,und81,und9,keyT_s,zeroT79,Bool.not_true])
    all_goals try exact nd
    all_goals (refine nl ?_;simp only [go_sem])
    exact LeA.refl _
   ·obtain rfl:op=⟨#[109,97,120]⟩:=hop
    obtain ⟨a,b,rfl⟩:=len2L (show l.length=2 from h2)
    have ia:=hI a (by simp)
    have ib:=hI b (by simp)
    refine pcR B7_ok (kp108) Tryz.func108 [.cell 4 89,.tmp 5] (h:=fun KF=>?_)
    unfold B7
    with_reducible repeat' first|(refine nx ?_;intros)|apply And.intro|intro vr|(refine ny ?_;intros;simp only [go_sem,kp108,geff,hb',fnd_6,und81,und9,keyT_s,zeroT79,Bool.not_true])
    all_goals try exact nd
    all_goals (refine nl ?_;simp only [go_sem])
    exact LeA.refl _
   ·obtain rfl:op=⟨#[110,101,103]⟩:=hop
    obtain ⟨a,rfl⟩:=len1L (show l.length=1 from h2)
    have ia:=hI a (by simp)
    have hw:rngV 7 [a]=wideR ⟨#[110,101,103]⟩:=rfl
    rw [hw]
    refine pcR B7_ok (kp108) Tryz.func108 [.cell 4 89,.tmp 5] (h:=fun KF=>?_)
    unfold B7
    with_reducible repeat' first|(refine nx ?_;intros)|apply And.intro|intro vr|(refine ny ?_;intros;simp only [go_sem,kp108,geff,hb',fnd_7,und81,und9,keyT_s,zeroT79,Bool.not_true])
    all_goals try exact nd
    all_goals (refine nl ?_;simp only [go_sem])
    exact LeA.refl _
   ·obtain rfl:op=⟨#[97,98,115]⟩:=hop
    obtain ⟨a,rfl⟩:=len1L (show l.length=1 from h2)
    have ia:=hI a (by simp)
    have hw:rngV 8 [a]=wideR ⟨#[97,98,115]⟩:=rfl
    rw [hw]
    refine pcR B7_ok (kp108) Tryz.func108 [.cell 4 89,.tmp 5] (h:=fun KF=>?_)
    unfold B7
    with_reducible repeat' first|(refine nx ?_;intros)|apply And.intro|intro vr|(refine ny ?_;intros;simp only [go_sem,kp108,geff,hb',fnd_8,und81,und9,keyT_s,zeroT79,Bool.not_true])
    all_goals try exact nd
    all_goals (refine nl ?_;simp only [go_sem])
    exact LeA.refl _
   ·obtain rfl:op=⟨#[115,105,103,110]⟩:=hop
    obtain ⟨a,rfl⟩:=len1L (show l.length=1 from h2)
    have ia:=hI a (by simp)
    refine pcR B7_ok (kp108) Tryz.func108 [.cell 4 89,.tmp 5] (h:=fun KF=>?_)
    unfold B7
    with_reducible repeat' first|(refine nx ?_;intros)|apply And.intro|intro vr|(refine ny ?_;intros;simp only [go_sem,kp108,geff,hb',fnd_9,und81,und9,keyT_s,zeroT79,Bool.not_true])
    all_goals try exact nd
    all_goals (refine nl ?_;simp only [go_sem])
    exact LeA.refl _
   ·obtain rfl:op=⟨#[108,116]⟩:=hop
    obtain ⟨a,b,rfl⟩:=len2L (show l.length=2 from h2)
    have ia:=hI a (by simp)
    have ib:=hI b (by simp)
    have hw:rngV 10 [a,b]=wideR ⟨#[108,116]⟩:=rfl
    rw [hw]
    refine pcR B7_ok (kp108) Tryz.func108 [.cell 4 89,.tmp 5] (h:=fun KF=>?_)
    unfold B7
    with_reducible repeat' first|(refine nx ?_;intros)|apply And.intro|intro vr|(refine ny ?_;intros;simp only [go_sem,kp108,geff,hb',fnd_10,und81,und9,keyT_s,zeroT79,Bool.not_true])
    all_goals try exact nd
    all_goals (refine nl ?_;simp only [go_sem])
    exact LeA.refl _
   ·obtain rfl:op=⟨#[108,101]⟩:=hop
    obtain ⟨a,b,rfl⟩:=len2L (show l.length=2 from h2)
    have ia:=hI a (by simp)
    have ib:=hI b (by simp)
    have hw:rngV 11 [a,b]=wideR ⟨#[108,101]⟩:=rfl
    rw [hw]
    refine pcR B7_ok (kp108) Tryz.func108 [.cell 4 89,.tmp 5] (h:=fun KF=>?_)
    unfold B7
    with_reducible repeat' first|(refine nx ?_;intros)|apply And.intro|intro vr|(refine ny ?_;intros;simp only [go_sem,kp108,geff,hb',fnd_11,und81,und9,keyT_s,zeroT79,Bool.not_true])
    all_goals try exact nd
    all_goals (refine nl ?_;simp only [go_sem])
    exact LeA.refl _
   ·obtain rfl:op=⟨#[103,116]⟩:=hop
    obtain ⟨a,b,rfl⟩:=len2L (show l.length=2 from h2)
    have ia:=hI a (by simp)
    have ib:=hI b (by simp)
    have hw:rngV 12 [a,b]=wideR ⟨#[103,116]⟩:=rfl
    rw [hw]
    refine pcR B7_ok (kp108) Tryz.func108 [.cell 4 89,.tmp 5] (h:=fun KF=>?_)
    unfold B7
    with_reducible repeat' first|(refine nx ?_;intros)|apply And.intro|intro vr|(refine ny ?_;intros;simp only [go_sem,kp108,geff,hb',fnd_12,und81,und9,keyT_s,zeroT79,Bool.not_true])
    all_goals try exact nd
    all_goals (refine nl ?_;simp only [go_sem])
    exact LeA.refl _
   ·obtain rfl:op=⟨#[103,101]⟩:=hop
    obtain ⟨a,b,rfl⟩:=len2L (show l.length=2 from h2)
    have ia:=hI a (by simp)
    have ib:=hI b (by simp)
    have hw:rngV 13 [a,b]=wideR ⟨#[103,101]⟩:=rfl
    rw [hw]
    refine pcR B7_ok (kp108) Tryz.func108 [.cell 4 89,.tmp 5] (h:=fun KF=>?_)
    unfold B7
    with_reducible repeat' first|(refine nx ?_;intros)|apply And.intro|intro vr|(refine ny ?_;intros;simp only [go_sem,kp108,geff,hb',fnd_13,und81,und9,keyT_s,zeroT79,Bool.not_true])
    all_goals try exact nd
    all_goals (refine nl ?_;simp only [go_sem])
    exact LeA.refl _
   ·obtain rfl:op=⟨#[101,113]⟩:=hop
    obtain ⟨a,b,rfl⟩:=len2L (show l.length=2 from h2)
    have ia:=hI a (by simp)
    have ib:=hI b (by simp)
    have hw:rngV 14 [a,b]=wideR ⟨#[101,113]⟩:=rfl
    rw [hw]
    refine pcR B7_ok (kp108) Tryz.func108 [.cell 4 89,.tmp 5] (h:=fun KF=>?_)
    unfold B7
    with_reducible repeat' first|(refine nx ?_;intros)|apply And.intro|intro vr|(refine ny ?_;intros;simp only [go_sem,kp108,geff,hb',fnd_14,und81,und9,keyT_s,zeroT79,Bool.not_true])
    all_goals try exact nd
    all_goals (refine nl ?_;simp only [go_sem])
    exact LeA.refl _
   ·obtain rfl:op=⟨#[110,101]⟩:=hop
    obtain ⟨a,b,rfl⟩:=len2L (show l.length=2 from h2)
    have ia:=hI a (by simp)
    have ib:=hI b (by simp)
    have hw:rngV 15 [a,b]=wideR ⟨#[110,101]⟩:=rfl
    rw [hw]
    refine pcR B7_ok (kp108) Tryz.func108 [.cell 4 89,.tmp 5] (h:=fun KF=>?_)
    unfold B7
    with_reducible repeat' first|(refine nx ?_;intros)|apply And.intro|intro vr|(refine ny ?_;intros;simp only [go_sem,kp108,geff,hb',fnd_15,und81,und9,keyT_s,zeroT79,Bool.not_true])
    all_goals try exact nd
    all_goals (refine nl ?_;simp only [go_sem])
    exact LeA.refl _
   ·obtain rfl:op=⟨#[97,110,100]⟩:=hop
    obtain ⟨a,b,rfl⟩:=len2L (show l.length=2 from h2)
    have ia:=hI a (by simp)
    have ib:=hI b (by simp)
    have hw:rngV 16 [a,b]=wideR ⟨#[97,110,100]⟩:=rfl
    rw [hw]
    refine pcR B7_ok (kp108) Tryz.func108 [.cell 4 89,.tmp 5] (h:=fun KF=>?_)
    unfold B7
    with_reducible repeat' first|(refine nx ?_;intros)|apply And.intro|intro vr|(refine ny ?_;intros;simp only [go_sem,kp108,geff,hb',fnd_16,und81,und9,keyT_s,zeroT79,Bool.not_true])
    all_goals try exact nd
    all_goals (refine nl ?_;simp only [go_sem])
    exact LeA.refl _
   ·obtain rfl:op=⟨#[111,114]⟩:=hop
    obtain ⟨a,b,rfl⟩:=len2L (show l.length=2 from h2)
    have ia:=hI a (by simp)
    have ib:=hI b (by simp)
    have hw:rngV 17 [a,b]=wideR ⟨#[111,114]⟩:=rfl
    rw [hw]
    refine pcR B7_ok (kp108) Tryz.func108 [.cell 4 89,.tmp 5] (h:=fun KF=>?_)
    unfold B7
    with_reducible repeat' first|(refine nx ?_;intros)|apply And.intro|intro vr|(refine ny ?_;intros;simp only [go_sem,kp108,geff,hb',fnd_17,und81,und9,keyT_s,zeroT79,Bool.not_true])
    all_goals try exact nd
    all_goals (refine nl ?_;simp only [go_sem])
    exact LeA.refl _
   ·obtain rfl:op=⟨#[120,111,114]⟩:=hop
    obtain ⟨a,b,rfl⟩:=len2L (show l.length=2 from h2)
    have ia:=hI a (by simp)
    have ib:=hI b (by simp)
    have hw:rngV 18 [a,b]=wideR ⟨#[120,111,114]⟩:=rfl
    rw [hw]
    refine pcR B7_ok (kp108) Tryz.func108 [.cell 4 89,.tmp 5] (h:=fun KF=>?_)
    unfold B7
    with_reducible repeat' first|(refine nx ?_;intros)|apply And.intro|intro vr|(refine ny ?_;intros;simp only [go_sem,kp108,geff,hb',fnd_18,und81,und9,keyT_s,zeroT79,Bool.not_true])
    all_goals try exact nd
    all_goals (refine nl ?_;simp only [go_sem])
    exact LeA.refl _
   ·obtain rfl:op=⟨#[110,111,116]⟩:=hop
    obtain ⟨a,rfl⟩:=len1L (show l.length=1 from h2)
    have ia:=hI a (by simp)
    have hw:rngV 19 [a]=wideR ⟨#[110,111,116]⟩:=rfl
    rw [hw]
    refine pcR B7_ok (kp108) Tryz.func108 [.cell 4 89,.tmp 5] (h:=fun KF=>?_)
    unfold B7
    with_reducible repeat' first|(refine nx ?_;intros)|apply And.intro|intro vr|(refine ny ?_;intros;simp only [go_sem,kp108,geff,hb',fnd_19,und81,und9,keyT_s,zeroT79,Bool.not_true])
    all_goals try exact nd
    all_goals (refine nl ?_;simp only [go_sem])
    exact LeA.refl _
   ·obtain rfl:op=⟨#[115,101,108,101,99,116]⟩:=hop
    obtain ⟨a,b,c,rfl⟩:=len3L (show l.length=3 from h2)
    have ia:=hI a (by simp)
    have ib:=hI b (by simp)
    have ic:=hI c (by simp)
    refine pcR B7_ok (kp108) Tryz.func108 [.cell 4 89,.tmp 5] (h:=fun KF=>?_)
    unfold B7
    with_reducible repeat' first|(refine nx ?_;intros)|apply And.intro|intro vr|(refine ny ?_;intros;simp only [go_sem,kp108,geff,hb',fnd_20,und81,und9,keyT_s,zeroT79,Bool.not_true])
    all_goals try exact nd
    all_goals (refine nl ?_;simp only [go_sem])
    exact LeA.refl _
   ·obtain rfl:op=⟨#[116,111,105,110,116]⟩:=hop
    obtain ⟨a,rfl⟩:=len1L (show l.length=1 from h2)
    have ia:=hI a (by simp)
    refine pcR B7_ok (kp108) Tryz.func108 [.cell 4 89,.tmp 5] (h:=fun KF=>?_)
    unfold B7
    with_reducible repeat' first|(refine nx ?_;intros)|apply And.intro|intro vr|(refine ny ?_;intros;simp only [go_sem,kp108,geff,hb',fnd_21,und81,und9,keyT_s,zeroT79,Bool.not_true])
    all_goals try exact nd
    all_goals (refine nl ?_;simp only [go_sem])
    exact LeA.refl _
noncomputable def con108:PCon Tryz.prog where
  f:=108
  c:=fun
   |[.lit (.string p),xl]=>match rngsOf xl with|some l=>some (l.length≤1000000,primV p l)|_=>none
   |_=>none
  ok:=by
   intro args p r hc hp
   split at hc
   ·split at hc
    ·rename_i hl
     cases hc
     exact PC.weak (prim_pc hp) ⟨LeA.refl _,rngsOf_le hl,trivial⟩
    ·cases hc
   ·cases hc
  fk:=fk108
theorem con108_f:con108.f=108:=rfl
theorem con108_c {p:ByteArray} {xl:AV}:con108.c [.lit (.string p),xl]=match rngsOf xl with|some l=>some (l.length≤1000000,primV p l)|_=>none:=rfl
end Go.Proofs.YtnlimcijgpaegaaGreat

namespace Go.Proofs.YtnlimcijgpaegaaGreat
open Go Go.Fw Bm
set_option maxRecDepth 20000
theorem intsR_lo:intsR.lo= -2147483648:=rfl
theorem intsR_hi:intsR.hi=2147483647:=rfl
theorem machR_lo:machR.lo= -1099511627776:=rfl
theorem machR_hi:machR.hi=1099511627776:=rfl
theorem boolR_lo:boolR.lo=0:=rfl
theorem boolR_hi:boolR.hi=1:=rfl
theorem nilR_lo:nilR.lo=0:=rfl
theorem nilR_hi:nilR.hi=0:=rfl
attribute [go_sem] intsR_lo intsR_hi machR_lo machR_hi boolR_lo boolR_hi nilR_lo nilR_hi
end Go.Proofs.YtnlimcijgpaegaaGreat

namespace Go.Proofs.YtnlimcijgpaegaaGreat
open Go Go.Fw Bm
set_option maxRecDepth 20000
abbrev oVb6_0:List (Nat×Nat):=[(0,1),(1,1),(2,1),(3,1),(4,1),(5,1),(6,1),(7,1),(8,1),(9,0)]
attribute [go_sem] oVb6_0
theorem rgsV_set (l:List Rng) (i:Nat) (a b:Int):(rgsV l).set i (.agg [.lit (.int .i64 a),.lit (.int .i64 b)])=rgsV (l.set i ⟨a,b⟩):=by simp [rgsV,rgV]
theorem rgsV_nil {l:List Rng} (h:rgsV l=[]):l=[]:=by cases l with
  |nil=>rfl
  |cons x l=>cases h
attribute [go_sem] rgsV_set
theorem rclone_pc {l:List Rng} (hl:l.length≤1000000):PC Tryz.prog 63 [.sl false 2 (rgsV l)] (.sl false 2 (rgsV l)):=by
  refine pcR B6_ok (kp63) Tryz.func63 [.tmp 2] (h:=fun KF=>?_)
  unfold B6
  with_reducible repeat' first|(refine nx ?_;intros)|apply And.intro|intro vr|(refine ny ?_;intros;simp only [go_sem,kp63,geff])
  all_goals try exact nd
  ·skip
   all_goals (refine nl ?_;simp only [go_sem])
   rw [show rgsV l=[] from by assumption]
   exact LeA.nil false 2
  ·skip
   all_goals (refine nl ?_;simp only [go_sem])
   exact LeA.refl _
noncomputable def con63:PCon Tryz.prog where
  f:=63
  c:=fun
   |[xl]=>match rngsOf xl with|some l=>some (l.length≤1000000,.sl false 2 (rgsV l))|_=>none
   |_=>none
  ok:=by
   intro args p r hc hp
   split at hc
   ·split at hc
    ·rename_i hl
     cases hc
     exact PC.weak (rclone_pc hp) ⟨rngsOf_le hl,trivial⟩
    ·cases hc
   ·cases hc
  fk:=fk63
theorem con63_f:con63.f=63:=rfl
theorem con63_c {xl:AV}:con63.c [xl]=match rngsOf xl with|some l=>some (l.length≤1000000,.sl false 2 (rgsV l))|_=>none:=rfl
theorem rclone_ec {σ:List AObj} {l:List Rng} {k:AV→List AObj→Prop} (hl:l.length≤1000000) (hk:k (.arr σ.length 0) (σ++[.arr 89 2 (rgsV l) 0 false])):EC Tryz.prog 63 [.sl false 2 (rgsV l)] σ k:=by
  refine EC.nilArr 89 2 ?_
  refine ecR B6_ok (kp63) Tryz.func63 [.tmp 2] (h:=fun KF=>?_)
  unfold B6
  with_reducible repeat' first|(refine nx ?_;intros)|apply And.intro|intro vr|(refine ny ?_;intros;simp only [go_sem,kp63,geff])
  all_goals try exact nd
  all_goals (refine nl ?_;simp only [go_sem])
  ·exact .inr (by simp_all)
  ·exact .inl hk
noncomputable def ecn63:ECon Tryz.prog where
  f:=63
  c:=fun args σ k=>match args with
   |[xl]=>match rngsOf xl with|some l=>l.length≤1000000∧k (.arr σ.length 0) (σ++[.arr 89 2 (rgsV l) 0 false])|_=>False
   |_=>False
  ok:=by
   intro args σ k h
   split at h
   ·split at h
    ·rename_i hl
     exact EC.weak (rclone_ec h.1 h.2) (LeRL.cons (rngsOf_leR hl) (LeRL.nil))
    ·exact h.elim
   ·exact h.elim
  fk:=fk63
theorem ecn63_f:ecn63.f=63:=rfl
theorem ecn63_c {xl:AV} {σ:List AObj} {k:AV→List AObj→Prop}:ecn63.c [xl] σ k=match rngsOf xl with|some l=>l.length≤1000000∧k (.arr σ.length 0) (σ++[.arr 89 2 (rgsV l) 0 false])|_=>False:=rfl
attribute [go_sem] con63_f con63_c ecn63_f ecn63_c
noncomputable def B9:Env:=envJ (P:=Tryz.prog) jkR zer (fun _=>false) (fun _=>false) [] [ecn63]
theorem B9_ok:EnvOk Tryz.prog B9:=envJOk zer_ok
theorem with_pc {l:List Rng} {i:Int} {r:Rng} (h:l.length≤1000000∧0≤i∧i<l.length):PC Tryz.prog 67 [.sl false 2 (rgsV l),.lit (.int .i64 i),rgV r] (.sl false 2 (rgsV (withR l i r))):=by
  obtain ⟨hl,h0,h1⟩:=h
  obtain ⟨r,r'⟩:=r
  obtain ⟨n,rfl⟩:∃ n:Nat,i=n:=⟨i.toNat,by omega⟩
  unfold withR
  simp only [rgV_mk]
  refine pcR B9_ok (kp67) Tryz.func67 [.tmp 6] (h:=fun KF=>?_)
  unfold B9
  with_reducible repeat' first|(refine nx ?_;intros)|apply And.intro|intro vr|(refine ny ?_;intros;simp only [go_sem,kp67,geff,Int.toNat_natCast])
  all_goals try exact nd
  all_goals (refine nl ?_;simp only [go_sem])
  exact LeA.refl _
noncomputable def con67:PCon Tryz.prog where
  f:=67
  c:=fun
   |[xl,.lit (.int .i64 i),xr]=>match rngsOf xl,rngOf xr with|some l,some r=>some ((l.length≤1000000∧0≤i∧i<l.length),.sl false 2 (rgsV (withR l i r)))|_,_=>none
   |_=>none
  ok:=by
   intro args p r hc hp
   split at hc
   ·split at hc
    ·rename_i hl hr
     cases hc
     exact PC.weak (with_pc hp) ⟨rngsOf_le hl,LeA.refl _,rngOf_le hr,trivial⟩
    ·cases hc
   ·cases hc
  fk:=fk67
theorem con67_f:con67.f=67:=rfl
theorem con67_c {xl:AV} {i:Int} {xr:AV}:con67.c [xl,.lit (.int .i64 i),xr]=match rngsOf xl,rngOf xr with|some l,some r=>some ((l.length≤1000000∧0≤i∧i<l.length),.sl false 2 (rgsV (withR l i r)))|_,_=>none:=rfl
noncomputable def B10:Env:=envJ (P:=Tryz.prog) jkR zer (fun _=>false) (fun _=>false) [con39,con43,con40] []
theorem B10_ok:EnvOk Tryz.prog B10:=envJOk zer_ok
def wid3:List Rng:=[⟨0,1⟩,⟨-1,1⟩,⟨-2147483648,2147483647⟩]
theorem wid3_len:wid3.length=3:=rfl
def widF (r:Rng):List Rng→Rng
  |[]=>machR
  |x::l=>if r.within x then x else widF r l
theorem widF_eq (r:Rng):widF r wid3=widenR r:=rfl
set_option maxHeartbeats 4000000 in
theorem widened_pc {r:Rng}:PC Tryz.prog 143 [rgV r] (rgV (widenR r)):=by
  have h3:([.agg [.lit (.int .i64 0),.lit (.int .i64 1)],.agg [.lit (.int .i64 (-1)),.lit (.int .i64 1)],.agg [.lit (.int .i64 (-2147483648)),.lit (.int .i64 2147483647)]]:List AV)=rgsV wid3:=rfl
  rw [←widF_eq]
  generalize hR:widF r wid3=R
  obtain ⟨r,r'⟩:=r
  simp only [rgV_mk]
  refine pcR B10_ok (kp143) Tryz.func143 [.cell 2 89] (h:=fun KF=>?_)
  unfold B10
  with_reducible repeat' first|(refine nx ?_;intros)|apply And.intro|intro vr|(refine ny ?_;intros;simp only [go_sem,kp143,geff,h3])
  all_goals try exact nd
  refine t_loopF (ι:={i:Nat // i≤3∧widF ⟨r,r'⟩ (wid3.drop i)=R}) (fun i=>[(10,.lit (.int .i64 i.1))]) (fun i=>[.box 89 [.lit (.int .i64 r),.lit (.int .i64 r')],.box 89 [.lit (.int .i64 0),.lit (.int .i64 0)]]) (fun i=>3 - i.1) ⟨0,by omega,hR⟩ ?_ ?_
  ·exact lf
  rintro ⟨i,hi,hF⟩ K0
  rcases Nat.lt_or_ge i 3 with hc|hc
  ·have g3:decide ((i:Int)<(wid3.length:Int))=true:=decide_eq_true (by rw [wid3_len];omega)
   rw [drop_getR (show i<wid3.length by rw [wid3_len];exact hc),widF] at hF
   have hwl:=wid3_len
   generalize hx:wid3.getD i nilR=x at hF
   obtain ⟨x,x'⟩:=x
   by_cases hw:Rng.within ⟨r,r'⟩ ⟨x,x'⟩
   ·rw [if_pos hw] at hF
    have hd:=decide_eq_true hw
    with_reducible repeat' first|(refine nx ?_;intros)|apply And.intro|intro vr|(refine ny ?_;intros;simp only [go_sem,kp143,geff,g3,hx,hd,Int.toNat_natCast,yes])
    all_goals try exact nd
    all_goals (refine nl ?_;simp only [go_sem])
    exact LeA.of_eq (by rw [←hF])
   ·rw [if_neg hw] at hF
    have hd:=decide_eq_false hw
    with_reducible repeat' first|(refine nx ?_;intros)|apply And.intro|intro vr|(refine ny ?_;intros;simp only [go_sem,kp143,geff,g3,hx,hd,Int.toNat_natCast,yes])
    all_goals try exact nd
    refine ⟨⟨i+1,by omega,hF⟩,by first|(simp only;omega)|omega,?_⟩
    try simp only [updL_nil,updL_cons,delF_top,delF_upd,Nat.reduceEqDiff,reduceIte]
    refine le_backM (by first|rfl|(simp only [go_sem];try rfl)) (by first|exact Nat.zero_le _|simp) (by first|rfl|simp [lowO,low_lit,low_sl,low_ref,low_arr,low_sub,low_mp]) ?_ ?_
    ·repeat' (first|exact low_top|(refine low_upd rfl ?_))
    exact lq
  ·have g3:decide ((i:Int)<(wid3.length:Int))=false:=decide_eq_false (by rw [wid3_len];omega)
   rw [List.drop_eq_nil_of_le (show wid3.length≤i by rw [wid3_len];omega),widF] at hF
   subst hF
   with_reducible repeat' first|(refine nx ?_;intros)|apply And.intro|intro vr|(refine ny ?_;intros;simp only [go_sem,kp143,geff,g3])
   all_goals try exact nd
   all_goals (refine nl ?_;simp only [go_sem])
   exact LeA.refl _
noncomputable def con143:PCon Tryz.prog where
  f:=143
  c:=fun
   |[xr]=>match rngOf xr with|some r=>some (True,rgV (widenR r))|_=>none
   |_=>none
  ok:=by
   intro args p r hc hp
   split at hc
   ·split at hc
    ·rename_i hr
     cases hc
     exact PC.weak widened_pc ⟨rngOf_le hr,trivial⟩
    ·cases hc
   ·cases hc
  fk:=fk143
theorem con143_f:con143.f=143:=rfl
theorem con143_c {xr:AV}:con143.c [xr]=match rngOf xr with|some r=>some (True,rgV (widenR r))|_=>none:=rfl
attribute [go_sem] con67_f con67_c con143_f con143_c
theorem eq_dropR {s t:List Rng} {i:Nat} (hl:s.length=t.length) (h:i<s.length):decide (s.drop i=t.drop i)=(decide (s.getD i nilR=t.getD i nilR)&&decide (s.drop (i+1)=t.drop (i+1))):=by
  rw [drop_getR h,drop_getR (show i<t.length by omega)]
  rw [Bool.eq_iff_iff];simp
theorem dec_rng {a b c d:Int}:decide ((⟨a,b⟩:Rng)=⟨c,d⟩)=(a==c&&b==d):=by
  rw [Bool.eq_iff_iff];simp [Rng.mk.injEq]
set_option maxHeartbeats 4000000 in
theorem requal_pc {s t:List Rng} (h:s.length≤1000000∧s.length=t.length):PC Tryz.prog 106 [.sl false 2 (rgsV s),.sl false 2 (rgsV t)] (.lit (.bool (decide (s=t)))):=by
  obtain ⟨hs,hl⟩:=h
  generalize hR:decide (s=t)=R
  have h1:((s.length:Int) !=(t.length:Int))=false:=by simp [hl]
  refine pcR B6_ok (kp106) Tryz.func106 [.tmp 4] (h:=fun KF=>?_)
  unfold B6
  with_reducible repeat' first|(refine nx ?_;intros)|apply And.intro|intro vr|((first|refine ny ?_|refine t_dwh (h:=fun K KL=>?_));intros;simp only [go_sem,kp106,geff,h1])
  all_goals try exact nd
  refine t_loopF (ι:={i:Nat // i≤s.length∧decide (s.drop i=t.drop i)=R}) (fun i=>[(13,.lit (.int .i64 i.1))]) (fun i=>[]) (fun i=>s.length - i.1) ⟨0,by omega,hR⟩ ?_ ?_
  ·exact lf
  rintro ⟨i,hi,hF⟩ K0
  rcases Nat.lt_or_ge i s.length with hc|hc
  ·have g3:decide ((i:Int)<(s.length:Int))=true:=decide_eq_true (by omega)
   rw [eq_dropR hl hc] at hF
   generalize hx:s.getD i nilR=x at hF
   generalize hy:t.getD i nilR=y at hF
   obtain ⟨x,x'⟩:=x
   obtain ⟨y,y'⟩:=y
   rw [dec_rng] at hF
   cases hb:(x==y&&x'==y') with
   |true=>
    rw [hb,Bool.true_and] at hF
    with_reducible repeat' first|(refine nx ?_;intros)|apply And.intro|intro vr|((first|refine ny ?_|refine t_dwh (h:=fun K KL=>?_));intros;simp only [go_sem,kp106,geff,g3,hx,hy,hb,Int.toNat_natCast,yes,Bool.not_true])
    all_goals try exact nd
    exact ⟨⟨i+1,by omega,hF⟩,wf,lf⟩
   |false=>
    rw [hb,Bool.false_and] at hF
    with_reducible repeat' first|(refine nx ?_;intros)|apply And.intro|intro vr|((first|refine ny ?_|refine t_dwh (h:=fun K KL=>?_));intros;simp only [go_sem,kp106,geff,g3,hx,hy,hb,Int.toNat_natCast,yes,Bool.not_false])
    all_goals try exact nd
    all_goals (refine nl ?_;simp only [go_sem])
    exact LeA.of_eq (by rw [←hF])
  ·have g3:decide ((i:Int)<(s.length:Int))=false:=decide_eq_false (by omega)
   rw [List.drop_eq_nil_of_le hc,List.drop_eq_nil_of_le (show t.length≤i by omega)] at hF
   with_reducible repeat' first|(refine nx ?_;intros)|apply And.intro|intro vr|((first|refine ny ?_|refine t_dwh (h:=fun K KL=>?_));intros;simp only [go_sem,kp106,geff,g3])
   all_goals try exact nd
   all_goals (refine nl ?_;simp only [go_sem])
   exact LeA.of_eq (by rw [←hF];rfl)
noncomputable def con106:PCon Tryz.prog where
  f:=106
  c:=fun
   |[xs,xt]=>match rngsOf xs,rngsOf xt with|some s,some t=>some ((s.length≤1000000∧s.length=t.length),.lit (.bool (decide (s=t))))|_,_=>none
   |_=>none
  ok:=by
   intro args p r hc hp
   split at hc
   ·split at hc
    ·rename_i hs ht
     cases hc
     exact PC.weak (requal_pc hp) ⟨rngsOf_le hs,rngsOf_le ht,trivial⟩
    ·cases hc
   ·cases hc
  fk:=fk106
theorem con106_f:con106.f=106:=rfl
theorem con106_c {xs:AV} {xt:AV}:con106.c [xs,xt]=match rngsOf xs,rngsOf xt with|some s,some t=>some ((s.length≤1000000∧s.length=t.length),.lit (.bool (decide (s=t))))|_,_=>none:=rfl
noncomputable def B11:Env:=envJ (P:=Tryz.prog) jkR zer (fun _=>false) (fun _=>false) [con142] []
theorem B11_ok:EnvOk Tryz.prog B11:=envJOk zer_ok
theorem hullAt_ec {s t:List Rng} {i:Int} {ex:List AObj} {k:AV→List AObj→Prop} (h0:0≤i) (h1:i<s.length) (h2:i<t.length)
    (hk:k (rgV (hullR (gR s i) (gR t i))) (.box 53 [.sl false 2 (rgsV s)]:: .box 53 [.sl false 2 (rgsV t)]::ex)):
    EC Tryz.prog 141 [.lit (.int .i64 i),.ref 0 0,.ref 1 0] (.box 53 [.sl false 2 (rgsV s)]:: .box 53 [.sl false 2 (rgsV t)]::ex) k:=by
  refine ec_fin fun hbd=>?_
  obtain ⟨n,rfl⟩:∃ n:Nat,i=n:=⟨i.toNat,by omega⟩
  simp only [gR,Int.toNat_natCast] at hk
  refine ecR B11_ok (kp141) Tryz.func141 [.cell 4 89] (h:=fun KF=>?_)
  unfold B11
  repeat' first|(with_reducible first|(refine nx ?_;intros)|apply And.intro|intro vr)|exact kpd|((with_reducible first|refine ny ?_|refine t_kLF ?_ ?_|refine t_dO 1 (fun i=>i==0||i==1) oVb6_0 fun K=>?_);intros;simp only [go_sem,kp141,geff,Int.toNat_natCast,yes])
  all_goals try exact nd
  all_goals (refine nl ?_;simp only [go_sem,finE])
  refine ⟨_,_,rfl,LeA.refl _,?_,Eq.mp (congrArg (k _) (by simp)) hk⟩
  simpa using hbd
end Go.Proofs.YtnlimcijgpaegaaGreat

namespace Go.Proofs.YtnlimcijgpaegaaGreat
open Go Go.Fw Bm
set_option maxRecDepth 20000
theorem mulBd2 {d a:Int} (hd: -1048576≤d∧d≤1048576) (ha: -1099511627776≤a∧a≤1099511627776): -1152921504606846976≤d*a∧d*a≤1152921504606846976:=by
  have h1:(d+1048576)*(a+1099511627776)≥0:=Int.mul_nonneg (by omega) (by omega)
  have h2:(1048576 - d)*(a+1099511627776)≥0:=Int.mul_nonneg (by omega) (by omega)
  have h3:(d+1048576)*(1099511627776 - a)≥0:=Int.mul_nonneg (by omega) (by omega)
  have h4:(1048576 - d)*(1099511627776 - a)≥0:=Int.mul_nonneg (by omega) (by omega)
  rw [Int.add_mul,Int.mul_add,Int.mul_add] at h1
  rw [Int.sub_mul,Int.mul_add,Int.mul_add] at h2
  rw [Int.add_mul,Int.mul_sub,Int.mul_sub] at h3
  rw [Int.sub_mul,Int.mul_sub,Int.mul_sub] at h4
  omega
theorem slK_l2 {b:Bool} {u v:Int}:slK .i64 (.sl b 1 [.lit (.int .i64 u),.lit (.int .i64 v)])=some [u,v]:=slK_sl (l:=[u,v])
noncomputable def C0:Env:=envJ (P:=Tryz.prog) jkR zer (fun _=>false) (fun _=>false) [con69] []
theorem C0_ok:EnvOk Tryz.prog C0:=envJOk zer_ok
structure SumOk (x:Ins) (s:List Rng):Prop where
  len:s.length≤1000000
  b:0≤x.b∧x.b<s.length
  c:0≤x.c∧x.c<s.length
  d: -1048576≤x.d∧x.d≤1048576
  rb:OkR (gR s x.b)
  rc:OkR (gR s x.c)
theorem okR_bd {r:Rng} (h:OkR r):(-1099511627776≤r.lo∧r.lo≤1099511627776)∧ -1099511627776≤r.hi∧r.hi≤1099511627776:=by
  obtain ⟨h1,h2,h3⟩:=h
  simp only [machR,maxC] at h2 h3
  omega
set_option maxHeartbeats 4000000 in
theorem sum_pc {x:Ins} {s:List Rng} (h:SumOk x s):PC Tryz.prog 38 [opV x,.sl false 2 (rgsV s)] (rgV (sumR x s)):=by
  obtain ⟨hl,hb,hc,hd,rb,rc⟩:=h
  obtain ⟨k,p,a,b,c,d⟩:=x
  simp only at hb hc hd rb rc
  have eS:sumR ⟨k,p,a,b,c,d⟩ s=⟨(gR s b).lo+mnL [d*(gR s c).lo,d*(gR s c).hi],(gR s b).hi+mxL [d*(gR s c).lo,d*(gR s c).hi]⟩:=rfl
  rw [eS]
  have gb:s.getD b.toNat nilR=gR s b:=rfl
  have gc:s.getD c.toNat nilR=gR s c:=rfl
  have bb:=okR_bd rb
  have bc:=okR_bd rc
  generalize gR s b=B at gb bb
  generalize gR s c=C at gc bc
  obtain ⟨B,B'⟩:=B
  obtain ⟨C,C'⟩:=C
  simp only at bb bc ⊢
  have m1:=mulBd2 hd bc.1
  have m2:=mulBd2 hd bc.2
  generalize hm:d*C=m at m1
  generalize hm':d*C'=m' at m2
  have n1:mnL [m,m']=minI m m':=rfl
  have n2:mxL [m,m']=maxI m m':=rfl
  have n3:=minI_le m m'
  have n4:=maxI_ge m m'
  simp only [opV]
  refine pcR C0_ok (kp38) Tryz.func38 [.cell 4 89] (h:=fun KF=>?_)
  unfold C0
  with_reducible repeat' first|(refine nx ?_;intros)|apply And.intro|intro vr|(refine ny ?_;intros;simp only [go_sem,kp38,geff])
  refine t_drawP ⟨upd (upd (upd (upd topF 6 (.ref 3 0)) 5 (.ref 2 0)) 4 (.ref 1 0)) 2 (.ref 0 0),[.box 56 [.lit (.int .i64 k),.lit (.string p),.lit (.int .i64 a),.lit (.int .i64 b),.lit (.int .i64 c),.lit (.int .i64 d)],.box 89 [.lit (.int .i64 0),.lit (.int .i64 0)],.box 89 [.lit (.int .i64 B),.lit (.int .i64 B')],.box 89 [.lit (.int .i64 C),.lit (.int .i64 C')]]⟩ (fun i=>i==0) [(0,1),(1,1),(2,1),(3,1),(4,1),(5,1),(6,1),(7,1),(8,1),(9,1)] [10,11] [(12,0),(13,0)] (by kernel_rfl) ?_ ?_
  ·skip
   with_reducible repeat' first|(refine nx ?_;intros)|apply And.intro|intro vr|(refine ny ?_;intros;simp only [go_sem,kp38,geff,slK_l2,hm,hm',n1,n2])
   all_goals try exact nd
   all_goals (refine nl ?_;simp only [go_sem])
   exact LeA.refl _
  ·skip
   intro K
   simp only [pickO,pickG,List.getElem?_toArray,List.getElem?_cons_zero,List.getElem?_cons_succ,List.length_cons,List.length_nil,Nat.reduceAdd,lp_some]
   simp only [go_sem,pickO,pickG,geff,kp38,gb,gc]
   repeat' first|(with_reducible first|(refine nx ?_;intros)|apply And.intro|intro vr)|exact kpd|((with_reducible first|refine ny ?_|refine t_kLF ?_ ?_|refine t_kPE ?_ ?_);intros;simp only [go_sem,kp38,geff,gb,gc])
   all_goals try exact nd
   ·exact lg
   ·skip
    refine le_swap2 (τ:=[.box 56 [.lit (.int .i64 k),.lit (.string p),.lit (.int .i64 a),.lit (.int .i64 b),.lit (.int .i64 c),.lit (.int .i64 d)],.box 89 [.lit (.int .i64 0),.lit (.int .i64 0)]]) (by first|exact Nat.zero_le _|simp) (by first|assumption|exact bds_low (by first|rfl|simp [lowO,low_lit,low_sl,low_ref,low_arr,low_sub,low_mp])) rfl rfl ?_ ?_
    ·repeat' (first|exact flatF_top|(refine flatF_upd rfl ?_))
    simp only [renF_upd,renF_top,ren1,renA,renO,sw,List.map_cons,List.map_nil,List.length_cons,List.length_nil,Nat.reduceAdd,Nat.reduceEqDiff,reduceIte,List.cons_append,List.nil_append]
    exact lg
noncomputable def con38:PCon Tryz.prog where
  f:=38
  c:=fun
   |[xx,xs]=>match opOf xx,rngsOf xs with|some x,some s=>some (SumOk x s,rgV (sumR x s))|_,_=>none
   |_=>none
  ok:=by
   intro args p r hc hp
   split at hc
   ·split at hc
    ·rename_i hx hs
     cases hc
     exact PC.weak (sum_pc hp) ⟨opOf_le hx,rngsOf_le hs,trivial⟩
    ·cases hc
   ·cases hc
  fk:=fk38
theorem con38_f:con38.f=38:=rfl
theorem con38_c {xx:AV} {xs:AV}:con38.c [xx,xs]=match opOf xx,rngsOf xs with|some x,some s=>some (SumOk x s,rgV (sumR x s))|_,_=>none:=rfl
attribute [go_sem] con71_f con71_c con38_f con38_c
noncomputable def C1:Env:=envJ (P:=Tryz.prog) jkR zer (fun _=>false) (fun _=>false) [con71] []
theorem C1_ok:EnvOk Tryz.prog C1:=envJOk zer_ok
theorem rgsV_app (l:List Rng) (a b:Int):rgsV l++[.agg [.lit (.int .i64 a),.lit (.int .i64 b)]]=rgsV (l++[⟨a,b⟩]):=by simp [rgsV,rgV]
theorem take_map {M:List Int} {f:Int→Rng} {i:Nat} (h:i<M.length):(M.take i).map f++[f (M.getD i 0)]=(M.take (i+1)).map f:=by
  have e:M.take (i+1)=M.take i++[M.getD i 0]:=by
    rw [List.take_add_one,List.getElem?_eq_getElem h,List.getD_eq_getElem?_getD,List.getElem?_eq_getElem h];rfl
  rw [e,List.map_append];rfl
theorem reads_len (x:Ins):(readsS x).length≤3:=by obtain ⟨k,p,a,b,c,d⟩:=x;rw [reads_red,List.length_map];exact (redS_bd _).1
set_option maxHeartbeats 4000000 in
theorem picked_pc {x:Ins} {s:List Rng} (hl:s.length≤1000000) (hR:∀ n∈readsS x,0≤n∧n<s.length):PC Tryz.prog 42 [opV x,.sl false 2 (rgsV s)] (.sl false 2 (rgsV (pickedR x s))):=by
  have h3:=reads_len x
  unfold pickedR
  generalize hM:readsS x=M at hR h3
  obtain ⟨k,p,a,b,c,d⟩:=x
  simp only [opV]
  refine pcR C1_ok (kp42) Tryz.func42 [.tmp 4] (h:=fun KF=>?_)
  unfold C1
  with_reducible repeat' first|(refine nx ?_;intros)|apply And.intro|intro vr|(refine ny ?_;intros;simp only [go_sem,kp42,geff,hM])
  all_goals try exact nd
  refine t_loopF (ι:={q:Nat×Nat // q.1≤M.length}) (fun i=>[(11,.lit (.int .i64 i.1.1)),(5,.arr 1 i.1.2)]) (fun i=>[.box 56 [.lit (.int .i64 k),.lit (.string p),.lit (.int .i64 a),.lit (.int .i64 b),.lit (.int .i64 c),.lit (.int .i64 d)],.arr 89 2 (rgsV ((M.take i.1.1).map (gR s))) i.1.2 false]) (fun i=>M.length - i.1.1) ⟨(0,0),by simp⟩ ?_ ?_
  ·refine (le_nil 5 89 2 rfl).trans ?_
   exact lf
  rintro ⟨⟨i,v⟩,hi⟩ K0
  simp only at hi
  rcases Nat.lt_or_ge i M.length with hc|hc
  ·have g3:decide ((i:Int)<(M.length:Int))=true:=decide_eq_true (by omega)
   have hm:=hR _ (mem_getD hc)
   have ht:=take_map (f:=gR s) hc
   have hln:(rgsV ((M.take i).map (gR s))).length=i:=by rw [rgsV_length,List.length_map,List.length_take];omega
   generalize hx:M.getD i 0=m at hm ht
   have gm:s.getD m.toNat nilR=gR s m:=rfl
   generalize gR s m=r at gm ht
   obtain ⟨r,r'⟩:=r
   with_reducible repeat' first|(refine nx ?_;intros)|apply And.intro|intro vr|(refine ny ?_;intros;simp only [go_sem,kp42,geff,g3,hx,gm,ht,hln,rgsV_app,ints_length,Int.toNat_natCast,yes])
   all_goals try exact nd
   exact ⟨⟨(i+1,v+1),by simp only;omega⟩,wf,lf⟩
  ·have g3:decide ((i:Int)<(M.length:Int))=false:=decide_eq_false (by omega)
   have e:M.take i=M:=List.take_of_length_le hc
   with_reducible repeat' first|(refine nx ?_;intros)|apply And.intro|intro vr|(refine ny ?_;intros;simp only [go_sem,kp42,geff,g3,e,ints_length])
   all_goals try exact nd
   all_goals (refine nl ?_;simp only [go_sem])
   exact LeA.refl _
theorem picked_pc2 {x:Ins} {s:List Rng} (h:s.length≤1000000∧∀ n∈readsS x,0≤n∧n<s.length):PC Tryz.prog 42 [opV x,.sl false 2 (rgsV s)] (.sl false 2 (rgsV (pickedR x s))):=picked_pc h.1 h.2
noncomputable def con42:PCon Tryz.prog where
  f:=42
  c:=fun
   |[xx,xs]=>match opOf xx,rngsOf xs with|some x,some s=>some ((s.length≤1000000∧∀ n∈readsS x,0≤n∧n<s.length),.sl false 2 (rgsV (pickedR x s)))|_,_=>none
   |_=>none
  ok:=by
   intro args p r hc hp
   split at hc
   ·split at hc
    ·rename_i hx hs
     cases hc
     exact PC.weak (picked_pc2 hp) ⟨opOf_le hx,rngsOf_le hs,trivial⟩
    ·cases hc
   ·cases hc
  fk:=fk42
theorem con42_f:con42.f=42:=rfl
theorem con42_c {xx:AV} {xs:AV}:con42.c [xx,xs]=match opOf xx,rngsOf xs with|some x,some s=>some ((s.length≤1000000∧∀ n∈readsS x,0≤n∧n<s.length),.sl false 2 (rgsV (pickedR x s)))|_,_=>none:=rfl
attribute [go_sem] con42_f con42_c
end Go.Proofs.YtnlimcijgpaegaaGreat

namespace Go.Proofs.YtnlimcijgpaegaaGreat
open Go Go.Fw Bm
set_option maxRecDepth 20000
noncomputable def ecn141:ECon Tryz.prog where
  f:=141
  c:=fun args σ k=>match args,σ with
   |[.lit (.int .i64 i),.ref 0 0,.ref 1 0],.box 53 [.sl false 2 x]:: .box 53 [.sl false 2 y]::ex=>match rngL x,rngL y with
    |some s,some t=>0≤i∧i<s.length∧i<t.length∧k (rgV (hullR (gR s i) (gR t i))) (.box 53 [.sl false 2 x]:: .box 53 [.sl false 2 y]::ex)
    |_,_=>False
   |_,_=>False
  ok:=by
   intro args σ k h
   split at h
   ·split at h
    ·rename_i hx hy
     rw [rngL_inv hx,rngL_inv hy] at h ⊢
     exact hullAt_ec h.1 h.2.1 h.2.2.1 h.2.2.2
    ·exact h.elim
   ·exact h.elim
  fk:=fk141
theorem ecn141_f:ecn141.f=141:=rfl
theorem ecn141_c {i:Int} {x y:List AV} {ex:List AObj} {k:AV→List AObj→Prop}:ecn141.c [.lit (.int .i64 i),.ref 0 0,.ref 1 0] (.box 53 [.sl false 2 x]:: .box 53 [.sl false 2 y]::ex) k=match rngL x,rngL y with
      |some s,some t=>0≤i∧i<s.length∧i<t.length∧k (rgV (hullR (gR s i) (gR t i))) (.box 53 [.sl false 2 x]:: .box 53 [.sl false 2 y]::ex)
      |_,_=>False:=rfl
attribute [go_sem] ecn141_f ecn141_c rngL_rgs
noncomputable def C2:Env:=envJ (P:=Tryz.prog) jkR zer (fun _=>false) (fun _=>false) [] [ecn141]
theorem C2_ok:EnvOk Tryz.prog C2:=envJOk zer_ok
theorem rz_rgs (n:Nat):List.replicate n (AV.agg [.lit (.int .i64 0),.lit (.int .i64 0)])=rgsV (List.replicate n nilR):=by simp [rgsV,rgV,nilR]
theorem set_zip {Z:List Rng} {i n:Nat} {x:Rng} (hZ:Z.length=n) (hi:i<n) (hx:Z.getD i nilR=x):(Z.take i++List.replicate (n - i) nilR).set i x=Z.take (i+1)++List.replicate (n - (i+1)) nilR:=by
  have hl:(Z.take i).length=i:=by rw [List.length_take];omega
  rw [List.set_append_right _ _ (by omega),hl,Nat.sub_self,show n - i=(n - (i+1))+1 by omega,List.replicate_succ,List.set_cons_zero,List.take_add_one,List.getElem?_eq_getElem (by omega)]
  have:Z[i]=x:=by rw [←hx,List.getD_eq_getElem?_getD,List.getElem?_eq_getElem (by omega)];rfl
  rw [this];simp
theorem set_mix {G H:List Rng} {i:Nat} {x:Rng} (hl:G.length=H.length) (hi:i<G.length) (hx:G.getD i nilR=x):(G.take i++H.drop i).set i x=G.take (i+1)++H.drop (i+1):=by
  have hlt:(G.take i).length=i:=by rw [List.length_take];omega
  rw [List.set_append_right _ _ (by omega),hlt,Nat.sub_self,List.drop_eq_getElem_cons (show i<H.length by omega),List.set_cons_zero,List.take_add_one,List.getElem?_eq_getElem (by omega)]
  have:G[i]=x:=by rw [←hx,List.getD_eq_getElem?_getD,List.getElem?_eq_getElem (by omega)];rfl
  rw [this];simp
theorem keep_mix {G H:List Rng} {i:Nat} (hl:G.length=H.length) (hi:i<G.length) (hx:G.getD i nilR=H.getD i nilR):G.take i++H.drop i=G.take (i+1)++H.drop (i+1):=by
  rw [List.drop_eq_getElem_cons (show i<H.length by omega),List.take_add_one,List.getElem?_eq_getElem (by omega)]
  have e1:G.getD i nilR=G[i]:=by rw [List.getD_eq_getElem?_getD,List.getElem?_eq_getElem (by omega)];rfl
  have e2:H.getD i nilR=H[i]:=by rw [List.getD_eq_getElem?_getD,List.getElem?_eq_getElem (by omega)];rfl
  rw [e1,e2] at hx
  rw [hx];simp
def orV:Option (List Rng)→AV
  |some l=> .sl false 2 (rgsV l)
  |none=> .lit (.slice none 0 0)
set_option maxHeartbeats 4000000 in
theorem hulls_pc {s t:List Rng} (hs:0<s.length∧s.length≤1000000) (hl:s.length=t.length):PC Tryz.prog 103 [.sl false 2 (rgsV s),.sl false 2 (rgsV t)] (.sl false 2 (rgsV (List.zipWith hullR s t))):=by
  have hsn:rgsV s≠[]:=fun h=>by have:=rgsV_nil h;subst this;exact absurd hs.1 (by simp)
  have htn:rgsV t≠[]:=fun h=>by have:=rgsV_nil h;subst this;simp only [List.length_nil] at hl;omega
  generalize hZ:List.zipWith hullR s t=Z
  have hZl:Z.length=s.length:=by rw [←hZ,List.length_zipWith];omega
  refine pcR C2_ok (kp103) Tryz.func103 [.tmp 4] (h:=fun KF=>?_)
  unfold C2
  with_reducible repeat' first|(refine nx ?_;intros)|apply And.intro|intro vr|(refine ny ?_;intros;simp only [go_sem,kp103,geff,rz_rgs,Int.toNat_natCast,List.length_replicate])
  all_goals try exact absurd vr hsn
  all_goals try exact absurd vr htn
  all_goals try exact nd
  refine t_loopF (ι:={i:Nat // i≤s.length}) (fun i=>[(22,.lit (.int .i64 i.1))]) (fun i=>[.box 53 [.sl false 2 (rgsV s)],.box 53 [.sl false 2 (rgsV t)],.arr 89 2 (rgsV (Z.take i.1++List.replicate (s.length - i.1) nilR)) 0 false]) (fun i=>s.length - i.1) ⟨0,by omega⟩ ?_ ?_
  ·exact lf
  rintro ⟨i,hi⟩ K0
  have hln:(rgsV (Z.take i++List.replicate (s.length - i) nilR)).length=s.length:=by rw [rgsV_length,List.length_append,List.length_take,List.length_replicate];omega
  rcases Nat.lt_or_ge i s.length with hc|hc
  ·have g3:decide ((i:Int)<(s.length:Int))=true:=decide_eq_true (by omega)
   have hx:Z.getD i nilR=hullR (gR s i) (gR t i):=by rw [←hZ,getD_zip hc (by omega)];rfl
   have hst:=set_zip hZl hc hx
   generalize hh:hullR (gR s i) (gR t i)=H at hx hst
   obtain ⟨H,H'⟩:=H
   with_reducible repeat' first|(refine nx ?_;intros)|apply And.intro|intro vr|(refine ny ?_;intros;simp only [go_sem,kp103,geff,g3,hh,hst,hln,Int.toNat_natCast,yes])
   all_goals try exact nd
   exact ⟨⟨i+1,by omega⟩,wf,lf⟩
  ·have g3:decide ((i:Int)<(s.length:Int))=false:=decide_eq_false (by omega)
   have e:Z.take i++List.replicate (s.length - i) nilR=Z:=by rw [List.take_of_length_le (by omega),show s.length - i=0 by omega];simp
   with_reducible repeat' first|(refine nx ?_;intros)|apply And.intro|intro vr|(refine ny ?_;intros;simp only [go_sem,kp103,geff,g3,e])
   all_goals try exact nd
   all_goals (refine nl ?_;simp only [go_sem])
   exact LeA.refl _
theorem hullsL_pc {t:List Rng}:PC Tryz.prog 103 [.lit (.slice none 0 0),.sl false 2 (rgsV t)] (.sl false 2 (rgsV t)):=by
  refine pcR C2_ok (kp103) Tryz.func103 [.tmp 4] (h:=fun KF=>?_)
  unfold C2
  with_reducible repeat' first|(refine nx ?_;intros)|refine t_br (fun hc=>?_) fun hc=>?_|refine t_bx ?_|apply And.intro|intro vr|((first|refine ny ?_|refine t_dwh (h:=fun K KL=>?_));intros;simp only [go_sem,kp103,geff])
  all_goals try exact nd
  all_goals (refine nl ?_;simp only [go_sem])
  exact LeA.refl _
theorem hullsR_pc {s:List Rng} (hs:0<s.length):PC Tryz.prog 103 [.sl false 2 (rgsV s),.lit (.slice none 0 0)] (.sl false 2 (rgsV s)):=by
  have hsn:rgsV s≠[]:=fun h=>by have:=rgsV_nil h;subst this;exact absurd hs (by simp)
  refine pcR C2_ok (kp103) Tryz.func103 [.tmp 4] (h:=fun KF=>?_)
  unfold C2
  with_reducible repeat' first|(refine nx ?_;intros)|apply And.intro|intro vr|(refine ny ?_;intros;simp only [go_sem,kp103,geff])
  all_goals try exact absurd vr hsn
  all_goals try exact nd
  all_goals (refine nl ?_;simp only [go_sem])
  exact LeA.refl _
noncomputable def con103:PCon Tryz.prog where
  f:=103
  c:=fun
   |[.sl _ 2 x,.sl _ 2 y]=>match rngL x,rngL y with
    |some s,some t=>some ((0<s.length∧s.length≤1000000)∧s.length=t.length,.sl false 2 (rgsV (List.zipWith hullR s t)))
    |_,_=>none
   |[.lit (.slice none 0 0),.sl _ 2 y]=>match rngL y with
    |some t=>some (True,.sl false 2 (rgsV t))
    |_=>none
   |[.sl _ 2 x,.lit (.slice none 0 0)]=>match rngL x with
    |some s=>some (0<s.length,.sl false 2 (rgsV s))
    |_=>none
   |_=>none
  ok:=by
   intro args p r hc hp
   split at hc
   ·split at hc
    ·rename_i hx hy
     cases hc
     rw [rngL_inv hx,rngL_inv hy]
     exact PC.weak (hulls_pc hp.1 hp.2) ⟨LeA.full _ _ _,LeA.full _ _ _,trivial⟩
    ·cases hc
   ·split at hc
    ·rename_i hy
     cases hc
     rw [rngL_inv hy]
     exact PC.weak hullsL_pc ⟨LeA.refl _,LeA.full _ _ _,trivial⟩
    ·cases hc
   ·split at hc
    ·rename_i hx
     cases hc
     rw [rngL_inv hx]
     exact PC.weak (hullsR_pc hp) ⟨LeA.full _ _ _,LeA.refl _,trivial⟩
    ·cases hc
   ·cases hc
  fk:=fk103
theorem con103_f:con103.f=103:=rfl
theorem con103_c {b1 b2:Bool} {x y:List AV}:con103.c [.sl b1 2 x,.sl b2 2 y]=match rngL x,rngL y with
      |some s,some t=>some ((0<s.length∧s.length≤1000000)∧s.length=t.length,.sl false 2 (rgsV (List.zipWith hullR s t)))
      |_,_=>none:=rfl
theorem con103_l {b2:Bool} {y:List AV}:con103.c [.lit (.slice none 0 0),.sl b2 2 y]=match rngL y with
      |some t=>some (True,.sl false 2 (rgsV t))
      |_=>none:=rfl
theorem con103_r {b1:Bool} {x:List AV}:con103.c [.sl b1 2 x,.lit (.slice none 0 0)]=match rngL x with
      |some s=>some (0<s.length,.sl false 2 (rgsV s))
      |_=>none:=rfl
attribute [go_sem] con103_f con103_c con103_l con103_r
noncomputable def C3:Env:=envJ (P:=Tryz.prog) jkR zer (fun _=>false) (fun _=>false) [con103,con143] [ecn63]
theorem C3_ok:EnvOk Tryz.prog C3:=envJOk zer_ok
theorem gr_keep {a b:Rng} (h:hullR a b=a):growR a b=a:=by unfold growR;rw [if_pos h]
theorem gr_new {a b:Rng} (h:hullR a b≠a):growR a b=widenR (hullR a b):=by unfold growR;rw [if_neg h]
set_option maxHeartbeats 8000000 in
theorem grown_pc {s t:List Rng} (hs:0<s.length∧s.length≤1000000) (hl:s.length=t.length):PC Tryz.prog 105 [.sl false 2 (rgsV s),.sl false 2 (rgsV t)] (.sl false 2 (rgsV (grownR s t))):=by
  generalize hG:grownR s t=G
  have hGl:G.length=s.length:=by rw [←hG,grownR,List.length_zipWith];omega
  have hZl:(List.zipWith hullR s t).length=s.length:=by rw [List.length_zipWith];omega
  have hHg:∀ i,i<s.length→(List.zipWith hullR s t).getD i nilR=hullR (s.getD i nilR) (t.getD i nilR):=fun i hi=>getD_zip hi (by omega)
  have hGg:∀ i,i<s.length→G.getD i nilR=growR (s.getD i nilR) (t.getD i nilR):=fun i hi=>by rw [←hG];exact getD_zip hi (by omega)
  generalize hZ:List.zipWith hullR s t=Z at hZl hHg
  have hst':s.length=Z.length:=hZl.symm
  refine pcR C3_ok (kp105) Tryz.func105 [.tmp 4] (h:=fun KF=>?_)
  unfold C3
  with_reducible repeat' first|(refine nx ?_;intros)|apply And.intro|intro vr|((first|refine ny ?_|refine t_dwh (h:=fun K KL=>?_));intros;simp only [go_sem,kp105,geff,hZ,hZl])
  all_goals try exact nd
  refine t_loopF (ι:={i:Nat // i≤s.length}) (fun i=>[(14,.lit (.int .i64 i.1))]) (fun i=>[.arr 89 2 (rgsV (G.take i.1++s.drop i.1)) 0 false]) (fun i=>s.length - i.1) ⟨0,by omega⟩ ?_ ?_
  ·exact lf
  rintro ⟨i,hi⟩ K0
  have hln:(rgsV (G.take i++s.drop i)).length=s.length:=by rw [rgsV_length,List.length_append,List.length_take,List.length_drop];omega
  rcases Nat.lt_or_ge i s.length with hc|hc
  ·have g3:decide ((i:Int)<(s.length:Int))=true:=decide_eq_true (by omega)
   have e1:=hHg i hc
   have e2:=hGg i hc
   have hst:∀ x,G.getD i nilR=x→(G.take i++s.drop i).set i x=G.take (i+1)++s.drop (i+1):=fun x hx=>set_mix (by omega) (by omega) hx
   have hkp:G.getD i nilR=s.getD i nilR→G.take i++s.drop i=G.take (i+1)++s.drop (i+1):=fun hx=>keep_mix (by omega) (by omega) hx
   generalize hh:hullR (s.getD i nilR) (t.getD i nilR)=H at e1
   by_cases hq:H=s.getD i nilR
   ·rw [gr_keep (by rw [hh];exact hq)] at e2
    have hk:=hkp e2
    generalize hy:s.getD i nilR=y at hq
    subst hq
    obtain ⟨H,H'⟩:=H
    with_reducible repeat' first|(refine nx ?_;intros)|apply And.intro|intro vr|((first|refine ny ?_|refine t_dwh (h:=fun K KL=>?_));intros;simp only [go_sem,kp105,geff,g3,hZl,e1,hy,hln,Int.toNat_natCast,yes,beq_self_eq_true,Bool.and_self,Bool.not_true])
    all_goals try exact nd
    rw [hk]
    refine ⟨⟨i+1,by omega⟩,by first|(simp only;omega)|omega,?_⟩
    try simp only [updL_nil,updL_cons,delF_top,delF_upd,Nat.reduceEqDiff,reduceIte]
    refine le_backM (by first|rfl|(simp only [go_sem];try rfl)) (by first|exact Nat.zero_le _|simp) (by first|rfl|simp [lowO,low_lit,low_sl,low_ref,low_arr,low_sub,low_mp]) ?_ ?_
    ·repeat' (first|exact low_top|(refine low_upd rfl ?_))
    exact lq
   ·rw [gr_new (by rw [hh];exact hq),hh] at e2
    have hk:=hst _ e2
    generalize hy:s.getD i nilR=y at hq
    generalize hw:widenR H=w at hk
    obtain ⟨H,H'⟩:=H
    obtain ⟨y,y'⟩:=y
    obtain ⟨w,w'⟩:=w
    have hb:(H==y&&H'==y')=false:=by rw [←dec_rng];exact decide_eq_false hq
    with_reducible repeat' first|(refine nx ?_;intros)|apply And.intro|intro vr|((first|refine ny ?_|refine t_dwh (h:=fun K KL=>?_));intros;simp only [go_sem,kp105,geff,g3,hZl,e1,hy,hb,hw,hk,hln,Int.toNat_natCast,yes,Bool.not_false])
    all_goals try exact nd
    refine ⟨⟨i+1,by omega⟩,by first|(simp only;omega)|omega,?_⟩
    try simp only [updL_nil,updL_cons,delF_top,delF_upd,Nat.reduceEqDiff,reduceIte]
    refine le_backM (by first|rfl|(simp only [go_sem];try rfl)) (by first|exact Nat.zero_le _|simp) (by first|rfl|simp [lowO,low_lit,low_sl,low_ref,low_arr,low_sub,low_mp]) ?_ ?_
    ·repeat' (first|exact low_top|(refine low_upd rfl ?_))
    exact lq
  ·have g3:decide ((i:Int)<(s.length:Int))=false:=decide_eq_false (by omega)
   have e:G.take i++s.drop i=G:=by rw [List.take_of_length_le (by omega),List.drop_eq_nil_of_le hc];simp
   with_reducible repeat' first|(refine nx ?_;intros)|apply And.intro|intro vr|((first|refine ny ?_|refine t_dwh (h:=fun K KL=>?_));intros;simp only [go_sem,kp105,geff,g3,hZl,e])
   all_goals try exact nd
   all_goals (refine nl ?_;simp only [go_sem])
   exact LeA.refl _
theorem grown_pc2 {s t:List Rng} (h:(0<s.length∧s.length≤1000000)∧s.length=t.length):PC Tryz.prog 105 [.sl false 2 (rgsV s),.sl false 2 (rgsV t)] (.sl false 2 (rgsV (grownR s t))):=grown_pc h.1 h.2
noncomputable def con105:PCon Tryz.prog where
  f:=105
  c:=fun
   |[xs,xt]=>match rngsOf xs,rngsOf xt with|some s,some t=>some (((0<s.length∧s.length≤1000000)∧s.length=t.length),.sl false 2 (rgsV (grownR s t)))|_,_=>none
   |_=>none
  ok:=by
   intro args p r hc hp
   split at hc
   ·split at hc
    ·rename_i hs ht
     cases hc
     exact PC.weak (grown_pc2 hp) ⟨rngsOf_le hs,rngsOf_le ht,trivial⟩
    ·cases hc
   ·cases hc
  fk:=fk105
theorem con105_f:con105.f=105:=rfl
theorem con105_c {xs:AV} {xt:AV}:con105.c [xs,xt]=match rngsOf xs,rngsOf xt with|some s,some t=>some (((0<s.length∧s.length≤1000000)∧s.length=t.length),.sl false 2 (rgsV (grownR s t)))|_,_=>none:=rfl
attribute [go_sem] con105_f con105_c
end Go.Proofs.YtnlimcijgpaegaaGreat

namespace Go.Proofs.YtnlimcijgpaegaaGreat
open Go Go.Fw Bm
set_option maxRecDepth 20000
attribute [go_sem] con108_f con108_c
abbrev oVb9_0:List (Nat×Nat):=[(0,1),(1,1),(2,1),(3,1),(4,1),(5,1),(6,1),(7,1),(8,1),(9,1),(10,1),(11,1),(12,1),(13,1),(14,1),(15,1),(16,1),(17,1),(18,1),(19,1),(20,1),(21,1),(22,1),(23,1),(24,1),(25,1),(26,1),(27,0)]
abbrev oVb9_1:List (Nat×Nat):=[(0,1),(1,1),(2,1),(3,1),(4,1),(5,1),(6,1),(7,0)]
attribute [go_sem] oVb9_0 oVb9_1
noncomputable def C4:Env:=envJ (P:=Tryz.prog) jkR zer (fun _=>false) (fun _=>false) [con43,con40,con107,con38,con42,con108,con109] []
theorem C4_ok:EnvOk Tryz.prog C4:=envJOk zer_ok
structure ResOk (x:Ins) (s:List Rng):Prop where
  len:s.length≤1000000
  ok:OkS s.length s
  right:rightS x s.length=true
  wr:x.code=1∨x.code=2∨x.code=3∨x.code=4∨x.code=5∨x.code=6∨x.code=8∨x.code=14
theorem res_1 {p:ByteArray} {a b c d:Int} {s:List Rng}:resultR ⟨1,p,a,b,c,d⟩ s=⟨b,b⟩:=rfl
theorem res_2 {p:ByteArray} {a b c d:Int} {s:List Rng}:resultR ⟨2,p,a,b,c,d⟩ s=heldR (sumR ⟨2,p,a,b,c,d⟩ s) machR:=rfl
theorem res_3 {p:ByteArray} {a b c d:Int} {s:List Rng}:resultR ⟨3,p,a,b,c,d⟩ s=⟨minI (gR s b).lo (gR s c).lo,minI (gR s b).hi (gR s c).hi⟩:=rfl
theorem res_4 {p:ByteArray} {a b c d:Int} {s:List Rng}:resultR ⟨4,p,a,b,c,d⟩ s=⟨maxI (gR s b).lo (gR s c).lo,maxI (gR s b).hi (gR s c).hi⟩:=rfl
theorem res_5 {p:ByteArray} {a b c d:Int} {s:List Rng}:resultR ⟨5,p,a,b,c,d⟩ s=match primR p (pickedR ⟨5,p,a,b,c,d⟩ s) with
    |some r=>r
    |none=>wideR p:=rfl
theorem res_14 {p:ByteArray} {a b c d:Int} {s:List Rng}:resultR ⟨14,p,a,b,c,d⟩ s=heldR (gR s b) intsR:=rfl
theorem res_8 {p:ByteArray} {a b c d:Int} {s:List Rng}:resultR ⟨8,p,a,b,c,d⟩ s=nilR:=rfl
theorem res_6 {p:ByteArray} {a b c d:Int} {s:List Rng}:resultR ⟨6,p,a,b,c,d⟩ s=intsR:=rfl
theorem picked_len {x:Ins} {s:List Rng}:(pickedR x s).length≤1000000:=by have:=reads_len x;rw [pickedR,List.length_map];omega
set_option maxHeartbeats 8000000 in
theorem result_pc {x:Ins} {s:List Rng} (h:ResOk x s):PC Tryz.prog 68 [opV x,.sl false 2 (rgsV s)] (rgV (resultR x s)):=by
  obtain ⟨hl,hok,hr,hw⟩:=h
  have hx:=right_regs hr
  have hrd:∀ n∈readsS x,0≤n∧n<s.length:=fun n hn=>reads_reg hr hn
  have hpl:=picked_len (x:=x) (s:=s)
  obtain ⟨k,p,a,b,c,d⟩:=x
  have gb:s.getD b.toNat nilR=gR s b:=rfl
  have gc:s.getD c.toNat nilR=gR s c:=rfl
  have xb:=hx.b
  have xc:=hx.c
  have xd:=hx.k2
  simp only at xb xc xd hw
  have ob:=hok.at b
  have oc:=hok.at c
  rcases hw with rfl|rfl|rfl|rfl|rfl|rfl|rfl|rfl
  ·rw [res_1]
   simp only [opV]
   refine pcR C4_ok (kp68) Tryz.func68 [.cell 4 89] (h:=fun KF=>?_)
   unfold C4
   repeat' first|(with_reducible first|(refine nx ?_;intros)|apply And.intro|intro vr)|exact kpd|((with_reducible refine t_drawG (id:=11) (fun i=>i==0) 9 [(0,1),(1,1),(2,1),(3,1),(4,1),(5,1),(6,1),(7,1),(8,1),(9,3),(10,0),(11,1)] (by kernel_rfl) (by kernel_rfl) (by kernel_rfl) fun K=>?_);simp only [noA,List.filter_cons,List.filter_nil,Nat.reduceBEq,Bool.not_false,Bool.not_true,reduceIte,if_true,Bool.false_eq_true];simp only [pickO,List.getElem?_toArray,List.getElem?_cons_zero,List.getElem?_cons_succ,Nat.reduceAdd,Nat.reduceSub,fo_some];refine nh ?_;intro KL;simp only [go_sem,kp68,geff])|((with_reducible first|refine ny ?_|refine t_kLF ?_ ?_|refine t_dO 7 (fun i=>i==0) oVb9_0 fun K=>?_|refine t_dO 9 (fun i=>i==0) oVb9_0 fun K=>?_|refine t_dO 16 (fun i=>i==0) oVb9_1 fun K=>?_);intros;simp only [go_sem,kp68,geff])
   all_goals try exact nd
   all_goals (refine nl ?_;simp only [go_sem])
   exact LeA.refl _
  ·have hS:SumOk ⟨2,p,a,b,c,d⟩ s:=⟨hl,xb (by omega),xc (by omega),xd rfl,ob,oc⟩
   rw [res_2]
   simp only [opV]
   refine pcR C4_ok (kp68) Tryz.func68 [.cell 4 89] (h:=fun KF=>?_)
   unfold C4
   repeat' first|(with_reducible first|(refine nx ?_;intros)|apply And.intro|intro vr)|exact kpd|((with_reducible refine t_drawG (id:=11) (fun i=>i==0) 9 [(0,1),(1,1),(2,1),(3,1),(4,1),(5,1),(6,1),(7,1),(8,1),(9,3),(10,0),(11,1)] (by kernel_rfl) (by kernel_rfl) (by kernel_rfl) fun K=>?_);simp only [noA,List.filter_cons,List.filter_nil,Nat.reduceBEq,Bool.not_false,Bool.not_true,reduceIte,if_true,Bool.false_eq_true];simp only [pickO,List.getElem?_toArray,List.getElem?_cons_zero,List.getElem?_cons_succ,Nat.reduceAdd,Nat.reduceSub,fo_some];refine nh ?_;intro KL;simp only [go_sem,kp68,geff])|((with_reducible first|refine ny ?_|refine t_kLF ?_ ?_|refine t_dO 7 (fun i=>i==0) oVb9_0 fun K=>?_|refine t_dO 9 (fun i=>i==0) oVb9_0 fun K=>?_|refine t_dO 16 (fun i=>i==0) oVb9_1 fun K=>?_);intros;simp only [go_sem,kp68,geff])
   all_goals try exact nd
   all_goals (refine nl ?_;simp only [go_sem])
   exact LeA.refl _
  ·have yb:=xb (by omega)
   have yc:=xc (by omega)
   rw [res_3]
   clear xb xc xd hx ob oc hrd hpl hr hok
   generalize gR s b=B at gb
   generalize gR s c=C at gc
   obtain ⟨B,B'⟩:=B
   obtain ⟨C,C'⟩:=C
   simp only [opV]
   refine pcR C4_ok (kp68) Tryz.func68 [.cell 4 89] (h:=fun KF=>?_)
   unfold C4
   repeat' first|(with_reducible first|(refine nx ?_;intros)|apply And.intro|intro vr)|exact kpd|((with_reducible refine t_drawG (id:=11) (fun i=>i==0) 9 [(0,1),(1,1),(2,1),(3,1),(4,1),(5,1),(6,1),(7,1),(8,1),(9,3),(10,0),(11,1)] (by kernel_rfl) (by kernel_rfl) (by kernel_rfl) fun K=>?_);simp only [noA,List.filter_cons,List.filter_nil,Nat.reduceBEq,Bool.not_false,Bool.not_true,reduceIte,if_true,Bool.false_eq_true];simp only [pickO,List.getElem?_toArray,List.getElem?_cons_zero,List.getElem?_cons_succ,Nat.reduceAdd,Nat.reduceSub,fo_some];refine nh ?_;intro KL;simp only [go_sem,kp68,geff,gb,gc])|((with_reducible first|refine ny ?_|refine t_kLF ?_ ?_|refine t_dO 7 (fun i=>i==0) oVb9_0 fun K=>?_|refine t_dO 9 (fun i=>i==0) oVb9_0 fun K=>?_|refine t_dO 16 (fun i=>i==0) oVb9_1 fun K=>?_);intros;simp only [go_sem,kp68,geff,gb,gc])
   all_goals try exact nd
   all_goals (refine nl ?_;simp only [go_sem])
   exact LeA.refl _
  ·have yb:=xb (by omega)
   have yc:=xc (by omega)
   rw [res_4]
   clear xb xc xd hx ob oc hrd hpl hr hok
   generalize gR s b=B at gb
   generalize gR s c=C at gc
   obtain ⟨B,B'⟩:=B
   obtain ⟨C,C'⟩:=C
   simp only [opV]
   refine pcR C4_ok (kp68) Tryz.func68 [.cell 4 89] (h:=fun KF=>?_)
   unfold C4
   repeat' first|(with_reducible first|(refine nx ?_;intros)|apply And.intro|intro vr)|exact kpd|((with_reducible refine t_drawG (id:=11) (fun i=>i==0) 9 [(0,1),(1,1),(2,1),(3,1),(4,1),(5,1),(6,1),(7,1),(8,1),(9,3),(10,0),(11,1)] (by kernel_rfl) (by kernel_rfl) (by kernel_rfl) fun K=>?_);simp only [noA,List.filter_cons,List.filter_nil,Nat.reduceBEq,Bool.not_false,Bool.not_true,reduceIte,if_true,Bool.false_eq_true];simp only [pickO,List.getElem?_toArray,List.getElem?_cons_zero,List.getElem?_cons_succ,Nat.reduceAdd,Nat.reduceSub,fo_some];refine nh ?_;intro KL;simp only [go_sem,kp68,geff,gb,gc])|((with_reducible first|refine ny ?_|refine t_kLF ?_ ?_|refine t_dO 7 (fun i=>i==0) oVb9_0 fun K=>?_|refine t_dO 9 (fun i=>i==0) oVb9_0 fun K=>?_|refine t_dO 16 (fun i=>i==0) oVb9_1 fun K=>?_);intros;simp only [go_sem,kp68,geff,gb,gc])
   all_goals try exact nd
   all_goals (refine nl ?_;simp only [go_sem])
   exact LeA.refl _
  ·rw [res_5]
   cases hP:primR p (pickedR ⟨5,p,a,b,c,d⟩ s) with
   |none=>
    have hV:primV p (pickedR ⟨5,p,a,b,c,d⟩ s)= .tup [.agg [.lit (.int .i64 0),.lit (.int .i64 0)],.lit (.bool false)]:=by simp only [primV,hP];rfl
    simp only [opV]
    refine pcR C4_ok (kp68) Tryz.func68 [.cell 4 89] (h:=fun KF=>?_)
    unfold C4
    repeat' first|(with_reducible first|(refine nx ?_;intros)|apply And.intro|intro vr)|exact kpd|((with_reducible refine t_drawG (id:=11) (fun i=>i==0) 9 [(0,1),(1,1),(2,1),(3,1),(4,1),(5,1),(6,1),(7,1),(8,1),(9,3),(10,0),(11,1)] (by kernel_rfl) (by kernel_rfl) (by kernel_rfl) fun K=>?_);simp only [noA,List.filter_cons,List.filter_nil,Nat.reduceBEq,Bool.not_false,Bool.not_true,reduceIte,if_true,Bool.false_eq_true];simp only [pickO,List.getElem?_toArray,List.getElem?_cons_zero,List.getElem?_cons_succ,Nat.reduceAdd,Nat.reduceSub,fo_some];refine nh ?_;intro KL;simp only [go_sem,kp68,geff,hV,Bool.not_false])|((with_reducible first|refine ny ?_|refine t_kLF ?_ ?_|refine t_dO 7 (fun i=>i==0) oVb9_0 fun K=>?_|refine t_dO 9 (fun i=>i==0) oVb9_0 fun K=>?_|refine t_dO 16 (fun i=>i==0) oVb9_1 fun K=>?_);intros;simp only [go_sem,kp68,geff,hV,Bool.not_false])
    all_goals try exact (hrd _ (by assumption)).1
    all_goals try exact (hrd _ (by assumption)).2
    all_goals try exact nd
    all_goals (refine nl ?_;simp only [go_sem])
    exact LeA.refl _
   |some r=>
    have hV:primV p (pickedR ⟨5,p,a,b,c,d⟩ s)= .tup [.agg [.lit (.int .i64 r.lo),.lit (.int .i64 r.hi)],.lit (.bool true)]:=by simp only [primV,hP];rfl
    simp only [opV]
    refine pcR C4_ok (kp68) Tryz.func68 [.cell 4 89] (h:=fun KF=>?_)
    unfold C4
    repeat' first|(with_reducible first|(refine nx ?_;intros)|apply And.intro|intro vr)|exact kpd|((with_reducible refine t_drawG (id:=11) (fun i=>i==0) 9 [(0,1),(1,1),(2,1),(3,1),(4,1),(5,1),(6,1),(7,1),(8,1),(9,3),(10,0),(11,1)] (by kernel_rfl) (by kernel_rfl) (by kernel_rfl) fun K=>?_);simp only [noA,List.filter_cons,List.filter_nil,Nat.reduceBEq,Bool.not_false,Bool.not_true,reduceIte,if_true,Bool.false_eq_true];simp only [pickO,List.getElem?_toArray,List.getElem?_cons_zero,List.getElem?_cons_succ,Nat.reduceAdd,Nat.reduceSub,fo_some];refine nh ?_;intro KL;simp only [go_sem,kp68,geff,hV,Bool.not_true])|((with_reducible first|refine ny ?_|refine t_kLF ?_ ?_|refine t_dO 7 (fun i=>i==0) oVb9_0 fun K=>?_|refine t_dO 9 (fun i=>i==0) oVb9_0 fun K=>?_|refine t_dO 16 (fun i=>i==0) oVb9_1 fun K=>?_);intros;simp only [go_sem,kp68,geff,hV,Bool.not_true])
    all_goals try exact (hrd _ (by assumption)).1
    all_goals try exact (hrd _ (by assumption)).2
    all_goals try exact nd
    all_goals (refine nl ?_;simp only [go_sem])
    exact LeA.refl _
  ·rw [res_6]
   simp only [opV]
   refine pcR C4_ok (kp68) Tryz.func68 [.cell 4 89] (h:=fun KF=>?_)
   unfold C4
   repeat' first|(with_reducible first|(refine nx ?_;intros)|apply And.intro|intro vr)|exact kpd|((with_reducible refine t_drawG (id:=11) (fun i=>i==0) 9 [(0,1),(1,1),(2,1),(3,1),(4,1),(5,1),(6,1),(7,1),(8,1),(9,3),(10,0),(11,1)] (by kernel_rfl) (by kernel_rfl) (by kernel_rfl) fun K=>?_);simp only [noA,List.filter_cons,List.filter_nil,Nat.reduceBEq,Bool.not_false,Bool.not_true,reduceIte,if_true,Bool.false_eq_true];simp only [pickO,List.getElem?_toArray,List.getElem?_cons_zero,List.getElem?_cons_succ,Nat.reduceAdd,Nat.reduceSub,fo_some];refine nh ?_;intro KL;simp only [go_sem,kp68,geff])|((with_reducible first|refine ny ?_|refine t_kLF ?_ ?_|refine t_dO 7 (fun i=>i==0) oVb9_0 fun K=>?_|refine t_dO 9 (fun i=>i==0) oVb9_0 fun K=>?_|refine t_dO 16 (fun i=>i==0) oVb9_1 fun K=>?_);intros;simp only [go_sem,kp68,geff])
   all_goals try exact nd
   all_goals (refine nl ?_;simp only [go_sem])
   exact LeA.refl _
  ·rw [res_8]
   simp only [opV]
   refine pcR C4_ok (kp68) Tryz.func68 [.cell 4 89] (h:=fun KF=>?_)
   unfold C4
   repeat' first|(with_reducible first|(refine nx ?_;intros)|apply And.intro|intro vr)|exact kpd|((with_reducible refine t_drawG (id:=11) (fun i=>i==0) 9 [(0,1),(1,1),(2,1),(3,1),(4,1),(5,1),(6,1),(7,1),(8,1),(9,3),(10,0),(11,1)] (by kernel_rfl) (by kernel_rfl) (by kernel_rfl) fun K=>?_);simp only [noA,List.filter_cons,List.filter_nil,Nat.reduceBEq,Bool.not_false,Bool.not_true,reduceIte,if_true,Bool.false_eq_true];simp only [pickO,List.getElem?_toArray,List.getElem?_cons_zero,List.getElem?_cons_succ,Nat.reduceAdd,Nat.reduceSub,fo_some];refine nh ?_;intro KL;simp only [go_sem,kp68,geff])|((with_reducible first|refine ny ?_|refine t_kLF ?_ ?_|refine t_dO 7 (fun i=>i==0) oVb9_0 fun K=>?_|refine t_dO 9 (fun i=>i==0) oVb9_0 fun K=>?_|refine t_dO 16 (fun i=>i==0) oVb9_1 fun K=>?_);intros;simp only [go_sem,kp68,geff])
   all_goals try exact nd
   all_goals (refine nl ?_;simp only [go_sem])
   exact LeA.refl _
  ·have yb:=xb (by omega)
   rw [res_14]
   clear xb xc xd hx ob oc hrd hpl hr hok
   generalize gR s b=B at gb
   obtain ⟨B,B'⟩:=B
   simp only [opV]
   refine pcR C4_ok (kp68) Tryz.func68 [.cell 4 89] (h:=fun KF=>?_)
   unfold C4
   repeat' first|(with_reducible first|(refine nx ?_;intros)|apply And.intro|intro vr)|exact kpd|((with_reducible refine t_drawG (id:=11) (fun i=>i==0) 9 [(0,1),(1,1),(2,1),(3,1),(4,1),(5,1),(6,1),(7,1),(8,1),(9,3),(10,0),(11,1)] (by kernel_rfl) (by kernel_rfl) (by kernel_rfl) fun K=>?_);simp only [noA,List.filter_cons,List.filter_nil,Nat.reduceBEq,Bool.not_false,Bool.not_true,reduceIte,if_true,Bool.false_eq_true];simp only [pickO,List.getElem?_toArray,List.getElem?_cons_zero,List.getElem?_cons_succ,Nat.reduceAdd,Nat.reduceSub,fo_some];refine nh ?_;intro KL;simp only [go_sem,kp68,geff,gb])|((with_reducible first|refine ny ?_|refine t_kLF ?_ ?_|refine t_dO 7 (fun i=>i==0) oVb9_0 fun K=>?_|refine t_dO 9 (fun i=>i==0) oVb9_0 fun K=>?_|refine t_dO 16 (fun i=>i==0) oVb9_1 fun K=>?_);intros;simp only [go_sem,kp68,geff,gb])
   all_goals try exact nd
   all_goals (refine nl ?_;simp only [go_sem])
   exact LeA.refl _
noncomputable def con68:PCon Tryz.prog where
  f:=68
  c:=fun
   |[xx,xs]=>match opOf xx,rngsOf xs with|some x,some s=>some (ResOk x s,rgV (resultR x s))|_,_=>none
   |_=>none
  ok:=by
   intro args p r hc hp
   split at hc
   ·split at hc
    ·rename_i hx hs
     cases hc
     exact PC.weak (result_pc hp) ⟨opOf_le hx,rngsOf_le hs,trivial⟩
    ·cases hc
   ·cases hc
  fk:=fk68
theorem con68_f:con68.f=68:=rfl
theorem con68_c {xx:AV} {xs:AV}:con68.c [xx,xs]=match opOf xx,rngsOf xs with|some x,some s=>some (ResOk x s,rgV (resultR x s))|_,_=>none:=rfl
attribute [go_sem] con68_f con68_c
end Go.Proofs.YtnlimcijgpaegaaGreat
