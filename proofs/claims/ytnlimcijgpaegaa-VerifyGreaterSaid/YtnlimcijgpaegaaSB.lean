import Derived.Test.YtnlimcijgpaegaaSA
import Derived.Test.YtnlimcijgpaegaaFwB

set_option linter.all false

namespace Go.Proofs.Ytnlimcijgpaegaa.Bm
open Go.Proofs.Ytnlimcijgpaegaa
open Go Go.Fw
def opnr (c:Int):Bool:=decide (c=10)||decide (c=11)||decide (c=12)
def cd (ops:List Ins) (i:Nat):Int:=(ops.getD i nilI).code
structure Mid (ops:List Ins) (n:Nat) (out:List Int) (st:List Nat):Prop where
  len:out.length=n
  lt:∀ j∈st,j<n
  asc:st.Pairwise (fun a b=>b<a)
  opn:∀ j∈st,opnr (cd ops j)=true
  self:∀ j,j<n→(j∈st∨opnr (cd ops j)=false)→out.getD j 0=j
  clo:∀ j,j<n→j ∉ st→opnr (cd ops j)=true→∃ e:Nat,out.getD j 0=e∧j<e∧e<n∧(cd ops e=12→cd ops j=11)∧(cd ops e=12∨cd ops e=13)∧
    ∀ k,j<k→k<e→opnr (cd ops k)=true→∃ f:Nat,out.getD k 0=f∧k<f∧f<e
  deep:∀ j∈st,∀ k,j<k→k<n→k ∉ st→opnr (cd ops k)=true→∃ f:Nat,out.getD k 0=f∧k<f∧f<n
structure Nest (ops:List Ins) (mt:List Int):Prop where
  len:mt.length=ops.length
  self:∀ j,j<ops.length→opnr (cd ops j)=false→mt.getD j 0=j
  clo:∀ j,j<ops.length→opnr (cd ops j)=true→∃ e:Nat,mt.getD j 0=e∧j<e∧e<ops.length∧(cd ops e=12→cd ops j=11)∧(cd ops e=12∨cd ops e=13)∧
    ∀ k,j<k→k<e→opnr (cd ops k)=true→∃ f:Nat,mt.getD k 0=f∧k<f∧f<e
theorem getD_append_l {l m:List Int} {i:Nat} (h:i<l.length):(l++m).getD i 0=l.getD i 0:=by simp [List.getD,List.getElem?_append_left h]
theorem getD_set_ne {l:List Int} {i j:Nat} {x:Int} (h:i≠j):(l.set i x).getD j 0=l.getD j 0:=by simp [List.getD,List.getElem?_set_ne h]
theorem getD_set_eq {l:List Int} {i:Nat} {x:Int} (h:i<l.length):(l.set i x).getD i 0=x:=by simp [List.getD,List.getElem?_set_self h]
theorem Mid.plain {ops:List Ins} {n:Nat} {out:List Int} {st:List Nat} (h:Mid ops n out st) (hc:opnr (cd ops n)=false):Mid ops (n+1) (out++[(n:Int)]) st:=by
  have hl:=h.len
  have old:∀ j,j<n→(out++[(n:Int)]).getD j 0=out.getD j 0:=fun j hj=>getD_append_l (by omega)
  have new:(out++[(n:Int)]).getD n 0=n:=by simp [List.getD,←hl]
  refine ⟨by simp [hl],fun j hj=>Nat.lt_succ_of_lt (h.lt j hj),h.asc,h.opn,fun j hj hs=>?_,fun j hj hn ho=>?_,fun j hj k h1 h2 h3 h4=>?_⟩
  ·by_cases e:j=n
   ·subst e;exact new
   ·rw [old j (by omega)];exact h.self j (by omega) hs
  ·by_cases e:j=n
   ·subst e;rw [hc] at ho;cases ho
   ·obtain ⟨e',q1,q2,q3,q4,q5,q6⟩:=h.clo j (by omega) hn ho
    refine ⟨e',by rw [old j (by omega)];exact q1,q2,by omega,q4,q5,fun k k1 k2 k3=>?_⟩
    obtain ⟨f,f1,f0,f2⟩:=q6 k k1 k2 k3
    exact ⟨f,by rw [old k (by omega)];exact f1,f0,f2⟩
  ·by_cases e:k=n
   ·subst e;rw [hc] at h4;cases h4
   ·obtain ⟨f,f1,f0,f2⟩:=h.deep j hj k h1 (by omega) h3 h4
    exact ⟨f,by rw [old k (by omega)];exact f1,f0,by omega⟩
theorem Mid.push {ops:List Ins} {n:Nat} {out:List Int} {st:List Nat} (h:Mid ops n out st) (hc:opnr (cd ops n)=true):Mid ops (n+1) (out++[(n:Int)]) (n::st):=by
  have hl:=h.len
  have old:∀ j,j<n→(out++[(n:Int)]).getD j 0=out.getD j 0:=fun j hj=>getD_append_l (by omega)
  have new:(out++[(n:Int)]).getD n 0=n:=by simp [List.getD,←hl]
  refine ⟨by simp [hl],fun j hj=>?_,List.pairwise_cons.2 ⟨fun b hb=>h.lt b hb,h.asc⟩,fun j hj=>?_,fun j hj hs=>?_,fun j hj hn ho=>?_,fun j hj k h1 h2 h3 h4=>?_⟩
  ·rcases List.mem_cons.1 hj with rfl|hj
   ·omega
   ·exact Nat.lt_succ_of_lt (h.lt j hj)
  ·rcases List.mem_cons.1 hj with rfl|hj
   ·exact hc
   ·exact h.opn j hj
  ·by_cases e:j=n
   ·subst e;exact new
   ·rw [old j (by omega)]
    refine h.self j (by omega) ?_
    rcases hs with hs|hs
    ·rcases List.mem_cons.1 hs with rfl|hs
     ·exact absurd rfl e
     ·exact .inl hs
    ·exact .inr hs
  ·have hjn:j≠n:=fun e=>hn (by rw [e];simp)
   obtain ⟨e',q1,q2,q3,q4,q5,q6⟩:=h.clo j (by omega) (fun hm=>hn (by simp [hm])) ho
   refine ⟨e',by rw [old j (by omega)];exact q1,q2,by omega,q4,q5,fun k k1 k2 k3=>?_⟩
   obtain ⟨f,f1,f0,f2⟩:=q6 k k1 k2 k3
   exact ⟨f,by rw [old k (by omega)];exact f1,f0,f2⟩
  ·rcases List.mem_cons.1 hj with rfl|hj
   ·omega
   ·have hkn:k≠n:=fun e=>h3 (by rw [e];simp)
    obtain ⟨f,f1,f0,f2⟩:=h.deep j hj k h1 (by omega) (fun hm=>h3 (by simp [hm])) h4
    exact ⟨f,by rw [old k (by omega)];exact f1,f0,by omega⟩
theorem Mid.close {ops:List Ins} {n j:Nat} {out:List Int} {st:List Nat} (h:Mid ops n out (j::st)) (hc:(cd ops n=12∧cd ops j=11)∨cd ops n=13):
    Mid ops (n+1) ((out++[(n:Int)]).set j n) (if cd ops n=12 then n::st else st):=by
  have hl:=h.len
  have hjn:=h.lt j (by simp)
  have hj0:j<(out++[(n:Int)]).length:=by simp;omega
  have old:∀ k,k<n→k≠j→((out++[(n:Int)]).set j n).getD k 0=out.getD k 0:=fun k hk hn=>by rw [getD_set_ne (Ne.symm hn)];exact getD_append_l (by omega)
  have atj:((out++[(n:Int)]).set j n).getD j 0=n:=getD_set_eq hj0
  have new:((out++[(n:Int)]).set j n).getD n 0=n:=by rw [getD_set_ne (by omega)];simp [List.getD,←hl]
  have hasc:=List.pairwise_cons.1 h.asc
  have hst:∀ k∈st,k<j:=fun k hk=>hasc.1 k hk
  have hjs:j ∉ st:=fun hm=>Nat.lt_irrefl _ (hst j hm)
  have mem:∀ {k},k∈(if cd ops n=12 then n::st else st)→(k=n∧cd ops n=12)∨k∈st:=fun {k} hk=>by
    split at hk
    ·rename_i e;rcases List.mem_cons.1 hk with rfl|hk
     ·exact .inl ⟨rfl,e⟩
     ·exact .inr hk
    ·exact .inr hk
  have sub:∀ {k},k ∉ (if cd ops n=12 then n::st else st)→k ∉ st:=fun {k} hk hm=>hk (by
    split
    ·simp [hm]
    ·exact hm)
  have sub2:∀ {k},k ∉ (if cd ops n=12 then n::st else st)→k=n→opnr (cd ops n)=false:=fun {k} hk e=>by
    subst e
    split at hk
    ·simp at hk
    ·rename_i e12
     rcases hc with ⟨e,_⟩|e
     ·exact absurd e e12
     ·rw [e];decide
  refine ⟨by simp [hl],fun k hk=>?_,?_,fun k hk=>?_,fun k hk hs=>?_,fun k hk hn ho=>?_,fun i hi k h1 h2 h3 h4=>?_⟩
  ·rcases mem hk with ⟨rfl,_⟩|hk
   ·omega
   ·have:=hst k hk;omega
  ·split
   ·exact List.pairwise_cons.2 ⟨fun b hb=>by have:=hst b hb;omega,hasc.2⟩
   ·exact hasc.2
  ·rcases mem hk with ⟨rfl,e⟩|hk
   ·rw [e];decide
   ·exact h.opn k (by simp [hk])
  ·by_cases e:k=n
   ·subst e;exact new
   ·by_cases e2:k=j
    ·subst e2
     exfalso
     rcases hs with hs|hs
     ·rcases mem hs with ⟨rfl,_⟩|hs
      ·exact e rfl
      ·exact hjs hs
     ·have:=h.opn k (by simp);rw [hs] at this;cases this
    ·rw [old k (by omega) e2]
     refine h.self k (by omega) ?_
     rcases hs with hs|hs
     ·rcases mem hs with ⟨rfl,_⟩|hs
      ·exact absurd rfl e
      ·exact .inl (by simp [hs])
     ·exact .inr hs
  ·by_cases e:k=n
   ·rw [e] at ho;rw [sub2 hn e] at ho;cases ho
   ·by_cases e2:k=j
    ·subst e2
     refine ⟨n,atj,hjn,by omega,fun e12=>?_,?_,fun i i1 i2 i3=>?_⟩
     ·rcases hc with ⟨_,q⟩|q
      ·exact q
      ·omega
     ·rcases hc with ⟨q,_⟩|q
      ·exact .inl q
      ·exact .inr q
     ·have hi:i ∉ k::st:=fun hm=>by
        rcases List.mem_cons.1 hm with rfl|hm
        ·omega
        ·have:=hst i hm;omega
      obtain ⟨f,f1,f0,f2⟩:=h.deep k (by simp) i i1 i2 hi i3
      exact ⟨f,by rw [old i i2 (by omega)];exact f1,f0,f2⟩
    ·obtain ⟨e',q1,q2,q3,q4,q5,q6⟩:=h.clo k (by omega) (fun hm=>by
       rcases List.mem_cons.1 hm with rfl|hm
       ·exact e2 rfl
       ·exact sub hn hm) ho
     refine ⟨e',by rw [old k (by omega) e2];exact q1,q2,by omega,q4,q5,fun i i1 i2 i3=>?_⟩
     obtain ⟨f,f1,f0,f2⟩:=q6 i i1 i2 i3
     by_cases e3:i=j
     ·subst e3
      have:=h.self i (by omega) (.inl (by simp))
      omega
     ·exact ⟨f,by rw [old i (by omega) e3];exact f1,f0,f2⟩
  ·rcases mem hi with ⟨rfl,_⟩|hi
   ·omega
   ·by_cases e:k=n
    ·rw [e] at h4;rw [sub2 h3 e] at h4;cases h4
    ·by_cases e2:k=j
     ·subst e2;exact ⟨n,atj,by omega,by omega⟩
     ·obtain ⟨f,f1,f0,f2⟩:=h.deep i (by simp [hi]) k h1 (by omega) (fun hm=>by
        rcases List.mem_cons.1 hm with rfl|hm
        ·exact e2 rfl
        ·exact sub h3 hm) h4
      exact ⟨f,by rw [old k (by omega) e2];exact f1,f0,by omega⟩
theorem matchG_nest {ops:List Ins}:∀ (l:List Ins) (i:Nat) (out:List Int) (st:List Nat) (mt:List Int),ops.drop i=l→i≤ops.length→Mid ops i out st→matchG ops l i out st=some mt→Nest ops mt
  |[],i,out,st,mt,hl,hi,h,e=>by
   have hn:i=ops.length:=by
     have:=congrArg List.length hl
     simp at this;omega
   subst hn
   cases st with
   |cons j st=>cases e
   |nil=>
    cases e
    exact ⟨h.len,fun j hj ho=>h.self j hj (.inr ho),fun j hj ho=>h.clo j hj (by simp) ho⟩
  |x::l,i,out,st,mt,hl,hi,h,e=>by
   have hlt:i<ops.length:=by
     rcases Nat.lt_or_ge i ops.length with h|h
     ·exact h
     ·rw [List.drop_eq_nil_of_le h] at hl;cases hl
   have hx:cd ops i=x.code:=by
     have:=List.drop_eq_getElem_cons hlt
     rw [hl] at this
     simp only [List.cons.injEq] at this
     simp [cd,List.getD,hlt,this.1]
   have hl':ops.drop (i+1)=l:=by
     have:=List.drop_eq_getElem_cons hlt
     rw [hl] at this
     simp only [List.cons.injEq] at this
     exact this.2.symm
   simp only [matchG] at e
   split at e
   ·rename_i hc
    split at e
    ·cases e
    ·exact matchG_nest l (i+1) _ _ mt hl' hlt (h.push (by rw [hx];rcases hc with hc|hc<;>rw [hc]<;>decide)) e
   ·rename_i h1
    split at e
    ·rename_i h2
     split at e
     ·cases e
     ·rename_i j st'
      split at e
      ·rename_i h3
       have hj:=h.lt j (by simp)
       have hcj:cd ops j=11:=h3
       have:=h.close (.inl ⟨by rw [hx];exact h2,hcj⟩)
       rw [if_pos (by rw [hx];exact h2)] at this
       exact matchG_nest l (i+1) _ _ mt hl' hlt this e
      ·cases e
    ·rename_i h2
     split at e
     ·rename_i h3
      split at e
      ·cases e
      ·rename_i j st'
       have:=h.close (.inr (by rw [hx];exact h3))
       rw [if_neg (by rw [hx];exact h2)] at this
       exact matchG_nest l (i+1) _ _ mt hl' hlt this e
     ·rename_i h3
      exact matchG_nest l (i+1) _ _ mt hl' hlt (h.plain (by
        rw [hx]
        simp only [opnr,Bool.or_eq_false_iff,decide_eq_false_iff_not]
        omega)) e
theorem match_nest {ops:List Ins} {mt:List Int} (h:matchS ops=some mt):Nest ops mt:=by
  unfold matchS at h
  split at h
  ·cases h
  ·exact matchG_nest ops 0 [] [] mt (by simp) (Nat.zero_le _) ⟨rfl,by simp,by simp,by simp,by simp,by simp,by simp⟩ h
end Go.Proofs.Ytnlimcijgpaegaa.Bm

namespace Go.Proofs.Ytnlimcijgpaegaa.Bm
open Go.Proofs.Ytnlimcijgpaegaa
open Go Go.Fw
section
variable {B:Prg} {mt:List Int} {seen:List (List Rng)}
theorem simple_left {x:Ins} {s:St}:(simpleS x s).left=s.left:=by
  refine simple_P (P:=fun r=>r.left=s.left) ?_ ?_ ?_ ?_ ?_ ?_ ?_ ?_<;>intros<;>rfl
theorem step1_left {i:Int} {s:St}:(step1 B seen i s).left=s.left - 1:=by
  have:(tick (look seen i s)).left=s.left - 1:=by obtain ⟨o,ho⟩:=look_eq (seen:=seen) i s;rw [ho];rfl
  unfold step1
  split
  ·show (simpleS (B.op i) (tick (look seen i s))).left=_;rw [simple_left,this]
  ·rw [simple_left,this]
theorem look_left {i:Int} {s:St}:(tick (look seen i s)).left=s.left - 1:=by obtain ⟨o,ho⟩:=look_eq (seen:=seen) i s;rw [ho];rfl
theorem exec_left (f:Nat) (t:Tk) (s:St):(exec B mt seen f t s).left≤s.left:=
  exec_inv (P:=fun r=>r.left≤s.left) (fun i r h _=>by rw [step1_left];omega) (fun i r h _=>by rw [look_left];omega) (fun i n r h _=>by simp only [tick,St.put];omega) f t s (Int.le_refl _)
theorem Runs.left {t:Tk} {s s':St} (h:Runs B mt seen t s s'):s'.left≤s.left:=by
  obtain ⟨F,hF⟩:=h
  rw [←hF F (Nat.le_refl _)];exact exec_left F t s
theorem op_cd {i:Nat}:(B.op i).code=cd B.ops i:=rfl
theorem Nest.at (h:Nest B.ops mt) {i:Int} (h0:0≤i) (h1:i<B.ops.length) (ho:(B.op i).code=10∨(B.op i).code=11∨(B.op i).code=12):
    i<gt mt i∧gt mt i<B.ops.length∧((B.op (gt mt i)).code=12∨(B.op (gt mt i)).code=13)∧((B.op (gt mt i)).code=12→(B.op i).code=11):=by
  obtain ⟨n,rfl⟩:∃ n:Nat,i=n:=⟨i.toNat,by omega⟩
  obtain ⟨e,q1,q2,q3,q4,q5,_⟩:=h.clo n (by omega) (by rw [←op_cd];simp [opnr];omega)
  have:gt mt (n:Int)=e:=by simp [gt];simpa [List.getD] using q1
  rw [this]
  exact ⟨by omega,by omega,q5,q4⟩
end
end Go.Proofs.Ytnlimcijgpaegaa.Bm

namespace Go.Proofs.Ytnlimcijgpaegaa.Bm
open Go.Proofs.Ytnlimcijgpaegaa
open Go Go.Fw
instance:DecidableEq Rng:=fun a b=>if h:a.lo=b.lo∧a.hi=b.hi then isTrue (by obtain ⟨a,a'⟩:=a;obtain ⟨b,b'⟩:=b;obtain ⟨h1,h2⟩:=h;simp only at h1 h2;subst h1;subst h2;rfl) else isFalse (fun e=>h (by subst e;exact ⟨rfl,rfl⟩))
def intsR:Rng:=⟨-2147483648,2147483647⟩
def machR:Rng:=⟨-maxC,maxC⟩
def boolR:Rng:=⟨0,1⟩
def Rng.within (a b:Rng):Prop:=b.lo≤a.lo∧a.hi≤b.hi
instance (a b:Rng):Decidable (a.within b):=inferInstanceAs (Decidable (_∧_))
def Rng.has (a:Rng) (n:Int):Prop:=a.lo≤n∧n≤a.hi
def heldR (a b:Rng):Rng:=if a.within b then a else b
def hullR (a b:Rng):Rng:=⟨minI a.lo b.lo,maxI a.hi b.hi⟩
def min4 (a b c d:Int):Int:=minI (minI (minI a b) c) d
def max4 (a b c d:Int):Int:=maxI (maxI (maxI a b) c) d
def prodR (a b:Rng):Rng:=⟨min4 (a.lo*b.lo) (a.lo*b.hi) (a.hi*b.lo) (a.hi*b.hi),max4 (a.lo*b.lo) (a.lo*b.hi) (a.hi*b.lo) (a.hi*b.hi)⟩
def rngV:Nat→List Rng→Rng
  |0,[a,b]=>heldR ⟨a.lo+b.lo,a.hi+b.hi⟩ intsR
  |1,[a,b]=>heldR ⟨a.lo - b.hi,a.hi - b.lo⟩ intsR
  |2,[a,b]=>heldR (prodR a b) intsR
  |4,[a,b]=>if b.lo≥1 then ⟨0,b.hi - 1⟩ else intsR
  |5,[a,b]=>⟨minI a.lo b.lo,minI a.hi b.hi⟩
  |6,[a,b]=>⟨maxI a.lo b.lo,maxI a.hi b.hi⟩
  |9,_=>⟨-1,1⟩
  |20,[_,b,c]=>hullR b c
  |21,_=>boolR
  |i,_=>if 10≤i∧i≤19 then boolR else intsR
def fitR (p:ByteArray):Rng:=if eqS p El.sBool=true then boolR else intsR
def fitA (ps:List ByteArray) (l:List Rng):Bool:=(ps.zip l).all fun p=>decide (p.2.lo≤p.2.hi)&&decide (p.2.within (fitR p.1))
def fitsR (op:ByteArray) (l:List Rng):Option Nat:=(El.rowIx op).bind fun i=>if decide (l.length=(El.psN i).length)&&fitA (El.psN i) l then some i else none
def primR (op:ByteArray) (l:List Rng):Option Rng:=(fitsR op l).map fun i=>rngV i l
theorem minI_le (a b:Int):minI a b≤a∧minI a b≤b∧(minI a b=a∨minI a b=b):=by unfold minI;split<;>refine ⟨?_,?_,?_⟩<;>first|omega|exact .inl rfl|exact .inr rfl
theorem maxI_ge (a b:Int):a≤maxI a b∧b≤maxI a b∧(maxI a b=a∨maxI a b=b):=by unfold maxI;split<;>refine ⟨?_,?_,?_⟩<;>first|omega|exact .inl rfl|exact .inr rfl
theorem prod_lo {a b:Rng} {x y:Int} (hx:a.has x) (hy:b.has y):(prodR a b).lo≤x*y∧x*y≤(prodR a b).hi:=by
  obtain ⟨x1,x2⟩:=hx
  obtain ⟨y1,y2⟩:=hy
  have corner:∀ z:Int,(a.lo*z≤x*z∧x*z≤a.hi*z)∨(a.hi*z≤x*z∧x*z≤a.lo*z):=fun z=>by
    rcases Int.le_total 0 z with h|h
    ·exact .inl ⟨Int.mul_le_mul_of_nonneg_right x1 h,Int.mul_le_mul_of_nonneg_right x2 h⟩
    ·exact .inr ⟨Int.mul_le_mul_of_nonpos_right x2 h,Int.mul_le_mul_of_nonpos_right x1 h⟩
  have edge:(x*b.lo≤x*y∧x*y≤x*b.hi)∨(x*b.hi≤x*y∧x*y≤x*b.lo):=by
    rcases Int.le_total 0 x with h|h
    ·exact .inl ⟨Int.mul_le_mul_of_nonneg_left y1 h,Int.mul_le_mul_of_nonneg_left y2 h⟩
    ·exact .inr ⟨Int.mul_le_mul_of_nonpos_left h y2,Int.mul_le_mul_of_nonpos_left h y1⟩
  have h1:=corner b.lo
  have h2:=corner b.hi
  simp only [prodR,min4,max4]
  generalize a.lo*b.lo=p at*
  generalize a.lo*b.hi=q at*
  generalize a.hi*b.lo=r at*
  generalize a.hi*b.hi=t at*
  generalize x*b.lo=u at*
  generalize x*b.hi=v at*
  generalize x*y=z at*
  have m1:=minI_le p q
  have m2:=minI_le (minI p q) r
  have m3:=minI_le (minI (minI p q) r) t
  have n1:=maxI_ge p q
  have n2:=maxI_ge (maxI p q) r
  have n3:=maxI_ge (maxI (maxI p q) r) t
  omega
theorem held_has {a b:Rng} {n m:Int} (h:a.has n) (hb:b.has m) (he:b.has n→m=n):(heldR a b).has m:=by
  unfold heldR
  split
  ·rename_i hw
   have:b.has n:=⟨Int.le_trans hw.1 h.1,Int.le_trans h.2 hw.2⟩
   rw [he this];exact h
  ·exact hb
theorem w32_has (n:Int):intsR.has (El.w32 n):=El.w32_el n
theorem w32_same {n:Int} (h:intsR.has n):El.w32 n=n:=El.w32_id h
inductive Has:List Rng→List Int→Prop
  |nil:Has [] []
  |cons {a:Rng} {n:Int} {l:List Rng} {m:List Int} (h:a.has n) (t:Has l m):Has (a::l) (n::m)
theorem Has.length {l:List Rng} {m:List Int} (h:Has l m):m.length=l.length:=by
  induction h with
  |nil=>rfl
  |cons _ _ ih=>simp [ih]
theorem fit_ok {p:ByteArray} (hp:p=El.sInt∨p=El.sBool∨p=El.sA) {a:Rng} {n:Int} (h:a.has n) (hw:a.within (fitR p)):El.vld (El.elT p) n=true:=by
  have h1:(fitR p).has n:=⟨Int.le_trans hw.1 h.1,Int.le_trans h.2 hw.2⟩
  rcases hp with rfl|rfl|rfl
  ·have:(fitR El.sInt)=intsR:=rfl
   rw [this] at h1
   have e:El.vld (El.elT El.sInt) n=decide (-2147483648≤n∧n≤2147483647):=rfl
   rw [e];simpa [Rng.has,intsR] using h1
  ·have:(fitR El.sBool)=boolR:=rfl
   rw [this] at h1
   have e:El.vld (El.elT El.sBool) n=decide (n=0∨n=1):=rfl
   rw [e];simp only [Rng.has,boolR] at h1;simp;omega
  ·have:(fitR El.sA)=intsR:=rfl
   rw [this] at h1
   have e:El.vld (El.elT El.sA) n=decide (-2147483648≤n∧n≤2147483647):=rfl
   rw [e];simpa [Rng.has,intsR] using h1
theorem fitA_ok:∀ {ps:List ByteArray} {l:List Rng} {m:List Int},(∀ p∈ps,p=El.sInt∨p=El.sBool∨p=El.sA)→Has l m→fitA ps l=true→El.okA ps m=true
  |[],l,m,_,_,_=>by simp [El.okA]
  |p::ps,_,_,hp,.nil,_=>by simp [El.okA]
  |p::ps,_,_,hp,.cons (a:=a) (n:=n) (l:=l) (m:=m) h t,hf=>by
   simp only [fitA,List.zip_cons_cons,List.all_cons,Bool.and_eq_true,decide_eq_true_eq] at hf
   have:=fitA_ok (ps:=ps) (fun q hq=>hp q (by simp [hq])) t (by simpa [fitA] using hf.2)
   simp only [El.okA,List.zip_cons_cons,List.all_cons,Bool.and_eq_true]
   exact ⟨fit_ok (hp p (by simp)) h hf.1.2,this⟩
theorem rng_ix {i:Nat} (h:i<22):i=0∨i=1∨i=2∨i=3∨i=4∨i=5∨i=6∨i=7∨i=8∨i=9∨i=10∨i=11∨i=12∨i=13∨i=14∨i=15∨i=16∨i=17∨i=18∨i=19∨i=20∨i=21:=by omega
theorem tru_has (b:Bool):boolR.has (El.tru b):=by cases b<;>exact ⟨by decide,by decide⟩
theorem len1L {α:Type} {l:List α} (h:l.length=1):∃ a,l=[a]:=by
  cases l with
  |nil=>simp at h
  |cons a l=>cases l with
   |nil=>exact ⟨a,rfl⟩
   |cons _ _=>simp at h
theorem len2L {α:Type} {l:List α} (h:l.length=2):∃ a b,l=[a,b]:=by
  cases l with
  |nil=>simp at h
  |cons a l=>obtain ⟨b,rfl⟩:=len1L (l:=l) (by simpa using h);exact ⟨a,b,rfl⟩
theorem len3L {α:Type} {l:List α} (h:l.length=3):∃ a b c,l=[a,b,c]:=by
  cases l with
  |nil=>simp at h
  |cons a l=>obtain ⟨b,c,rfl⟩:=len2L (l:=l) (by simpa using h);exact ⟨a,b,c,rfl⟩
theorem Has.one {a:Rng} {m:List Int} (h:Has [a] m):∃ x,m=[x]∧a.has x:=by
  cases h with
  |cons h t=>cases t;exact ⟨_,rfl,h⟩
theorem Has.two {a b:Rng} {m:List Int} (h:Has [a,b] m):∃ x y,m=[x,y]∧a.has x∧b.has y:=by
  cases h with
  |cons h t=>obtain ⟨y,rfl,hy⟩:=t.one;exact ⟨_,_,rfl,h,hy⟩
theorem Has.three {a b c:Rng} {m:List Int} (h:Has [a,b,c] m):∃ x y z,m=[x,y,z]∧a.has x∧b.has y∧c.has z:=by
  cases h with
  |cons h t=>obtain ⟨y,z,rfl,hy,hz⟩:=t.two;exact ⟨_,_,_,rfl,h,hy,hz⟩
theorem val_has {i:Nat} (hi:i<22) {l:List Rng} {m:List Int} (h:Has l m) (hl:l.length=(El.psN i).length) (hf:fitA (El.psN i) l=true):(rngV i l).has (El.vS i m):=by
  have two:∀ j,(El.psN j).length=2→j=i→∃ a b x y,l=[a,b]∧m=[x,y]∧a.has x∧b.has y:=fun j hj e=>by
    subst e
    obtain ⟨a,b,rfl⟩:=len2L (hl.trans hj)
    obtain ⟨x,y,rfl,hx,hy⟩:=h.two
    exact ⟨a,b,x,y,rfl,rfl,hx,hy⟩
  have one:∀ j,(El.psN j).length=1→j=i→∃ a x,l=[a]∧m=[x]∧a.has x:=fun j hj e=>by
    subst e
    obtain ⟨a,rfl⟩:=len1L (hl.trans hj)
    obtain ⟨x,rfl,hx⟩:=h.one
    exact ⟨a,x,rfl,rfl,hx⟩
  have wi:∀ {p:ByteArray} {a:Rng} {ps:List ByteArray} {l:List Rng},fitA (p::ps) (a::l)=true→a.within (fitR p)∧fitA ps l=true:=fun {p a ps l} h=>by
    simp only [fitA,List.zip_cons_cons,List.all_cons,Bool.and_eq_true,decide_eq_true_eq] at h
    exact ⟨h.1.2,by simpa [fitA] using h.2⟩
  rcases rng_ix hi with rfl|rfl|rfl|rfl|rfl|rfl|rfl|rfl|rfl|rfl|rfl|rfl|rfl|rfl|rfl|rfl|rfl|rfl|rfl|rfl|rfl|rfl
  ·obtain ⟨a,b,x,y,rfl,rfl,hx,hy⟩:=two 0 rfl rfl
   exact held_has (n:=x+y) ⟨Int.add_le_add hx.1 hy.1,Int.add_le_add hx.2 hy.2⟩ (w32_has _) fun h=>w32_same h
  ·obtain ⟨a,b,x,y,rfl,rfl,hx,hy⟩:=two 1 rfl rfl
   exact held_has (n:=x - y) ⟨Int.sub_le_sub hx.1 hy.2,Int.sub_le_sub hx.2 hy.1⟩ (w32_has _) fun h=>w32_same h
  ·obtain ⟨a,b,x,y,rfl,rfl,hx,hy⟩:=two 2 rfl rfl
   exact held_has (n:=x*y) (prod_lo hx hy) (w32_has _) fun h=>w32_same h
  ·obtain ⟨a,b,x,y,rfl,rfl,hx,hy⟩:=two 3 rfl rfl
   exact w32_has _
  ·obtain ⟨a,b,x,y,rfl,rfl,hx,hy⟩:=two 4 rfl rfl
   have hw1:intsR.has x:=⟨Int.le_trans (wi hf).1.1 hx.1,Int.le_trans hx.2 (wi hf).1.2⟩
   have hw2:intsR.has y:=⟨Int.le_trans (wi (wi hf).2).1.1 hy.1,Int.le_trans hy.2 (wi (wi hf).2).1.2⟩
   show (if b.lo≥1 then (⟨0,b.hi - 1⟩:Rng) else intsR).has (if y=0 then 0 else x - y*El.flo x y)
   by_cases e:y=0
   ·rw [if_pos e,if_neg (by have:=hy.1;omega)];exact ⟨by decide,by decide⟩
   ·have hs:=El.flo_spec (a:=x) e
    rw [if_neg e]
    simp only [Rng.has,intsR] at hw2
    split
    ·rename_i hb
     have:=hs.1 (by have:=hy.1;omega)
     exact ⟨this.1,by have:=hy.2;simp only;omega⟩
    ·rcases Int.lt_or_gt_of_ne e with hn|hp
     ·have:=hs.2 hn;exact ⟨by simp only [intsR];omega,by simp only [intsR];omega⟩
     ·have:=hs.1 hp;exact ⟨by simp only [intsR];omega,by simp only [intsR];omega⟩
  ·obtain ⟨a,b,x,y,rfl,rfl,hx,hy⟩:=two 5 rfl rfl
   obtain ⟨x1,x2⟩:=hx
   obtain ⟨y1,y2⟩:=hy
   have m1:=minI_le x y
   have m2:=minI_le a.lo b.lo
   have m3:=minI_le a.hi b.hi
   refine ⟨?_,?_⟩<;>simp only [rngV,El.vS]<;>omega
  ·obtain ⟨a,b,x,y,rfl,rfl,hx,hy⟩:=two 6 rfl rfl
   obtain ⟨x1,x2⟩:=hx
   obtain ⟨y1,y2⟩:=hy
   have m1:=maxI_ge x y
   have m2:=maxI_ge a.lo b.lo
   have m3:=maxI_ge a.hi b.hi
   refine ⟨?_,?_⟩<;>simp only [rngV,El.vS]<;>omega
  ·obtain ⟨a,x,rfl,rfl,hx⟩:=one 7 rfl rfl
   exact w32_has _
  ·obtain ⟨a,x,rfl,rfl,hx⟩:=one 8 rfl rfl
   exact w32_has _
  ·obtain ⟨a,x,rfl,rfl,hx⟩:=one 9 rfl rfl
   show (⟨-1,1⟩:Rng).has (El.sgn x)
   unfold El.sgn
   split
   ·exact ⟨by decide,by decide⟩
   ·split<;>exact ⟨by decide,by decide⟩
  ·obtain ⟨a,b,x,y,rfl,rfl,hx,hy⟩:=two 10 rfl rfl;exact tru_has _
  ·obtain ⟨a,b,x,y,rfl,rfl,hx,hy⟩:=two 11 rfl rfl;exact tru_has _
  ·obtain ⟨a,b,x,y,rfl,rfl,hx,hy⟩:=two 12 rfl rfl;exact tru_has _
  ·obtain ⟨a,b,x,y,rfl,rfl,hx,hy⟩:=two 13 rfl rfl;exact tru_has _
  ·obtain ⟨a,b,x,y,rfl,rfl,hx,hy⟩:=two 14 rfl rfl;exact tru_has _
  ·obtain ⟨a,b,x,y,rfl,rfl,hx,hy⟩:=two 15 rfl rfl;exact tru_has _
  ·obtain ⟨a,b,x,y,rfl,rfl,hx,hy⟩:=two 16 rfl rfl
   have k1:=(wi hf).1
   have k2:=(wi (wi hf).2).1
   have e1:a.within boolR:=k1
   have e2:b.within boolR:=k2
   have m1:=minI_le x y
   simp only [Rng.within,Rng.has,boolR] at e1 e2 hx hy
   show boolR.has (minI x y)
   simp only [Rng.has,boolR];omega
  ·obtain ⟨a,b,x,y,rfl,rfl,hx,hy⟩:=two 17 rfl rfl
   have e1:a.within boolR:=(wi hf).1
   have e2:b.within boolR:=(wi (wi hf).2).1
   have m1:=maxI_ge x y
   simp only [Rng.within,Rng.has,boolR] at e1 e2 hx hy
   show boolR.has (maxI x y)
   simp only [Rng.has,boolR];omega
  ·obtain ⟨a,b,x,y,rfl,rfl,hx,hy⟩:=two 18 rfl rfl
   show boolR.has (if x=y then 0 else 1)
   split<;>exact ⟨by decide,by decide⟩
  ·obtain ⟨a,x,rfl,rfl,hx⟩:=one 19 rfl rfl
   have e1:a.within boolR:=(wi hf).1
   simp only [Rng.within,Rng.has,boolR] at e1 hx
   show boolR.has (1 - x)
   simp only [Rng.has,boolR];omega
  ·obtain ⟨a,b,c,rfl⟩:=len3L (l:=l) (hl.trans rfl)
   obtain ⟨x,y,z,rfl,hx,hy,hz⟩:=h.three
   show (hullR b c).has (if x=1 then y else z)
   have m1:=minI_le b.lo c.lo
   have m2:=maxI_ge b.hi c.hi
   obtain ⟨y1,y2⟩:=hy
   obtain ⟨z1,z2⟩:=hz
   split<;>refine ⟨?_,?_⟩<;>simp only [hullR]<;>omega
  ·obtain ⟨a,x,rfl,rfl,hx⟩:=one 21 rfl rfl
   have e1:a.within boolR:=(wi hf).1
   exact ⟨Int.le_trans e1.1 hx.1,Int.le_trans hx.2 e1.2⟩
theorem row_lt {op:ByteArray} {i:Nat} (h:El.rowIx op=some i):i<22:=by
  rcases El.ix_cases op with ⟨j,hj,_,hx,_⟩|⟨hx,_⟩
  ·rw [hx] at h;cases h;exact hj
  ·rw [hx] at h;cases h
theorem fits_inv {op:ByteArray} {l:List Rng} {i:Nat} (h:fitsR op l=some i):El.rowIx op=some i∧l.length=(El.psN i).length∧fitA (El.psN i) l=true:=by
  unfold fitsR at h
  cases hx:El.rowIx op with
  |none=>rw [hx] at h;cases h
  |some j=>
   rw [hx] at h
   simp only [Option.bind_some,Bool.and_eq_true,decide_eq_true_eq] at h
   split at h
   ·rename_i hc;cases h;exact ⟨rfl,hc.1,hc.2⟩
   ·cases h
theorem prim_sound {op:ByteArray} {l:List Rng} {m:List Int} {r:Rng} (h:primR op l=some r) (hm:Has l m):∃ n,El.applyS op m=some n∧r.has n:=by
  unfold primR at h
  simp only [Option.map_eq_some_iff] at h
  obtain ⟨i,hi,rfl⟩:=h
  obtain ⟨h1,h2,h3⟩:=fits_inv hi
  refine ⟨El.vS i m,?_,val_has (row_lt h1) hm h2 h3⟩
  have hok:El.okB i m=true:=by
    unfold El.okB
    rw [Bool.and_eq_true,decide_eq_true_eq]
    exact ⟨hm.length.trans h2,fitA_ok (El.psN_el i (row_lt h1)) hm h3⟩
  unfold El.applyS
  rw [h1]
  simp only [Option.bind_some]
  rw [if_pos hok]
end Go.Proofs.Ytnlimcijgpaegaa.Bm

namespace Go.Proofs.Ytnlimcijgpaegaa.Bm
open Go.Proofs.Ytnlimcijgpaegaa
open Go Go.Fw
theorem Rng.within_refl (a:Rng):a.within a:=⟨Int.le_refl _,Int.le_refl _⟩
theorem held_mono {a b c:Rng} (h:a.within b):(heldR a c).within (heldR b c):=by
  unfold heldR
  split
  ·split
   ·exact h
   ·rename_i k _;exact k
  ·rename_i k
   rw [if_neg (fun hb=>k ⟨Int.le_trans hb.1 h.1,Int.le_trans h.2 hb.2⟩)]
   exact Rng.within_refl _
theorem prod_mono {a b c d:Rng} (h:a.within c) (k:b.within d) (ha:a.lo≤a.hi) (hb:b.lo≤b.hi):(prodR a b).within (prodR c d):=by
  have h1:c.has a.lo:=⟨h.1,Int.le_trans ha h.2⟩
  have h2:c.has a.hi:=⟨Int.le_trans h.1 ha,h.2⟩
  have k1:d.has b.lo:=⟨k.1,Int.le_trans hb k.2⟩
  have k2:d.has b.hi:=⟨Int.le_trans k.1 hb,k.2⟩
  have e1:=prod_lo h1 k1
  have e2:=prod_lo h1 k2
  have e3:=prod_lo h2 k1
  have e4:=prod_lo h2 k2
  have key:∀ p q r t L H:Int,(L≤p∧p≤H)→(L≤q∧q≤H)→(L≤r∧r≤H)→(L≤t∧t≤H)→L≤min4 p q r t∧max4 p q r t≤H:=by
    intro p q r t L H h1 h2 h3 h4
    have m1:=minI_le p q
    have m2:=minI_le (minI p q) r
    have m3:=minI_le (minI (minI p q) r) t
    have n1:=maxI_ge p q
    have n2:=maxI_ge (maxI p q) r
    have n3:=maxI_ge (maxI (maxI p q) r) t
    simp only [min4,max4]
    omega
  exact key _ _ _ _ _ _ e1 e2 e3 e4
inductive Wins:List Rng→List Rng→Prop
  |nil:Wins [] []
  |cons {a b:Rng} {l m:List Rng} (h:a.within b) (t:Wins l m):Wins (a::l) (b::m)
theorem Wins.one {a:Rng} {m:List Rng} (h:Wins [a] m):∃ x,m=[x]∧a.within x:=by
  cases h with
  |cons h t=>cases t;exact ⟨_,rfl,h⟩
theorem Wins.two {a b:Rng} {m:List Rng} (h:Wins [a,b] m):∃ x y,m=[x,y]∧a.within x∧b.within y:=by
  cases h with
  |cons h t=>obtain ⟨y,rfl,hy⟩:=t.one;exact ⟨_,_,rfl,h,hy⟩
theorem Wins.three {a b c:Rng} {m:List Rng} (h:Wins [a,b,c] m):∃ x y z,m=[x,y,z]∧a.within x∧b.within y∧c.within z:=by
  cases h with
  |cons h t=>obtain ⟨y,z,rfl,hy,hz⟩:=t.two;exact ⟨_,_,_,rfl,h,hy,hz⟩
theorem rng_mono {i:Nat} (hi:i<22) {l m:List Rng} (h:Wins l m) (hl:l.length=(El.psN i).length) (hf:fitA (El.psN i) l=true):(rngV i l).within (rngV i m):=by
  have two:∀ j,(El.psN j).length=2→j=i→∃ a b x y,l=[a,b]∧m=[x,y]∧a.within x∧b.within y:=fun j hj e=>by
    subst e
    obtain ⟨a,b,rfl⟩:=len2L (hl.trans hj)
    obtain ⟨x,y,rfl,hx,hy⟩:=h.two
    exact ⟨a,b,x,y,rfl,rfl,hx,hy⟩
  have one:∀ j,(El.psN j).length=1→j=i→∃ a x,l=[a]∧m=[x]∧a.within x:=fun j hj e=>by
    subst e
    obtain ⟨a,rfl⟩:=len1L (hl.trans hj)
    obtain ⟨x,rfl,hx⟩:=h.one
    exact ⟨a,x,rfl,rfl,hx⟩
  have wi:∀ {p:ByteArray} {a:Rng} {ps:List ByteArray} {l:List Rng},fitA (p::ps) (a::l)=true→(a.lo≤a.hi∧a.within (fitR p))∧fitA ps l=true:=fun {p a ps l} h=>by
    simp only [fitA,List.zip_cons_cons,List.all_cons,Bool.and_eq_true,decide_eq_true_eq] at h
    exact ⟨h.1,by simpa [fitA] using h.2⟩
  rcases rng_ix hi with rfl|rfl|rfl|rfl|rfl|rfl|rfl|rfl|rfl|rfl|rfl|rfl|rfl|rfl|rfl|rfl|rfl|rfl|rfl|rfl|rfl|rfl
  ·obtain ⟨a,b,x,y,rfl,rfl,hx,hy⟩:=two 0 rfl rfl
   exact held_mono ⟨Int.add_le_add hx.1 hy.1,Int.add_le_add hx.2 hy.2⟩
  ·obtain ⟨a,b,x,y,rfl,rfl,hx,hy⟩:=two 1 rfl rfl
   exact held_mono ⟨Int.sub_le_sub hx.1 hy.2,Int.sub_le_sub hx.2 hy.1⟩
  ·obtain ⟨a,b,x,y,rfl,rfl,hx,hy⟩:=two 2 rfl rfl
   exact held_mono (prod_mono hx hy (wi hf).1.1 (wi (wi hf).2).1.1)
  ·obtain ⟨a,b,x,y,rfl,rfl,hx,hy⟩:=two 3 rfl rfl;exact Rng.within_refl _
  ·obtain ⟨a,b,x,y,rfl,rfl,hx,hy⟩:=two 4 rfl rfl
   have k:b.within intsR:=(wi (wi hf).2).1.2
   obtain ⟨y1,y2⟩:=hy
   simp only [Rng.within,intsR] at k
   show (if b.lo≥1 then (⟨0,b.hi - 1⟩:Rng) else intsR).within (if y.lo≥1 then (⟨0,y.hi - 1⟩:Rng) else intsR)
   split
   ·split
    ·exact ⟨by simp only;omega,by simp only;omega⟩
    ·exact ⟨by simp only [intsR];omega,by simp only [intsR];omega⟩
   ·rw [if_neg (by omega)];exact Rng.within_refl _
  ·obtain ⟨a,b,x,y,rfl,rfl,⟨x1,x2⟩,⟨y1,y2⟩⟩:=two 5 rfl rfl
   have m1:=minI_le a.lo b.lo
   have m2:=minI_le a.hi b.hi
   have m3:=minI_le x.lo y.lo
   have m4:=minI_le x.hi y.hi
   refine ⟨?_,?_⟩<;>simp only [rngV]<;>omega
  ·obtain ⟨a,b,x,y,rfl,rfl,⟨x1,x2⟩,⟨y1,y2⟩⟩:=two 6 rfl rfl
   have m1:=maxI_ge a.lo b.lo
   have m2:=maxI_ge a.hi b.hi
   have m3:=maxI_ge x.lo y.lo
   have m4:=maxI_ge x.hi y.hi
   refine ⟨?_,?_⟩<;>simp only [rngV]<;>omega
  ·obtain ⟨a,x,rfl,rfl,hx⟩:=one 7 rfl rfl;exact Rng.within_refl _
  ·obtain ⟨a,x,rfl,rfl,hx⟩:=one 8 rfl rfl;exact Rng.within_refl _
  ·obtain ⟨a,x,rfl,rfl,hx⟩:=one 9 rfl rfl;exact Rng.within_refl _
  ·obtain ⟨a,b,x,y,rfl,rfl,hx,hy⟩:=two 10 rfl rfl;exact Rng.within_refl _
  ·obtain ⟨a,b,x,y,rfl,rfl,hx,hy⟩:=two 11 rfl rfl;exact Rng.within_refl _
  ·obtain ⟨a,b,x,y,rfl,rfl,hx,hy⟩:=two 12 rfl rfl;exact Rng.within_refl _
  ·obtain ⟨a,b,x,y,rfl,rfl,hx,hy⟩:=two 13 rfl rfl;exact Rng.within_refl _
  ·obtain ⟨a,b,x,y,rfl,rfl,hx,hy⟩:=two 14 rfl rfl;exact Rng.within_refl _
  ·obtain ⟨a,b,x,y,rfl,rfl,hx,hy⟩:=two 15 rfl rfl;exact Rng.within_refl _
  ·obtain ⟨a,b,x,y,rfl,rfl,hx,hy⟩:=two 16 rfl rfl;exact Rng.within_refl _
  ·obtain ⟨a,b,x,y,rfl,rfl,hx,hy⟩:=two 17 rfl rfl;exact Rng.within_refl _
  ·obtain ⟨a,b,x,y,rfl,rfl,hx,hy⟩:=two 18 rfl rfl;exact Rng.within_refl _
  ·obtain ⟨a,x,rfl,rfl,hx⟩:=one 19 rfl rfl;exact Rng.within_refl _
  ·obtain ⟨a,b,c,rfl⟩:=len3L (l:=l) (hl.trans rfl)
   obtain ⟨x,y,z,rfl,hx,⟨y1,y2⟩,⟨z1,z2⟩⟩:=h.three
   have m1:=minI_le b.lo c.lo
   have m2:=maxI_ge b.hi c.hi
   have m3:=minI_le y.lo z.lo
   have m4:=maxI_ge y.hi z.hi
   refine ⟨?_,?_⟩<;>simp only [rngV,hullR]<;>omega
  ·obtain ⟨a,x,rfl,rfl,hx⟩:=one 21 rfl rfl;exact Rng.within_refl _
theorem prim_mono {op:ByteArray} {l m:List Rng} {x y:Rng} (h:Wins l m) (hx:primR op l=some x) (hy:primR op m=some y):x.within y:=by
  unfold primR at hx hy
  simp only [Option.map_eq_some_iff] at hx hy
  obtain ⟨i,hi,rfl⟩:=hx
  obtain ⟨j,hj,rfl⟩:=hy
  obtain ⟨h1,h2,h3⟩:=fits_inv hi
  obtain ⟨k1,_,_⟩:=fits_inv hj
  rw [h1] at k1
  cases k1
  exact rng_mono (row_lt h1) h h2 h3
end Go.Proofs.Ytnlimcijgpaegaa.Bm

namespace Go.Proofs.Ytnlimcijgpaegaa.Bm
open Go.Proofs.Ytnlimcijgpaegaa
open Go Go.Fw
def nilR:Rng:=⟨0,0⟩
def gR (s:List Rng) (i:Int):Rng:=s.getD i.toNat nilR
def sumR (x:Ins) (s:List Rng):Rng:=⟨(gR s x.b).lo+minI (x.d*(gR s x.c).lo) (x.d*(gR s x.c).hi),(gR s x.b).hi+maxI (x.d*(gR s x.c).lo) (x.d*(gR s x.c).hi)⟩
def pickedR (x:Ins) (s:List Rng):List Rng:=(readsS x).map (gR s)
def wideR (op:ByteArray):Rng:=match El.typesS op with
  |some r=>if eqS r.rs El.sBool=true then boolR else intsR
  |none=>intsR
def resultR (x:Ins) (s:List Rng):Rng:=
  if x.code=1 then ⟨x.b,x.b⟩
  else if x.code=2 then heldR (sumR x s) machR
  else if x.code=3 then ⟨minI (gR s x.b).lo (gR s x.c).lo,minI (gR s x.b).hi (gR s x.c).hi⟩
  else if x.code=4 then ⟨maxI (gR s x.b).lo (gR s x.c).lo,maxI (gR s x.b).hi (gR s x.c).hi⟩
  else if x.code=5 then (match primR x.prim (pickedR x s) with
    |some r=>r
    |none=>wideR x.prim)
  else if x.code=14 then heldR (gR s x.b) intsR
  else if x.code=8 then nilR
  else intsR
def withR (s:List Rng) (i:Int) (x:Rng):List Rng:=s.set i.toNat x
def hullsR:Option (List Rng)→Option (List Rng)→Option (List Rng)
  |none,t=>t
  |s,none=>s
  |some s,some t=>some (List.zipWith hullR s t)
def widenR (r:Rng):Rng:=if r.within boolR then boolR else if r.within ⟨-1,1⟩ then ⟨-1,1⟩ else if r.within intsR then intsR else machR
def growR (a b:Rng):Rng:=if hullR a b=a then a else widenR (hullR a b)
def grownR (head t:List Rng):List Rng:=List.zipWith growR head t
def wipe (l:List (List Rng)) (i to:Int):List (List Rng):=l.mapIdx fun j s=>if i≤j∧(j:Int)<to then [] else s
def lookH:List (Int×List Rng)→Int→Option (List Rng)
  |[],_=>none
  |e::l,i=>if i=e.1 then some e.2 else lookH l i
def putH:List (Int×List Rng)→Int→List Rng→List (Int×List Rng)
  |[],i,s=>[(i,s)]
  |e::l,i,s=>if i=e.1 then (i,s)::l else e::putH l i s
structure W where
  before:List (List Rng)
  heads:List (Int×List Rng)
inductive VTk where
  |blk (i to:Int)
  |lop (i:Int) (v:Rng)
def partV (rec:VTk→List Rng→W→Option (List Rng×W)) (i to:Int) (s:List Rng) (r:Int) (x:Rng) (w:W):Option (Option (List Rng)×W):=
  if x.lo>x.hi then some (none,{w with before:=wipe w.before i to}) else match rec (.blk i to) (withR s r x) w with
   |some (t,w')=>some (some t,w')
   |none=>none
def vrun (B:Prg) (mt:List Int):Nat→VTk→List Rng→W→Option (List Rng×W)
  |0,_,_,_=>none
  |f+1,.blk i to,s,w=>if i<to then (
    let w:={w with before:=w.before.set i.toNat s}
    let x:=B.op i
    if x.code=11 then (match partV (vrun B mt f) (i+1) (gt mt i) s x.a ⟨maxI (gR s x.a).lo 0,(gR s x.a).hi⟩ w with
     |some (yes,w)=>(match partV (vrun B mt f) (minI (gt mt i+1) (gt mt (gt mt i))) (gt mt (gt mt i)) s x.a ⟨(gR s x.a).lo,minI (gR s x.a).hi (-1)⟩ w with
      |some (no,w)=>(match hullsR yes no with
       |some t=>vrun B mt f (.blk (gt mt (gt mt i)+1) to) t w
       |none=>none)
      |none=>none)
     |none=>none)
    else if x.code=10 then (if (gR s x.b).lo>(gR s x.c).hi - 1 then vrun B mt f (.blk (gt mt i+1) to) s {w with before:=wipe w.before (i+1) (gt mt i)}
      else match vrun B mt f (.lop i ⟨(gR s x.b).lo,(gR s x.c).hi - 1⟩) (grownR ((lookH w.heads i).getD s) s) w with
        |some (t,w)=>vrun B mt f (.blk (gt mt i+1) to) t w
        |none=>none)
    else vrun B mt f (.blk (i+1) to) (if wrtB x.code=true then withR s x.a (resultR x s) else s) w) else some (s,w)
  |f+1,.lop i v,head,w=>match vrun B mt f (.blk (i+1) (gt mt i)) (withR head (B.op i).a v) {w with heads:=putH w.heads i head} with
   |some (t,w)=>if grownR head t=head then some (head,w) else vrun B mt f (.lop i v) (grownR head t) w
   |none=>none
def failR (x:Ins) (s:List Rng) (arena:Int):Bool:=
  if x.code=2 then !decide ((sumR x s).within machR)
  else if x.code=5 then (fitsR x.prim (pickedR x s)).isNone
  else if x.code=6 then !decide ((gR s x.b).within ⟨0,arena - 1⟩)
  else if x.code=7 then !decide ((gR s x.a).within ⟨0,arena - 1⟩)|| !decide ((gR s x.b).within intsR)
  else false
def InP (s:List Rng) (l:List Int):Prop:=l.length=s.length∧∀ i,i<s.length→(s.getD i nilR).has (l.getD i 0)
theorem InP.at {s:List Rng} {l:List Int} (h:InP s l) {i:Int} (h0:0≤i) (h1:i<s.length):(gR s i).has (gt l i):=h.2 i.toNat (by omega)
theorem InP.set {s:List Rng} {l:List Int} (h:InP s l) {i:Int} {x:Rng} {n:Int} (hx:x.has n):InP (withR s i x) (l.set i.toNat n):=by
  refine ⟨by simp [withR,h.1],fun j hj=>?_⟩
  have hj':j<s.length:=by simpa [withR] using hj
  by_cases e:i.toNat=j
  ·subst e
   simpa [withR,List.getD,List.getElem?_set_self hj',List.getElem?_set_self (show i.toNat<l.length by rw [h.1];exact hj')] using hx
  ·have:=h.2 j hj'
   simpa [withR,List.getD,List.getElem?_set_ne e] using this
theorem InP.mono {s t:List Rng} {l:List Int} (h:InP s l) (hl:t.length=s.length) (ht:∀ i,i<s.length→(s.getD i nilR).within (t.getD i nilR)):InP t l:=
  ⟨h.1.trans hl.symm,fun i hi=>⟨Int.le_trans (ht i (by omega)).1 (h.2 i (by omega)).1,Int.le_trans (h.2 i (by omega)).2 (ht i (by omega)).2⟩⟩
theorem hull_l (a b:Rng):a.within (hullR a b):=⟨(minI_le _ _).1,(maxI_ge _ _).1⟩
theorem Rng.within_trans {a b c:Rng} (h:a.within b) (k:b.within c):a.within c:=⟨Int.le_trans k.1 h.1,Int.le_trans h.2 k.2⟩
theorem hull_mach {a b:Rng} (h:a.within machR) (k:b.within machR):(hullR a b).within machR:=by
  have m1:=minI_le a.lo b.lo
  have m2:=maxI_ge a.hi b.hi
  obtain ⟨h1,h2⟩:=h
  obtain ⟨k1,k2⟩:=k
  refine ⟨?_,?_⟩<;>simp only [hullR]<;>omega
def OkR (r:Rng):Prop:=r.lo≤r.hi∧r.within machR
def OkS (n:Nat) (s:List Rng):Prop:=s.length=n∧∀ i,i<n→OkR (s.getD i nilR)
theorem okR_bool:OkR boolR:=⟨by decide,by decide,by decide⟩
theorem okR_ints:OkR intsR:=⟨by decide,by decide,by decide⟩
theorem okR_mach:OkR machR:=⟨by decide,by decide,by decide⟩
theorem okR_nil:OkR nilR:=⟨by decide,by decide,by decide⟩
theorem okR_widen (r:Rng):OkR (widenR r):=by
  unfold widenR
  split
  ·exact okR_bool
  ·split
   ·exact ⟨by decide,by decide,by decide⟩
   ·split
    ·exact okR_ints
    ·exact okR_mach
theorem okR_hull {a b:Rng} (h:OkR a) (k:OkR b):OkR (hullR a b):=by
  refine ⟨?_,hull_mach h.2 k.2⟩
  have:=h.1
  have m1:=minI_le a.lo b.lo
  have m2:=maxI_ge a.hi b.hi
  simp only [hullR];omega
theorem okR_grow {a b:Rng} (h:OkR a):OkR (growR a b):=by
  unfold growR
  split
  ·exact h
  ·exact okR_widen _
theorem okR_held {a b:Rng} (h:a.lo≤a.hi) (hb:OkR b):OkR (heldR a b):=by
  unfold heldR
  split
  ·rename_i k;exact ⟨h,Rng.within_trans k hb.2⟩
  ·exact hb
theorem getD_zip {f:Rng→Rng→Rng}:∀ {s t:List Rng} {i:Nat},i<s.length→i<t.length→(List.zipWith f s t).getD i nilR=f (s.getD i nilR) (t.getD i nilR)
  |[],_,_,h,_=>by simp at h
  |_::_,[],_,_,h=>by simp at h
  |a::s,b::t,0,_,_=>by simp
  |a::s,b::t,i+1,h,k=>by simpa using getD_zip (f:=f) (s:=s) (t:=t) (i:=i) (by simpa using h) (by simpa using k)
theorem OkS.at {n:Nat} {s:List Rng} (h:OkS n s) (i:Int):OkR (gR s i):=by
  by_cases hi:i.toNat<n
  ·exact h.2 _ hi
  ·have:gR s i=nilR:=by simp [gR,List.getD,show s.length≤i.toNat by have:=h.1;omega]
   rw [this];exact okR_nil
theorem OkS.with {n:Nat} {s:List Rng} (h:OkS n s) {i:Int} {x:Rng} (hx:OkR x):OkS n (withR s i x):=by
  refine ⟨by simp [withR,h.1],fun j hj=>?_⟩
  by_cases e:i.toNat=j
  ·subst e;simpa [withR,List.getD,List.getElem?_set_self (show i.toNat<s.length by rw [h.1];exact hj)] using hx
  ·simpa [withR,List.getD,List.getElem?_set_ne e] using h.2 j hj
theorem OkS.hulls {n:Nat} {s t:List Rng} (h:OkS n s) (k:OkS n t):OkS n (List.zipWith hullR s t):=by
  refine ⟨by simp [h.1,k.1],fun j hj=>?_⟩
  rw [getD_zip (by rw [h.1];exact hj) (by rw [k.1];exact hj)]
  exact okR_hull (h.2 j hj) (k.2 j hj)
theorem OkS.grown {n:Nat} {s t:List Rng} (h:OkS n s) (k:OkS n t):OkS n (grownR s t):=by
  refine ⟨by simp [grownR,h.1,k.1],fun j hj=>?_⟩
  unfold grownR
  rw [getD_zip (by rw [h.1];exact hj) (by rw [k.1];exact hj)]
  exact okR_grow (h.2 j hj)
theorem ok_held {a:Rng} (h:a.lo≤a.hi):(heldR a intsR).lo≤(heldR a intsR).hi∧(heldR a intsR).within intsR:=by
  unfold heldR
  split
  ·rename_i k;exact ⟨h,k⟩
  ·exact ⟨by decide,by decide,by decide⟩
theorem rng_ints {i:Nat} (hlt:i<22) {l:List Rng} (h2:l.length=(El.psN i).length) (h3:fitA (El.psN i) l=true):(rngV i l).lo≤(rngV i l).hi∧(rngV i l).within intsR:=by
  have two:∀ j,(El.psN j).length=2→j=i→∃ a b,l=[a,b]:=fun j hj e=>by subst e;exact len2L (h2.trans hj)
  have fw:∀ p,(fitR p).within intsR:=fun p=>by unfold fitR;split;exact ⟨by decide,by decide⟩;exact Rng.within_refl _
  have wi:∀ {p:ByteArray} {a:Rng} {ps:List ByteArray} {l:List Rng},fitA (p::ps) (a::l)=true→(a.lo≤a.hi∧a.within intsR)∧fitA ps l=true:=fun {p a ps l} h=>by
    simp only [fitA,List.zip_cons_cons,List.all_cons,Bool.and_eq_true,decide_eq_true_eq] at h
    exact ⟨⟨h.1.1,Rng.within_trans h.1.2 (fw _)⟩,by simpa [fitA] using h.2⟩
  have ki:intsR.lo≤intsR.hi∧intsR.within intsR:=⟨by decide,by decide,by decide⟩
  have kb:boolR.lo≤boolR.hi∧boolR.within intsR:=⟨by decide,by decide,by decide⟩
  have ks:(⟨-1,1⟩:Rng).lo≤(⟨-1,1⟩:Rng).hi∧(⟨-1,1⟩:Rng).within intsR:=⟨by decide,by decide,by decide⟩
  rcases rng_ix hlt with rfl|rfl|rfl|rfl|rfl|rfl|rfl|rfl|rfl|rfl|rfl|rfl|rfl|rfl|rfl|rfl|rfl|rfl|rfl|rfl|rfl|rfl
  ·obtain ⟨a,b,rfl⟩:=two 0 rfl rfl
   exact ok_held (Int.add_le_add (wi h3).1.1 (wi (wi h3).2).1.1)
  ·obtain ⟨a,b,rfl⟩:=two 1 rfl rfl
   exact ok_held (Int.sub_le_sub (wi h3).1.1 (wi (wi h3).2).1.1)
  ·obtain ⟨a,b,rfl⟩:=two 2 rfl rfl
   have:=prod_lo (a:=a) (b:=b) (x:=a.lo) (y:=b.lo) ⟨Int.le_refl _,(wi h3).1.1⟩ ⟨Int.le_refl _,(wi (wi h3).2).1.1⟩
   exact ok_held (Int.le_trans this.1 this.2)
  ·exact ki
  ·obtain ⟨a,b,rfl⟩:=two 4 rfl rfl
   have k:=(wi (wi h3).2).1
   show (if b.lo≥1 then (⟨0,b.hi - 1⟩:Rng) else intsR).lo≤(if b.lo≥1 then (⟨0,b.hi - 1⟩:Rng) else intsR).hi∧(if b.lo≥1 then (⟨0,b.hi - 1⟩:Rng) else intsR).within intsR
   simp only [Rng.within,intsR] at k
   split
   ·exact ⟨by simp only;omega,by simp only [intsR];omega,by simp only [intsR];omega⟩
   ·exact ki
  ·obtain ⟨a,b,rfl⟩:=two 5 rfl rfl
   have k1:=(wi h3).1
   have k2:=(wi (wi h3).2).1
   have m1:=minI_le a.lo b.lo
   have m2:=minI_le a.hi b.hi
   simp only [Rng.within,intsR] at k1 k2
   refine ⟨?_,?_,?_⟩<;>simp only [rngV,intsR]<;>omega
  ·obtain ⟨a,b,rfl⟩:=two 6 rfl rfl
   have k1:=(wi h3).1
   have k2:=(wi (wi h3).2).1
   have m1:=maxI_ge a.lo b.lo
   have m2:=maxI_ge a.hi b.hi
   simp only [Rng.within,intsR] at k1 k2
   refine ⟨?_,?_,?_⟩<;>simp only [rngV,intsR]<;>omega
  ·exact ki
  ·exact ki
  ·exact ks
  ·exact kb
  ·exact kb
  ·exact kb
  ·exact kb
  ·exact kb
  ·exact kb
  ·exact kb
  ·exact kb
  ·exact kb
  ·exact kb
  ·obtain ⟨a,b,c,rfl⟩:=len3L (l:=l) (h2.trans rfl)
   have k2:=(wi (wi h3).2).1
   have k3:=(wi (wi (wi h3).2).2).1
   have m1:=minI_le b.lo c.lo
   have m2:=maxI_ge b.hi c.hi
   simp only [Rng.within,intsR] at k2 k3
   refine ⟨?_,?_,?_⟩<;>simp only [rngV,hullR,intsR]<;>omega
  ·exact kb
theorem okR_prim {op:ByteArray} {l:List Rng} {r:Rng} (h:primR op l=some r):OkR r:=by
  unfold primR at h
  simp only [Option.map_eq_some_iff] at h
  obtain ⟨i,hi,rfl⟩:=h
  obtain ⟨h1,h2,h3⟩:=fits_inv hi
  obtain ⟨k1,k2⟩:=rng_ints (row_lt h1) h2 h3
  exact ⟨k1,Rng.within_trans k2 ⟨by decide,by decide⟩⟩
end Go.Proofs.Ytnlimcijgpaegaa.Bm

namespace Go.Proofs.Ytnlimcijgpaegaa.Bm
open Go.Proofs.Ytnlimcijgpaegaa
open Go Go.Fw
theorem right_reg {x:Ins} {f:List Bool} {regs:Int} (h:rightS x regs=true) (hf:formS x=some f) {i:Nat} (hi:i<4) (hb:f.getD i false=true):0≤(oprs x).getD i 0∧(oprs x).getD i 0<regs:=by
  unfold rightS at h
  rw [hf] at h
  simp only [Bool.and_eq_true] at h
  obtain ⟨⟨_,h⟩,_⟩:=h
  have hl:i<f.length:=by
    rcases Nat.lt_or_ge i f.length with h|h
    ·exact h
    ·simp [List.getD,h] at hb
  have key:∀ n,oprOk f regs i n=true→0≤n∧n<regs:=fun n hn=>by
    unfold oprOk at hn
    rw [if_neg (by omega),if_pos hb] at hn
    simpa using hn
  match i,hi with
  |0,_=>exact key _ h.1.1.1
  |1,_=>exact key _ h.1.1.2
  |2,_=>exact key _ h.1.2
  |3,_=>exact key _ h.2
theorem mem_pickR {w:Bool} {n:Int}:∀ {i:Nat} {f:List Bool} {l:List Int},n∈pickR w i f l→∃ k,f.getD k false=true∧l.getD k 0=n∧k<l.length
  |i,[],l,h=>by cases l<;>simp [pickR] at h
  |i,true::f,[],h=>by simp [pickR] at h
  |i,false::f,[],h=>by simp [pickR] at h
  |i,true::f,m::l,h=>by
   simp only [pickR] at h
   split at h
   ·rcases List.mem_cons.1 h with rfl|h
    ·exact ⟨0,rfl,rfl,by simp⟩
    ·obtain ⟨k,k1,k2,k3⟩:=mem_pickR h;exact ⟨k+1,by simpa using k1,by simpa using k2,by simpa using k3⟩
   ·obtain ⟨k,k1,k2,k3⟩:=mem_pickR h;exact ⟨k+1,by simpa using k1,by simpa using k2,by simpa using k3⟩
  |i,false::f,m::l,h=>by
   simp only [pickR] at h
   obtain ⟨k,k1,k2,k3⟩:=mem_pickR h;exact ⟨k+1,by simpa using k1,by simpa using k2,by simpa using k3⟩
theorem reads_reg {x:Ins} {regs:Int} (h:rightS x regs=true) {n:Int} (hn:n∈readsS x):0≤n∧n<regs:=by
  unfold readsS at hn
  cases hf:formS x with
  |none=>rw [hf] at hn;simp at hn
  |some f=>
   rw [hf] at hn
   obtain ⟨k,k1,k2,k3⟩:=mem_pickR hn
   rw [←k2]
   exact right_reg h hf k3 k1
structure Regs (x:Ins) (regs:Int):Prop where
  w:wrtB x.code=true→0≤x.a∧x.a<regs
  a:x.code=7∨x.code=11→0≤x.a∧x.a<regs
  b:x.code=2∨x.code=3∨x.code=4∨x.code=6∨x.code=7∨x.code=9∨x.code=10∨x.code=14→0≤x.b∧x.b<regs
  c:x.code=2∨x.code=3∨x.code=4∨x.code=10→0≤x.c∧x.c<regs
  code:x.code=1∨x.code=2∨x.code=3∨x.code=4∨x.code=5∨x.code=6∨x.code=7∨x.code=8∨x.code=9∨x.code=10∨x.code=11∨x.code=12∨x.code=13∨x.code=14∨x.code=15
  k1:x.code=1→ -maxC≤x.b∧x.b≤maxC
  k2:x.code=2→ -maxA≤x.d∧x.d≤maxA
  k10:x.code=10→1≤x.d∧x.d≤maxA
  k9:x.code=9→1≤x.a∧x.a≤1000000
theorem right_regs {x:Ins} {regs:Int} (h:rightS x regs=true):Regs x regs:=by
  cases hf:formS x with
  |none=>unfold rightS at h;rw [hf] at h;cases h
  |some f=>
   have key:=fun i (hi:i<4) (hb:f.getD i false=true)=>right_reg h hf hi hb
   have hrest:restOk x=true:=by
     unfold rightS at h;rw [hf] at h;simp only [Bool.and_eq_true] at h;exact h.2
   have f5:x.code=5→f.getD 0 false=true:=fun hc=>by
     unfold formS at hf
     rw [if_neg (by omega),if_neg (by omega),if_neg (by omega),if_pos hc] at hf
     simp only [Option.map_eq_some_iff] at hf
     obtain ⟨r,_,rfl⟩:=hf
     rw [Nat.add_comm];simp [List.replicate_succ]
   have hcode:x.code=1∨x.code=2∨x.code=3∨x.code=4∨x.code=5∨x.code=6∨x.code=7∨x.code=8∨x.code=9∨x.code=10∨x.code=11∨x.code=12∨x.code=13∨x.code=14∨x.code=15:=by
     unfold formS at hf
     repeat' split at hf
     all_goals first|omega|cases hf
   have fx:∀ (L:List Bool),(if x.code=1 then some [true,false] else if x.code=2∨x.code=10 then some [true,true,true,false] else if x.code=3∨x.code=4 then some [true,true,true]
     else if x.code=5 then some L else if x.code=6∨x.code=7∨x.code=14 then some [true,true] else if x.code=8∨x.code=11 then some [true] else if x.code=9 then some [false,true] else some [])=some f→x.code≠5→
     (wrtB x.code=true→f.getD 0 false=true)∧(x.code=7∨x.code=11→f.getD 0 false=true)∧
     (x.code=2∨x.code=3∨x.code=4∨x.code=6∨x.code=7∨x.code=9∨x.code=10∨x.code=14→f.getD 1 false=true)∧(x.code=2∨x.code=3∨x.code=4∨x.code=10→f.getD 2 false=true):=by
     intro L hL h5
     rcases hcode with e|e|e|e|e|e|e|e|e|e|e|e|e|e|e
     all_goals first|exact absurd e h5|skip
     all_goals (rw [e] at hL ⊢;simp at hL;subst hL;simp [wrtB])
   have all:(wrtB x.code=true→f.getD 0 false=true)∧(x.code=7∨x.code=11→f.getD 0 false=true)∧
     (x.code=2∨x.code=3∨x.code=4∨x.code=6∨x.code=7∨x.code=9∨x.code=10∨x.code=14→f.getD 1 false=true)∧(x.code=2∨x.code=3∨x.code=4∨x.code=10→f.getD 2 false=true):=by
     by_cases h5:x.code=5
     ·refine ⟨fun _=>f5 h5,?_,?_,?_⟩<;>intro h<;>omega
     ·refine fx [] ?_ h5
      have h0:=hf
      unfold formS at h0
      rcases hcode with e|e|e|e|e|e|e|e|e|e|e|e|e|e|e
      all_goals first|exact absurd e h5|(rw [e] at h0 ⊢;simpa using h0)
   obtain ⟨a1,a2,a3,a4⟩:=all
   refine ⟨fun hw=>key 0 (by decide) (a1 hw),fun hw=>key 0 (by decide) (a2 hw),fun hw=>key 1 (by decide) (a3 hw),fun hw=>key 2 (by decide) (a4 hw),hcode,fun e=>?_,fun e=>?_,fun e=>?_,fun e=>?_⟩
   all_goals (unfold restOk at hrest;rw [e] at hrest;simpa using hrest)
end Go.Proofs.Ytnlimcijgpaegaa.Bm

namespace Go.Proofs.Ytnlimcijgpaegaa.Bm
open Go.Proofs.Ytnlimcijgpaegaa
open Go Go.Fw
section
variable {B:Prg} {mt:List Int}
theorem wipe_length (l:List (List Rng)) (i to:Int):(wipe l i to).length=l.length:=by simp [wipe]
theorem wipe_getD {l:List (List Rng)} {i to:Int} {j:Nat}:(wipe l i to).getD j []=if i≤j∧(j:Int)<to then [] else l.getD j []:=by
  unfold wipe
  by_cases h:j<l.length
  ·simp [List.getD,List.getElem?_mapIdx,h]
  ·simp [List.getD,List.getElem?_mapIdx,List.getElem?_eq_none (show l.length≤j by omega)]
def Cl (B:Prg) (mt:List Int) (i to:Int):Prop:=0≤i∧to≤B.ops.length∧∀ j:Int,i≤j→j<to→((B.op j).code=10∨(B.op j).code=11∨(B.op j).code=12)→gt mt j<to
theorem Cl.next {i j to:Int} (h:Cl B mt i to) (hj:i≤j):Cl B mt j to:=⟨by have:=h.1;omega,h.2.1,fun k k1 k2 k3=>h.2.2 k (by omega) k2 k3⟩
theorem Nest.inner (hN:Nest B.ops mt) {i:Int} (h0:0≤i) (h1:i<B.ops.length) (ho:(B.op i).code=10∨(B.op i).code=11∨(B.op i).code=12):Cl B mt (i+1) (gt mt i):=by
  obtain ⟨k1,k2,_,_⟩:=hN.at h0 h1 ho
  refine ⟨by omega,by omega,fun j j1 j2 j3=>?_⟩
  obtain ⟨n,rfl⟩:∃ n:Nat,i=n:=⟨i.toNat,by omega⟩
  obtain ⟨m,rfl⟩:∃ m:Nat,j=m:=⟨j.toNat,by omega⟩
  obtain ⟨e,q1,q2,q3,_,_,q6⟩:=hN.clo n (by omega) (by rw [←op_cd];simp [opnr];omega)
  have e1:gt mt (n:Int)=e:=by simp [gt];simpa [List.getD] using q1
  obtain ⟨f,f1,f2,f3⟩:=q6 m (by omega) (by omega) (by rw [←op_cd];simp [opnr];omega)
  have e2:gt mt (m:Int)=f:=by simp [gt];simpa [List.getD] using f1
  omega
theorem Nest.end_ (hN:Nest B.ops mt) {i to:Int} (hc:Cl B mt i to) (hi:i<to) (ho:(B.op i).code=11):
    i<gt mt i∧gt mt i≤gt mt (gt mt i)∧gt mt (gt mt i)<to∧endS B mt i=gt mt (gt mt i)∧Cl B mt (minI (gt mt i+1) (gt mt (gt mt i))) (gt mt (gt mt i))∧((B.op (gt mt i)).code≠12→gt mt (gt mt i)=gt mt i):=by
  have h1:i<B.ops.length:=by have:=hc.2.1;omega
  obtain ⟨k1,k2,k3,k4⟩:=hN.at hc.1 h1 (.inr (.inl ho))
  have hk:=hc.2.2 i (Int.le_refl _) hi (.inr (.inl ho))
  have h0:=hc.1
  by_cases e:(B.op (gt mt i)).code=12
  ·obtain ⟨j1,j2,_,_⟩:=hN.at (i:=gt mt i) (by omega) k2 (.inr (.inr e))
   have hin:=hN.inner (i:=gt mt i) (by omega) k2 (.inr (.inr e))
   refine ⟨k1,by omega,hc.2.2 _ (by omega) hk (.inr (.inr e)),by unfold endS;rw [if_pos e],?_,fun h=>absurd e h⟩
   rw [show minI (gt mt i+1) (gt mt (gt mt i))=gt mt i+1 by unfold minI;rw [if_neg (by omega)]]
   exact hin
  ·have e13:(B.op (gt mt i)).code=13:=by rcases k3 with h|h;exact absurd h e;exact h
   obtain ⟨n,hn⟩:∃ n:Nat,gt mt i=n:=⟨(gt mt i).toNat,by omega⟩
   have hs:gt mt (gt mt i)=gt mt i:=by
     have:=hN.self n (by omega) (by rw [←op_cd,←hn,e13];decide)
     rw [hn]
     simpa [gt,List.getD] using this
   rw [hs]
   refine ⟨k1,Int.le_refl _,hk,by unfold endS;rw [if_neg e],?_,fun _=>rfl⟩
   rw [show minI (gt mt i+1) (gt mt i)=gt mt i by unfold minI;rw [if_pos (by omega)]]
   exact ⟨by omega,by omega,fun j j1 j2 _=>by omega⟩
def VTk.lo:VTk→Int
  |.blk i _=>i
  |.lop i _=>i+1
def VTk.hi (mt:List Int):VTk→Int
  |.blk _ to=>to
  |.lop i _=>gt mt i
def VTk.ok (B:Prg) (mt:List Int):VTk→Prop
  |.blk i to=>Cl B mt i to
  |.lop i _=>0≤i∧i<B.ops.length∧(B.op i).code=10
def Wr (lo hi:Int) (w w':W):Prop:=w'.before.length=w.before.length∧∀ j:Nat,¬ (lo≤j∧(j:Int)<hi)→w'.before.getD j []=w.before.getD j []
theorem Wr.refl (lo hi:Int) (w:W):Wr lo hi w w:=⟨rfl,fun _ _=>rfl⟩
theorem Wr.trans {lo hi:Int} {a b c:W} (h:Wr lo hi a b) (k:Wr lo hi b c):Wr lo hi a c:=⟨k.1.trans h.1,fun j hj=>(k.2 j hj).trans (h.2 j hj)⟩
theorem Wr.wide {lo hi lo' hi':Int} {a b:W} (h:Wr lo hi a b) (h1:lo'≤lo) (h2:hi≤hi'):Wr lo' hi' a b:=⟨h.1,fun j hj=>h.2 j (by omega)⟩
theorem wr_wipe {lo hi:Int} {w:W}:Wr lo hi w {w with before:=wipe w.before lo hi}:=⟨wipe_length _ _ _,fun j hj=>by simp only [wipe_getD];rw [if_neg hj]⟩
theorem wr_set {i hi:Int} {w:W} {s:List Rng} (h0:0≤i) (h:i<hi):Wr i hi w {w with before:=w.before.set i.toNat s}:=⟨by simp,fun j hj=>by
  have:i.toNat≠j:=by omega
  simp [List.getD,List.getElem?_set_ne this]⟩
theorem part_inv {rec:VTk→List Rng→W→Option (List Rng×W)} {i to:Int} {s:List Rng} {r:Int} {x:Rng} {w:W} {o:Option (List Rng)} {w':W} (h:partV rec i to s r x w=some (o,w')):
    (x.lo>x.hi∧o=none∧w'={w with before:=wipe w.before i to})∨(¬ x.lo>x.hi∧∃ t,o=some t∧rec (.blk i to) (withR s r x) w=some (t,w')):=by
  unfold partV at h
  split at h
  ·rename_i hx;cases h;exact .inl ⟨hx,rfl,rfl⟩
  ·rename_i hx
   split at h
   ·rename_i t w1 hr;cases h;exact .inr ⟨hx,t,rfl,hr⟩
   ·cases h
inductive Step1 (B:Prg) (mt:List Int) (f:Nat) (i to:Int) (s:List Rng) (w:W) (r:List Rng×W):Prop
  |iff (yes no:Option (List Rng)) (w1 w2:W) (t:List Rng) (hc:(B.op i).code=11)
     (h1:partV (vrun B mt f) (i+1) (gt mt i) s (B.op i).a ⟨maxI (gR s (B.op i).a).lo 0,(gR s (B.op i).a).hi⟩ {w with before:=w.before.set i.toNat s}=some (yes,w1))
     (h2:partV (vrun B mt f) (minI (gt mt i+1) (gt mt (gt mt i))) (gt mt (gt mt i)) s (B.op i).a ⟨(gR s (B.op i).a).lo,minI (gR s (B.op i).a).hi (-1)⟩ w1=some (no,w2))
     (h3:hullsR yes no=some t) (h4:vrun B mt f (.blk (gt mt (gt mt i)+1) to) t w2=some r)
  |dead (hc:(B.op i).code=10) (hv:(gR s (B.op i).b).lo>(gR s (B.op i).c).hi - 1)
     (h1:vrun B mt f (.blk (gt mt i+1) to) s {w with before:=wipe (w.before.set i.toNat s) (i+1) (gt mt i)}=some r)
  |forr (t:List Rng) (w1:W) (hc:(B.op i).code=10) (hv: ¬ (gR s (B.op i).b).lo>(gR s (B.op i).c).hi - 1)
     (h1:vrun B mt f (.lop i ⟨(gR s (B.op i).b).lo,(gR s (B.op i).c).hi - 1⟩) (grownR ((lookH w.heads i).getD s) s) {w with before:=w.before.set i.toNat s}=some (t,w1))
     (h2:vrun B mt f (.blk (gt mt i+1) to) t w1=some r)
  |one (h1:(B.op i).code≠10) (h2:(B.op i).code≠11)
     (h3:vrun B mt f (.blk (i+1) to) (if wrtB (B.op i).code=true then withR s (B.op i).a (resultR (B.op i) s) else s) {w with before:=w.before.set i.toNat s}=some r)
theorem step1_of {f:Nat} {i to:Int} {s:List Rng} {w:W} {r:List Rng×W} (h:vrun B mt (f+1) (.blk i to) s w=some r) (hi:i<to):Step1 B mt f i to s w r:=by
  simp only [vrun] at h
  rw [if_pos hi] at h
  split at h
  ·rename_i hc
   split at h
   ·rename_i yes w1 h1
    split at h
    ·rename_i no w2 h2
     split at h
     ·rename_i t h3;exact .iff yes no w1 w2 t hc h1 h2 h3 h
     ·cases h
    ·cases h
   ·cases h
  ·rename_i h11
   split at h
   ·rename_i hc
    split at h
    ·rename_i hv;exact .dead hc hv h
    ·rename_i hv
     split at h
     ·rename_i t w1 h1;exact .forr t w1 hc hv h1 h
     ·cases h
   ·rename_i h10;exact .one h10 h11 h
theorem vrun_wr (hN:Nest B.ops mt):∀ (f:Nat) (tk:VTk) (s:List Rng) (w:W) (t:List Rng) (w':W),tk.ok B mt→vrun B mt f tk s w=some (t,w')→Wr tk.lo (tk.hi mt) w w'
  |0,_,_,_,_,_,_,h=>by simp [vrun] at h
  |f+1,.blk i to,s,w,t,w',hk,h=>by
   have hk':Cl B mt i to:=hk
   by_cases hi:i<to
   ·have hs:=wr_set (w:=w) (s:=s) hk'.1 hi
    rcases step1_of h hi with ⟨yes,no,w1,w2,t1,hc,h1,h2,h3,h4⟩|⟨hc,hv,h1⟩|⟨t1,w1,hc,hv,h1,h2⟩|⟨_,_,h3⟩
    ·obtain ⟨k1,k2,k3,_,k5,_⟩:=hN.end_ hk' hi hc
     have hin:=hN.inner hk'.1 (by have:=hk'.2.1;omega) (.inr (.inl hc))
     have e1:Wr i to {w with before:=w.before.set i.toNat s} w1:=by
       rcases part_inv h1 with ⟨_,_,rfl⟩|⟨_,u,_,hr⟩
       ·exact (wr_wipe (lo:=i+1) (hi:=gt mt i)).wide (by omega) (by omega)
       ·exact (vrun_wr hN f (.blk (i+1) (gt mt i)) _ _ _ _ hin hr).wide (by show i≤i+1;omega) (by show gt mt i≤to;omega)
     have e2:Wr i to w1 w2:=by
       have hmin:i≤minI (gt mt i+1) (gt mt (gt mt i)):=by unfold minI;split<;>omega
       rcases part_inv h2 with ⟨_,_,rfl⟩|⟨_,u,_,hr⟩
       ·exact wr_wipe.wide hmin (by omega)
       ·exact (vrun_wr hN f (.blk _ _) _ _ _ _ k5 hr).wide hmin (by show gt mt (gt mt i)≤to;omega)
     exact ((hs.trans e1).trans e2).trans ((vrun_wr hN f (.blk _ _) _ _ _ _ (hk'.next (by omega)) h4).wide (by show i≤gt mt (gt mt i)+1;omega) (Int.le_refl _))
    ·have hk1:=hk'.2.2 i (Int.le_refl _) hi (.inl hc)
     obtain ⟨k1,_,_,_⟩:=hN.at hk'.1 (by have:=hk'.2.1;omega) (.inl hc)
     have e1:Wr i to {w with before:=w.before.set i.toNat s} {w with before:=wipe (w.before.set i.toNat s) (i+1) (gt mt i)}:=(wr_wipe (w:={w with before:=w.before.set i.toNat s}) (lo:=i+1) (hi:=gt mt i)).wide (by omega) (by omega)
     exact (hs.trans e1).trans ((vrun_wr hN f (.blk _ _) _ _ _ _ (hk'.next (by omega)) h1).wide (by show i≤gt mt i+1;omega) (Int.le_refl _))
    ·have hk1:=hk'.2.2 i (Int.le_refl _) hi (.inl hc)
     have hlt:i<B.ops.length:=by have:=hk'.2.1;omega
     obtain ⟨k1,_,_,_⟩:=hN.at hk'.1 hlt (.inl hc)
     have e1:=(vrun_wr hN f (.lop i _) _ _ _ _ ⟨hk'.1,hlt,hc⟩ h1).wide (lo':=i) (hi':=to) (by show i≤i+1;omega) (by show gt mt i≤to;omega)
     exact (hs.trans e1).trans ((vrun_wr hN f (.blk _ _) _ _ _ _ (hk'.next (by omega)) h2).wide (by show i≤gt mt i+1;omega) (Int.le_refl _))
    ·exact hs.trans ((vrun_wr hN f (.blk _ _) _ _ _ _ (hk'.next (by omega)) h3).wide (by show i≤i+1;omega) (Int.le_refl _))
   ·simp only [vrun] at h
    rw [if_neg hi] at h
    cases h
    exact Wr.refl _ _ _
  |f+1,.lop i v,s,w,t,w',hk,h=>by
   obtain ⟨h0,h1,hc⟩:=hk
   have hin:=hN.inner h0 h1 (.inl hc)
   simp only [vrun] at h
   split at h
   ·rename_i t1 w1 hr
    have e0:=vrun_wr hN f (.blk (i+1) (gt mt i)) _ _ _ _ hin hr
    have e1:Wr (i+1) (gt mt i) w w1:=e0
    split at h
    ·cases h;exact e1
    ·exact e1.trans (vrun_wr hN f (.lop i v) _ _ _ _ ⟨h0,h1,hc⟩ h)
   ·cases h
end
end Go.Proofs.Ytnlimcijgpaegaa.Bm

namespace Go.Proofs.Ytnlimcijgpaegaa.Bm
open Go.Proofs.Ytnlimcijgpaegaa
open Go Go.Fw
section
variable {B:Prg} {mt:List Int}
theorem okR_sum {x:Ins} {n:Nat} {s:List Rng} (h:OkS n s):(sumR x s).lo≤(sumR x s).hi:=by
  have h1:=(h.at x.b).1
  have m1:=minI_le (x.d*(gR s x.c).lo) (x.d*(gR s x.c).hi)
  have m2:=maxI_ge (x.d*(gR s x.c).lo) (x.d*(gR s x.c).hi)
  unfold sumR
  simp only
  generalize x.d*(gR s x.c).lo=p at*
  generalize x.d*(gR s x.c).hi=q at*
  omega
theorem okR_result {x:Ins} {n:Nat} {s:List Rng} (h:OkS n s) {regs:Int} (hx:Regs x regs):OkR (resultR x s):=by
  unfold resultR
  split
  ·rename_i e
   have:=hx.k1 e
   exact ⟨Int.le_refl _,this.1,this.2⟩
  ·split
   ·exact okR_held (okR_sum h) okR_mach
   ·split
    ·have b:=h.at x.b
     have c:=h.at x.c
     obtain ⟨b1,b2,b3⟩:=b
     obtain ⟨c1,c2,c3⟩:=c
     have m1:=minI_le (gR s x.b).lo (gR s x.c).lo
     have m2:=minI_le (gR s x.b).hi (gR s x.c).hi
     refine ⟨?_,?_,?_⟩<;>simp only<;>omega
    ·split
     ·have b:=h.at x.b
      have c:=h.at x.c
      obtain ⟨b1,b2,b3⟩:=b
      obtain ⟨c1,c2,c3⟩:=c
      have m1:=maxI_ge (gR s x.b).lo (gR s x.c).lo
      have m2:=maxI_ge (gR s x.b).hi (gR s x.c).hi
      refine ⟨?_,?_,?_⟩<;>simp only<;>omega
     ·split
      ·split
       ·rename_i r hr;exact okR_prim hr
       ·unfold wideR
        split
        ·split
         ·exact okR_bool
         ·exact okR_ints
        ·exact okR_ints
      ·split
       ·exact okR_held (h.at x.b).1 okR_ints
       ·split
        ·exact okR_nil
        ·exact okR_ints
def HOk (n:Nat) (w:W):Prop:=∀ i l,lookH w.heads i=some l→OkS n l
theorem lookH_put {l:List (Int×List Rng)} {i j:Int} {s:List Rng}:lookH (putH l i s) j=if j=i then some s else lookH l j:=by
  induction l with
  |nil=>simp only [putH,lookH]
  |cons e l ih=>
   simp only [putH]
   by_cases h:i=e.1
   ·rw [if_pos h]
    simp only [lookH]
    by_cases k:j=i
    ·rw [if_pos k,if_pos k]
    ·rw [if_neg k,if_neg k,if_neg (by omega)]
   ·rw [if_neg h]
    simp only [lookH]
    by_cases k:j=e.1
    ·rw [if_pos k,if_neg (by omega),if_pos k]
    ·rw [if_neg k,if_neg k,ih]
theorem hulls_ok {n:Nat} {a b:Option (List Rng)} {t:List Rng} (h:hullsR a b=some t) (ha:∀ l,a=some l→OkS n l) (hb:∀ l,b=some l→OkS n l):OkS n t:=by
  cases a with
  |none=>exact hb t h
  |some a=>cases b with
   |none=>exact ha t h
   |some b=>cases h;exact (ha a rfl).hulls (hb b rfl)
theorem ok_yes {r:Rng} (h:OkR r) (hx: ¬ (⟨maxI r.lo 0,r.hi⟩:Rng).lo>(⟨maxI r.lo 0,r.hi⟩:Rng).hi):OkR ⟨maxI r.lo 0,r.hi⟩:=by
  obtain ⟨h1,h2,h3⟩:=h
  have m:=maxI_ge r.lo 0
  refine ⟨?_,?_,?_⟩<;>simp only [machR,maxC] at* <;>omega
theorem ok_no {r:Rng} (h:OkR r) (hx: ¬ (⟨r.lo,minI r.hi (-1)⟩:Rng).lo>(⟨r.lo,minI r.hi (-1)⟩:Rng).hi):OkR ⟨r.lo,minI r.hi (-1)⟩:=by
  obtain ⟨h1,h2,h3⟩:=h
  have m:=minI_le r.hi (-1)
  refine ⟨?_,?_,?_⟩<;>simp only [machR,maxC] at* <;>omega
def Rights (B:Prg) (n:Nat):Prop:=∀ i:Int,0≤i→i<B.ops.length→rightS (B.op i) n=true
theorem vrun_ok (hN:Nest B.ops mt) {n:Nat} (hR:Rights B n):∀ (f:Nat) (tk:VTk) (s:List Rng) (w:W) (t:List Rng) (w':W),vrun B mt f tk s w=some (t,w')→tk.ok B mt→OkS n s→HOk n w→(∀ i v,tk= .lop i v→OkR v)→OkS n t∧HOk n w'
  |0,_,_,_,_,_,h,_,_,_,_=>by simp [vrun] at h
  |f+1,.blk i to,s,w,t,w',h,hk,hs,hw,_=>by
   have hk':Cl B mt i to:=hk
   by_cases hi:i<to
   ·have hlt:i<B.ops.length:=by have:=hk'.2.1;omega
    rcases step1_of h hi with ⟨yes,no,w1,w2,t1,hc,h1,h2,h3,h4⟩|⟨hc,hv,h1⟩|⟨t1,w1,hc,hv,h1,h2⟩|⟨_,_,h3⟩
    ·obtain ⟨k1,k2,k3,_,k5,_⟩:=hN.end_ hk' hi hc
     have hin:=hN.inner hk'.1 hlt (.inr (.inl hc))
     have e1:(∀ l,yes=some l→OkS n l)∧HOk n w1:=by
       rcases part_inv h1 with ⟨_,rfl,rfl⟩|⟨hx,u,rfl,hr⟩
       ·exact ⟨by (intro l h;cases h),hw⟩
       ·obtain ⟨q1,q2⟩:=vrun_ok hN hR f (.blk (i+1) (gt mt i)) _ _ _ _ hr hin (hs.with (ok_yes (hs.at _) hx)) hw (by intro i v h;cases h)
        exact ⟨by intro l h;cases h;exact q1,q2⟩
     have e2:(∀ l,no=some l→OkS n l)∧HOk n w2:=by
       rcases part_inv h2 with ⟨_,rfl,rfl⟩|⟨hx,u,rfl,hr⟩
       ·exact ⟨by (intro l h;cases h),e1.2⟩
       ·obtain ⟨q1,q2⟩:=vrun_ok hN hR f (.blk _ _) _ _ _ _ hr k5 (hs.with (ok_no (hs.at _) hx)) e1.2 (by intro i v h;cases h)
        exact ⟨by intro l h;cases h;exact q1,q2⟩
     exact vrun_ok hN hR f (.blk _ _) _ _ _ _ h4 (hk'.next (by omega)) (hulls_ok h3 e1.1 e2.1) e2.2 (by intro i v h;cases h)
    ·obtain ⟨k1,_,_,_⟩:=hN.at hk'.1 hlt (.inl hc)
     exact vrun_ok hN hR f (.blk _ _) _ _ _ _ h1 (hk'.next (by omega)) hs hw (by intro i v h;cases h)
    ·obtain ⟨k1,_,_,_⟩:=hN.at hk'.1 hlt (.inl hc)
     have hh:OkS n ((lookH w.heads i).getD s):=by
       cases e:lookH w.heads i with
       |none=>exact hs
       |some l=>exact hw i l e
     have hb:=hs.at (B.op i).b
     have hcc:=hs.at (B.op i).c
     obtain ⟨q1,q2⟩:=vrun_ok hN hR f (.lop i _) _ _ _ _ h1 ⟨hk'.1,hlt,hc⟩ (hh.grown hs) hw (by
       intro j v hj
       cases hj
       obtain ⟨b1,b2,b3⟩:=hb
       obtain ⟨c1,c2,c3⟩:=hcc
       refine ⟨?_,?_,?_⟩<;>simp only [machR,maxC] at* <;>omega)
     exact vrun_ok hN hR f (.blk _ _) _ _ _ _ h2 (hk'.next (by omega)) q1 q2 (by intro i v h;cases h)
    ·refine vrun_ok hN hR f (.blk _ _) _ _ _ _ h3 (hk'.next (by omega)) ?_ hw (by intro i v h;cases h)
     split
     ·exact hs.with (okR_result hs (right_regs (hR i hk'.1 hlt)))
     ·exact hs
   ·simp only [vrun] at h
    rw [if_neg hi] at h
    cases h
    exact ⟨hs,hw⟩
  |f+1,.lop i v,s,w,t,w',h,hk,hs,hw,hv=>by
   obtain ⟨h0,h1,hc⟩:=hk
   have hin:=hN.inner h0 h1 (.inl hc)
   simp only [vrun] at h
   split at h
   ·rename_i t1 w1 hr
    obtain ⟨q1,q2⟩:=vrun_ok hN hR f (.blk (i+1) (gt mt i)) _ _ _ _ hr hin (hs.with (hv i v rfl)) (by
      intro j l hj
      simp only [lookH_put] at hj
      split at hj
      ·cases hj;exact hs
      ·exact hw j l hj) (by intro i v h;cases h)
    split at h
    ·cases h;exact ⟨hs,q2⟩
    ·exact vrun_ok hN hR f (.lop i v) _ _ _ _ h ⟨h0,h1,hc⟩ (hs.grown q1) q2 hv
   ·cases h
def Wider (n:Nat) (s t:List Rng):Prop:=∀ i,i<n→(s.getD i nilR).within (t.getD i nilR)
theorem Wider.trans {n:Nat} {a b c:List Rng} (h:Wider n a b) (k:Wider n b c):Wider n a c:=fun i hi=>Rng.within_trans (h i hi) (k i hi)
theorem InP.refine {s:List Rng} {l:List Int} (h:InP s l) {i:Int} {x:Rng} (hx:x.has (gt l i)):InP (withR s i x) l:=by
  refine ⟨by simp [withR,h.1],fun j hj=>?_⟩
  have hj':j<s.length:=by simpa [withR] using hj
  by_cases e:i.toNat=j
  ·subst e
   simpa [withR,List.getD,List.getElem?_set_self hj',gt] using hx
  ·have:=h.2 j hj'
   simpa [withR,List.getD,List.getElem?_set_ne e] using this
end
end Go.Proofs.Ytnlimcijgpaegaa.Bm

namespace Go.Proofs.Ytnlimcijgpaegaa
open Go Go.Fw Bm
set_option maxRecDepth 20000
def opV (x:Ins):AV:= .agg [.lit (.int .i64 x.code),.lit (.string x.prim),.lit (.int .i64 x.a),.lit (.int .i64 x.b),.lit (.int .i64 x.c),.lit (.int .i64 x.d)]
def opsV (l:List Ins):List AV:=l.map opV
theorem opsV_length (l:List Ins):(opsV l).length=l.length:=by simp [opsV]
def jOp:AV:=opV nilI
theorem opsV_getJ (l:List Ins) (i:Nat):(opsV l).getD i jOp=opV (l.getD i nilI):=by
  simp only [opsV,jOp,List.getD_eq_getElem?_getD,List.getElem?_map];cases l[i]? <;>rfl
def opOf:AV→Option Ins
  |.agg [.lit (.int .i64 k),.lit (.string p),.lit (.int .i64 a),.lit (.int .i64 b),.lit (.int .i64 c),.lit (.int .i64 d)]=>some ⟨k,p,a,b,c,d⟩
  |_=>none
theorem opOf_agg {k a b c d:Int} {p:ByteArray}:opOf (.agg [.lit (.int .i64 k),.lit (.string p),.lit (.int .i64 a),.lit (.int .i64 b),.lit (.int .i64 c),.lit (.int .i64 d)])=some ⟨k,p,a,b,c,d⟩:=rfl
theorem opOf_V (x:Ins):opOf (opV x)=some x:=rfl
theorem opOf_inv {x:AV} {s:Ins} (h:opOf x=some s):x=opV s:=by
  unfold opOf at h
  split at h
  ·cases h;rfl
  ·cases h
theorem opOf_le {x:AV} {s:Ins} (h:opOf x=some s):LeA x (opV s):=by rw [opOf_inv h];exact LeA.refl _
def opL:List AV→Option (List Ins)
  |[]=>some []
  |x::xs=>match opOf x,opL xs with
   |some s,some l=>some (s::l)
   |_,_=>none
theorem opL_ops:∀ l:List Ins,opL (opsV l)=some l
  |[]=>rfl
  |s::l=>by
   show opL (opV s::opsV l)=_
   rw [opL,opOf_V,opL_ops l]
theorem opL_inv:∀ {xs:List AV} {l:List Ins},opL xs=some l→xs=opsV l
  |[],l,h=>by cases h;rfl
  |x::xs,l,h=>by
   unfold opL at h
   split at h
   ·rename_i s l' h1 h2
    cases h
    rw [opOf_inv h1,opL_inv h2];rfl
   ·cases h
def opsOf (x:AV):Option (List Ins):=(slA 6 x).bind opL
theorem opsOf_leR {x:AV} {l:List Ins} (h:opsOf x=some l):LeR x (.sl false 6 (opsV l)):=slA_leR (by
  unfold opsOf at h
  cases hx:slA 6 x with
  |none=>rw [hx] at h;cases h
  |some xs=>rw [hx] at h;rw [←opL_inv h])
theorem opsOf_le {x:AV} {l:List Ins} (h:opsOf x=some l):LeA x (.sl false 6 (opsV l)):=slA_le (by
  unfold opsOf at h
  cases hx:slA 6 x with
  |none=>rw [hx] at h;cases h
  |some xs=>rw [hx] at h;rw [←opL_inv h])
theorem opsOf_sl {b:Bool} {l:List Ins}:opsOf (.sl b 6 (opsV l))=some l:=by simp [opsOf,slA,opL_ops]
def plV (p:Int×Int):AV:= .agg [.lit (.int .i64 p.1),.lit (.int .i64 p.2)]
def plsV (l:List (Int×Int)):List AV:=l.map plV
theorem plsV_length (l:List (Int×Int)):(plsV l).length=l.length:=by simp [plsV]
def jPl:AV:=plV (0,0)
theorem plsV_getJ (l:List (Int×Int)) (i:Nat):(plsV l).getD i jPl=plV (l.getD i (0,0)):=by
  simp only [plsV,jPl,List.getD_eq_getElem?_getD,List.getElem?_map];cases l[i]? <;>rfl
def plOf:AV→Option (Int×Int)
  |.agg [.lit (.int .i64 a),.lit (.int .i64 b)]=>some (a,b)
  |_=>none
theorem plOf_inv {x:AV} {s:Int×Int} (h:plOf x=some s):x=plV s:=by
  unfold plOf at h
  split at h
  ·cases h;rfl
  ·cases h
def plL:List AV→Option (List (Int×Int))
  |[]=>some []
  |x::xs=>match plOf x,plL xs with
   |some s,some l=>some (s::l)
   |_,_=>none
theorem plL_pls:∀ l:List (Int×Int),plL (plsV l)=some l
  |[]=>rfl
  |s::l=>by
   show plL (plV s::plsV l)=_
   rw [plL,show plOf (plV s)=some s from rfl,plL_pls l]
theorem plL_inv:∀ {xs:List AV} {l:List (Int×Int)},plL xs=some l→xs=plsV l
  |[],l,h=>by cases h;rfl
  |x::xs,l,h=>by
   unfold plL at h
   split at h
   ·rename_i s l' h1 h2
    cases h
    rw [plOf_inv h1,plL_inv h2];rfl
   ·cases h
def plsOf (x:AV):Option (List (Int×Int)):=(slA 2 x).bind plL
theorem plsOf_le {x:AV} {l:List (Int×Int)} (h:plsOf x=some l):LeA x (.sl false 2 (plsV l)):=slA_le (by
  unfold plsOf at h
  cases hx:slA 2 x with
  |none=>rw [hx] at h;cases h
  |some xs=>rw [hx] at h;rw [←plL_inv h])
theorem plsOf_sl {b:Bool} {l:List (Int×Int)}:plsOf (.sl b 2 (plsV l))=some l:=by simp [plsOf,slA,plL_pls]
def jkV:TypeId→AV:=fun t=>if t=73 then jOp else if t=99 then jPl else jk t
theorem jkV_73:jkV 73=jOp:=rfl
theorem jkV_99:jkV 99=jPl:=rfl
theorem jkV_3:jkV 3= .lit (.int .i64 0):=rfl
theorem jkV_9:jkV 9= .lit (.string ByteArray.empty):=rfl
theorem jkV_34:jkV 34=jI:=rfl
theorem jkV_96:jkV 96=jA:=rfl
theorem typesV_some {r:El.Rw}:El.typesV (some r)= .tup [.sl false 1 (strs r.ps),.lit (.string r.rs),.lit (.bool true)]:=rfl
theorem typesV_none:El.typesV none= .tup [.lit (.slice none 0 0),.lit (.string ⟨#[]⟩),.lit (.bool false)]:=rfl
attribute [go_sem] jkV_73 jkV_99 jkV_3 jkV_9 jkV_34 jkV_96 opsV_getJ opsV_length plsV_getJ plsV_length typesV_some typesV_none opOf_agg
end Go.Proofs.Ytnlimcijgpaegaa

namespace Go.Proofs.Ytnlimcijgpaegaa
open Go Go.Fw Bm
set_option maxRecDepth 20000
def frB (f:List Bool):ByteArray:=⟨(f.map fun b=>if b=true then (114:UInt8) else 110).toArray⟩
def formV (x:Ins):AV:=match formS x with
  |some f=> .tup [.lit (.string (frB f)),.lit (.bool true)]
  |none=> .tup [.lit (.string (if x.code=5 then frB [true] else frB [])),.lit (.bool false)]
theorem typesS_len {op:ByteArray} {r:El.Rw} (h:El.typesS op=some r):r.ps.length=1∨r.ps.length=2∨r.ps.length=3:=by
  have hm:r∈El.rowsL:=List.mem_of_find?_eq_some h
  have:∀ r∈El.rowsL,r.ps.length=1∨r.ps.length=2∨r.ps.length=3:=by decide
  exact this r hm
theorem szR4:(#[114,114,114,114]:Array UInt8).size=4:=rfl
theorem ci1:(1:Int)+((1:Nat):Int)=2:=rfl
theorem ci2:(1:Int)+((2:Nat):Int)=3:=rfl
theorem ci3:(1:Int)+((3:Nat):Int)=4:=rfl
theorem mi1:minI 4 1=1:=rfl
theorem mi2:minI 4 2=2:=rfl
theorem mi3:minI 4 3=3:=rfl
theorem mi4:minI 4 4=4:=rfl
attribute [go_sem] ci1 ci2 ci3 szR4 mi1 mi2 mi3 mi4
noncomputable def V1:Env:=envJ (P:=Try.prog) jkV zer (fun _=>false) (fun _=>false) [El.con29] []
theorem V1_ok:EnvOk Try.prog V1:=envJOk zer_ok
attribute [go_sem] El.con29_f El.con29_c El.con59_f El.con59_c
set_option maxHeartbeats 4000000 in
theorem form_pc {x:Ins}:PC Try.prog 107 [opV x] (formV x):=by
  obtain ⟨k,p,a,b,c,d⟩:=x
  simp only [opV]
  generalize hR:formV ⟨k,p,a,b,c,d⟩=R
  by_cases h5:k=5
  ·subst h5
   cases hT:El.typesS p with
   |none=>
    refine pcR V1_ok (kp107) Try.func107 [.tmp 2,.tmp 3] (h:=fun KF=>?_)
    unfold V1
    repeat' (first
     |(with_reducible first|refine nx ?_|refine t_seq fun K=>?_|refine t_br (fun hc=>?_) fun hc=>?_|refine t_bx ?_|apply And.intro|intro vr)
     |((with_reducible first|refine ny ?_|refine t_dwh (h:=fun K KL=>?_));intros;simp only [go_sem,kp107,geff,hT]))
    all_goals try (first|(with_reducible assumption)|(intros;(try simp only [Bool.and_eq_true,Bool.or_eq_true,Bool.or_eq_false_iff,Bool.not_eq_true',Bool.not_eq_false',decide_eq_true_eq,decide_eq_false_iff_not,beq_iff_eq,beq_eq_false_iff_ne,bne_iff_ne,bne_eq_false_iff_eq,ne_eq,inI64,List.size_toArray,List.length_cons,List.length_nil] at*)<;>omega)|(intros;(with_reducible first|refine impB_ofR ?_|refine and_ofB ?_ ?_)<;>with_reducible first|assumption|(refine impB_ofR ?_;assumption))|((try simp only [Bool.and_eq_true] at vr);simp only [impB,vr,Bool.or_true,Bool.true_or,Bool.and_self,Bool.not_true,Bool.not_false,Bool.and_true];done))
    all_goals (refine nl ?_;simp only [go_sem])
    exact LeA.of_eq (by rw [←hR];simp [formV,formS,hT,frB];rfl)
   |some r=>
    have hfin:∀ n:Nat,r.ps.length=n→LeA (.tup [.lit (.string (frB (List.replicate (1+n) true))),.lit (.bool true)]) R:=fun n hn=>LeA.of_eq (by rw [←hR];simp only [formV,formS,hT,Option.map_some,hn];rfl)
    rcases typesS_len hT with hl|hl|hl
    all_goals
      have e:=hfin _ hl
      refine pcR V1_ok (kp107) Try.func107 [.tmp 2,.tmp 3] (h:=fun KF=>?_)
      unfold V1
      repeat' (first
       |(with_reducible first|refine nx ?_|refine t_seq fun K=>?_|refine t_br (fun hc=>?_) fun hc=>?_|refine t_bx ?_|apply And.intro|intro vr)
       |((with_reducible first|refine ny ?_|refine t_dwh (h:=fun K KL=>?_));intros;simp only [go_sem,kp107,geff,hT,hl,Int.reduceAdd]))
      all_goals try (first|(with_reducible assumption)|(intros;(try simp only [Bool.and_eq_true,Bool.or_eq_true,Bool.or_eq_false_iff,Bool.not_eq_true',Bool.not_eq_false',decide_eq_true_eq,decide_eq_false_iff_not,beq_iff_eq,beq_eq_false_iff_ne,bne_iff_ne,bne_eq_false_iff_eq,ne_eq,inI64,List.size_toArray,List.length_cons,List.length_nil] at*)<;>omega)|(intros;(with_reducible first|refine impB_ofR ?_|refine and_ofB ?_ ?_)<;>with_reducible first|assumption|(refine impB_ofR ?_;assumption))|((try simp only [Bool.and_eq_true] at vr);simp only [impB,vr,Bool.or_true,Bool.true_or,Bool.and_self,Bool.not_true,Bool.not_false,Bool.and_true];done))
      all_goals (refine nl ?_;simp only [go_sem])
      exact e
  ·skip
   refine pcR V1_ok (kp107) Try.func107 [.tmp 2,.tmp 3] (h:=fun KF=>?_)
   unfold V1
   repeat' (first
    |(with_reducible first|refine nx ?_|refine t_seq fun K=>?_|refine t_br (fun hc=>?_) fun hc=>?_|refine t_bx ?_|apply And.intro|intro vr)
    |((with_reducible first|refine ny ?_|refine t_dwh (h:=fun K KL=>?_));intros;simp only [go_sem,kp107,geff]))
   all_goals try exact nd
   all_goals (refine nl ?_;simp only [go_sem])
   all_goals (refine LeA.of_eq ?_;rw [←hR];simp_all [formV,formS,frB])
noncomputable def con107:PCon Try.prog where
  f:=107
  c:=fun
   |[xx]=>match opOf xx with|some x=>some (True,formV x)|_=>none
   |_=>none
  ok:=by
   intro args p r hc hp
   split at hc
   ·split at hc
    ·rename_i hx
     cases hc
     exact PC.weak form_pc ⟨opOf_le hx,trivial⟩
    ·cases hc
   ·cases hc
  fk:=fk107
theorem con107_f:con107.f=107:=rfl
theorem con107_c {xx:AV}:con107.c [xx]=match opOf xx with|some x=>some (True,formV x)|_=>none:=rfl
end Go.Proofs.Ytnlimcijgpaegaa

namespace Go.Proofs.Ytnlimcijgpaegaa
open Go Go.Fw Bm
set_option maxRecDepth 20000
noncomputable def V2:Env:=envJ (P:=Try.prog) jkV zer (fun _=>false) (fun _=>false) [] []
theorem V2_ok:EnvOk Try.prog V2:=envJOk zer_ok
attribute [go_sem] con107_f con107_c
def oprV (x:Ins):AV:= .agg [.lit (.int .i64 x.a),.lit (.int .i64 x.b),.lit (.int .i64 x.c),.lit (.int .i64 x.d)]
set_option maxHeartbeats 4000000 in
theorem ropr_pc {x:Ins}:PC Try.prog 108 [opV x] (oprV x):=by
  simp only [opV]
  refine pcR V2_ok (kp108) Try.func108 [.cell 2 160] (h:=fun KF=>?_)
  unfold V2
  repeat' (first
   |(with_reducible first|refine nx ?_|refine t_seq fun K=>?_|refine t_br (fun hc=>?_) fun hc=>?_|refine t_bx ?_|apply And.intro|intro vr)
   |((with_reducible first|refine ny ?_|refine t_dwh (h:=fun K KL=>?_));intros;simp only [go_sem,kp108,geff]))
  all_goals try exact nd
  all_goals (refine nl ?_;simp only [go_sem])
  exact LeA.refl _
set_option maxHeartbeats 4000000 in
theorem opr_pc {x:Ins}:PC Try.prog 111 [opV x] (oprV x):=by
  simp only [opV]
  refine pcR V2_ok (kp111) Try.func111 [.cell 2 160] (h:=fun KF=>?_)
  unfold V2
  repeat' (first
   |(with_reducible first|refine nx ?_|refine t_seq fun K=>?_|refine t_br (fun hc=>?_) fun hc=>?_|refine t_bx ?_|apply And.intro|intro vr)
   |((with_reducible first|refine ny ?_|refine t_dwh (h:=fun K KL=>?_));intros;simp only [go_sem,kp111,geff]))
  all_goals try exact nd
  all_goals (refine nl ?_;simp only [go_sem])
  exact LeA.refl _
def wrtV (x:Ins):AV:= .tup [.lit (.int .i64 (if wrtB x.code=true then x.a else 0)),.lit (.bool (wrtB x.code))]
def kindOk (k n regs:Int):Bool:=
  if k=0 then decide (0≤n)&&decide (n<regs)
  else if k=1 then decide (-maxC≤n)&&decide (n≤maxC)
  else if k=2 then decide (-maxA≤n)&&decide (n≤maxA)
  else if k=3 then decide (1≤n)&&decide (n≤1000000)
  else decide (1≤n)&&decide (n≤maxA)
set_option maxHeartbeats 4000000 in
theorem within_pc {k n regs:Int}:PC Try.prog 112 [.lit (.int .i64 k),.lit (.int .i64 n),.lit (.int .i64 regs)] (.lit (.bool (kindOk k n regs))):=by
  generalize hR:kindOk k n regs=R
  refine pcR V2_ok (kp112) Try.func112 [.tmp 6] (h:=fun KF=>?_)
  unfold V2
  repeat' (first
   |(with_reducible first|refine nx ?_|refine t_seq fun K=>?_|refine t_br (fun hc=>?_) fun hc=>?_|refine t_bx ?_|apply And.intro|intro vr)
   |((with_reducible first|refine ny ?_|refine t_dwh (h:=fun K KL=>?_));intros;simp only [go_sem,kp112,geff]))
  all_goals try exact nd
  all_goals (refine nl ?_;simp only [go_sem])
  all_goals (refine LeA.of_eq ?_;subst hR;first|(simp_all [kindOk,maxC,maxA];done)|(simp_all [kindOk,maxC,maxA];rfl))
noncomputable def con108:PCon Try.prog where
  f:=108
  c:=fun
   |[xx]=>match opOf xx with|some x=>some (True,oprV x)|_=>none
   |_=>none
  ok:=by
   intro args p r hc hp
   split at hc
   ·split at hc
    ·rename_i hx
     cases hc
     exact PC.weak ropr_pc ⟨opOf_le hx,trivial⟩
    ·cases hc
   ·cases hc
  fk:=fk108
theorem con108_f:con108.f=108:=rfl
theorem con108_c {xx:AV}:con108.c [xx]=match opOf xx with|some x=>some (True,oprV x)|_=>none:=rfl
noncomputable def con111:PCon Try.prog where
  f:=111
  c:=fun
   |[xx]=>match opOf xx with|some x=>some (True,oprV x)|_=>none
   |_=>none
  ok:=by
   intro args p r hc hp
   split at hc
   ·split at hc
    ·rename_i hx
     cases hc
     exact PC.weak opr_pc ⟨opOf_le hx,trivial⟩
    ·cases hc
   ·cases hc
  fk:=fk111
theorem con111_f:con111.f=111:=rfl
theorem con111_c {xx:AV}:con111.c [xx]=match opOf xx with|some x=>some (True,oprV x)|_=>none:=rfl
noncomputable def con112:PCon Try.prog where
  f:=112
  c:=fun
   |[.lit (.int .i64 k),.lit (.int .i64 n),.lit (.int .i64 r)]=>some (True,.lit (.bool (kindOk k n r)))
   |_=>none
  ok:=by
   intro args p r hc hp
   split at hc
   ·cases hc;exact within_pc
   ·cases hc
  fk:=fk112
theorem con112_f:con112.f=112:=rfl
theorem con112_c {k:Int} {n:Int} {r:Int}:con112.c [.lit (.int .i64 k),.lit (.int .i64 n),.lit (.int .i64 r)]=some (True,.lit (.bool (kindOk k n r))):=rfl
theorem oprV_mk {k a b c d:Int} {p:ByteArray}:oprV ⟨k,p,a,b,c,d⟩= .agg [.lit (.int .i64 a),.lit (.int .i64 b),.lit (.int .i64 c),.lit (.int .i64 d)]:=rfl
theorem wrtV_mk {k a b c d:Int} {p:ByteArray}:wrtV ⟨k,p,a,b,c,d⟩= .tup [.lit (.int .i64 (if wrtB k=true then a else 0)),.lit (.bool (wrtB k))]:=rfl
attribute [go_sem] oprV_mk wrtV_mk con108_f con108_c con111_f con111_c con112_f con112_c
end Go.Proofs.Ytnlimcijgpaegaa

namespace Go.Proofs.Ytnlimcijgpaegaa
open Go Go.Fw Bm
set_option maxRecDepth 20000
theorem formV_some {x:Ins} {f:List Bool} (h:formS x=some f):formV x= .tup [.lit (.string (frB f)),.lit (.bool true)]:=by unfold formV;rw [h]
theorem formV_none {x:Ins} (h:formS x=none):formV x= .tup [.lit (.string (if x.code=5 then frB [true] else frB [])),.lit (.bool false)]:=by unfold formV;rw [h]
theorem formS_len {x:Ins} {f:List Bool} (h:formS x=some f):f.length≤4:=by
  unfold formS at h
  split at h
  ·cases h;decide
  ·split at h
   ·cases h;decide
   ·split at h
    ·cases h;decide
    ·split at h
     ·cases hT:El.typesS x.prim with
      |none=>rw [hT] at h;cases h
      |some r=>
       rw [hT] at h
       cases h
       have:=typesS_len hT
       simp only [List.length_replicate];omega
     ·split at h
      ·cases h;decide
      ·split at h
       ·cases h;decide
       ·split at h
        ·cases h;decide
        ·split at h
         ·cases h;decide
         ·cases h
theorem frB_size (f:List Bool):(frB f).size=f.length:=by simp [frB,ByteArray.size]
theorem frB_at (f:List Bool) (i:Nat) (h:i<f.length):strAt (frB f) i=if f.getD i false=true then 114 else 110:=by
  simp only [strAt,frB,List.getD_eq_getElem?_getD,List.getElem?_map,List.getElem?_eq_getElem h,Option.map_some,Option.getD_some]
  split<;>rfl
theorem decAnd {p q:Prop} [Decidable p] [Decidable q] [Decidable (p∧q)]:(decide p&&decide q)=decide (p∧q):=by
  by_cases h:p<;>by_cases k:q<;>simp [h,k]
theorem stepP {P:Nat→Prop} {i:Nat} (h:∀ j,j<i→P j) (k:P i):∀ j,j<i+1→P j:=fun j hj=>by
  rcases (show j<i∨j=i by omega) with h1|rfl
  ·exact h j h1
  ·exact k
noncomputable def V3:Env:=envJ (P:=Try.prog) jkV zer (fun _=>false) (fun _=>false) [con107,con108] []
theorem V3_ok:EnvOk Try.prog V3:=envJOk zer_ok
set_option maxHeartbeats 8000000 in
theorem rright_pc {x:Ins} {regs:Int}:PC Try.prog 77 [opV x,.lit (.int .i64 regs)] (.lit (.bool (rightS x regs))):=by
  obtain ⟨k,p,a,b,c,d⟩:=x
  simp only [opV]
  generalize hR:rightS ⟨k,p,a,b,c,d⟩ regs=R
  cases hF:formS ⟨k,p,a,b,c,d⟩ with
  |none=>
   have hV:=formV_none hF
   refine pcR V3_ok (kp77) Try.func77 [.tmp 4] (h:=fun KF=>?_)
   unfold V3
   repeat' (first
    |(with_reducible first|refine nx ?_|refine t_seq fun K=>?_|refine t_br (fun hc=>?_) fun hc=>?_|refine t_bx ?_|apply And.intro|intro vr)
    |((with_reducible first|refine ny ?_|refine t_dwh (h:=fun K KL=>?_));intros;simp only [go_sem,kp77,geff,hV]))
   all_goals try exact nd
   all_goals (refine nl ?_;simp only [go_sem])
   all_goals (refine LeA.of_eq ?_;rw [←hR];simp [rightS,hF])
  |some f=>
   have hV:=formV_some hF
   have hl:=formS_len hF
   have hsz:=frB_size f
   have hsz':(frB f).data.size=f.length:=hsz
   have hRR:R=((decide (k=5)||decide (p.data.toList=[]))&&(oprOk f regs 0 a&&oprOk f regs 1 b&&oprOk f regs 2 c&&oprOk f regs 3 d)&&restOk ⟨k,p,a,b,c,d⟩):=by rw [←hR];simp only [rightS,hF]
   refine pcR V3_ok (kp77) Try.func77 [.tmp 4] (h:=fun KF=>?_)
   unfold V3
   repeat' (first
    |(with_reducible first|refine nx ?_|refine t_seq fun K=>?_|refine t_br (fun hc=>?_) fun hc=>?_|refine t_bx ?_|apply And.intro|intro vr)
    |((with_reducible first|refine ny ?_|refine t_dwh (h:=fun K KL=>?_));intros;simp only [go_sem,kp77,geff,hV]))
   all_goals try exact nd
   ·skip
    all_goals (refine nl ?_;simp only [go_sem])
    refine LeA.of_eq ?_
    rw [hRR]
    simp_all [eqS]
   ·have hpk:(decide (k=5)||decide (p.data.toList=[]))=true:=by
      have h1:=hc
      simp only [eqS,Bool.and_eq_false_iff,bne_eq_false_iff_eq,Bool.not_eq_false',beq_iff_eq] at h1
      rcases h1 with h1|h1
      ·simp [h1]
      ·rw [h1];simp
    refine t_loopF (ι:={i:Nat // i≤4∧∀ j,j<i→oprOk f regs j ([a,b,c,d].getD j 0)=true}) (fun i=>[(8,.lit (.int .i64 i.1))]) (fun i=>[.box 73 [.lit (.int .i64 k),.lit (.string p),.lit (.int .i64 a),.lit (.int .i64 b),.lit (.int .i64 c),.lit (.int .i64 d)],.box 160 [.lit (.int .i64 a),.lit (.int .i64 b),.lit (.int .i64 c),.lit (.int .i64 d)]]) (fun i=>4 - i.1) ⟨0,by omega,by omega⟩ ?_ ?_
    ·exact lf
    rintro ⟨i,hi,hP⟩ K0
    rcases (show i=0∨i=1∨i=2∨i=3∨i=4 by omega) with rfl|rfl|rfl|rfl|rfl
    ·have h0:((((0:Nat):Int)):Int)=0:=rfl
     rcases Nat.lt_or_ge 0 f.length with hlt|hlt
     ·have g1:decide ((0:Int)≥(f.length:Int))=false:=decide_eq_false (by omega)
      cases hr:f.getD 0 false with
      |true=>
       have g2:strAt (frB f) 0=114:=by rw [frB_at f 0 hlt,hr];rfl
       have hq:oprOk f regs 0 a=decide (0≤a∧a<regs):=by unfold oprOk;rw [if_neg (by omega),hr,if_pos rfl]
       repeat' (first
        |(with_reducible first|refine nx ?_|refine t_seq fun K=>?_|refine t_br (fun hc=>?_) fun hc=>?_|refine t_bx ?_|apply And.intro|intro vr)
        |((with_reducible first|refine ny ?_|refine t_dwh (h:=fun K KL=>?_));intros;simp only [go_sem,kp77,geff,hsz,h0,g1,g2]))
       all_goals try exact nd
       ·skip
        all_goals (refine nl ?_;simp only [go_sem])
        have hno:oprOk f regs 0 a=false:=by rw [hq];exact decide_eq_false (fun h=>by simp only [Bool.or_eq_true,decide_eq_true_eq] at hc;omega)
        exact LeA.of_eq (by rw [hRR,hno];simp)
       ·have hok:oprOk f regs 0 ([a,b,c,d].getD 0 0)=true:=by
          show oprOk f regs 0 a=true
          rw [hq];exact decide_eq_true (by simp only [Bool.or_eq_false_iff,decide_eq_false_iff_not] at hc;omega)
        exact ⟨⟨0+1,by omega,stepP hP hok⟩,wf,lf⟩
      |false=>
       have g2:strAt (frB f) 0=110:=by rw [frB_at f 0 hlt,hr];rfl
       have hok:oprOk f regs 0 ([a,b,c,d].getD 0 0)=true:=by unfold oprOk;rw [if_neg (by omega),hr,if_neg (by decide)]
       repeat' (first
        |(with_reducible first|refine nx ?_|refine t_seq fun K=>?_|refine t_br (fun hc=>?_) fun hc=>?_|refine t_bx ?_|apply And.intro|intro vr)
        |((with_reducible first|refine ny ?_|refine t_dwh (h:=fun K KL=>?_));intros;simp only [go_sem,kp77,geff,hsz,h0,g1,g2]))
       all_goals try exact nd
       exact ⟨⟨0+1,by omega,stepP hP hok⟩,wf,lf⟩
     ·have g1:decide ((0:Int)≥(f.length:Int))=true:=decide_eq_true (by omega)
      have hq:oprOk f regs 0 a=decide (a=0):=by unfold oprOk;rw [if_pos (by omega)]
      repeat' (first
       |(with_reducible first|refine nx ?_|refine t_seq fun K=>?_|refine t_br (fun hc=>?_) fun hc=>?_|refine t_bx ?_|apply And.intro|intro vr)
       |((with_reducible first|refine ny ?_|refine t_dwh (h:=fun K KL=>?_));intros;simp only [go_sem,kp77,geff,hsz,h0,g1]))
      all_goals try exact nd
      ·skip
       all_goals (refine nl ?_;simp only [go_sem])
       have hno:oprOk f regs 0 a=false:=by rw [hq];exact decide_eq_false (by simpa using hc)
       exact LeA.of_eq (by rw [hRR,hno];simp)
      ·have hok:oprOk f regs 0 ([a,b,c,d].getD 0 0)=true:=by
         show oprOk f regs 0 a=true
         rw [hq];exact decide_eq_true (by simpa using hc)
       exact ⟨⟨0+1,by omega,stepP hP hok⟩,wf,lf⟩
    ·have h0:((((1:Nat):Int)):Int)=1:=rfl
     rcases Nat.lt_or_ge 1 f.length with hlt|hlt
     ·have g1:decide ((1:Int)≥(f.length:Int))=false:=decide_eq_false (by omega)
      cases hr:f.getD 1 false with
      |true=>
       have g2:strAt (frB f) 1=114:=by rw [frB_at f 1 hlt,hr];rfl
       have hq:oprOk f regs 1 b=decide (0≤b∧b<regs):=by unfold oprOk;rw [if_neg (by omega),hr,if_pos rfl]
       repeat' (first
        |(with_reducible first|refine nx ?_|refine t_seq fun K=>?_|refine t_br (fun hc=>?_) fun hc=>?_|refine t_bx ?_|apply And.intro|intro vr)
        |((with_reducible first|refine ny ?_|refine t_dwh (h:=fun K KL=>?_));intros;simp only [go_sem,kp77,geff,hsz,h0,g1,g2]))
       all_goals try exact nd
       ·skip
        all_goals (refine nl ?_;simp only [go_sem])
        have hno:oprOk f regs 1 b=false:=by rw [hq];exact decide_eq_false (fun h=>by simp only [Bool.or_eq_true,decide_eq_true_eq] at hc;omega)
        exact LeA.of_eq (by rw [hRR,hno];simp)
       ·have hok:oprOk f regs 1 ([a,b,c,d].getD 1 0)=true:=by
          show oprOk f regs 1 b=true
          rw [hq];exact decide_eq_true (by simp only [Bool.or_eq_false_iff,decide_eq_false_iff_not] at hc;omega)
        exact ⟨⟨1+1,by omega,stepP hP hok⟩,wf,lf⟩
      |false=>
       have g2:strAt (frB f) 1=110:=by rw [frB_at f 1 hlt,hr];rfl
       have hok:oprOk f regs 1 ([a,b,c,d].getD 1 0)=true:=by unfold oprOk;rw [if_neg (by omega),hr,if_neg (by decide)]
       repeat' (first
        |(with_reducible first|refine nx ?_|refine t_seq fun K=>?_|refine t_br (fun hc=>?_) fun hc=>?_|refine t_bx ?_|apply And.intro|intro vr)
        |((with_reducible first|refine ny ?_|refine t_dwh (h:=fun K KL=>?_));intros;simp only [go_sem,kp77,geff,hsz,h0,g1,g2]))
       all_goals try exact nd
       exact ⟨⟨1+1,by omega,stepP hP hok⟩,wf,lf⟩
     ·have g1:decide ((1:Int)≥(f.length:Int))=true:=decide_eq_true (by omega)
      have hq:oprOk f regs 1 b=decide (b=0):=by unfold oprOk;rw [if_pos (by omega)]
      repeat' (first
       |(with_reducible first|refine nx ?_|refine t_seq fun K=>?_|refine t_br (fun hc=>?_) fun hc=>?_|refine t_bx ?_|apply And.intro|intro vr)
       |((with_reducible first|refine ny ?_|refine t_dwh (h:=fun K KL=>?_));intros;simp only [go_sem,kp77,geff,hsz,h0,g1]))
      all_goals try exact nd
      ·skip
       all_goals (refine nl ?_;simp only [go_sem])
       have hno:oprOk f regs 1 b=false:=by rw [hq];exact decide_eq_false (by simpa using hc)
       exact LeA.of_eq (by rw [hRR,hno];simp)
      ·have hok:oprOk f regs 1 ([a,b,c,d].getD 1 0)=true:=by
         show oprOk f regs 1 b=true
         rw [hq];exact decide_eq_true (by simpa using hc)
       exact ⟨⟨1+1,by omega,stepP hP hok⟩,wf,lf⟩
    ·have h0:((((2:Nat):Int)):Int)=2:=rfl
     rcases Nat.lt_or_ge 2 f.length with hlt|hlt
     ·have g1:decide ((2:Int)≥(f.length:Int))=false:=decide_eq_false (by omega)
      cases hr:f.getD 2 false with
      |true=>
       have g2:strAt (frB f) 2=114:=by rw [frB_at f 2 hlt,hr];rfl
       have hq:oprOk f regs 2 c=decide (0≤c∧c<regs):=by unfold oprOk;rw [if_neg (by omega),hr,if_pos rfl]
       repeat' (first
        |(with_reducible first|refine nx ?_|refine t_seq fun K=>?_|refine t_br (fun hc=>?_) fun hc=>?_|refine t_bx ?_|apply And.intro|intro vr)
        |((with_reducible first|refine ny ?_|refine t_dwh (h:=fun K KL=>?_));intros;simp only [go_sem,kp77,geff,hsz,h0,g1,g2]))
       all_goals try exact nd
       ·skip
        all_goals (refine nl ?_;simp only [go_sem])
        have hno:oprOk f regs 2 c=false:=by rw [hq];exact decide_eq_false (fun h=>by simp only [Bool.or_eq_true,decide_eq_true_eq] at hc;omega)
        exact LeA.of_eq (by rw [hRR,hno];simp)
       ·have hok:oprOk f regs 2 ([a,b,c,d].getD 2 0)=true:=by
          show oprOk f regs 2 c=true
          rw [hq];exact decide_eq_true (by simp only [Bool.or_eq_false_iff,decide_eq_false_iff_not] at hc;omega)
        exact ⟨⟨2+1,by omega,stepP hP hok⟩,wf,lf⟩
      |false=>
       have g2:strAt (frB f) 2=110:=by rw [frB_at f 2 hlt,hr];rfl
       have hok:oprOk f regs 2 ([a,b,c,d].getD 2 0)=true:=by unfold oprOk;rw [if_neg (by omega),hr,if_neg (by decide)]
       repeat' (first
        |(with_reducible first|refine nx ?_|refine t_seq fun K=>?_|refine t_br (fun hc=>?_) fun hc=>?_|refine t_bx ?_|apply And.intro|intro vr)
        |((with_reducible first|refine ny ?_|refine t_dwh (h:=fun K KL=>?_));intros;simp only [go_sem,kp77,geff,hsz,h0,g1,g2]))
       all_goals try exact nd
       exact ⟨⟨2+1,by omega,stepP hP hok⟩,wf,lf⟩
     ·have g1:decide ((2:Int)≥(f.length:Int))=true:=decide_eq_true (by omega)
      have hq:oprOk f regs 2 c=decide (c=0):=by unfold oprOk;rw [if_pos (by omega)]
      repeat' (first
       |(with_reducible first|refine nx ?_|refine t_seq fun K=>?_|refine t_br (fun hc=>?_) fun hc=>?_|refine t_bx ?_|apply And.intro|intro vr)
       |((with_reducible first|refine ny ?_|refine t_dwh (h:=fun K KL=>?_));intros;simp only [go_sem,kp77,geff,hsz,h0,g1]))
      all_goals try exact nd
      ·skip
       all_goals (refine nl ?_;simp only [go_sem])
       have hno:oprOk f regs 2 c=false:=by rw [hq];exact decide_eq_false (by simpa using hc)
       exact LeA.of_eq (by rw [hRR,hno];simp)
      ·have hok:oprOk f regs 2 ([a,b,c,d].getD 2 0)=true:=by
         show oprOk f regs 2 c=true
         rw [hq];exact decide_eq_true (by simpa using hc)
       exact ⟨⟨2+1,by omega,stepP hP hok⟩,wf,lf⟩
    ·have h0:((((3:Nat):Int)):Int)=3:=rfl
     rcases Nat.lt_or_ge 3 f.length with hlt|hlt
     ·have g1:decide ((3:Int)≥(f.length:Int))=false:=decide_eq_false (by omega)
      cases hr:f.getD 3 false with
      |true=>
       have g2:strAt (frB f) 3=114:=by rw [frB_at f 3 hlt,hr];rfl
       have hq:oprOk f regs 3 d=decide (0≤d∧d<regs):=by unfold oprOk;rw [if_neg (by omega),hr,if_pos rfl]
       repeat' (first
        |(with_reducible first|refine nx ?_|refine t_seq fun K=>?_|refine t_br (fun hc=>?_) fun hc=>?_|refine t_bx ?_|apply And.intro|intro vr)
        |((with_reducible first|refine ny ?_|refine t_dwh (h:=fun K KL=>?_));intros;simp only [go_sem,kp77,geff,hsz,h0,g1,g2]))
       all_goals try exact nd
       ·skip
        all_goals (refine nl ?_;simp only [go_sem])
        have hno:oprOk f regs 3 d=false:=by rw [hq];exact decide_eq_false (fun h=>by simp only [Bool.or_eq_true,decide_eq_true_eq] at hc;omega)
        exact LeA.of_eq (by rw [hRR,hno];simp)
       ·have hok:oprOk f regs 3 ([a,b,c,d].getD 3 0)=true:=by
          show oprOk f regs 3 d=true
          rw [hq];exact decide_eq_true (by simp only [Bool.or_eq_false_iff,decide_eq_false_iff_not] at hc;omega)
        exact ⟨⟨3+1,by omega,stepP hP hok⟩,wf,lf⟩
      |false=>
       have g2:strAt (frB f) 3=110:=by rw [frB_at f 3 hlt,hr];rfl
       have hok:oprOk f regs 3 ([a,b,c,d].getD 3 0)=true:=by unfold oprOk;rw [if_neg (by omega),hr,if_neg (by decide)]
       repeat' (first
        |(with_reducible first|refine nx ?_|refine t_seq fun K=>?_|refine t_br (fun hc=>?_) fun hc=>?_|refine t_bx ?_|apply And.intro|intro vr)
        |((with_reducible first|refine ny ?_|refine t_dwh (h:=fun K KL=>?_));intros;simp only [go_sem,kp77,geff,hsz,h0,g1,g2]))
       all_goals try exact nd
       exact ⟨⟨3+1,by omega,stepP hP hok⟩,wf,lf⟩
     ·have g1:decide ((3:Int)≥(f.length:Int))=true:=decide_eq_true (by omega)
      have hq:oprOk f regs 3 d=decide (d=0):=by unfold oprOk;rw [if_pos (by omega)]
      repeat' (first
       |(with_reducible first|refine nx ?_|refine t_seq fun K=>?_|refine t_br (fun hc=>?_) fun hc=>?_|refine t_bx ?_|apply And.intro|intro vr)
       |((with_reducible first|refine ny ?_|refine t_dwh (h:=fun K KL=>?_));intros;simp only [go_sem,kp77,geff,hsz,h0,g1]))
      all_goals try exact nd
      ·skip
       all_goals (refine nl ?_;simp only [go_sem])
       have hno:oprOk f regs 3 d=false:=by rw [hq];exact decide_eq_false (by simpa using hc)
       exact LeA.of_eq (by rw [hRR,hno];simp)
      ·have hok:oprOk f regs 3 ([a,b,c,d].getD 3 0)=true:=by
         show oprOk f regs 3 d=true
         rw [hq];exact decide_eq_true (by simpa using hc)
       exact ⟨⟨3+1,by omega,stepP hP hok⟩,wf,lf⟩
    ·have hR4:R=restOk ⟨k,p,a,b,c,d⟩:=by
       rw [hRR,show oprOk f regs 0 a=true from hP 0 (by omega),show oprOk f regs 1 b=true from hP 1 (by omega),show oprOk f regs 2 c=true from hP 2 (by omega),show oprOk f regs 3 d=true from hP 3 (by omega),hpk]
       rfl
     clear hRR hR hF hV
     have h0:((((4:Nat):Int)):Int)=4:=rfl
     repeat' (first
      |(with_reducible first|refine nx ?_|refine t_seq fun K=>?_|refine t_br (fun hc=>?_) fun hc=>?_|refine t_bx ?_|apply And.intro|intro vr)
      |((with_reducible first|refine ny ?_|refine t_dwh (h:=fun K KL=>?_));intros;simp only [go_sem,kp77,geff,h0]))
     all_goals try exact nd
     all_goals (refine nl ?_;simp only [go_sem])
     all_goals (refine LeA.of_eq ?_;subst hR4;first|(simp_all [restOk,maxC,maxA];done)|(simp_all [restOk,maxC,maxA];first|rfl|exact decAnd))
noncomputable def con77:PCon Try.prog where
  f:=77
  c:=fun
   |[xx,.lit (.int .i64 r)]=>match opOf xx with|some x=>some (True,.lit (.bool (rightS x r)))|_=>none
   |_=>none
  ok:=by
   intro args p r hc hp
   split at hc
   ·split at hc
    ·rename_i hx
     cases hc
     exact PC.weak rright_pc ⟨opOf_le hx,LeA.refl _,trivial⟩
    ·cases hc
   ·cases hc
  fk:=fk77
theorem con77_f:con77.f=77:=rfl
theorem con77_c {xx:AV} {r:Int}:con77.c [xx,.lit (.int .i64 r)]=match opOf xx with|some x=>some (True,.lit (.bool (rightS x r)))|_=>none:=rfl
attribute [go_sem] con77_f con77_c
end Go.Proofs.Ytnlimcijgpaegaa

namespace Go.Proofs.Ytnlimcijgpaegaa
open Go Go.Fw Bm
set_option maxRecDepth 20000
def formsV:AV:= .agg [
  .lit (.string ByteArray.empty),.sl true 1 [],.lit (.bool false),.sl true 1 [],
  .lit (.string ⟨#[99,111,110,115,116]⟩),.sl true 1 [.lit (.int .i64 0),.lit (.int .i64 1)],.lit (.bool true),.lit (.slice none 0 0),
  .lit (.string ⟨#[97,100,100]⟩),.sl true 1 [.lit (.int .i64 0),.lit (.int .i64 0),.lit (.int .i64 0),.lit (.int .i64 2)],.lit (.bool true),.sl true 1 [.lit (.int .i64 1),.lit (.int .i64 2)],
  .lit (.string ⟨#[109,105,110]⟩),.sl true 1 [.lit (.int .i64 0),.lit (.int .i64 0),.lit (.int .i64 0)],.lit (.bool true),.sl true 1 [.lit (.int .i64 1),.lit (.int .i64 2)],
  .lit (.string ⟨#[109,97,120]⟩),.sl true 1 [.lit (.int .i64 0),.lit (.int .i64 0),.lit (.int .i64 0)],.lit (.bool true),.sl true 1 [.lit (.int .i64 1),.lit (.int .i64 2)],
  .lit (.string ⟨#[112,114,105,109]⟩),.sl true 1 [.lit (.int .i64 0)],.lit (.bool true),.lit (.slice none 0 0),
  .lit (.string ⟨#[108,111,97,100]⟩),.sl true 1 [.lit (.int .i64 0),.lit (.int .i64 0)],.lit (.bool true),.sl true 1 [.lit (.int .i64 1)],
  .lit (.string ⟨#[115,116,111,114,101]⟩),.sl true 1 [.lit (.int .i64 0),.lit (.int .i64 0)],.lit (.bool false),.sl true 1 [.lit (.int .i64 0),.lit (.int .i64 1)],
  .lit (.string ⟨#[109,105,115,115]⟩),.sl true 1 [.lit (.int .i64 0)],.lit (.bool true),.lit (.slice none 0 0),
  .lit (.string ⟨#[99,104,101,99,107]⟩),.sl true 1 [.lit (.int .i64 3),.lit (.int .i64 0)],.lit (.bool false),.sl true 1 [.lit (.int .i64 1)],
  .lit (.string ⟨#[102,111,114]⟩),.sl true 1 [.lit (.int .i64 0),.lit (.int .i64 0),.lit (.int .i64 0),.lit (.int .i64 4)],.lit (.bool true),.sl true 1 [.lit (.int .i64 1),.lit (.int .i64 2)],
  .lit (.string ⟨#[105,102]⟩),.sl true 1 [.lit (.int .i64 0)],.lit (.bool false),.sl true 1 [.lit (.int .i64 0)],
  .lit (.string ⟨#[101,108,115,101]⟩),.lit (.slice none 0 0),.lit (.bool false),.lit (.slice none 0 0),
  .lit (.string ⟨#[101,110,100]⟩),.lit (.slice none 0 0),.lit (.bool false),.lit (.slice none 0 0),
  .lit (.string ⟨#[119,114,97,112]⟩),.sl true 1 [.lit (.int .i64 0),.lit (.int .i64 0)],.lit (.bool true),.sl true 1 [.lit (.int .i64 1)],
  .lit (.string ⟨#[115,107,105,112]⟩),.lit (.slice none 0 0),.lit (.bool false),.lit (.slice none 0 0)]
noncomputable def V4:Env:=envJ (P:=Try.prog) jkV zer (fun _=>false) (fun _=>false) [] []
theorem V4_ok:EnvOk Try.prog V4:=envJOk zer_ok
set_option maxHeartbeats 8000000 in
theorem forms_pc:PC Try.prog 121 [] formsV:=by
  refine pcR V4_ok (kp121) Try.func121 [.cell 0 175] (h:=fun KF=>?_)
  unfold V4
  repeat' (first
   |(with_reducible first|refine nx ?_|refine t_seq fun K=>?_|refine t_br (fun hc=>?_) fun hc=>?_|refine t_bx ?_|apply And.intro|intro vr)
   |((with_reducible first|refine ny ?_|refine t_dwh (h:=fun K KL=>?_));intros;simp only [go_sem,kp121,geff]))
  all_goals try exact nd
  all_goals (refine nl ?_;simp only [go_sem])
  exact LeA.refl _
noncomputable def con121:PCon Try.prog where
  f:=121
  c:=fun
   |[]=>some (True,formsV)
   |_=>none
  ok:=by
   intro args p r hc hp
   split at hc
   ·cases hc;exact forms_pc
   ·cases hc
  fk:=fk121
theorem con121_f:con121.f=121:=rfl
theorem con121_c:con121.c []=some (True,formsV):=rfl
attribute [go_sem] con121_f con121_c
def kndL (c:Int):List Int:=
  if c=1 then [0,1]
  else if c=2 then [0,0,0,2]
  else if c=3 then [0,0,0]
  else if c=4 then [0,0,0]
  else if c=5 then [0]
  else if c=6 then [0,0]
  else if c=7 then [0,0]
  else if c=8 then [0]
  else if c=9 then [3,0]
  else if c=10 then [0,0,0,4]
  else if c=11 then [0]
  else if c=12 then []
  else if c=13 then []
  else if c=14 then [0,0]
  else if c=15 then []
  else []
def redL (c:Int):List Int:=
  if c=1 then []
  else if c=2 then [1,2]
  else if c=3 then [1,2]
  else if c=4 then [1,2]
  else if c=5 then []
  else if c=6 then [1]
  else if c=7 then [0,1]
  else if c=8 then []
  else if c=9 then [1]
  else if c=10 then [1,2]
  else if c=11 then [0]
  else if c=12 then []
  else if c=13 then []
  else if c=14 then [1]
  else if c=15 then []
  else []
def namL (c:Int):ByteArray:=
  if c=1 then ⟨#[99,111,110,115,116]⟩
  else if c=2 then ⟨#[97,100,100]⟩
  else if c=3 then ⟨#[109,105,110]⟩
  else if c=4 then ⟨#[109,97,120]⟩
  else if c=5 then ⟨#[112,114,105,109]⟩
  else if c=6 then ⟨#[108,111,97,100]⟩
  else if c=7 then ⟨#[115,116,111,114,101]⟩
  else if c=8 then ⟨#[109,105,115,115]⟩
  else if c=9 then ⟨#[99,104,101,99,107]⟩
  else if c=10 then ⟨#[102,111,114]⟩
  else if c=11 then ⟨#[105,102]⟩
  else if c=12 then ⟨#[101,108,115,101]⟩
  else if c=13 then ⟨#[101,110,100]⟩
  else if c=14 then ⟨#[119,114,97,112]⟩
  else if c=15 then ⟨#[115,107,105,112]⟩
  else ⟨#[]⟩
def kndS (x:Ins):List Int:=if x.code=5 then (match El.typesS x.prim with
  |some r=>0::List.replicate r.ps.length 0
  |none=>[0]) else kndL x.code
def redS (x:Ins):List Int:=if x.code=5 then (match El.typesS x.prim with
  |some r=>(List.range r.ps.length).map fun i:Nat=>(i:Int)+1
  |none=>[]) else redL x.code
def shpOk (x:Ins):Bool:=if x.code<1∨x.code>15 then false else if x.code=5 then (El.typesS x.prim).isSome else true
def shpV (x:Ins):AV:= .tup [.agg [.lit (.string (namL x.code)),.sl false 1 (ints .i64 (kndS x)),.lit (.bool (wrtB x.code)),.sl false 1 (ints .i64 (redS x))],.lit (.bool (shpOk x))]
end Go.Proofs.Ytnlimcijgpaegaa

namespace Go.Proofs.Ytnlimcijgpaegaa
open Go Go.Fw Bm
set_option maxRecDepth 20000
noncomputable def V5:Env:=envJ (P:=Try.prog) jkV zer (fun _=>false) (fun _=>false) [con121] []
theorem V5_ok:EnvOk Try.prog V5:=envJOk zer_ok
attribute [go_sem] formsV
set_option maxHeartbeats 8000000 in
theorem wrt_pc {x:Ins}:PC Try.prog 89 [opV x] (wrtV x):=by
  obtain ⟨k,p,a,b,c,d⟩:=x
  simp only [opV]
  rcases (show k<1∨k>15∨k=1∨k=2∨k=3∨k=4∨k=5∨k=6∨k=7∨k=8∨k=9∨k=10∨k=11∨k=12∨k=13∨k=14∨k=15 by omega) with h|h|rfl|rfl|rfl|rfl|rfl|rfl|rfl|rfl|rfl|rfl|rfl|rfl|rfl|rfl|rfl
  ·have e:wrtV ⟨k,p,a,b,c,d⟩= .tup [.lit (.int .i64 0),.lit (.bool false)]:=by
     have:wrtB k=false:=by simp only [wrtB];simp;omega
     rw [wrtV_mk,this];rfl
   rw [e]
   have g1:decide (k<1)=true:=decide_eq_true h
   have hk:k.toNat=0:=by omega
   refine pcR V5_ok (kp89) Try.func89 [.tmp 2,.tmp 3] (h:=fun KF=>?_)
   unfold V5
   repeat' (first
    |(with_reducible first|refine nx ?_|refine t_seq fun K=>?_|refine t_br (fun hc=>?_) fun hc=>?_|refine t_bx ?_|apply And.intro|intro vr)
    |((with_reducible first|refine ny ?_|refine t_dwh (h:=fun K KL=>?_));intros;simp only [go_sem,kp89,geff,g1,hk,yes]))
   all_goals try exact nd
   all_goals (refine nl ?_;simp only [go_sem])
   exact LeA.refl _
  ·have e:wrtV ⟨k,p,a,b,c,d⟩= .tup [.lit (.int .i64 0),.lit (.bool false)]:=by
     have:wrtB k=false:=by simp only [wrtB];simp;omega
     rw [wrtV_mk,this];rfl
   rw [e]
   have g1:decide (k<1)=false:=decide_eq_false (by omega)
   have g2:decide (k>15)=true:=decide_eq_true h
   have hk: ¬ k.toNat*4≤60:=by omega
   refine pcR V5_ok (kp89) Try.func89 [.tmp 2,.tmp 3] (h:=fun KF=>?_)
   unfold V5
   repeat' (first
    |(with_reducible first|refine nx ?_|refine t_seq fun K=>?_|refine t_br (fun hc=>?_) fun hc=>?_|refine t_bx ?_|apply And.intro|intro vr)
    |((with_reducible first|refine ny ?_|refine t_dwh (h:=fun K KL=>?_));intros;simp only [go_sem,kp89,geff,g1,g2,hk,yes]))
   all_goals try exact nd
   all_goals (refine nl ?_;simp only [go_sem])
   exact LeA.refl _
  all_goals
    refine pcR V5_ok (kp89) Try.func89 [.tmp 2,.tmp 3] (h:=fun KF=>?_)
    unfold V5
    repeat' (first
     |(with_reducible first|refine nx ?_|refine t_seq fun K=>?_|refine t_br (fun hc=>?_) fun hc=>?_|refine t_bx ?_|apply And.intro|intro vr)
     |((with_reducible first|refine ny ?_|refine t_dwh (h:=fun K KL=>?_));intros;simp only [go_sem,kp89,geff,yes]))
    all_goals try exact nd
    all_goals (refine nl ?_;simp only [go_sem])
    exact LeA.refl _
noncomputable def con89:PCon Try.prog where
  f:=89
  c:=fun
   |[xx]=>match opOf xx with|some x=>some (True,wrtV x)|_=>none
   |_=>none
  ok:=by
   intro args p r hc hp
   split at hc
   ·split at hc
    ·rename_i hx
     cases hc
     exact PC.weak wrt_pc ⟨opOf_le hx,trivial⟩
    ·cases hc
   ·cases hc
  fk:=fk89
theorem con89_f:con89.f=89:=rfl
theorem con89_c {xx:AV}:con89.c [xx]=match opOf xx with|some x=>some (True,wrtV x)|_=>none:=rfl
attribute [go_sem] con89_f con89_c
theorem shpV_of {k a b c d:Int} {p:ByteArray} (h:k≠5):shpV ⟨k,p,a,b,c,d⟩= .tup [.agg [.lit (.string (namL k)),.sl false 1 (ints .i64 (kndL k)),.lit (.bool (wrtB k)),.sl false 1 (ints .i64 (redL k))],.lit (.bool (if k<1∨k>15 then false else true))]:=by
  simp only [shpV,kndS,redS,shpOk,if_neg h]
end Go.Proofs.Ytnlimcijgpaegaa

namespace Go.Proofs.Ytnlimcijgpaegaa
open Go Go.Fw Bm
set_option maxRecDepth 20000
def kA (j:Nat):List Int:=0::List.replicate j 0
def rB (j:Nat):List Int:=(List.range j).map fun i:Nat=>(i:Int)+1
theorem kA_length (j:Nat):(ints .i64 (kA j)).length=j+1:=by simp [kA,ints]
theorem rB_length (j:Nat):(ints .i64 (rB j)).length=j:=by simp [rB,ints]
theorem kA_app (j:Nat):ints .i64 (kA j)++[.lit (.int .i64 0)]=ints .i64 (kA (j+1)):=by
  rw [ints_append1,kA,kA,List.replicate_succ',List.cons_append]
theorem rB_app (j:Nat):ints .i64 (rB j)++[.lit (.int .i64 ((j:Int)+1))]=ints .i64 (rB (j+1)):=by
  rw [ints_append1,rB,rB,List.range_succ,List.map_append];rfl
theorem kndS_5 {a b c d:Int} {p:ByteArray}:kndS ⟨5,p,a,b,c,d⟩=match El.typesS p with
  |some r=>kA r.ps.length
  |none=>[0]:=rfl
theorem redS_5 {a b c d:Int} {p:ByteArray}:redS ⟨5,p,a,b,c,d⟩=match El.typesS p with
  |some r=>rB r.ps.length
  |none=>[]:=rfl
theorem shpV_5 {a b c d:Int} {p:ByteArray} {r:El.Rw} (h:El.typesS p=some r):shpV ⟨5,p,a,b,c,d⟩= .tup [.agg [.lit (.string ⟨#[112,114,105,109]⟩),.sl false 1 (ints .i64 (kA r.ps.length)),.lit (.bool true),.sl false 1 (ints .i64 (rB r.ps.length))],.lit (.bool true)]:=by
  simp only [shpV,kndS_5,redS_5,shpOk,h];rfl
theorem shpV_5n {a b c d:Int} {p:ByteArray} (h:El.typesS p=none):shpV ⟨5,p,a,b,c,d⟩= .tup [.agg [.lit (.string ⟨#[112,114,105,109]⟩),.sl false 1 [.lit (.int .i64 0)],.lit (.bool true),.sl false 1 []],.lit (.bool false)]:=by
  simp only [shpV,kndS_5,redS_5,shpOk,h];rfl
noncomputable def V6:Env:=envJ (P:=Try.prog) jkV zer (fun _=>false) (fun _=>false) [con121,El.con59] []
theorem V6_ok:EnvOk Try.prog V6:=envJOk zer_ok
set_option maxHeartbeats 8000000 in
theorem shape_pc {x:Ins}:PC Try.prog 110 [opV x] (shpV x):=by
  obtain ⟨k,p,a,b,c,d⟩:=x
  simp only [opV]
  rcases (show k<1∨k>15∨k=5∨k=1∨k=2∨k=3∨k=4∨k=6∨k=7∨k=8∨k=9∨k=10∨k=11∨k=12∨k=13∨k=14∨k=15 by omega) with h|h|rfl|rfl|rfl|rfl|rfl|rfl|rfl|rfl|rfl|rfl|rfl|rfl|rfl|rfl|rfl
  ·rw [shpV_of (by omega),if_pos (.inl h)]
   have g1:decide (k<1)=true:=decide_eq_true h
   have e1:kndL k=[]:=by unfold kndL;repeat (rw [if_neg (by omega)])
   have e2:redL k=[]:=by unfold redL;repeat (rw [if_neg (by omega)])
   have e3:namL k=ByteArray.empty:=by unfold namL;(repeat rw [if_neg (by omega)]);rfl
   have e4:wrtB k=false:=by simp only [wrtB];simp;omega
   rw [e1,e2,e3,e4]
   refine pcR V6_ok (kp110) Try.func110 [.cell 2 164,.tmp 3] (h:=fun KF=>?_)
   unfold V6
   repeat' (first
    |(with_reducible first|refine nx ?_|refine t_seq fun K=>?_|refine t_br (fun hc=>?_) fun hc=>?_|refine t_bx ?_|apply And.intro|intro vr)|exact kpd
    |((with_reducible refine t_drawG (id:=3) (fun i=>i==0) 4 [(1,1),(2,1),(0,1),(3,1),(4,3),(5,0)] (by kernel_rfl) (by kernel_rfl) (by kernel_rfl) fun K=>?_);simp only [noA,List.filter_cons,List.filter_nil,Nat.reduceBEq,Bool.not_false,Bool.not_true,reduceIte,if_true,Bool.false_eq_true];simp only [pickO,List.getElem?_toArray,List.getElem?_cons_zero,List.getElem?_cons_succ,Nat.reduceAdd,Nat.reduceSub,fo_some];refine nh ?_;intro KL;simp only [go_sem,kp110,geff,g1])
    |((with_reducible first|refine ny ?_|refine t_kLF ?_ ?_|refine t_drawX (id:=10) (fun i=>i==0) [(0,1),(2,1),(4,1),(6,1),(7,1),(8,1),(1,3),(5,3),(3,0),(10,1),(9,0),(11,0),(12,1),(13,0)] (by kernel_rfl) fun K=>?_|refine t_dwh (h:=fun K KL=>?_));intros;simp only [go_sem,kp110,geff,g1]))
   all_goals try exact nd
   all_goals (refine nl ?_;simp only [go_sem])
   exact LeA.tup ⟨LeA.agg ⟨LeA.refl _,LeA.slx rfl,LeA.refl _,LeA.slx rfl,trivial⟩,LeA.refl _,trivial⟩
  ·rw [shpV_of (by omega),if_pos (.inr h)]
   have g1:decide (k<1)=false:=decide_eq_false (by omega)
   have g2:decide (k>15)=true:=decide_eq_true h
   have e1:kndL k=[]:=by unfold kndL;repeat (rw [if_neg (by omega)])
   have e2:redL k=[]:=by unfold redL;repeat (rw [if_neg (by omega)])
   have e3:namL k=ByteArray.empty:=by unfold namL;(repeat rw [if_neg (by omega)]);rfl
   have e4:wrtB k=false:=by simp only [wrtB];simp;omega
   rw [e1,e2,e3,e4]
   refine pcR V6_ok (kp110) Try.func110 [.cell 2 164,.tmp 3] (h:=fun KF=>?_)
   unfold V6
   repeat' (first
    |(with_reducible first|refine nx ?_|refine t_seq fun K=>?_|refine t_br (fun hc=>?_) fun hc=>?_|refine t_bx ?_|apply And.intro|intro vr)|exact kpd
    |((with_reducible refine t_drawG (id:=3) (fun i=>i==0) 4 [(1,1),(2,1),(0,1),(3,1),(4,3),(5,0)] (by kernel_rfl) (by kernel_rfl) (by kernel_rfl) fun K=>?_);simp only [noA,List.filter_cons,List.filter_nil,Nat.reduceBEq,Bool.not_false,Bool.not_true,reduceIte,if_true,Bool.false_eq_true];simp only [pickO,List.getElem?_toArray,List.getElem?_cons_zero,List.getElem?_cons_succ,Nat.reduceAdd,Nat.reduceSub,fo_some];refine nh ?_;intro KL;simp only [go_sem,kp110,geff,g1,g2])
    |((with_reducible first|refine ny ?_|refine t_kLF ?_ ?_|refine t_drawX (id:=10) (fun i=>i==0) [(0,1),(2,1),(4,1),(6,1),(7,1),(8,1),(1,3),(5,3),(3,0),(10,1),(9,0),(11,0),(12,1),(13,0)] (by kernel_rfl) fun K=>?_|refine t_dwh (h:=fun K KL=>?_));intros;simp only [go_sem,kp110,geff,g1,g2]))
   all_goals try exact nd
   all_goals (refine nl ?_;simp only [go_sem])
   exact LeA.tup ⟨LeA.agg ⟨LeA.refl _,LeA.slx rfl,LeA.refl _,LeA.slx rfl,trivial⟩,LeA.refl _,trivial⟩
  ·cases hT:El.typesS p with
   |none=>
    rw [shpV_5n hT]
    refine pcR V6_ok (kp110) Try.func110 [.cell 2 164,.tmp 3] (h:=fun KF=>?_)
    unfold V6
    repeat' (first
     |(with_reducible first|refine nx ?_|refine t_seq fun K=>?_|refine t_br (fun hc=>?_) fun hc=>?_|refine t_bx ?_|apply And.intro|intro vr)|exact kpd
     |((with_reducible refine t_drawG (id:=3) (fun i=>i==0) 4 [(1,1),(2,1),(0,1),(3,1),(4,3),(5,0)] (by kernel_rfl) (by kernel_rfl) (by kernel_rfl) fun K=>?_);simp only [noA,List.filter_cons,List.filter_nil,Nat.reduceBEq,Bool.not_false,Bool.not_true,reduceIte,if_true,Bool.false_eq_true];simp only [pickO,List.getElem?_toArray,List.getElem?_cons_zero,List.getElem?_cons_succ,Nat.reduceAdd,Nat.reduceSub,fo_some];refine nh ?_;intro KL;simp only [go_sem,kp110,geff,hT,yes])
     |((with_reducible first|refine ny ?_|refine t_kLF ?_ ?_|refine t_drawX (id:=10) (fun i=>i==0) [(0,1),(2,1),(4,1),(6,1),(7,1),(8,1),(1,3),(5,3),(3,0),(10,1),(9,0),(11,0),(12,1),(13,0)] (by kernel_rfl) fun K=>?_|refine t_dwh (h:=fun K KL=>?_));intros;simp only [go_sem,kp110,geff,hT,yes]))
    all_goals try exact nd
    refine t_loopF (ι:=Unit) (fun i=>[(35,.lit (.int .i64 0))]) (fun i=>[.box 73 [.lit (.int .i64 5),.lit (.string p),.lit (.int .i64 a),.lit (.int .i64 b),.lit (.int .i64 c),.lit (.int .i64 d)],.box 164 [.lit (.string ByteArray.empty),.sl true 1 [],.lit (.bool false),.sl true 1 []],.box 164 [.lit (.string ⟨#[112,114,105,109]⟩),.sl true 1 [.lit (.int .i64 0)],.lit (.bool true),.lit (.slice none 0 0)]]) (fun i=>0) () ?_ ?_
    ·exact lf
    rintro ⟨⟩ K0
    repeat' (first
     |(with_reducible first|refine nx ?_|refine t_seq fun K=>?_|refine t_br (fun hc=>?_) fun hc=>?_|refine t_bx ?_|apply And.intro|intro vr)|exact kpd
     |((with_reducible refine t_drawG (id:=3) (fun i=>i==0) 4 [(1,1),(2,1),(0,1),(3,1),(4,3),(5,0)] (by kernel_rfl) (by kernel_rfl) (by kernel_rfl) fun K=>?_);simp only [noA,List.filter_cons,List.filter_nil,Nat.reduceBEq,Bool.not_false,Bool.not_true,reduceIte,if_true,Bool.false_eq_true];simp only [pickO,List.getElem?_toArray,List.getElem?_cons_zero,List.getElem?_cons_succ,Nat.reduceAdd,Nat.reduceSub,fo_some];refine nh ?_;intro KL;simp only [go_sem,kp110,geff,hT,yes])
     |((with_reducible first|refine ny ?_|refine t_kLF ?_ ?_|refine t_drawX (id:=10) (fun i=>i==0) [(0,1),(2,1),(4,1),(6,1),(7,1),(8,1),(1,3),(5,3),(3,0),(10,1),(9,0),(11,0),(12,1),(13,0)] (by kernel_rfl) fun K=>?_|refine t_dwh (h:=fun K KL=>?_));intros;simp only [go_sem,kp110,geff,hT,yes]))
    all_goals try exact nd
    all_goals (refine nl ?_;simp only [go_sem])
    exact LeA.tup ⟨LeA.agg ⟨LeA.refl _,LeA.slx rfl,LeA.refl _,LeA.nil _ _,trivial⟩,LeA.refl _,trivial⟩
   |some r=>
    rw [shpV_5 hT]
    have hl3:r.ps.length≤3:=by rcases typesS_len hT with h|h|h<;>omega
    generalize hn:r.ps.length=n at hl3
    have hs:(strs r.ps).length=n:=by rw [strs_length,hn]
    refine pcR V6_ok (kp110) Try.func110 [.cell 2 164,.tmp 3] (h:=fun KF=>?_)
    unfold V6
    repeat' (first
     |(with_reducible first|refine nx ?_|refine t_seq fun K=>?_|refine t_br (fun hc=>?_) fun hc=>?_|refine t_bx ?_|apply And.intro|intro vr)|exact kpd
     |((with_reducible refine t_drawG (id:=3) (fun i=>i==0) 4 [(1,1),(2,1),(0,1),(3,1),(4,3),(5,0)] (by kernel_rfl) (by kernel_rfl) (by kernel_rfl) fun K=>?_);simp only [noA,List.filter_cons,List.filter_nil,Nat.reduceBEq,Bool.not_false,Bool.not_true,reduceIte,if_true,Bool.false_eq_true];simp only [pickO,List.getElem?_toArray,List.getElem?_cons_zero,List.getElem?_cons_succ,Nat.reduceAdd,Nat.reduceSub,fo_some];refine nh ?_;intro KL;simp only [go_sem,kp110,geff,hT,hs,yes])
     |((with_reducible first|refine ny ?_|refine t_kLF ?_ ?_|refine t_drawX (id:=10) (fun i=>i==0) [(0,1),(2,1),(4,1),(6,1),(7,1),(8,1),(1,3),(5,3),(3,0),(10,1),(9,0),(11,0),(12,1),(13,0)] (by kernel_rfl) fun K=>?_|refine t_dwh (h:=fun K KL=>?_));intros;simp only [go_sem,kp110,geff,hT,hs,yes]))
    all_goals try exact nd
    refine t_loopF (ι:={i:Nat // i≤n}) (fun x=>[(35,.lit (.int .i64 x.1))]) (fun x=>match x.1 with
      |0=>[.box 73 [.lit (.int .i64 5),.lit (.string p),.lit (.int .i64 a),.lit (.int .i64 b),.lit (.int .i64 c),.lit (.int .i64 d)],.box 164 [.lit (.string ByteArray.empty),.sl true 1 [],.lit (.bool false),.sl true 1 []],.box 164 [.lit (.string ⟨#[112,114,105,109]⟩),.sl true 1 [.lit (.int .i64 0)],.lit (.bool true),.lit (.slice none 0 0)]]
      |j+1=>[.box 73 [.lit (.int .i64 5),.lit (.string p),.lit (.int .i64 a),.lit (.int .i64 b),.lit (.int .i64 c),.lit (.int .i64 d)],.box 164 [.lit (.string ByteArray.empty),.sl true 1 [],.lit (.bool false),.sl true 1 []],.box 164 [.lit (.string ⟨#[112,114,105,109]⟩),.arr 3 j,.lit (.bool true),.arr 4 j],
       .arr 3 1 (ints .i64 (kA (j+1))) j false,.arr 3 1 (ints .i64 (rB (j+1))) j false]) (fun x=>n - x.1) ⟨0,by omega⟩ ?_ ?_
    ·skip
     refine Le.frameS (by first|rfl|(simp only [go_sem];try rfl)) ?_
     repeat' (first|exact leF_top _|exact (fun _=>LeR.refl _)|(with_reducible refine leF_sl ?_ ?_)|(refine leF_upd ?_ ?_))
     all_goals (first|exact LeR.top _|exact LeR.refl _|(refine LeR.of_eq ?_;(try simp only [go_sem]);try rfl)|((try simp only [go_sem]);try rfl))
    rintro ⟨i,hi⟩ K0
    cases i with
    |zero=>
     rcases Nat.lt_or_ge 0 n with hc|hc
     ·have g3:decide (((0:Nat):Int)<(n:Int))=true:=decide_eq_true (by omega)
      repeat' (first
       |(with_reducible first|refine nx ?_|refine t_seq fun K=>?_|refine t_br (fun hc=>?_) fun hc=>?_|refine t_bx ?_|apply And.intro|intro vr)|exact kpd
       |((with_reducible refine t_drawG (id:=3) (fun i=>i==0) 4 [(1,1),(2,1),(0,1),(3,1),(4,3),(5,0)] (by kernel_rfl) (by kernel_rfl) (by kernel_rfl) fun K=>?_);simp only [noA,List.filter_cons,List.filter_nil,Nat.reduceBEq,Bool.not_false,Bool.not_true,reduceIte,if_true,Bool.false_eq_true];simp only [pickO,List.getElem?_toArray,List.getElem?_cons_zero,List.getElem?_cons_succ,Nat.reduceAdd,Nat.reduceSub,fo_some];refine nh ?_;intro KL;simp only [go_sem,kp110,geff,g3,yes])
       |((with_reducible first|refine ny ?_|refine t_kLF ?_ ?_|refine t_drawX (id:=10) (fun i=>i==0) [(0,1),(2,1),(4,1),(6,1),(7,1),(8,1),(1,3),(5,3),(3,0),(10,1),(9,0),(11,0),(12,1),(13,0)] (by kernel_rfl) fun K=>?_|refine t_dwh (h:=fun K KL=>?_));intros;simp only [go_sem,kp110,geff,g3,yes]))
      all_goals try exact nd
      exact ⟨⟨1,by omega⟩,wf,lf⟩
     ·have g3:decide (((0:Nat):Int)<(n:Int))=false:=decide_eq_false (by omega)
      have h0:n=0:=by omega
      subst h0
      repeat' (first
       |(with_reducible first|refine nx ?_|refine t_seq fun K=>?_|refine t_br (fun hc=>?_) fun hc=>?_|refine t_bx ?_|apply And.intro|intro vr)|exact kpd
       |((with_reducible refine t_drawG (id:=3) (fun i=>i==0) 4 [(1,1),(2,1),(0,1),(3,1),(4,3),(5,0)] (by kernel_rfl) (by kernel_rfl) (by kernel_rfl) fun K=>?_);simp only [noA,List.filter_cons,List.filter_nil,Nat.reduceBEq,Bool.not_false,Bool.not_true,reduceIte,if_true,Bool.false_eq_true];simp only [pickO,List.getElem?_toArray,List.getElem?_cons_zero,List.getElem?_cons_succ,Nat.reduceAdd,Nat.reduceSub,fo_some];refine nh ?_;intro KL;simp only [go_sem,kp110,geff,g3,yes])
       |((with_reducible first|refine ny ?_|refine t_kLF ?_ ?_|refine t_drawX (id:=10) (fun i=>i==0) [(0,1),(2,1),(4,1),(6,1),(7,1),(8,1),(1,3),(5,3),(3,0),(10,1),(9,0),(11,0),(12,1),(13,0)] (by kernel_rfl) fun K=>?_|refine t_dwh (h:=fun K KL=>?_));intros;simp only [go_sem,kp110,geff,g3,yes]))
      all_goals try exact nd
      all_goals (refine nl ?_;simp only [go_sem])
      exact LeA.tup ⟨LeA.agg ⟨LeA.refl _,LeA.slx rfl,LeA.refl _,LeA.nil _ _,trivial⟩,LeA.refl _,trivial⟩
    |succ j=>
     rcases Nat.lt_or_ge (j+1) n with hc|hc
     ·have g3:decide (((j+1:Nat):Int)<(n:Int))=true:=decide_eq_true (by omega)
      repeat' (first
       |(with_reducible first|refine nx ?_|refine t_seq fun K=>?_|refine t_br (fun hc=>?_) fun hc=>?_|refine t_bx ?_|apply And.intro|intro vr)|exact kpd
       |((with_reducible refine t_drawG (id:=3) (fun i=>i==0) 4 [(1,1),(2,1),(0,1),(3,1),(4,3),(5,0)] (by kernel_rfl) (by kernel_rfl) (by kernel_rfl) fun K=>?_);simp only [noA,List.filter_cons,List.filter_nil,Nat.reduceBEq,Bool.not_false,Bool.not_true,reduceIte,if_true,Bool.false_eq_true];simp only [pickO,List.getElem?_toArray,List.getElem?_cons_zero,List.getElem?_cons_succ,Nat.reduceAdd,Nat.reduceSub,fo_some];refine nh ?_;intro KL;simp only [go_sem,kp110,geff,g3,yes,kA_app,rB_app,kA_length,rB_length])
       |((with_reducible first|refine ny ?_|refine t_kLF ?_ ?_|refine t_drawX (id:=10) (fun i=>i==0) [(0,1),(2,1),(4,1),(6,1),(7,1),(8,1),(1,3),(5,3),(3,0),(10,1),(9,0),(11,0),(12,1),(13,0)] (by kernel_rfl) fun K=>?_|refine t_dwh (h:=fun K KL=>?_));intros;simp only [go_sem,kp110,geff,g3,yes,kA_app,rB_app,kA_length,rB_length]))
      all_goals try exact nd
      exact ⟨⟨j+2,by omega⟩,wf,lf⟩
     ·have g3:decide (((j+1:Nat):Int)<(n:Int))=false:=decide_eq_false (by omega)
      have h0:n=j+1:=by omega
      subst h0
      repeat' (first
       |(with_reducible first|refine nx ?_|refine t_seq fun K=>?_|refine t_br (fun hc=>?_) fun hc=>?_|refine t_bx ?_|apply And.intro|intro vr)|exact kpd
       |((with_reducible refine t_drawG (id:=3) (fun i=>i==0) 4 [(1,1),(2,1),(0,1),(3,1),(4,3),(5,0)] (by kernel_rfl) (by kernel_rfl) (by kernel_rfl) fun K=>?_);simp only [noA,List.filter_cons,List.filter_nil,Nat.reduceBEq,Bool.not_false,Bool.not_true,reduceIte,if_true,Bool.false_eq_true];simp only [pickO,List.getElem?_toArray,List.getElem?_cons_zero,List.getElem?_cons_succ,Nat.reduceAdd,Nat.reduceSub,fo_some];refine nh ?_;intro KL;simp only [go_sem,kp110,geff,g3,yes])
       |((with_reducible first|refine ny ?_|refine t_kLF ?_ ?_|refine t_drawX (id:=10) (fun i=>i==0) [(0,1),(2,1),(4,1),(6,1),(7,1),(8,1),(1,3),(5,3),(3,0),(10,1),(9,0),(11,0),(12,1),(13,0)] (by kernel_rfl) fun K=>?_|refine t_dwh (h:=fun K KL=>?_));intros;simp only [go_sem,kp110,geff,g3,yes]))
      all_goals try exact nd
      all_goals (refine nl ?_;simp only [go_sem])
      exact LeA.refl _
  all_goals
    rw [shpV_of (by decide),if_neg (by decide)]
    refine pcR V6_ok (kp110) Try.func110 [.cell 2 164,.tmp 3] (h:=fun KF=>?_)
    unfold V6
    repeat' (first
     |(with_reducible first|refine nx ?_|refine t_seq fun K=>?_|refine t_br (fun hc=>?_) fun hc=>?_|refine t_bx ?_|apply And.intro|intro vr)|exact kpd
     |((with_reducible refine t_drawG (id:=3) (fun i=>i==0) 4 [(1,1),(2,1),(0,1),(3,1),(4,3),(5,0)] (by kernel_rfl) (by kernel_rfl) (by kernel_rfl) fun K=>?_);simp only [noA,List.filter_cons,List.filter_nil,Nat.reduceBEq,Bool.not_false,Bool.not_true,reduceIte,if_true,Bool.false_eq_true];simp only [pickO,List.getElem?_toArray,List.getElem?_cons_zero,List.getElem?_cons_succ,Nat.reduceAdd,Nat.reduceSub,fo_some];refine nh ?_;intro KL;simp only [go_sem,kp110,geff,yes])
     |((with_reducible first|refine ny ?_|refine t_kLF ?_ ?_|refine t_drawX (id:=10) (fun i=>i==0) [(0,1),(2,1),(4,1),(6,1),(7,1),(8,1),(1,3),(5,3),(3,0),(10,1),(9,0),(11,0),(12,1),(13,0)] (by kernel_rfl) fun K=>?_|refine t_dwh (h:=fun K KL=>?_));intros;simp only [go_sem,kp110,geff,yes]))
    all_goals try exact nd
    all_goals (refine nl ?_;simp only [go_sem])
    exact LeA.tup ⟨LeA.agg ⟨LeA.refl _,(by first|exact LeA.slx rfl|exact LeA.nil _ _),LeA.refl _,(by first|exact LeA.slx rfl|exact LeA.nil _ _),trivial⟩,LeA.refl _,trivial⟩
noncomputable def con110:PCon Try.prog where
  f:=110
  c:=fun
   |[xx]=>match opOf xx with|some x=>some (True,shpV x)|_=>none
   |_=>none
  ok:=by
   intro args p r hc hp
   split at hc
   ·split at hc
    ·rename_i hx
     cases hc
     exact PC.weak shape_pc ⟨opOf_le hx,trivial⟩
    ·cases hc
   ·cases hc
  fk:=fk110
theorem con110_f:con110.f=110:=rfl
theorem con110_c {xx:AV}:con110.c [xx]=match opOf xx with|some x=>some (True,shpV x)|_=>none:=rfl
attribute [go_sem] con110_f con110_c
end Go.Proofs.Ytnlimcijgpaegaa

namespace Go.Proofs.Ytnlimcijgpaegaa
open Go Go.Fw Bm
set_option maxRecDepth 20000
def opk (l:List Int) (regs:Int) (i:Nat) (n:Int):Bool:=if i<l.length then kindOk (l.getD i 0) n regs else decide (n=0)
def rightK (x:Ins) (regs:Int):Bool:=(shpOk x&&(decide (x.code=5)||decide (x.prim.data.toList=[])))&&(opk (kndS x) regs 0 x.a&&opk (kndS x) regs 1 x.b&&opk (kndS x) regs 2 x.c&&opk (kndS x) regs 3 x.d)
theorem right_knd (x:Ins) (regs:Int):rightS x regs=rightK x regs:=by
  obtain ⟨k,p,a,b,c,d⟩:=x
  rcases (show k<1∨k>15∨k=5∨k=1∨k=2∨k=3∨k=4∨k=6∨k=7∨k=8∨k=9∨k=10∨k=11∨k=12∨k=13∨k=14∨k=15 by omega) with h|h|rfl|rfl|rfl|rfl|rfl|rfl|rfl|rfl|rfl|rfl|rfl|rfl|rfl|rfl|rfl
  ·have e1:formS ⟨k,p,a,b,c,d⟩=none:=by unfold formS;simp only;repeat rw [if_neg (by omega)]
   simp [rightS,rightK,e1,shpOk,h]
  ·have e1:formS ⟨k,p,a,b,c,d⟩=none:=by unfold formS;simp only;repeat rw [if_neg (by omega)]
   simp [rightS,rightK,e1,shpOk,h]
  ·cases hT:El.typesS p with
   |none=>
    have e1:formS ⟨5,p,a,b,c,d⟩=none:=by simp [formS,hT]
    simp [rightS,rightK,e1,shpOk,hT]
   |some r=>
    have e1:formS ⟨5,p,a,b,c,d⟩=some (List.replicate (1+r.ps.length) true):=by simp [formS,hT]
    have e2:kndS ⟨5,p,a,b,c,d⟩=kA r.ps.length:=by rw [kndS_5,hT]
    rcases typesS_len hT with h|h|h<;>rw [h] at e1 e2<;>rw [Bool.eq_iff_iff]<;>simp [rightS,rightK,e1,e2,shpOk,hT,oprOk,opk,kA,kindOk,restOk]
  all_goals (rw [Bool.eq_iff_iff];simp [rightS,formS,rightK,shpOk,oprOk,opk,kndS,kndL,kindOk,restOk])
  all_goals
    constructor
    ·rintro ⟨⟨h,h1⟩,h2⟩;exact ⟨h,by omega⟩
    ·rintro ⟨h,h1⟩;exact ⟨⟨h,by omega⟩,by omega⟩
noncomputable def V7:Env:=envJ (P:=Try.prog) jkV zer (fun _=>false) (fun _=>false) [con110,con111,con112] []
theorem V7_ok:EnvOk Try.prog V7:=envJOk zer_ok
set_option maxHeartbeats 8000000 in
theorem right_pc {x:Ins} {regs:Int}:PC Try.prog 80 [opV x,.lit (.int .i64 regs)] (.lit (.bool (rightS x regs))):=by
  obtain ⟨k,p,a,b,c,d⟩:=x
  rw [right_knd]
  simp only [opV]
  generalize hR:rightK ⟨k,p,a,b,c,d⟩ regs=R
  have hS:shpV ⟨k,p,a,b,c,d⟩= .tup [.agg [.lit (.string (namL k)),.sl false 1 (ints .i64 (kndS ⟨k,p,a,b,c,d⟩)),.lit (.bool (wrtB k)),.sl false 1 (ints .i64 (redS ⟨k,p,a,b,c,d⟩))],.lit (.bool (shpOk ⟨k,p,a,b,c,d⟩))]:=rfl
  simp only [rightK] at hR
  generalize kndS ⟨k,p,a,b,c,d⟩=L at hR hS
  generalize redS ⟨k,p,a,b,c,d⟩=M at hS
  generalize shpOk ⟨k,p,a,b,c,d⟩=ok at hR hS
  have hRR:=hR.symm
  have hLl:(ints .i64 L).length=L.length:=ints_length _ _
  cases ok with
  |false=>
   refine pcR V7_ok (kp80) Try.func80 [.tmp 4] (h:=fun KF=>?_)
   unfold V7
   repeat' (first
    |(with_reducible first|refine nx ?_|refine t_seq fun K=>?_|refine t_br (fun hc=>?_) fun hc=>?_|refine t_bx ?_|apply And.intro|intro vr)
    |((with_reducible first|refine ny ?_|refine t_dwh (h:=fun K KL=>?_));intros;simp only [go_sem,kp80,geff,hS,Bool.not_false]))
   all_goals try exact nd
   all_goals (refine nl ?_;simp only [go_sem])
   exact LeA.of_eq (by rw [hRR];simp)
  |true=>
   refine pcR V7_ok (kp80) Try.func80 [.tmp 4] (h:=fun KF=>?_)
   unfold V7
   repeat' (first
    |(with_reducible first|refine nx ?_|refine t_seq fun K=>?_|refine t_br (fun hc=>?_) fun hc=>?_|refine t_bx ?_|apply And.intro|intro vr)
    |((with_reducible first|refine ny ?_|refine t_dwh (h:=fun K KL=>?_));intros;simp only [go_sem,kp80,geff,hS,Bool.not_true]))
   all_goals try exact nd
   ·skip
    all_goals (refine nl ?_;simp only [go_sem])
    refine LeA.of_eq ?_
    rw [hRR]
    simp_all [eqS]
   have hpk:(decide (k=5)||decide (p.data.toList=[]))=true:=by
     have h1:=hc
     simp only [eqS,Bool.and_eq_false_iff,bne_eq_false_iff_eq,Bool.not_eq_false',beq_iff_eq] at h1
     rcases h1 with h1|h1
     ·simp [h1]
     ·rw [h1];simp
   refine t_loopF (ι:={i:Nat // i≤4∧∀ j,j<i→opk L regs j ([a,b,c,d].getD j 0)=true}) (fun i=>[(28,.lit (.int .i64 i.1))]) (fun i=>[.box 73 [.lit (.int .i64 k),.lit (.string p),.lit (.int .i64 a),.lit (.int .i64 b),.lit (.int .i64 c),.lit (.int .i64 d)],.box 164 [.lit (.string (namL k)),.sl false 1 (ints .i64 L),.lit (.bool (wrtB k)),.sl false 1 (ints .i64 M)]]) (fun i=>4 - i.1) ⟨0,by omega,by omega⟩ ?_ ?_
   ·exact lf
   rintro ⟨i,hi,hP⟩ K0
   rcases (show i=0∨i=1∨i=2∨i=3∨i=4 by omega) with rfl|rfl|rfl|rfl|rfl
   ·have h0:((((0:Nat):Int)):Int)=0:=rfl
    rcases Nat.lt_or_ge 0 L.length with hlt|hlt
    ·have g1:decide ((0:Int)<(L.length:Int))=true:=decide_eq_true (by omega)
     have g2:decide ((0:Int)≥(L.length:Int))=false:=decide_eq_false (by omega)
     cases hq:kindOk (L.getD 0 0) a regs with
     |true=>
      have hok:opk L regs 0 ([a,b,c,d].getD 0 0)=true:=by unfold opk;rw [if_pos hlt];exact hq
      repeat' (first
       |(with_reducible first|refine nx ?_|refine t_seq fun K=>?_|refine t_br (fun hc=>?_) fun hc=>?_|refine t_bx ?_|apply And.intro|intro vr)
       |((with_reducible first|refine ny ?_|refine t_dwh (h:=fun K KL=>?_));intros;simp only [go_sem,kp80,geff,h0,g1,g2,hq,yes]))
      all_goals try exact nd
      exact ⟨⟨0+1,by omega,stepP hP hok⟩,wf,lf⟩
     |false=>
      have hno:opk L regs 0 a=false:=by unfold opk;rw [if_pos hlt];exact hq
      repeat' (first
       |(with_reducible first|refine nx ?_|refine t_seq fun K=>?_|refine t_br (fun hc=>?_) fun hc=>?_|refine t_bx ?_|apply And.intro|intro vr)
       |((with_reducible first|refine ny ?_|refine t_dwh (h:=fun K KL=>?_));intros;simp only [go_sem,kp80,geff,h0,g1,g2,hq,yes]))
      all_goals try exact nd
      all_goals (refine nl ?_;simp only [go_sem])
      exact LeA.of_eq (by rw [hRR,hno];simp)
    ·have g1:decide ((0:Int)<(L.length:Int))=false:=decide_eq_false (by omega)
     have g2:decide ((0:Int)≥(L.length:Int))=true:=decide_eq_true (by omega)
     have hq:opk L regs 0 a=decide (a=0):=by unfold opk;rw [if_neg (by omega)]
     repeat' (first
      |(with_reducible first|refine nx ?_|refine t_seq fun K=>?_|refine t_br (fun hc=>?_) fun hc=>?_|refine t_bx ?_|apply And.intro|intro vr)
      |((with_reducible first|refine ny ?_|refine t_dwh (h:=fun K KL=>?_));intros;simp only [go_sem,kp80,geff,h0,g1,g2,yes]))
     all_goals try exact nd
     ·skip
      all_goals (refine nl ?_;simp only [go_sem])
      have hno:opk L regs 0 a=false:=by rw [hq];exact decide_eq_false (by simpa using hc)
      exact LeA.of_eq (by rw [hRR,hno];simp)
     ·have hok:opk L regs 0 ([a,b,c,d].getD 0 0)=true:=by
        show opk L regs 0 a=true
        rw [hq];exact decide_eq_true (by simpa using hc)
      exact ⟨⟨0+1,by omega,stepP hP hok⟩,wf,lf⟩
   ·have h0:((((1:Nat):Int)):Int)=1:=rfl
    rcases Nat.lt_or_ge 1 L.length with hlt|hlt
    ·have g1:decide ((1:Int)<(L.length:Int))=true:=decide_eq_true (by omega)
     have g2:decide ((1:Int)≥(L.length:Int))=false:=decide_eq_false (by omega)
     cases hq:kindOk (L.getD 1 0) b regs with
     |true=>
      have hok:opk L regs 1 ([a,b,c,d].getD 1 0)=true:=by unfold opk;rw [if_pos hlt];exact hq
      repeat' (first
       |(with_reducible first|refine nx ?_|refine t_seq fun K=>?_|refine t_br (fun hc=>?_) fun hc=>?_|refine t_bx ?_|apply And.intro|intro vr)
       |((with_reducible first|refine ny ?_|refine t_dwh (h:=fun K KL=>?_));intros;simp only [go_sem,kp80,geff,h0,g1,g2,hq,yes]))
      all_goals try exact nd
      exact ⟨⟨1+1,by omega,stepP hP hok⟩,wf,lf⟩
     |false=>
      have hno:opk L regs 1 b=false:=by unfold opk;rw [if_pos hlt];exact hq
      repeat' (first
       |(with_reducible first|refine nx ?_|refine t_seq fun K=>?_|refine t_br (fun hc=>?_) fun hc=>?_|refine t_bx ?_|apply And.intro|intro vr)
       |((with_reducible first|refine ny ?_|refine t_dwh (h:=fun K KL=>?_));intros;simp only [go_sem,kp80,geff,h0,g1,g2,hq,yes]))
      all_goals try exact nd
      all_goals (refine nl ?_;simp only [go_sem])
      exact LeA.of_eq (by rw [hRR,hno];simp)
    ·have g1:decide ((1:Int)<(L.length:Int))=false:=decide_eq_false (by omega)
     have g2:decide ((1:Int)≥(L.length:Int))=true:=decide_eq_true (by omega)
     have hq:opk L regs 1 b=decide (b=0):=by unfold opk;rw [if_neg (by omega)]
     repeat' (first
      |(with_reducible first|refine nx ?_|refine t_seq fun K=>?_|refine t_br (fun hc=>?_) fun hc=>?_|refine t_bx ?_|apply And.intro|intro vr)
      |((with_reducible first|refine ny ?_|refine t_dwh (h:=fun K KL=>?_));intros;simp only [go_sem,kp80,geff,h0,g1,g2,yes]))
     all_goals try exact nd
     ·skip
      all_goals (refine nl ?_;simp only [go_sem])
      have hno:opk L regs 1 b=false:=by rw [hq];exact decide_eq_false (by simpa using hc)
      exact LeA.of_eq (by rw [hRR,hno];simp)
     ·have hok:opk L regs 1 ([a,b,c,d].getD 1 0)=true:=by
        show opk L regs 1 b=true
        rw [hq];exact decide_eq_true (by simpa using hc)
      exact ⟨⟨1+1,by omega,stepP hP hok⟩,wf,lf⟩
   ·have h0:((((2:Nat):Int)):Int)=2:=rfl
    rcases Nat.lt_or_ge 2 L.length with hlt|hlt
    ·have g1:decide ((2:Int)<(L.length:Int))=true:=decide_eq_true (by omega)
     have g2:decide ((2:Int)≥(L.length:Int))=false:=decide_eq_false (by omega)
     cases hq:kindOk (L.getD 2 0) c regs with
     |true=>
      have hok:opk L regs 2 ([a,b,c,d].getD 2 0)=true:=by unfold opk;rw [if_pos hlt];exact hq
      repeat' (first
       |(with_reducible first|refine nx ?_|refine t_seq fun K=>?_|refine t_br (fun hc=>?_) fun hc=>?_|refine t_bx ?_|apply And.intro|intro vr)
       |((with_reducible first|refine ny ?_|refine t_dwh (h:=fun K KL=>?_));intros;simp only [go_sem,kp80,geff,h0,g1,g2,hq,yes]))
      all_goals try exact nd
      exact ⟨⟨2+1,by omega,stepP hP hok⟩,wf,lf⟩
     |false=>
      have hno:opk L regs 2 c=false:=by unfold opk;rw [if_pos hlt];exact hq
      repeat' (first
       |(with_reducible first|refine nx ?_|refine t_seq fun K=>?_|refine t_br (fun hc=>?_) fun hc=>?_|refine t_bx ?_|apply And.intro|intro vr)
       |((with_reducible first|refine ny ?_|refine t_dwh (h:=fun K KL=>?_));intros;simp only [go_sem,kp80,geff,h0,g1,g2,hq,yes]))
      all_goals try exact nd
      all_goals (refine nl ?_;simp only [go_sem])
      exact LeA.of_eq (by rw [hRR,hno];simp)
    ·have g1:decide ((2:Int)<(L.length:Int))=false:=decide_eq_false (by omega)
     have g2:decide ((2:Int)≥(L.length:Int))=true:=decide_eq_true (by omega)
     have hq:opk L regs 2 c=decide (c=0):=by unfold opk;rw [if_neg (by omega)]
     repeat' (first
      |(with_reducible first|refine nx ?_|refine t_seq fun K=>?_|refine t_br (fun hc=>?_) fun hc=>?_|refine t_bx ?_|apply And.intro|intro vr)
      |((with_reducible first|refine ny ?_|refine t_dwh (h:=fun K KL=>?_));intros;simp only [go_sem,kp80,geff,h0,g1,g2,yes]))
     all_goals try exact nd
     ·skip
      all_goals (refine nl ?_;simp only [go_sem])
      have hno:opk L regs 2 c=false:=by rw [hq];exact decide_eq_false (by simpa using hc)
      exact LeA.of_eq (by rw [hRR,hno];simp)
     ·have hok:opk L regs 2 ([a,b,c,d].getD 2 0)=true:=by
        show opk L regs 2 c=true
        rw [hq];exact decide_eq_true (by simpa using hc)
      exact ⟨⟨2+1,by omega,stepP hP hok⟩,wf,lf⟩
   ·have h0:((((3:Nat):Int)):Int)=3:=rfl
    rcases Nat.lt_or_ge 3 L.length with hlt|hlt
    ·have g1:decide ((3:Int)<(L.length:Int))=true:=decide_eq_true (by omega)
     have g2:decide ((3:Int)≥(L.length:Int))=false:=decide_eq_false (by omega)
     cases hq:kindOk (L.getD 3 0) d regs with
     |true=>
      have hok:opk L regs 3 ([a,b,c,d].getD 3 0)=true:=by unfold opk;rw [if_pos hlt];exact hq
      repeat' (first
       |(with_reducible first|refine nx ?_|refine t_seq fun K=>?_|refine t_br (fun hc=>?_) fun hc=>?_|refine t_bx ?_|apply And.intro|intro vr)
       |((with_reducible first|refine ny ?_|refine t_dwh (h:=fun K KL=>?_));intros;simp only [go_sem,kp80,geff,h0,g1,g2,hq,yes]))
      all_goals try exact nd
      exact ⟨⟨3+1,by omega,stepP hP hok⟩,wf,lf⟩
     |false=>
      have hno:opk L regs 3 d=false:=by unfold opk;rw [if_pos hlt];exact hq
      repeat' (first
       |(with_reducible first|refine nx ?_|refine t_seq fun K=>?_|refine t_br (fun hc=>?_) fun hc=>?_|refine t_bx ?_|apply And.intro|intro vr)
       |((with_reducible first|refine ny ?_|refine t_dwh (h:=fun K KL=>?_));intros;simp only [go_sem,kp80,geff,h0,g1,g2,hq,yes]))
      all_goals try exact nd
      all_goals (refine nl ?_;simp only [go_sem])
      exact LeA.of_eq (by rw [hRR,hno];simp)
    ·have g1:decide ((3:Int)<(L.length:Int))=false:=decide_eq_false (by omega)
     have g2:decide ((3:Int)≥(L.length:Int))=true:=decide_eq_true (by omega)
     have hq:opk L regs 3 d=decide (d=0):=by unfold opk;rw [if_neg (by omega)]
     repeat' (first
      |(with_reducible first|refine nx ?_|refine t_seq fun K=>?_|refine t_br (fun hc=>?_) fun hc=>?_|refine t_bx ?_|apply And.intro|intro vr)
      |((with_reducible first|refine ny ?_|refine t_dwh (h:=fun K KL=>?_));intros;simp only [go_sem,kp80,geff,h0,g1,g2,yes]))
     all_goals try exact nd
     ·skip
      all_goals (refine nl ?_;simp only [go_sem])
      have hno:opk L regs 3 d=false:=by rw [hq];exact decide_eq_false (by simpa using hc)
      exact LeA.of_eq (by rw [hRR,hno];simp)
     ·have hok:opk L regs 3 ([a,b,c,d].getD 3 0)=true:=by
        show opk L regs 3 d=true
        rw [hq];exact decide_eq_true (by simpa using hc)
      exact ⟨⟨3+1,by omega,stepP hP hok⟩,wf,lf⟩
   ·have hR4:R=true:=by
      rw [hRR,show opk L regs 0 a=true from hP 0 (by omega),show opk L regs 1 b=true from hP 1 (by omega),show opk L regs 2 c=true from hP 2 (by omega),show opk L regs 3 d=true from hP 3 (by omega),hpk]
      rfl
    have h0:((((4:Nat):Int)):Int)=4:=rfl
    repeat' (first
     |(with_reducible first|refine nx ?_|refine t_seq fun K=>?_|refine t_br (fun hc=>?_) fun hc=>?_|refine t_bx ?_|apply And.intro|intro vr)
     |((with_reducible first|refine ny ?_|refine t_dwh (h:=fun K KL=>?_));intros;simp only [go_sem,kp80,geff,h0]))
    all_goals try exact nd
    all_goals (refine nl ?_;simp only [go_sem])
    exact LeA.of_eq (by rw [hR4])
noncomputable def con80:PCon Try.prog where
  f:=80
  c:=fun
   |[xx,.lit (.int .i64 r)]=>match opOf xx with|some x=>some (True,.lit (.bool (rightS x r)))|_=>none
   |_=>none
  ok:=by
   intro args p r hc hp
   split at hc
   ·split at hc
    ·rename_i hx
     cases hc
     exact PC.weak right_pc ⟨opOf_le hx,LeA.refl _,trivial⟩
    ·cases hc
   ·cases hc
  fk:=fk80
theorem con80_f:con80.f=80:=rfl
theorem con80_c {xx:AV} {r:Int}:con80.c [xx,.lit (.int .i64 r)]=match opOf xx with|some x=>some (True,.lit (.bool (rightS x r)))|_=>none:=rfl
attribute [go_sem] con80_f con80_c
end Go.Proofs.Ytnlimcijgpaegaa

namespace Go.Proofs.Ytnlimcijgpaegaa
open Go Go.Fw Bm
set_option maxRecDepth 20000
def opAt (a b c d m:Int):Int:=[a,b,c,d].getD m.toNat 0
theorem reads_red (k:Int) (p:ByteArray) (a b c d:Int):readsS ⟨k,p,a,b,c,d⟩=(redS ⟨k,p,a,b,c,d⟩).map (opAt a b c d):=by
  rcases (show k<1∨k>15∨k=5∨k=1∨k=2∨k=3∨k=4∨k=6∨k=7∨k=8∨k=9∨k=10∨k=11∨k=12∨k=13∨k=14∨k=15 by omega) with h|h|rfl|rfl|rfl|rfl|rfl|rfl|rfl|rfl|rfl|rfl|rfl|rfl|rfl|rfl|rfl
  ·have e1:formS ⟨k,p,a,b,c,d⟩=none:=by unfold formS;simp only;repeat rw [if_neg (by omega)]
   have e2:redS ⟨k,p,a,b,c,d⟩=[]:=by unfold redS redL;repeat rw [if_neg (by simp only;omega)]
   simp [readsS,e1,e2]
  ·have e1:formS ⟨k,p,a,b,c,d⟩=none:=by unfold formS;simp only;repeat rw [if_neg (by omega)]
   have e2:redS ⟨k,p,a,b,c,d⟩=[]:=by unfold redS redL;repeat rw [if_neg (by simp only;omega)]
   simp [readsS,e1,e2]
  ·cases hT:El.typesS p with
   |none=>
    have e1:formS ⟨5,p,a,b,c,d⟩=none:=by simp [formS,hT]
    simp [readsS,e1,redS_5,hT]
   |some r=>
    have e1:formS ⟨5,p,a,b,c,d⟩=some (List.replicate (1+r.ps.length) true):=by simp [formS,hT]
    have e2:redS ⟨5,p,a,b,c,d⟩=rB r.ps.length:=by rw [redS_5,hT]
    rcases typesS_len hT with h|h|h<;>rw [h] at e1 e2<;>simp only [readsS,e1,e2]<;>rfl
  all_goals rfl
theorem redS_lit {k a b c d:Int} {p:ByteArray} (h:k≠5):redS ⟨k,p,a,b,c,d⟩=redL k:=if_neg h
theorem mem_getD {l:List Int} {i:Nat} (h:i<l.length):l.getD i 0∈l:=by
  rw [List.getD_eq_getElem?_getD,List.getElem?_eq_getElem h];exact List.getElem_mem h
theorem redS_bd (x:Ins):(redS x).length≤3∧∀ m∈redS x,m=0∨m=1∨m=2∨m=3:=by
  obtain ⟨k,p,a,b,c,d⟩:=x
  rcases (show k<1∨k>15∨k=5∨k=1∨k=2∨k=3∨k=4∨k=6∨k=7∨k=8∨k=9∨k=10∨k=11∨k=12∨k=13∨k=14∨k=15 by omega) with h|h|rfl|rfl|rfl|rfl|rfl|rfl|rfl|rfl|rfl|rfl|rfl|rfl|rfl|rfl|rfl
  ·have e2:redS ⟨k,p,a,b,c,d⟩=[]:=by unfold redS redL;repeat rw [if_neg (by simp only;omega)]
   rw [e2];simp
  ·have e2:redS ⟨k,p,a,b,c,d⟩=[]:=by unfold redS redL;repeat rw [if_neg (by simp only;omega)]
   rw [e2];simp
  ·cases hT:El.typesS p with
   |none=>rw [redS_5,hT];simp
   |some r=>
    have e2:redS ⟨5,p,a,b,c,d⟩=rB r.ps.length:=by rw [redS_5,hT]
    rw [e2]
    rcases typesS_len hT with h|h|h<;>rw [h]<;>exact ⟨by decide,by decide⟩
  all_goals (rw [redS_lit (by decide)];exact ⟨by decide,by decide⟩)
noncomputable def V8:Env:=envJ (P:=Try.prog) jkV zer (fun _=>false) (fun _=>false) [con110,con111] []
theorem V8_ok:EnvOk Try.prog V8:=envJOk zer_ok
set_option maxHeartbeats 8000000 in
theorem reads_pc {x:Ins}:PC Try.prog 115 [opV x] (.sl false 1 (ints .i64 (readsS x))):=by
  obtain ⟨hM,hB⟩:=redS_bd x
  obtain ⟨k,p,a,b,c,d⟩:=x
  rw [reads_red]
  simp only [opV]
  have hS:shpV ⟨k,p,a,b,c,d⟩= .tup [.agg [.lit (.string (namL k)),.sl false 1 (ints .i64 (kndS ⟨k,p,a,b,c,d⟩)),.lit (.bool (wrtB k)),.sl false 1 (ints .i64 (redS ⟨k,p,a,b,c,d⟩))],.lit (.bool (shpOk ⟨k,p,a,b,c,d⟩))]:=rfl
  generalize kndS ⟨k,p,a,b,c,d⟩=L at hS
  generalize redS ⟨k,p,a,b,c,d⟩=M at hS hM hB
  generalize shpOk ⟨k,p,a,b,c,d⟩=ok at hS
  have hMl:(ints .i64 M).length=M.length:=ints_length _ _
  refine pcR V8_ok (kp115) Try.func115 [.tmp 2] (h:=fun KF=>?_)
  unfold V8
  repeat' (first
   |(with_reducible first|refine nx ?_|refine t_seq fun K=>?_|refine t_br (fun hc=>?_) fun hc=>?_|refine t_bx ?_|apply And.intro|intro vr)
   |((with_reducible first|refine ny ?_|refine t_dwh (h:=fun K KL=>?_));intros;simp only [go_sem,kp115,geff,hS]))
  all_goals try exact nd
  refine t_loopF (ι:={q:Nat×Nat // q.1≤M.length}) (fun i=>[(16,.lit (.int .i64 i.1.1)),(5,.arr 2 i.1.2)]) (fun i=>[.box 73 [.lit (.int .i64 k),.lit (.string p),.lit (.int .i64 a),.lit (.int .i64 b),.lit (.int .i64 c),.lit (.int .i64 d)],.box 164 [.lit (.string (namL k)),.sl false 1 (ints .i64 L),.lit (.bool (wrtB k)),.sl false 1 (ints .i64 M)],.arr 3 1 (ints .i64 ((M.take i.1.1).map (opAt a b c d))) i.1.2 false]) (fun i=>M.length - i.1.1) ⟨(0,0),by simp⟩ ?_ ?_
  ·refine (le_nil 5 3 1 rfl).trans ?_
   exact lf
  rintro ⟨⟨i,v⟩,hi⟩ K0
  simp only at hi
  rcases Nat.lt_or_ge i M.length with hc|hc
  ·have g3:decide ((i:Int)<(M.length:Int))=true:=decide_eq_true (by omega)
   have hn:((M.take i).map (opAt a b c d)).length=i:=by simp;omega
   have hap:∀ n:Int,ints .i64 ((M.take i).map (opAt a b c d))++[.lit (.int .i64 n)]=ints .i64 ((M.take i).map (opAt a b c d)++[n]):=fun n=>ints_append1 _ _ _
   have htk:∀ m,M.getD i 0=m→(M.take i).map (opAt a b c d)++[opAt a b c d m]=(M.take (i+1)).map (opAt a b c d):=fun m hm=>by
     rw [List.take_add_one,List.getElem?_eq_getElem hc,List.map_append]
     rw [List.getD_eq_getElem?_getD,List.getElem?_eq_getElem hc] at hm
     simp only [Option.getD_some] at hm
     rw [hm];rfl
   rcases hB _ (mem_getD hc) with hm|hm|hm|hm
   ·have hq:(M.take i).map (opAt a b c d)++[a]=(M.take (i+1)).map (opAt a b c d):=htk 0 hm
    repeat' (first
     |(with_reducible first|refine nx ?_|refine t_seq fun K=>?_|refine t_br (fun hc=>?_) fun hc=>?_|refine t_bx ?_|apply And.intro|intro vr)
     |((with_reducible first|refine ny ?_|refine t_dwh (h:=fun K KL=>?_));intros;simp only [go_sem,kp115,geff,g3,hm,hap,hq,Int.toNat_natCast,yes]))
    all_goals try exact nd
    exact ⟨⟨(i+1,v+1),by simp only;omega⟩,wf,lf⟩
   ·have hq:(M.take i).map (opAt a b c d)++[b]=(M.take (i+1)).map (opAt a b c d):=htk 1 hm
    repeat' (first
     |(with_reducible first|refine nx ?_|refine t_seq fun K=>?_|refine t_br (fun hc=>?_) fun hc=>?_|refine t_bx ?_|apply And.intro|intro vr)
     |((with_reducible first|refine ny ?_|refine t_dwh (h:=fun K KL=>?_));intros;simp only [go_sem,kp115,geff,g3,hm,hap,hq,Int.toNat_natCast,yes]))
    all_goals try exact nd
    exact ⟨⟨(i+1,v+1),by simp only;omega⟩,wf,lf⟩
   ·have hq:(M.take i).map (opAt a b c d)++[c]=(M.take (i+1)).map (opAt a b c d):=htk 2 hm
    repeat' (first
     |(with_reducible first|refine nx ?_|refine t_seq fun K=>?_|refine t_br (fun hc=>?_) fun hc=>?_|refine t_bx ?_|apply And.intro|intro vr)
     |((with_reducible first|refine ny ?_|refine t_dwh (h:=fun K KL=>?_));intros;simp only [go_sem,kp115,geff,g3,hm,hap,hq,Int.toNat_natCast,yes]))
    all_goals try exact nd
    exact ⟨⟨(i+1,v+1),by simp only;omega⟩,wf,lf⟩
   ·have hq:(M.take i).map (opAt a b c d)++[d]=(M.take (i+1)).map (opAt a b c d):=htk 3 hm
    repeat' (first
     |(with_reducible first|refine nx ?_|refine t_seq fun K=>?_|refine t_br (fun hc=>?_) fun hc=>?_|refine t_bx ?_|apply And.intro|intro vr)
     |((with_reducible first|refine ny ?_|refine t_dwh (h:=fun K KL=>?_));intros;simp only [go_sem,kp115,geff,g3,hm,hap,hq,Int.toNat_natCast,yes]))
    all_goals try exact nd
    exact ⟨⟨(i+1,v+1),by simp only;omega⟩,wf,lf⟩
  ·have g3:decide ((i:Int)<(M.length:Int))=false:=decide_eq_false (by omega)
   have e:M.take i=M:=List.take_of_length_le hc
   repeat' (first
    |(with_reducible first|refine nx ?_|refine t_seq fun K=>?_|refine t_br (fun hc=>?_) fun hc=>?_|refine t_bx ?_|apply And.intro|intro vr)
    |((with_reducible first|refine ny ?_|refine t_dwh (h:=fun K KL=>?_));intros;simp only [go_sem,kp115,geff,g3,e]))
   all_goals try exact nd
   all_goals (refine nl ?_;simp only [go_sem])
   exact LeA.slx rfl
noncomputable def con115:PCon Try.prog where
  f:=115
  c:=fun
   |[xx]=>match opOf xx with|some x=>some (True,.sl false 1 (ints .i64 (readsS x)))|_=>none
   |_=>none
  ok:=by
   intro args p r hc hp
   split at hc
   ·split at hc
    ·rename_i hx
     cases hc
     exact PC.weak reads_pc ⟨opOf_le hx,trivial⟩
    ·cases hc
   ·cases hc
  fk:=fk115
theorem con115_f:con115.f=115:=rfl
theorem con115_c {xx:AV}:con115.c [xx]=match opOf xx with|some x=>some (True,.sl false 1 (ints .i64 (readsS x)))|_=>none:=rfl
attribute [go_sem] con115_f con115_c
end Go.Proofs.Ytnlimcijgpaegaa

namespace Go.Proofs.Ytnlimcijgpaegaa
open Go Go.Fw Bm
set_option maxRecDepth 20000
theorem opV_mk {k a b c d:Int} {p:ByteArray}:opV ⟨k,p,a,b,c,d⟩= .agg [.lit (.int .i64 k),.lit (.string p),.lit (.int .i64 a),.lit (.int .i64 b),.lit (.int .i64 c),.lit (.int .i64 d)]:=rfl
attribute [go_sem] opV_mk
def stI (st:List Nat):List Int:=st.reverse.map fun n:Nat=>(n:Int)
theorem stI_cons (j:Nat) (st:List Nat):stI (j::st)=stI st++[(j:Int)]:=by simp [stI]
theorem stI_length (st:List Nat):(stI st).length=st.length:=by simp [stI]
def matchV (ops:List Ins):AV:=match matchS ops with
  |some mt=> .tup [.sl false 1 (ints .i64 mt),.lit (.bool true)]
  |none=> .tup [.sl false 1 [],.lit (.bool false)]
def mtV (r:Option (List Int)):AV:=match r with
  |some mt=> .tup [.sl false 1 (ints .i64 mt),.lit (.bool true)]
  |none=> .tup [.sl false 1 [],.lit (.bool false)]
theorem drop_getI {l:List Ins} {i:Nat} (h:i<l.length):l.drop i=l.getD i nilI::l.drop (i+1):=by
  rw [List.drop_eq_getElem_cons h,List.getD_eq_getElem?_getD,List.getElem?_eq_getElem h];rfl
theorem mt_none {r:Option (List Int)} (h:r=none):LeA (.tup [.lit (.slice none 0 0),.lit (.bool false)]) (mtV r):=by
  subst h;exact LeA.tup ⟨LeA.nil _ _,LeA.refl _,trivial⟩
theorem mt_some {r:Option (List Int)} {l:List Int} (h:r=some l):LeA (.tup [.sl false 1 (ints .i64 l),.lit (.bool true)]) (mtV r):=by
  subst h;exact LeA.refl _
theorem stP {i:Nat} {st:List Nat} (hs:∀ j∈st,j<i):∀ j∈i::st,j<i+1:=fun j hj=>(List.mem_cons.1 hj).elim (fun h=>by omega) (fun h=>by have:=hs j h;omega)
theorem stQ {i j:Nat} {st:List Nat} (hs:∀ k∈j::st,k<i):∀ k∈st,k<i:=fun k hk=>hs k (List.mem_cons_of_mem _ hk)
theorem stW {i:Nat} {st:List Nat} (hs:∀ j∈st,j<i):∀ j∈st,j<i+1:=fun j hj=>by have:=hs j hj;omega
theorem stI_last (j:Nat) (st:List Nat):(stI (j::st)).getD st.length 0=(j:Int):=by
  rw [stI_cons,getD_app_right _ _ _ (by rw [stI_length];exact Nat.le_refl _),stI_length,Nat.sub_self];rfl
theorem stI_take (j:Nat) (st:List Nat):(ints .i64 (stI (j::st))).take st.length=ints .i64 (stI st):=by
  rw [stI_cons]
  simp only [ints,List.map_append]
  rw [List.take_append_of_le_length (by simp [stI_length]),List.take_of_length_le (by simp [stI_length])]
theorem stI_tk (j:Nat) (st:List Nat):(stI (j::st)).take (0+st.length)=stI st:=by
  rw [Nat.zero_add,stI_cons,List.take_append_of_le_length (by simp [stI_length]),List.take_of_length_le (by simp [stI_length])]
theorem stI_n0:((stI []).length:Int) - 1= -1:=rfl
theorem stI_n1 (j:Nat) (st:List Nat):((stI (j::st)).length:Int) - 1=(st.length:Int):=by rw [stI_length,List.length_cons];omega
noncomputable def V9:Env:=envJ (P:=Try.prog) jkV zer (fun _=>false) (fun _=>false) [] []
theorem V9_ok:EnvOk Try.prog V9:=envJOk zer_ok
structure Mt (ops:List Ins) (R:Option (List Int)) where
  i:Nat
  u:Nat
  v:Nat
  out:List Int
  st:List Nat
  hi:i≤ops.length
  ho:out.length=i
  hs:∀ j∈st,j<i
  h4:st.length≤40
  hF:matchG ops (ops.drop i) i out st=R
set_option maxHeartbeats 8000000 in
theorem match_pc {ops:List Ins} (hl:ops.length≤1000000):PC Try.prog 45 [.sl false 6 (opsV ops)] (matchV ops):=by
  show PC _ _ _ (mtV (matchS ops))
  generalize hR:matchS ops=R
  unfold matchS at hR
  by_cases hn:ops.length>5000
  ·rw [if_pos hn] at hR
   have g1:decide ((ops.length:Int)>5000)=true:=decide_eq_true (by omega)
   refine pcR V9_ok (kp45) Try.func45 [.tmp 2,.tmp 3] (h:=fun KF=>?_)
   unfold V9
   repeat' (first
    |(with_reducible first|refine nx ?_|refine t_seq fun K=>?_|refine t_br (fun hc=>?_) fun hc=>?_|refine t_bx ?_|apply And.intro|intro vr)
    |((with_reducible first|refine ny ?_|refine t_dwh (h:=fun K KL=>?_));intros;simp only [go_sem,kp45,geff,g1]))
   all_goals try exact nd
   all_goals (refine nl ?_;simp only [go_sem])
   exact mt_none hR.symm
  ·rw [if_neg hn] at hR
   have g1:decide ((ops.length:Int)>5000)=false:=decide_eq_false (by omega)
   refine pcR V9_ok (kp45) Try.func45 [.tmp 2,.tmp 3] (h:=fun KF=>?_)
   unfold V9
   repeat' (first
    |(with_reducible first|refine nx ?_|refine t_seq fun K=>?_|refine t_br (fun hc=>?_) fun hc=>?_|refine t_bx ?_|apply And.intro|intro vr)
    |((with_reducible first|refine ny ?_|refine t_dwh (h:=fun K KL=>?_));intros;simp only [go_sem,kp45,geff,g1]))
   all_goals try exact nd
   refine t_loopF (ι:=Mt ops R) (fun i=>[(14,.lit (.int .i64 i.i)),(4,.arr 0 i.u),(5,.arr 1 i.v)]) (fun i=>[.arr 3 1 (ints .i64 i.out) i.u false,.arr 3 1 (ints .i64 (stI i.st)) i.v false]) (fun i=>ops.length - i.i) ⟨0,0,0,[],[],by omega,rfl,by simp,by simp,by simpa using hR⟩ ?_ ?_
   ·refine (le_nil 4 3 1 rfl).trans ?_
    refine (le_nil 5 3 1 rfl).trans ?_
    exact lf
   rintro ⟨i,u,v,out,st,hi,ho,hs,h4,hF⟩ K0
   have hol:(ints .i64 out).length=i:=by rw [ints_length,ho]
   have hsl:(ints .i64 (stI st)).length=st.length:=by rw [ints_length,stI_length]
   rcases Nat.lt_or_ge i ops.length with hc|hc
   ·have g3:decide ((i:Int)<(ops.length:Int))=true:=decide_eq_true (by omega)
    have hap:∀ n:Int,ints .i64 out++[.lit (.int .i64 n)]=ints .i64 (out++[n]):=fun n=>ints_append1 _ _ _
    have has:∀ n:Int,ints .i64 (stI st)++[.lit (.int .i64 n)]=ints .i64 (stI st++[n]):=fun n=>ints_append1 _ _ _
    rw [drop_getI hc] at hF
    generalize hx:ops.getD i nilI=x at hF
    obtain ⟨k,p,a,b,c,d⟩:=x
    simp only [matchG] at hF
    rcases (show k=10∨k=11∨k=12∨k=13∨(k≠10∧k≠11∧k≠12∧k≠13) by omega) with rfl|rfl|rfl|rfl|hk
    ·rw [if_pos (by omega)] at hF
     have hnx:stI st++[(i:Int)]=stI (i::st):=(stI_cons i st).symm
     by_cases h40:st.length≥40
     ·rw [if_pos h40] at hF
      have k5:decide ((st.length:Int)+1>40)=true:=decide_eq_true (by omega)
      repeat' (first
       |(with_reducible first|refine nx ?_|refine t_seq fun K=>?_|refine t_br (fun hc=>?_) fun hc=>?_|refine t_bx ?_|apply And.intro|intro vr)
       |((with_reducible first|refine ny ?_|refine t_dwh (h:=fun K KL=>?_));intros;simp only [go_sem,kp45,geff,g3,hx,k5,hap,has,hol,hnx,stI_length,List.length_cons,Int.natCast_add,Int.natCast_one,Int.toNat_natCast,yes]))
      all_goals try exact nd
      all_goals (refine nl ?_;simp only [go_sem])
      exact mt_none hF.symm
     ·rw [if_neg h40] at hF
      have k5:decide ((st.length:Int)+1>40)=false:=decide_eq_false (by omega)
      repeat' (first
       |(with_reducible first|refine nx ?_|refine t_seq fun K=>?_|refine t_br (fun hc=>?_) fun hc=>?_|refine t_bx ?_|apply And.intro|intro vr)
       |((with_reducible first|refine ny ?_|refine t_dwh (h:=fun K KL=>?_));intros;simp only [go_sem,kp45,geff,g3,hx,k5,hap,has,hol,hnx,stI_length,List.length_cons,Int.natCast_add,Int.natCast_one,Int.toNat_natCast,yes]))
      all_goals try exact nd
      refine ⟨⟨i+1,u+1,v+1,out++[(i:Int)],i::st,by omega,by simp [ho],stP hs,by simp only [List.length_cons];omega,hF⟩,by first|(simp only;omega)|omega,?_⟩
      try simp only [updL_nil,updL_cons,delF_top,delF_upd,Nat.reduceEqDiff,reduceIte]
      refine le_backD (by first|rfl|(simp only [go_sem];try rfl)) (by first|exact Nat.zero_le _|simp) (by first|rfl|simp [lowO,low_lit,low_sl,low_ref,low_arr,low_sub,low_mp]) ?_ ?_
      ·repeat' (first|exact low_top|(refine low_upd rfl ?_))
      repeat' (first|exact leF_top _|exact (fun _=>LeR.refl _)|(with_reducible refine leF_sl ?_ ?_)|(refine leF_upd ?_ ?_))
      all_goals (first|exact LeR.top _|exact LeR.refl _|(refine LeR.of_eq ?_;(try simp only [go_sem]);try rfl)|((try simp only [go_sem]);try rfl))
    ·rw [if_pos (by omega)] at hF
     have hnx:stI st++[(i:Int)]=stI (i::st):=(stI_cons i st).symm
     by_cases h40:st.length≥40
     ·rw [if_pos h40] at hF
      have k5:decide ((st.length:Int)+1>40)=true:=decide_eq_true (by omega)
      repeat' (first
       |(with_reducible first|refine nx ?_|refine t_seq fun K=>?_|refine t_br (fun hc=>?_) fun hc=>?_|refine t_bx ?_|apply And.intro|intro vr)
       |((with_reducible first|refine ny ?_|refine t_dwh (h:=fun K KL=>?_));intros;simp only [go_sem,kp45,geff,g3,hx,k5,hap,has,hol,hnx,stI_length,List.length_cons,Int.natCast_add,Int.natCast_one,Int.toNat_natCast,yes]))
      all_goals try exact nd
      all_goals (refine nl ?_;simp only [go_sem])
      exact mt_none hF.symm
     ·rw [if_neg h40] at hF
      have k5:decide ((st.length:Int)+1>40)=false:=decide_eq_false (by omega)
      repeat' (first
       |(with_reducible first|refine nx ?_|refine t_seq fun K=>?_|refine t_br (fun hc=>?_) fun hc=>?_|refine t_bx ?_|apply And.intro|intro vr)
       |((with_reducible first|refine ny ?_|refine t_dwh (h:=fun K KL=>?_));intros;simp only [go_sem,kp45,geff,g3,hx,k5,hap,has,hol,hnx,stI_length,List.length_cons,Int.natCast_add,Int.natCast_one,Int.toNat_natCast,yes]))
      all_goals try exact nd
      refine ⟨⟨i+1,u+1,v+1,out++[(i:Int)],i::st,by omega,by simp [ho],stP hs,by simp only [List.length_cons];omega,hF⟩,by first|(simp only;omega)|omega,?_⟩
      try simp only [updL_nil,updL_cons,delF_top,delF_upd,Nat.reduceEqDiff,reduceIte]
      refine le_backD (by first|rfl|(simp only [go_sem];try rfl)) (by first|exact Nat.zero_le _|simp) (by first|rfl|simp [lowO,low_lit,low_sl,low_ref,low_arr,low_sub,low_mp]) ?_ ?_
      ·repeat' (first|exact low_top|(refine low_upd rfl ?_))
      repeat' (first|exact leF_top _|exact (fun _=>LeR.refl _)|(with_reducible refine leF_sl ?_ ?_)|(refine leF_upd ?_ ?_))
      all_goals (first|exact LeR.top _|exact LeR.refl _|(refine LeR.of_eq ?_;(try simp only [go_sem]);try rfl)|((try simp only [go_sem]);try rfl))
    ·rw [if_neg (by omega),if_pos rfl] at hF
     cases st with
     |nil=>
      have k6:decide ((-1:Int)<0)=true:=by decide
      repeat' (first
       |(with_reducible first|refine nx ?_|refine t_seq fun K=>?_|refine t_br (fun hc=>?_) fun hc=>?_|refine t_bx ?_|apply And.intro|intro vr)
       |((with_reducible first|refine ny ?_|refine t_dwh (h:=fun K KL=>?_));intros;simp only [go_sem,kp45,geff,g3,hx,hap,hol,stI_n0,k6,Int.toNat_natCast,yes]))
      all_goals try exact nd
      all_goals (refine nl ?_;simp only [go_sem])
      exact mt_none hF.symm
     |cons j st=>
      have hj:=hs j (List.mem_cons_self ..)
      have h4s:st.length≤39:=by simp only [List.length_cons] at h4;omega
      have hL:=stI_length st
      have hLj:(stI (j::st)).length=st.length+1:=stI_length (j::st)
      have k6:decide ((st.length:Int)<0)=false:=decide_eq_false (by omega)
      have hso:∀ n:Int,(ints .i64 (out++[(i:Int)])).set j (.lit (.int .i64 n))=ints .i64 ((out++[(i:Int)]).set j n):=fun n=>ints_set _ _ _ _
      simp only at hF
      generalize hy:ops.getD j nilI=y at hF
      obtain ⟨k',p',a',b',c',d'⟩:=y
      simp only at hF
      by_cases h11:k'=11
      ·rw [if_pos h11] at hF
       have k7:(k' !=11)=false:=by simp [h11]
       have hnx:ints .i64 (stI st)++[.lit (.int .i64 (i:Int))]=ints .i64 (stI (i::st)):=by rw [stI_cons];exact ints_append1 _ _ _
       repeat' (first
        |(with_reducible first|refine nx ?_|refine t_seq fun K=>?_|refine t_br (fun hc=>?_) fun hc=>?_|refine t_bx ?_|apply And.intro|intro vr)
        |((with_reducible first|refine ny ?_|refine t_dwh (h:=fun K KL=>?_));intros;simp only [go_sem,kp45,geff,g3,hx,hy,hap,hol,hso,stI_n1,stI_last,stI_take,stI_tk,hnx,k6,k7,Int.toNat_natCast,yes]))
       all_goals try exact nd
       refine ⟨⟨i+1,u+1,v+2,(out++[(i:Int)]).set j (i:Int),i::st,by omega,by simp [ho],stP (stQ hs),h4,hF⟩,by first|(simp only;omega)|omega,?_⟩
       try simp only [updL_nil,updL_cons,delF_top,delF_upd,Nat.reduceEqDiff,reduceIte]
       refine le_backD (by first|rfl|(simp only [go_sem];try rfl)) (by first|exact Nat.zero_le _|simp) (by first|rfl|simp [lowO,low_lit,low_sl,low_ref,low_arr,low_sub,low_mp]) ?_ ?_
       ·repeat' (first|exact low_top|(refine low_upd rfl ?_))
       repeat' (first|exact leF_top _|exact (fun _=>LeR.refl _)|(with_reducible refine leF_sl ?_ ?_)|(refine leF_upd ?_ ?_))
       all_goals (first|exact LeR.top _|exact LeR.refl _|(refine LeR.of_eq ?_;(try simp only [go_sem]);try rfl)|((try simp only [go_sem]);try rfl))
      ·rw [if_neg h11] at hF
       have k7:(k' !=11)=true:=by simp [h11]
       repeat' (first
        |(with_reducible first|refine nx ?_|refine t_seq fun K=>?_|refine t_br (fun hc=>?_) fun hc=>?_|refine t_bx ?_|apply And.intro|intro vr)
        |((with_reducible first|refine ny ?_|refine t_dwh (h:=fun K KL=>?_));intros;simp only [go_sem,kp45,geff,g3,hx,hy,hap,hol,hso,stI_n1,stI_last,stI_take,stI_tk,k6,k7,Int.toNat_natCast,yes]))
       all_goals try exact nd
       all_goals (refine nl ?_;simp only [go_sem])
       exact mt_none hF.symm
    ·rw [if_neg (by omega),if_neg (by omega),if_pos rfl] at hF
     cases st with
     |nil=>
      have k6:decide ((-1:Int)<0)=true:=by decide
      repeat' (first
       |(with_reducible first|refine nx ?_|refine t_seq fun K=>?_|refine t_br (fun hc=>?_) fun hc=>?_|refine t_bx ?_|apply And.intro|intro vr)
       |((with_reducible first|refine ny ?_|refine t_dwh (h:=fun K KL=>?_));intros;simp only [go_sem,kp45,geff,g3,hx,hap,hol,stI_n0,k6,Int.toNat_natCast,yes]))
      all_goals try exact nd
      all_goals (refine nl ?_;simp only [go_sem])
      exact mt_none hF.symm
     |cons j st=>
      have hj:=hs j (List.mem_cons_self ..)
      have h4s:st.length≤39:=by simp only [List.length_cons] at h4;omega
      have hL:=stI_length st
      have hLj:(stI (j::st)).length=st.length+1:=stI_length (j::st)
      have k6:decide ((st.length:Int)<0)=false:=decide_eq_false (by omega)
      have hso:∀ n:Int,(ints .i64 (out++[(i:Int)])).set j (.lit (.int .i64 n))=ints .i64 ((out++[(i:Int)]).set j n):=fun n=>ints_set _ _ _ _
      simp only at hF
      repeat' (first
       |(with_reducible first|refine nx ?_|refine t_seq fun K=>?_|refine t_br (fun hc=>?_) fun hc=>?_|refine t_bx ?_|apply And.intro|intro vr)
       |((with_reducible first|refine ny ?_|refine t_dwh (h:=fun K KL=>?_));intros;simp only [go_sem,kp45,geff,g3,hx,hap,hol,hso,stI_n1,stI_last,stI_take,stI_tk,k6,Int.toNat_natCast,yes]))
      all_goals try exact nd
      refine ⟨⟨i+1,u+1,v+1,(out++[(i:Int)]).set j (i:Int),st,by omega,by simp [ho],stW (stQ hs),by simp only [List.length_cons] at h4;omega,hF⟩,by simp only;omega,?_⟩
      refine (le_cut 5 (by simp only [go_sem];rfl) rfl).trans ?_
      try simp only [go_sem,stI_take,stI_tk]
      try simp only [updL_nil,updL_cons,delF_top,delF_upd,Nat.reduceEqDiff,reduceIte]
      refine le_backD (by first|rfl|(simp only [go_sem];try rfl)) (by first|exact Nat.zero_le _|simp) (by first|rfl|simp [lowO,low_lit,low_sl,low_ref,low_arr,low_sub,low_mp]) ?_ ?_
      ·repeat' (first|exact low_top|(refine low_upd rfl ?_))
      repeat' (first|exact leF_top _|exact (fun _=>LeR.refl _)|(with_reducible refine leF_sl ?_ ?_)|(refine leF_upd ?_ ?_))
      all_goals (first|exact LeR.top _|exact LeR.refl _|(refine LeR.of_eq ?_;(try simp only [go_sem]);try rfl)|((try simp only [go_sem]);try rfl))
    ·rw [if_neg (by omega),if_neg (by omega),if_neg (by omega)] at hF
     have k1:(k==10)=false:=by simpa using hk.1
     have k2:(k==11)=false:=by simpa using hk.2.1
     have k3:(k==12)=false:=by simpa using hk.2.2.1
     have k4:(k==13)=false:=by simpa using hk.2.2.2
     repeat' (first
      |(with_reducible first|refine nx ?_|refine t_seq fun K=>?_|refine t_br (fun hc=>?_) fun hc=>?_|refine t_bx ?_|apply And.intro|intro vr)
      |((with_reducible first|refine ny ?_|refine t_dwh (h:=fun K KL=>?_));intros;simp only [go_sem,kp45,geff,g3,hx,k1,k2,k3,k4,hap,hol,stI_length,Int.toNat_natCast,yes]))
     all_goals try exact nd
     refine ⟨⟨i+1,u+1,v,out++[(i:Int)],st,by omega,by simp [ho],fun j hj=>by have:=hs j hj;omega,h4,hF⟩,by first|(simp only;omega)|omega,?_⟩
     try simp only [updL_nil,updL_cons,delF_top,delF_upd,Nat.reduceEqDiff,reduceIte]
     refine le_backD (by first|rfl|(simp only [go_sem];try rfl)) (by first|exact Nat.zero_le _|simp) (by first|rfl|simp [lowO,low_lit,low_sl,low_ref,low_arr,low_sub,low_mp]) ?_ ?_
     ·repeat' (first|exact low_top|(refine low_upd rfl ?_))
     repeat' (first|exact leF_top _|exact (fun _=>LeR.refl _)|(with_reducible refine leF_sl ?_ ?_)|(refine leF_upd ?_ ?_))
     all_goals (first|exact LeR.top _|exact LeR.refl _|(refine LeR.of_eq ?_;(try simp only [go_sem]);try rfl)|((try simp only [go_sem]);try rfl))
   ·have g3:decide ((i:Int)<(ops.length:Int))=false:=decide_eq_false (by omega)
    rw [List.drop_eq_nil_of_le hc] at hF
    cases st with
    |nil=>
     repeat' (first
      |(with_reducible first|refine nx ?_|refine t_seq fun K=>?_|refine t_br (fun hc=>?_) fun hc=>?_|refine t_bx ?_|apply And.intro|intro vr)
      |((with_reducible first|refine ny ?_|refine t_dwh (h:=fun K KL=>?_));intros;simp only [go_sem,kp45,geff,g3,stI_length,List.length_nil,yes]))
     all_goals try exact nd
     all_goals (refine nl ?_;simp only [go_sem])
     exact mt_some (by rw [←hF];rfl)
    |cons j st=>
     have k5:decide (((j::st).length:Int)>0)=true:=decide_eq_true (by simp only [List.length_cons];omega)
     repeat' (first
      |(with_reducible first|refine nx ?_|refine t_seq fun K=>?_|refine t_br (fun hc=>?_) fun hc=>?_|refine t_bx ?_|apply And.intro|intro vr)
      |((with_reducible first|refine ny ?_|refine t_dwh (h:=fun K KL=>?_));intros;simp only [go_sem,kp45,geff,g3,stI_length,k5,yes]))
     all_goals try exact nd
     all_goals (refine nl ?_;simp only [go_sem])
     exact mt_none (by rw [←hF];rfl)
end Go.Proofs.Ytnlimcijgpaegaa

namespace Go.Proofs.Ytnlimcijgpaegaa
open Go Go.Fw Bm
set_option maxRecDepth 20000
def zs (n:Nat):List Int:=List.replicate n 0
theorem zs_ints (n:Nat):List.replicate n (AV.lit (.int .i64 0))=ints .i64 (zs n):=by simp [ints,zs]
theorem zs_length (n:Nat):(zs n).length=n:=by simp [zs]
theorem zs_set {out:List Int} {i n:Nat} (x:Int) (ho:out.length=i) (hi:i<n):(out++zs (n - i)).set i x=(out++[x])++zs (n - (i+1)):=by
  rw [List.set_append_right _ _ (by omega),ho,Nat.sub_self,show n - i=(n - (i+1))+1 by omega,zs,List.replicate_succ]
  simp [zs]
theorem zs_put {l z:List Int} {j:Nat} (x:Int) (h:j<l.length):(l++z).set j x=l.set j x++z:=List.set_append_left _ _ h
theorem stI_put (i j:Nat) (st:List Nat):(stI (j::st)).set st.length (i:Int)=stI (i::st):=by
  rw [stI_cons,List.set_append_right _ _ (by rw [stI_length];exact Nat.le_refl _),stI_length,Nat.sub_self,stI_cons];rfl
theorem stI_e0:(((stI []).length:Int)==0)=true:=rfl
theorem stI_e1 (j:Nat) (st:List Nat):(((stI (j::st)).length:Int)==0)=false:=by rw [stI_length,List.length_cons];simp;omega
structure Mr (ops:List Ins) (R:Option (List Int)) where
  i:Nat
  u:Nat
  v:Nat
  out:List Int
  st:List Nat
  hi:i≤ops.length
  ho:out.length=i
  hs:∀ j∈st,j<i
  h4:st.length≤40
  hF:matchG ops (ops.drop i) i out st=R
noncomputable def V10:Env:=envJ (P:=Try.prog) jkV zer (fun _=>false) (fun _=>false) [] []
theorem V10_ok:EnvOk Try.prog V10:=envJOk zer_ok
set_option maxHeartbeats 8000000 in
theorem rmatch_pc {ops:List Ins} (hl:ops.length≤1000000):PC Try.prog 16 [.sl false 6 (opsV ops)] (matchV ops):=by
  show PC _ _ _ (mtV (matchS ops))
  generalize hR:matchS ops=R
  unfold matchS at hR
  by_cases hn:ops.length>5000
  ·rw [if_pos hn] at hR
   have g1:decide ((ops.length:Int)>5000)=true:=decide_eq_true (by omega)
   refine pcR V10_ok (kp16) Try.func16 [.tmp 2,.tmp 3] (h:=fun KF=>?_)
   unfold V10
   repeat' (first
    |(with_reducible first|refine nx ?_|refine t_seq fun K=>?_|refine t_br (fun hc=>?_) fun hc=>?_|refine t_bx ?_|apply And.intro|intro vr)
    |((with_reducible first|refine ny ?_|refine t_dwh (h:=fun K KL=>?_));intros;simp only [go_sem,kp16,geff,g1]))
   all_goals try exact nd
   all_goals (refine nl ?_;simp only [go_sem])
   exact mt_none hR.symm
  ·rw [if_neg hn] at hR
   have g1:decide ((ops.length:Int)>5000)=false:=decide_eq_false (by omega)
   refine pcR V10_ok (kp16) Try.func16 [.tmp 2,.tmp 3] (h:=fun KF=>?_)
   unfold V10
   repeat' (first
    |(with_reducible first|refine nx ?_|refine t_seq fun K=>?_|refine t_br (fun hc=>?_) fun hc=>?_|refine t_bx ?_|apply And.intro|intro vr)
    |((with_reducible first|refine ny ?_|refine t_dwh (h:=fun K KL=>?_));intros;simp only [go_sem,kp16,geff,g1,zs_ints,Int.toNat_natCast]))
   all_goals try exact nd
   refine t_loopF (ι:=Mr ops R) (fun i=>[(6,.lit (.int .i64 i.i)),(4,.arr 0 i.u),(5,.arr 1 i.v)]) (fun i=>[.arr 3 1 (ints .i64 (i.out++zs (ops.length - i.i))) i.u false,.arr 3 1 (ints .i64 (stI i.st)) i.v false]) (fun i=>ops.length - i.i) ⟨0,0,0,[],[],by omega,rfl,by simp,by simp,by simpa using hR⟩ ?_ ?_
   ·refine (le_nil 5 3 1 rfl).trans ?_
    exact lf
   rintro ⟨i,u,v,out,st,hi,ho,hs,h4,hF⟩ K0
   have hsl:(ints .i64 (stI st)).length=st.length:=by rw [ints_length,stI_length]
   have hol:(ints .i64 (out++zs (ops.length - i))).length=ops.length:=by rw [ints_length,List.length_append,zs_length,ho];omega
   rcases Nat.lt_or_ge i ops.length with hc|hc
   ·have g3:decide ((i:Int)<(ops.length:Int))=true:=decide_eq_true (by omega)
    have hst:=zs_set (i:Int) ho hc
    have hol2:(ints .i64 ((out++[(i:Int)])++zs (ops.length - (i+1)))).length=ops.length:=by rw [ints_length,List.length_append,List.length_append,zs_length,ho,List.length_singleton];omega
    have hput:∀ j:Nat,j<i→∀ x:Int,((out++[(i:Int)])++zs (ops.length - (i+1))).set j x=(out++[(i:Int)]).set j x++zs (ops.length - (i+1)):=fun j hj x=>zs_put x (by rw [List.length_append,List.length_singleton];omega)
    rw [drop_getI hc] at hF
    generalize hx:ops.getD i nilI=x at hF
    obtain ⟨k,p,a,b,c,d⟩:=x
    simp only [matchG] at hF
    have has:ints .i64 (stI st)++[.lit (.int .i64 (i:Int))]=ints .i64 (stI (i::st)):=by rw [stI_cons];exact ints_append1 _ _ _
    rcases (show k=10∨k=11∨k=12∨k=13∨(k≠10∧k≠11∧k≠12∧k≠13) by omega) with rfl|rfl|rfl|rfl|hk
    ·rw [if_pos (by omega)] at hF
     by_cases h40:st.length≥40
     ·rw [if_pos h40] at hF
      have k5:((st.length:Int)==40)=true:=by simp;omega
      repeat' (first
       |(with_reducible first|refine nx ?_|refine t_seq fun K=>?_|refine t_br (fun hc=>?_) fun hc=>?_|refine t_bx ?_|apply And.intro|intro vr)
       |((with_reducible first|refine ny ?_|refine t_dwh (h:=fun K KL=>?_));intros;simp only [go_sem,kp16,geff,g3,hx,k5,hst,has,hol,stI_length,Int.toNat_natCast,yes]))
      all_goals try exact nd
      all_goals (refine nl ?_;simp only [go_sem])
      exact mt_none hF.symm
     ·rw [if_neg h40] at hF
      have k5:((st.length:Int)==40)=false:=by simp;omega
      repeat' (first
       |(with_reducible first|refine nx ?_|refine t_seq fun K=>?_|refine t_br (fun hc=>?_) fun hc=>?_|refine t_bx ?_|apply And.intro|intro vr)
       |((with_reducible first|refine ny ?_|refine t_dwh (h:=fun K KL=>?_));intros;simp only [go_sem,kp16,geff,g3,hx,k5,hst,has,hol,hsl,stI_length,Int.toNat_natCast,yes]))
      all_goals try exact nd
      exact ⟨⟨i+1,u,v+1,out++[(i:Int)],i::st,by omega,by simp [ho],stP hs,by simp only [List.length_cons];omega,hF⟩,wf,lf⟩
    ·rw [if_pos (by omega)] at hF
     by_cases h40:st.length≥40
     ·rw [if_pos h40] at hF
      have k5:((st.length:Int)==40)=true:=by simp;omega
      repeat' (first
       |(with_reducible first|refine nx ?_|refine t_seq fun K=>?_|refine t_br (fun hc=>?_) fun hc=>?_|refine t_bx ?_|apply And.intro|intro vr)
       |((with_reducible first|refine ny ?_|refine t_dwh (h:=fun K KL=>?_));intros;simp only [go_sem,kp16,geff,g3,hx,k5,hst,has,hol,stI_length,Int.toNat_natCast,yes]))
      all_goals try exact nd
      all_goals (refine nl ?_;simp only [go_sem])
      exact mt_none hF.symm
     ·rw [if_neg h40] at hF
      have k5:((st.length:Int)==40)=false:=by simp;omega
      repeat' (first
       |(with_reducible first|refine nx ?_|refine t_seq fun K=>?_|refine t_br (fun hc=>?_) fun hc=>?_|refine t_bx ?_|apply And.intro|intro vr)
       |((with_reducible first|refine ny ?_|refine t_dwh (h:=fun K KL=>?_));intros;simp only [go_sem,kp16,geff,g3,hx,k5,hst,has,hol,hsl,stI_length,Int.toNat_natCast,yes]))
      all_goals try exact nd
      exact ⟨⟨i+1,u,v+1,out++[(i:Int)],i::st,by omega,by simp [ho],stP hs,by simp only [List.length_cons];omega,hF⟩,wf,lf⟩
    ·rw [if_neg (by omega),if_pos rfl] at hF
     cases st with
     |nil=>
      repeat' (first
       |(with_reducible first|refine nx ?_|refine t_seq fun K=>?_|refine t_br (fun hc=>?_) fun hc=>?_|refine t_bx ?_|apply And.intro|intro vr)
       |((with_reducible first|refine ny ?_|refine t_dwh (h:=fun K KL=>?_));intros;simp only [go_sem,kp16,geff,g3,hx,hst,hol,stI_e0,Int.toNat_natCast,yes]))
      all_goals try exact nd
      all_goals (refine nl ?_;simp only [go_sem])
      exact mt_none hF.symm
     |cons j st=>
      have hj:=hs j (List.mem_cons_self ..)
      have h4s:st.length≤39:=by simp only [List.length_cons] at h4;omega
      have hL:=stI_length st
      have hLj:(stI (j::st)).length=st.length+1:=stI_length (j::st)
      have hp:=hput j hj (i:Int)
      simp only at hF
      generalize hy:ops.getD j nilI=y at hF
      obtain ⟨k',p',a',b',c',d'⟩:=y
      simp only at hF
      by_cases h11:k'=11
      ·rw [if_pos h11] at hF
       have k7:(k' !=11)=false:=by simp [h11]
       repeat' (first
        |(with_reducible first|refine nx ?_|refine t_seq fun K=>?_|refine t_br (fun hc=>?_) fun hc=>?_|refine t_bx ?_|apply And.intro|intro vr)
        |((with_reducible first|refine ny ?_|refine t_dwh (h:=fun K KL=>?_));intros;simp only [go_sem,kp16,geff,g3,hx,hy,hst,hp,hol,hol2,stI_e1,stI_n1,stI_last,stI_put,k7,Int.toNat_natCast,yes]))
       all_goals try exact nd
       exact ⟨⟨i+1,u,v,(out++[(i:Int)]).set j (i:Int),i::st,by omega,by simp [ho],stP (stQ hs),h4,hF⟩,wf,lf⟩
      ·rw [if_neg h11] at hF
       have k7:(k' !=11)=true:=by simp [h11]
       repeat' (first
        |(with_reducible first|refine nx ?_|refine t_seq fun K=>?_|refine t_br (fun hc=>?_) fun hc=>?_|refine t_bx ?_|apply And.intro|intro vr)
        |((with_reducible first|refine ny ?_|refine t_dwh (h:=fun K KL=>?_));intros;simp only [go_sem,kp16,geff,g3,hx,hy,hst,hp,hol,hol2,stI_e1,stI_n1,stI_last,stI_put,k7,Int.toNat_natCast,yes]))
       all_goals try exact nd
       all_goals (refine nl ?_;simp only [go_sem])
       exact mt_none hF.symm
    ·rw [if_neg (by omega),if_neg (by omega),if_pos rfl] at hF
     cases st with
     |nil=>
      repeat' (first
       |(with_reducible first|refine nx ?_|refine t_seq fun K=>?_|refine t_br (fun hc=>?_) fun hc=>?_|refine t_bx ?_|apply And.intro|intro vr)
       |((with_reducible first|refine ny ?_|refine t_dwh (h:=fun K KL=>?_));intros;simp only [go_sem,kp16,geff,g3,hx,hst,hol,stI_e0,Int.toNat_natCast,yes]))
      all_goals try exact nd
      all_goals (refine nl ?_;simp only [go_sem])
      exact mt_none hF.symm
     |cons j st=>
      have hj:=hs j (List.mem_cons_self ..)
      have h4s:st.length≤39:=by simp only [List.length_cons] at h4;omega
      have hL:=stI_length st
      have hLj:(stI (j::st)).length=st.length+1:=stI_length (j::st)
      have hp:=hput j hj (i:Int)
      simp only at hF
      repeat' (first
       |(with_reducible first|refine nx ?_|refine t_seq fun K=>?_|refine t_br (fun hc=>?_) fun hc=>?_|refine t_bx ?_|apply And.intro|intro vr)
       |((with_reducible first|refine ny ?_|refine t_dwh (h:=fun K KL=>?_));intros;simp only [go_sem,kp16,geff,g3,hx,hst,hp,hol,hol2,stI_e1,stI_n1,stI_last,Int.toNat_natCast,yes]))
      all_goals try exact nd
      refine ⟨⟨i+1,u,v+1,(out++[(i:Int)]).set j (i:Int),st,by omega,by simp [ho],stW (stQ hs),by simp only [List.length_cons] at h4;omega,hF⟩,by simp only;omega,?_⟩
      refine (le_cut 5 (by simp only [go_sem];rfl) rfl).trans ?_
      try simp only [go_sem,stI_take,stI_tk]
      first|exact lf|(refine Le.frameS (by first|rfl|(simp only [go_sem];try rfl)) ?_;repeat' (first|exact leF_top _|exact (fun _=>LeR.refl _)|(with_reducible refine leF_sl ?_ ?_)|(refine leF_upd ?_ ?_)))<;>(first|exact LeR.top _|exact LeR.refl _|(refine LeR.of_eq ?_;(try simp only [go_sem]);try rfl)|((try simp only [go_sem]);try rfl))
    ·rw [if_neg (by omega),if_neg (by omega),if_neg (by omega)] at hF
     have k1:(k==10)=false:=by simpa using hk.1
     have k2:(k==11)=false:=by simpa using hk.2.1
     have k3:(k==12)=false:=by simpa using hk.2.2.1
     have k4:(k==13)=false:=by simpa using hk.2.2.2
     repeat' (first
      |(with_reducible first|refine nx ?_|refine t_seq fun K=>?_|refine t_br (fun hc=>?_) fun hc=>?_|refine t_bx ?_|apply And.intro|intro vr)
      |((with_reducible first|refine ny ?_|refine t_dwh (h:=fun K KL=>?_));intros;simp only [go_sem,kp16,geff,g3,hx,k1,k2,k3,k4,hst,hol,Int.toNat_natCast,yes]))
     all_goals try exact nd
     exact ⟨⟨i+1,u,v,out++[(i:Int)],st,by omega,by simp [ho],fun j hj=>by have:=hs j hj;omega,h4,hF⟩,wf,lf⟩
   ·have g3:decide ((i:Int)<(ops.length:Int))=false:=decide_eq_false (by omega)
    rw [List.drop_eq_nil_of_le hc] at hF
    have hz:out++zs (ops.length - i)=out:=by rw [show ops.length - i=0 by omega];simp [zs]
    cases st with
    |nil=>
     repeat' (first
      |(with_reducible first|refine nx ?_|refine t_seq fun K=>?_|refine t_br (fun hc=>?_) fun hc=>?_|refine t_bx ?_|apply And.intro|intro vr)
      |((with_reducible first|refine ny ?_|refine t_dwh (h:=fun K KL=>?_));intros;simp only [go_sem,kp16,geff,g3,hz,stI_length,List.length_nil,yes]))
     all_goals try exact nd
     all_goals (refine nl ?_;simp only [go_sem])
     exact mt_some (by rw [←hF];rfl)
    |cons j st=>
     have k5:decide (((j::st).length:Int)>0)=true:=decide_eq_true (by simp only [List.length_cons];omega)
     repeat' (first
      |(with_reducible first|refine nx ?_|refine t_seq fun K=>?_|refine t_br (fun hc=>?_) fun hc=>?_|refine t_bx ?_|apply And.intro|intro vr)
      |((with_reducible first|refine ny ?_|refine t_dwh (h:=fun K KL=>?_));intros;simp only [go_sem,kp16,geff,g3,hz,stI_length,k5,yes]))
     all_goals try exact nd
     all_goals (refine nl ?_;simp only [go_sem])
     exact mt_none (by rw [←hF];rfl)
noncomputable def con16:PCon Try.prog where
  f:=16
  c:=fun
   |[xx]=>match opsOf xx with|some x=>some ((x.length≤1000000),matchV x)|_=>none
   |_=>none
  ok:=by
   intro args p r hc hp
   split at hc
   ·split at hc
    ·rename_i hx
     cases hc
     exact PC.weak (rmatch_pc hp) ⟨opsOf_le hx,trivial⟩
    ·cases hc
   ·cases hc
  fk:=fk16
theorem con16_f:con16.f=16:=rfl
theorem con16_c {xx:AV}:con16.c [xx]=match opsOf xx with|some x=>some ((x.length≤1000000),matchV x)|_=>none:=rfl
attribute [go_sem] con16_f con16_c
end Go.Proofs.Ytnlimcijgpaegaa

namespace Go.Proofs.Ytnlimcijgpaegaa
open Go Go.Fw
set_option maxRecDepth 20000
theorem le_nil {n0:Nat} {f:Nat→AV} {σ:List AObj} (i e sz:Nat) (h:f i= .lit (.slice none 0 0)):Le n0 ⟨f,σ⟩ ⟨upd f i (.arr σ.length 0),σ++[.arr e sz [] 0 false]⟩:=by
  intro cx G w N a _ hr hf
  obtain ⟨G',h1,h2,h3⟩:=Rel.newEmpty hr e sz none
  refine ⟨G',h2,hf.size,hf.defers,fun j=>?_⟩
  have hj:R G' (f j) (a.tmps.getD j undef):=(hf.rel j).mono h1
  simp only [upd]
  split
  ·rename_i e;subst e;rw [h] at hj;rw [hj.lit_inv];exact h3
  ·exact hj
def frameG:List Arr→List Int→List Int→List Bool→List Int×List Bool×Int
  |a::l,r::rs,fr,fd=>
   if (splitS a r).2.2≠0 then ([],[],(splitS a r).2.2)
   else if (splitS a r).1=[] then frameG l rs fr (fd++[false])
   else if fr=[] then frameG l rs (splitS a r).1 (fd++[true])
   else if (splitS a r).1.length≠fr.length then ([],[],13)
   else if (splitS a r).1≠fr then ([],[],14)
   else frameG l rs fr (fd++[true])
  |_,_,fr,fd=>(fr,fd,0)
def frameS (l:List Arr) (rs:List Int):List Int×List Bool×Int:=if l.length≠rs.length then ([],[],1) else frameG l rs [] []
theorem getD_mem {α:Type} {l:List α} {i:Nat} (z:α) (h:i<l.length):l.getD i z∈l:=by
  rw [List.getD_eq_getElem?_getD,List.getElem?_eq_getElem h];exact List.getElem_mem _
end Go.Proofs.Ytnlimcijgpaegaa

namespace Go.Proofs.Ytnlimcijgpaegaa
open Go Go.Fw
set_option maxRecDepth 20000
end Go.Proofs.Ytnlimcijgpaegaa

namespace Go.Proofs.Ytnlimcijgpaegaa
open Go Go.Fw
set_option maxRecDepth 20000
end Go.Proofs.Ytnlimcijgpaegaa

namespace Go.Proofs.Ytnlimcijgpaegaa
open Go Go.Fw
set_option maxRecDepth 20000
end Go.Proofs.Ytnlimcijgpaegaa

namespace Go.Proofs.Ytnlimcijgpaegaa
open Go Go.Fw Bm
set_option maxRecDepth 20000
def bcV (B:Prg):AV:= .agg [.lit (.int .i64 B.regs),.lit (.int .i64 B.arena),.sl false 6 (opsV B.ops),.sl false 2 (plsV B.ins),.sl false 2 (plsV B.outs),.sl false 3 (arrs B.types)]
theorem bcV_mk {r a:Int} {o:List Ins} {i u:List (Int×Int)} {t:List Arr}:bcV ⟨r,a,o,i,u,t⟩= .agg [.lit (.int .i64 r),.lit (.int .i64 a),.sl false 6 (opsV o),.sl false 2 (plsV i),.sl false 2 (plsV u),.sl false 3 (arrs t)]:=rfl
def bcOf:AV→Option Prg
  |.agg [.lit (.int .i64 r),.lit (.int .i64 a),o,i,u,t]=>match opsOf o,plsOf i,plsOf u,arrsOf t with
   |some o,some i,some u,some t=>some ⟨r,a,o,i,u,t⟩
   |_,_,_,_=>none
  |_=>none
theorem bcOf_agg {r a:Int} {o i u t:AV}:bcOf (.agg [.lit (.int .i64 r),.lit (.int .i64 a),o,i,u,t])=match opsOf o,plsOf i,plsOf u,arrsOf t with
    |some o,some i,some u,some t=>some ⟨r,a,o,i,u,t⟩
    |_,_,_,_=>none:=rfl
theorem bcOf_le {x:AV} {B:Prg} (h:bcOf x=some B):LeA x (bcV B):=by
  unfold bcOf at h
  split at h
  ·split at h
   ·rename_i h1 h2 h3 h4
    cases h
    exact LeA.agg ⟨LeA.refl _,LeA.refl _,opsOf_le h1,plsOf_le h2,plsOf_le h3,arrsOf_le h4,trivial⟩
   ·cases h
  ·cases h
structure OkB (B:Prg):Prop where
  ops:B.ops.length≤1000000
  ins:B.ins.length≤1000000
  outs:B.outs.length≤1000000
  types:B.types.length≤1000000
  dims:∀ t∈B.types,okA t
noncomputable def V11:Env:=envJ (P:=Try.prog) jkV zer (fun _=>false) (fun _=>false) [con16,con77,con114,con40] []
theorem V11_ok:EnvOk Try.prog V11:=envJOk zer_ok
attribute [go_sem] con16_f con16_c con114_f con114_c con40_f con40_c opsOf_sl plsOf_sl arrsOf_sl slK_sl szV_def arrOf_agg
def typdB (t:Arr):Bool:=((sizeS t.d).2==0)&&(eqS t.e sInt||eqS t.e sBool)&&((t.x.length:Int)==0)
theorem typeOk_eq (arena:Int) (t:Arr) (p:Int×Int):typeOk arena t p=(typdB t&&(p.2==(sizeS t.d).1)&& !decide (p.1<0)&& !decide (p.1>arena - (sizeS t.d).1)):=by
  rw [Bool.eq_iff_iff];simp [typeOk,typdB]
  intros;exact and_comm
set_option maxHeartbeats 4000000 in
theorem typed_pc {t:Arr} (h:okA t):PC Try.prog 82 [arrV t] (.tup [.lit (.int .i64 (sizeS t.d).1),.lit (.bool (typdB t))]):=by
  obtain ⟨h1,h2⟩:=h
  simp only [arrV]
  refine pcR V11_ok (kp82) Try.func82 [.tmp 2,.tmp 3] (h:=fun KF=>?_)
  unfold V11
  repeat' (first
   |(with_reducible first|refine nx ?_|refine t_seq fun K=>?_|refine t_br (fun hc=>?_) fun hc=>?_|refine t_bx ?_|apply And.intro|intro vr)
   |((with_reducible first|refine ny ?_|refine t_dwh (h:=fun K KL=>?_));intros;simp only [go_sem,kp82,geff]))
  all_goals try exact nd
  all_goals (refine nl ?_;simp only [go_sem])
  refine LeA.of_eq ?_
  simp only [typdB,sInt,sBool]
  try rfl
noncomputable def con82:PCon Try.prog where
  f:=82
  c:=fun
   |[xt]=>match arrOf xt with|some t=>some (okA t,.tup [.lit (.int .i64 (sizeS t.d).1),.lit (.bool (typdB t))])|_=>none
   |_=>none
  ok:=by
   intro args p r hc hp
   split at hc
   ·split at hc
    ·rename_i ht
     cases hc
     exact PC.weak (typed_pc hp) ⟨arrOf_le ht,trivial⟩
    ·cases hc
   ·cases hc
  fk:=fk82
theorem con82_f:con82.f=82:=rfl
theorem con82_c {xt:AV}:con82.c [xt]=match arrOf xt with|some t=>some (okA t,.tup [.lit (.int .i64 (sizeS t.d).1),.lit (.bool (typdB t))])|_=>none:=rfl
def formedB (ops:List Ins) (regs:Int):Bool:=ops.all (fun x=>rightS x regs)&&(matchS ops).isSome
theorem matchV_eq (ops:List Ins):∃ l,matchV ops= .tup [.sl false 1 (ints .i64 l),.lit (.bool (matchS ops).isSome)]:=by
  unfold matchV
  cases matchS ops with
  |none=>exact ⟨[],rfl⟩
  |some l=>exact ⟨l,rfl⟩
attribute [go_sem] con82_f con82_c
theorem plsV_app (a b:List (Int×Int)):plsV a++plsV b=plsV (a++b):=by simp [plsV]
end Go.Proofs.Ytnlimcijgpaegaa
