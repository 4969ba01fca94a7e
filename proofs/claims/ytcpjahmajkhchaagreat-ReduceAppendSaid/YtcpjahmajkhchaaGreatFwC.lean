import Derived.Test.YtcpjahmajkhchaaGreatFwB

set_option linter.all false

namespace Go.Fw
open Go
variable {P:Program} {E:Env}
structure HP (l:List (Oper×Nat)) where
  v:List (Oper×Nat)
  h:v=l
structure HP2 (l m:List (Oper×Nat)) where
  v:List (Oper×Nat)
  w:List (Oper×Nat)
  h:v=l
  g:w=m
class Nk (G:Prop) (H C:outParam Prop):Prop where
  go:H→C→G
theorem nk {G H C:Prop} [Nk G H C] (h:H) (c:C):G:=Nk.go h c
section
variable {D:Nat→Bool} {ds:List (Option Tmp)} {K:AS→Prop} {d:Option Tmp} {f:Nat→AV} {x:AV} {σ σ':List AObj} {a:Oper} {p q:Oper×Nat} {l m:List (Oper×Nat)} {s:AS}
instance:Nh (lops P E D ds (p::l) s K) (∀ L:HP l,lops P E D ds (p::L.v) s K):=⟨fun h=>h ⟨l,rfl⟩⟩
instance:Nh (lopsF P E D ds a (p::l) (q::m) s K) (∀ L:HP2 l m,lopsF P E D ds a (p::L.v) (q::L.w) s K):=⟨fun h=>h ⟨l,m,rfl,rfl⟩⟩
instance (priority:=high) {L:HP l}:Ny (kL P E D ds L.v K d f x σ) (lops P E D ds l ⟨putF f d x,σ⟩ K):=⟨fun h=>by unfold kL;rw [L.h];exact h⟩
instance (priority:=high) {L:HP2 l m}:Ny (kL P E D ds L.w K d f x σ) (lops P E D ds m ⟨putF f d x,σ⟩ K):=⟨fun h=>by unfold kL;rw [L.g];exact h⟩
instance (priority:=high) {L:HP2 l m}:Ny (kF P E D ds a L.v L.w K d f x σ) (lopsF P E D ds a l m ⟨putF f d x,σ⟩ K):=⟨fun h=>by unfold kF;rw [L.h,L.g];exact h⟩
instance:Nk (kLE P E D ds l K d f σ x σ') (lops P E D ds l ⟨putF f d x,σ'⟩ K) (Kp D σ σ'):=⟨fun h c=>⟨c,h⟩⟩
instance (priority:=high) {L:HP l}:Nk (kLE P E D ds L.v K d f σ x σ') (lops P E D ds l ⟨putF f d x,σ'⟩ K) (Kp D σ σ'):=⟨fun h c=>⟨c,by rw [L.h];exact h⟩⟩
instance (priority:=high) {L:HP2 l m}:Nk (kLE P E D ds L.w K d f σ x σ') (lops P E D ds m ⟨putF f d x,σ'⟩ K) (Kp D σ σ'):=⟨fun h c=>⟨c,by rw [L.g];exact h⟩⟩
instance (priority:=high) {L:HP2 l m}:Nk (kLE P E D ds L.v K d f σ x σ') (lops P E D ds l ⟨putF f d x,σ'⟩ K) (Kp D σ σ'):=⟨fun h c=>⟨c,by rw [L.h];exact h⟩⟩
instance (priority:=high) {L:HP2 l m}:Nk (kLE P E D ds (p::L.w) K d f σ x σ') (lops P E D ds (p::m) ⟨putF f d x,σ'⟩ K) (Kp D σ σ'):=⟨fun h c=>⟨c,by rw [L.g];exact h⟩⟩
instance:Nk (kFE P E D ds a l m K d f σ x σ') (lopsF P E D ds a l m ⟨putF f d x,σ'⟩ K) (Kp D σ σ'):=⟨fun h c=>⟨c,h⟩⟩
instance (priority:=high) {L:HP2 l m}:Nk (kFE P E D ds a L.v L.w K d f σ x σ') (lopsF P E D ds a l m ⟨putF f d x,σ'⟩ K) (Kp D σ σ'):=⟨fun h c=>⟨c,by rw [L.h,L.g];exact h⟩⟩
end
end Go.Fw
namespace Go.Fw
open Go
variable {P:Program} {E:Env} {keep:Nat→List Nat} {n0:Nat}
def ordG (md:Region.Mode) (ops:Array Oper) (a:Nat):List (Nat×Nat)→Array Bool→Bool
  |[],_=>false
  |(i,b)::l,listed=>match b with
   |0=> !(i==a)&&((Region.ready md ops listed==[i,a]||Region.ready md ops listed==[a,i])&&ordG md ops a l (listed.setIfInBounds i true))
   |1=> !(i==a)&&((Region.ready md ops listed).contains i&&(Region.free md ops listed i&&ordG md ops a l (listed.setIfInBounds i true)))
   |2=> !(i==a)&&((Region.ready md ops listed).contains i&&(preI md ops listed i&&ordG md ops a l (listed.setIfInBounds i true)))
   |3=>(i==a)&&(Region.ready md ops listed==[i]&&ordB md ops l (listed.setIfInBounds i true))
   |_=>false
theorem noA_ne {a i b:Nat} {l:List (Nat×Nat)} (h:(!(i==a))=true):noA a ((i,b)::l)=(i,b)::noA a l:=by
  unfold noA;rw [List.filter_cons];simp only [h];rfl
theorem ordB_tl {md:Region.Mode} {ops:Array Oper} {i b:Nat} {l:List (Nat×Nat)} {listed:Array Bool} (h:ordB md ops ((i,b)::l) listed=true):ordB md ops l (listed.setIfInBounds i true)=true:=by
  unfold ordB at h;rw [Bool.and_eq_true] at h;exact h.2
theorem sAny_ordG {D:Nat→Bool} {md:Region.Mode} {ops:Array Oper} {Q:AS→Prop} {a:Nat} {oa:Oper} (ha:ops[a]? =some oa):∀ (ord:List (Nat×Nat)) (l lm:List (Oper×Nat)) (listed:Array Bool) (s:AS),
    ordG md ops a ord listed=true→ordB md ops (noA a ord) (listed.setIfInBounds a true)=true→pickO ops ord=some l→pickO ops (noA a ord)=some lm→(noA a ord).length+1=ord.length→lopsF P E D (dsOf ops) oa l lm s Q→sAny P E D md ops Q ord.length listed s
  |[],l,lm,listed,s,hB,_,_,_,_,_=>by cases hB
  |(i,b)::ord,l,lm,listed,s,hB,hM,hp,hpm,hlen,h=>by
   simp only [pickO] at hp
   split at hp
   rotate_left
   ·cases hp
   rename_i o l' ho hl'
   cases hp
   match b,hB,h with
   |n+4,hB,h=>cases hB
   |3,hB,h=>
    simp only [ordG,Bool.and_eq_true,beq_iff_eq] at hB
    obtain ⟨rfl,hr,hB'⟩:=hB
    have h':astep P E (dsOf ops) o s fun x σ'=>Kp D s.σ σ'∧lops P E D (dsOf ops) l' ⟨putF s.f o.dst x,σ'⟩ Q:=by cases lm<;>exact h
    refine ⟨fun e=>(by rw [e] at hr;cases hr),fun j hj=>?_⟩
    rw [hr] at hj
    obtain rfl:j=i:=by simpa using hj
    unfold sOp
    rw [ho]
    exact ⟨_,h',fun x σ' hk=>⟨hk.1,sAny_ord ord l' _ _ hB' hl' hk.2⟩⟩
   |0,hB,h=>
    simp only [ordG] at hB
    rw [Bool.and_eq_true,Bool.and_eq_true,Bool.or_eq_true,beq_iff_eq,beq_iff_eq] at hB
    obtain ⟨hne,hr,hB1⟩:=hB
    rw [noA_ne hne] at hM hpm hlen
    have hpm0:=hpm
    simp only [pickO,ho] at hpm
    split at hpm
    rotate_left
    ·cases hpm
    rename_i o2 lm' ho2 hlm'
    cases ho2
    cases hpm
    have hM':=ordB_tl hM
    have hia:i≠a:=by simpa using hne
    rw [Array.setIfInBounds_comm _ _ (Ne.symm hia)] at hM'
    have hlen':(noA a ord).length+1=ord.length:=by simpa using hlen
    have h':(astep P E (dsOf ops) o s fun x σ'=>Kp D s.σ σ'∧lopsF P E D (dsOf ops) oa l' lm' ⟨putF s.f o.dst x,σ'⟩ Q)∧(astep P E (dsOf ops) oa s fun x σ'=>Kp D s.σ σ'∧lops P E D (dsOf ops) ((o,0)::lm') ⟨putF s.f oa.dst x,σ'⟩ Q):=h
    have hne':Region.ready md ops listed≠[]:=by rcases hr with e|e<;>(rw [e];simp)
    refine ⟨fun e=>absurd e hne',fun j hj=>?_⟩
    have hj':j=i∨j=a:=by
      rcases hr with e|e<;>(rw [e] at hj;simp at hj;omega)
    rcases hj' with rfl|rfl
    ·unfold sOp
     rw [ho]
     exact ⟨_,h'.1,fun x σ' hk=>⟨hk.1,sAny_ordG ha ord l' lm' _ _ hB1 hM' hl' hlm' hlen' hk.2⟩⟩
    ·unfold sOp
     rw [ha]
     refine ⟨_,h'.2,fun x σ' hk=>⟨hk.1,?_⟩⟩
     have:=sAny_ord _ _ _ _ hM hpm0 hk.2
     rw [List.length_cons,hlen'] at this
     exact this
   |1,hB,h=>
    simp only [ordG] at hB
    rw [Bool.and_eq_true,Bool.and_eq_true,Bool.and_eq_true] at hB
    obtain ⟨hne,hr,hf,hB'⟩:=hB
    rw [noA_ne hne] at hM hpm hlen
    simp only [pickO,ho] at hpm
    split at hpm
    rotate_left
    ·cases hpm
    rename_i o2 lm' ho2 hlm'
    cases ho2
    cases hpm
    have hM':=ordB_tl hM
    have hia:i≠a:=by simpa using hne
    rw [Array.setIfInBounds_comm _ _ (Ne.symm hia)] at hM'
    have hlen':(noA a ord).length+1=ord.length:=by simpa using hlen
    have hr':i∈Region.ready md ops listed:=by simpa using hr
    have h':stabG E D (dsOf ops) s.f o=true∧match sval P E (dsOf ops) s.f s.σ o with
      |some (p,x)=>p∧lopsF P E D (dsOf ops) oa l' lm' ⟨putF s.f o.dst x,s.σ⟩ Q
      |none=>False:=h
    obtain ⟨hs,h'⟩:=h'
    split at h'
    ·rename_i p x hv
     exact sAny_first ho h'.1 ord.length listed s (Region.free_spec ho hf) hr' hs hv (sAny_ordG ha ord l' lm' _ _ hB' hM' hl' hlm' hlen' h'.2)
    ·exact h'.elim
   |2,hB,h=>
    simp only [ordG] at hB
    rw [Bool.and_eq_true,Bool.and_eq_true,Bool.and_eq_true] at hB
    obtain ⟨hne,hr,hf,hB'⟩:=hB
    rw [noA_ne hne] at hM hpm hlen
    simp only [pickO,ho] at hpm
    split at hpm
    rotate_left
    ·cases hpm
    rename_i o2 lm' ho2 hlm'
    cases ho2
    cases hpm
    have hM':=ordB_tl hM
    have hia:i≠a:=by simpa using hne
    rw [Array.setIfInBounds_comm _ _ (Ne.symm hia)] at hM'
    have hlen':(noA a ord).length+1=ord.length:=by simpa using hlen
    have hr':i∈Region.ready md ops listed:=by simpa using hr
    have h':match sval P E (dsOf ops) s.f s.σ o with
      |some (p,x)=>p∧lopsF P E D (dsOf ops) oa l' lm' ⟨putF s.f o.dst x,s.σ⟩ Q
      |none=>False:=h
    simp only [preI,ho,Bool.and_eq_true] at hf
    obtain ⟨⟨⟨h1,h2⟩,h3⟩,h4⟩:=hf
    split at h'
    ·rename_i p x hv
     exact sAny_pre (B:=clos md ops i) ho h'.1 h1 (fun j oj hoj hb hji=>by
         rcases ((preB_spec h4 hoj).1 hb).2 with e|e
         ·exact absurd e hji
         ·exact e) h3 ord.length listed s (Region.free_spec ho h2) (fun j oj hoj=>⟨fun hb=>((preB_spec h4 hoj).1 hb).1,(preB_spec h4 hoj).2⟩) hr' hv (sAny_ordG ha ord l' lm' _ _ hB' hM' hl' hlm' hlen' h'.2)
    ·exact h'.elim
theorem t_drawG {id:Nat} {ops:List Oper} {Q:Exit→AS→Prop} {s:AS} (D:Nat→Bool) (a:Nat) (ord:List (Nat×Nat))
    (hB:(ord.length==ops.toArray.size&&(noA a ord).length+1==ord.length)=true) (hG:ordG .any ops.toArray a ord (Array.replicate ops.toArray.size false)=true) (hM:ordB .any ops.toArray (noA a ord) ((Array.replicate ops.toArray.size false).setIfInBounds a true)=true)
    (h:∀ K:KT (Q .normal),lopsFO P E D (dsOf ops.toArray) ops.toArray[a]? (pickO ops.toArray ord) (pickO ops.toArray (noA a ord)) s (keepK K.k (keep id))):awp P E keep n0 (.region id ops.toArray true) Q s:=by
  have:=h ⟨_,fun _ h=>h⟩
  unfold keepK lopsFO at this
  split at this
  ·rename_i oa l m ha hl hm
   simp only [Bool.and_eq_true,beq_iff_eq] at hB
   have h2:=sAny_ordG (D:=D) (E:=E) (P:=P) (md:= .any) ha ord l m (Array.replicate ops.toArray.size false) s hG hM hl hm hB.2 this
   rw [hB.1] at h2
   exact .inr ⟨D,h2⟩
  ·exact this.elim
end Go.Fw
namespace Go.Fw
open Go
variable {P:Program} {E:Env}
theorem lG_pre {D:Nat→Bool} {ds:List (Option Tmp)} {a o:Oper} {p:Oper×Nat} {l m:List (Oper×Nat)} {f:Nat→AV} {σ:List AObj} {K:AS→Prop}:lopsF P E D ds a ((o,2)::l) (p::m) ⟨f,σ⟩ K=vk (sval P E ds f σ o) (kF P E D ds a l m K o.dst f) σ:=Eq.trans lF_pre rfl
theorem lG_true {D:Nat→Bool} {ds:List (Option Tmp)} {a o:Oper} {p:Oper×Nat} {l m:List (Oper×Nat)} {f:Nat→AV} {σ:List AObj} {K:AS→Prop}:lopsF P E D ds a ((o,1)::l) (p::m) ⟨f,σ⟩ K=(stabG E D ds f o=true∧vk (sval P E ds f σ o) (kF P E D ds a l m K o.dst f) σ):=Eq.trans lF_true rfl
theorem lG_eff {D:Nat→Bool} {ds:List (Option Tmp)} {a:Oper} {p:Oper×Nat} {d:Option Tmp} {op:Op} {ty:TypeId} {pos:String} {af:Array Edge} {l m:List (Oper×Nat)} {f:Nat→AV} {σ:List AObj} {K:AS→Prop}:
    lopsF P E D ds a ((⟨d,op,ty,pos,af,none⟩,0)::l) (p::m) ⟨f,σ⟩ K=(avop P E (aev f) σ ⟨d,op,ty,pos,af,none⟩ (kFE P E D ds a l m K d f σ)∧lops P E D ds ((a,0)::p::m) ⟨f,σ⟩ K):=Eq.trans lF_eff rfl
attribute [go_sem] lG_pre lG_true lG_eff
end Go.Fw
