import Derived.Test.YtnlimcijgpaegaaFwF

set_option linter.all false

namespace Go.Fw
open Go
variable {P:Program} {E:Env} {keep:Nat→List Nat} {n0:Nat}
def picksD (dep:List (Nat×Nat)) (g:List (Nat×Oper)):List ((Nat×Oper)×List (Nat×Oper)):=(picks g).filter fun p=>dep.all fun e=> !(e.2==p.1.1&&g.any fun q=>q.1==e.1)
theorem picksD_mem {dep:List (Nat×Nat)} {g:List (Nat×Oper)} {p:(Nat×Oper)×List (Nat×Oper)} (h:p∈picksD dep g):p∈picks g:=(List.mem_filter.1 h).1
def perm4D (P:Program) (E:Env) (D:Nat→Bool) (ds:List (Option Tmp)) (dep:List (Nat×Nat)):Nat→List (Nat×Oper)→(AS→Prop)→AS→Prop
  |0,_,K,s=>K s
  |n+1,g,K,s=>∀ p∈picksD dep g,astep P E ds p.1.2 s fun x σ'=>Kp D s.σ σ'∧perm4D P E D ds dep n p.2 K ⟨putF s.f p.1.2.dst x,σ'⟩
def permBD (md:Region.Mode) (ops:Array Oper) (ord2:List (Nat×Nat)) (dep:List (Nat×Nat)):Nat→List (Nat×Oper)→Array Bool→Bool
  |0,_,listed=>ordB md ops ord2 listed
  |n+1,g,listed=>((Region.ready md ops listed).all fun j=>(picksD dep g).any fun p=>p.1.1==j)&& !(Region.ready md ops listed).isEmpty&&(picksD dep g).all fun p=>permBD md ops ord2 dep n p.2 (listed.setIfInBounds p.1.1 true)
theorem sAny_permD {D:Nat→Bool} {md:Region.Mode} {ops:Array Oper} {Q:AS→Prop} {dep:List (Nat×Nat)} {ord2:List (Nat×Nat)} {l2:List (Oper×Nat)} (hl2:pickO ops ord2=some l2):∀ (n:Nat) (g:List (Nat×Oper)) (listed:Array Bool) (s:AS),
    (∀ p∈g,ops[p.1]? =some p.2)→permBD md ops ord2 dep n g listed=true→perm4D P E D (dsOf ops) dep n g (fun s=>lops P E D (dsOf ops) l2 s Q) s→sAny P E D md ops Q (ord2.length+n) listed s
  |0,g,listed,s,_,hB,h=>sAny_ord ord2 l2 listed s hB hl2 h
  |n+1,g,listed,s,hg,hB,h=>by
   simp only [permBD,Bool.and_eq_true,Bool.not_eq_true',List.all_eq_true,List.any_eq_true,beq_iff_eq] at hB
   obtain ⟨⟨hr,hne⟩,hB⟩:=hB
   show (Region.ready md ops listed=[]→Q s)∧∀ i∈Region.ready md ops listed,sOp P E D ops i (sAny P E D md ops Q (ord2.length+n) (listed.setIfInBounds i true)) s
   refine ⟨fun e=>(by rw [e] at hne;cases hne),fun i hi=>?_⟩
   obtain ⟨⟨⟨j,o⟩,r⟩,hp,rfl⟩:=hr i hi
   have hpick:=picksD_mem hp
   have ho:=hg _ (picks_mem hpick).1
   unfold sOp
   simp only at ho ⊢
   rw [ho]
   refine ⟨_,h _ hp,fun x σ' hk=>⟨hk.1,sAny_permD hl2 n r _ _ (fun q hq=>hg q ((picks_mem hpick).2 q hq)) (hB _ hp) hk.2⟩⟩
def gBD (ops:Array Oper) (ord1:List (Nat×Nat)) (g:List Nat) (dep:List (Nat×Nat)) (ord2:List (Nat×Nat)):Bool:=match pickG ops g with
  |some gl=>(ord2.length+g.length+ord1.length==ops.size)&&ordA .any ops ord1 (fun listed=>permBD .any ops ord2 dep g.length gl listed) (Array.replicate ops.size false)
  |none=>false
def lopsPD (P:Program) (E:Env) (D:Nat→Bool) (ds:List (Option Tmp)) (dep:List (Nat×Nat)) (l1:Option (List (Oper×Nat))) (n:Nat) (g:Option (List (Nat×Oper))) (l2:Option (List (Oper×Nat))) (s:AS) (K:AS→Prop):Prop:=match l1,g,l2 with
  |some l1,some g,some l2=>lops P E D ds l1 s fun s=>perm4D P E D ds dep n g (fun s=>lops P E D ds l2 s K) s
  |_,_,_=>False
theorem lpD_some {D:Nat→Bool} {ds:List (Option Tmp)} {dep:List (Nat×Nat)} {l1 l2:List (Oper×Nat)} {n:Nat} {g:List (Nat×Oper)} {s:AS} {K:AS→Prop}:
    lopsPD P E D ds dep (some l1) n (some g) (some l2) s K=lops P E D ds l1 s fun s=>perm4D P E D ds dep n g (fun s=>lops P E D ds l2 s K) s:=rfl
theorem t_drawPD {id:Nat} {ops:List Oper} {Q:Exit→AS→Prop} {s:AS} (S:AS) (D:Nat→Bool) (ord1:List (Nat×Nat)) (g:List Nat) (dep:List (Nat×Nat)) (ord2:List (Nat×Nat)) (hB:gBD ops.toArray ord1 g dep ord2=true) (hS:Q .normal S)
    (h:∀ K:KT (fun s'=>Le n0 s' S),lopsPD P E D (dsOf ops.toArray) dep (pickO ops.toArray ord1) g.length (pickG ops.toArray g) (pickO ops.toArray ord2) s (keepK K.k (keep id))):awp P E keep n0 (.region id ops.toArray true) Q s:=by
  have:=h ⟨fun s'=>∃ s'',Le n0 s' s''∧Q .normal s'',fun s' h=>⟨S,h,hS⟩⟩
  unfold keepK lopsPD at this
  unfold gBD at hB
  split at this
  ·rename_i l1 gl l2 h1 hg h2
   rw [hg] at hB
   simp only [Bool.and_eq_true,beq_iff_eq] at hB
   have hx:=sAny_ordA (D:=D) (E:=E) (P:=P) (md:= .any) (n:=ord2.length+g.length) (R:=fun s=>perm4D P E D (dsOf ops.toArray) dep g.length gl (fun s=>lops P E D (dsOf ops.toArray) l2 s _) s)
     (fun listed s hk hR=>sAny_permD h2 g.length gl listed s (pickG_spec hg) hk hR) ord1 l1 _ s hB.2 h1 this
   rw [hB.1] at hx
   exact .inr ⟨D,hx⟩
  ·exact this.elim
def kPD (P:Program) (E:Env) (D:Nat→Bool) (ds:List (Option Tmp)) (dep:List (Nat×Nat)) (n:Nat) (g:List (Nat×Oper)) (K:AS→Prop) (d:Option Tmp) (f:Nat→AV) (σ:List AObj):AV→List AObj→Prop:=fun x σ'=>Kp D σ σ'∧perm4D P E D ds dep n g K ⟨putF f d x,σ'⟩
theorem t_kPD {D:Nat→Bool} {ds:List (Option Tmp)} {dep:List (Nat×Nat)} {n:Nat} {g:List (Nat×Oper)} {K:AS→Prop} {d:Option Tmp} {f:Nat→AV} {x:AV} {σ σ':List AObj} (h:perm4D P E D ds dep n g K ⟨putF f d x,σ'⟩) (hk:Kp D σ σ'):kPD P E D ds dep n g K d f σ x σ':=⟨hk,h⟩
def all4D (P:Program) (E:Env) (D:Nat→Bool) (ds:List (Option Tmp)) (dep:List (Nat×Nat)) (n:Nat) (f:Nat→AV) (σ:List AObj) (K:AS→Prop):List ((Nat×Oper)×List (Nat×Oper))→Prop
  |[]=>True
  |((_,⟨d,op,ty,pos,af,none⟩),r)::l=>avop P E (aev f) σ ⟨d,op,ty,pos,af,none⟩ (kPD P E D ds dep n r K d f σ)∧all4D P E D ds dep n f σ K l
  |_=>False
theorem p4D_all {D:Nat→Bool} {ds:List (Option Tmp)} {dep:List (Nat×Nat)} {n:Nat} {f:Nat→AV} {σ:List AObj} {K:AS→Prop}:∀ {l:List ((Nat×Oper)×List (Nat×Oper))},all4D P E D ds dep n f σ K l→∀ p∈l,astep P E ds p.1.2 ⟨f,σ⟩ fun x σ'=>Kp D σ σ'∧perm4D P E D ds dep n p.2 K ⟨putF f p.1.2.dst x,σ'⟩
  |[],_,p,hp=>by cases hp
  |((i,⟨d,op,ty,pos,af,none⟩),r)::l,h,p,hp=>by
   simp only [all4D] at h
   rcases List.mem_cons.1 hp with rfl|hp
   ·exact h.1
   ·exact p4D_all h.2 p hp
  |((i,⟨d,op,ty,pos,af,some g⟩),r)::l,h,p,hp=>by exact h.elim
section
variable {D:Nat→Bool} {ds:List (Option Tmp)} {dep:List (Nat×Nat)} {K:AS→Prop} {f:Nat→AV} {σ σ':List AObj} {n:Nat} {x:AV} {d:Option Tmp}
theorem a4D_nil:all4D P E D ds dep n f σ K []=True:=rfl
theorem a4D_cons {i:Nat} {op:Op} {ty:TypeId} {pos:String} {af:Array Edge} {r:List (Nat×Oper)} {l:List ((Nat×Oper)×List (Nat×Oper))}:
    all4D P E D ds dep n f σ K (((i,⟨d,op,ty,pos,af,none⟩),r)::l)=(avop P E (aev f) σ ⟨d,op,ty,pos,af,none⟩ (kPD P E D ds dep n r K d f σ)∧all4D P E D ds dep n f σ K l):=rfl
instance {s:AS} {g:List (Nat×Oper)}:Ny (perm4D P E D ds dep 0 g K s) (K s):=⟨fun h=>h⟩
instance {g:List (Nat×Oper)}:Ny (perm4D P E D ds dep (n+1) g K ⟨f,σ⟩) (all4D P E D ds dep n f σ K (picksD dep g)):=⟨p4D_all⟩
end
attribute [go_sem] a4D_nil a4D_cons lpD_some
end Go.Fw

namespace Go.Fw
open Go
theorem le_frzB {n0:Nat} {f:Nat→AV} {σ:List AObj} (o b off:Nat) {e sz ver:Nat} {xs:List AV} {t:TypeId} {cs:List AV} (ho:σ[o]? =some (.arr e sz xs ver false)) (hb:σ[b]? =some (.box t cs)) (hoff:off<cs.length) (hc:cs.getD off .top= .arr o ver):
    Le n0 ⟨f,σ⟩ ⟨f,(σ.set o (.arr e sz xs ver true)).set b (.box t (cs.set off (.sl false sz xs)))⟩:=by
  intro cx G w N a _ hr hf
  obtain ⟨G',h1,h2⟩:=Rel.freezeO hr o
  have e1:Fw.freezeO σ o=σ.set o (.arr e sz xs ver true):=by unfold Fw.freezeO;rw [ho]
  rw [e1] at h2
  have hne:o≠b:=fun q=>by subst q;rw [ho] at hb;cases hb
  have hb':(σ.set o (.arr e sz xs ver true))[b]? =some (.box t cs):=by rw [List.getElem?_set_ne hne];exact hb
  refine ⟨G',h2.rebox hb' (by simp) (fun i v hi hv=>?_),hf.size,hf.defers,fun j=>(hf.rel j).mono h1⟩
  by_cases q:off=i
  ·subst q
   rw [hc] at hv
   have hcl:Fw.arrOf false (σ.set o (.arr e sz xs ver true)) o ver=some (.sl false sz xs):=by unfold Fw.arrOf;rw [get_set ho];simp
   have:=arrOf_sound (live:=false) h2 hv hcl
   rw [getD_elem _ _ (by simpa using hoff),List.getElem_set_self]
   exact .clo _ _ (by simpa using this)
  ·rw [getD_elem _ _ (by simpa using hi),List.getElem_set_ne q,←getD_elem _ .top hi]
   exact hv
end Go.Fw
