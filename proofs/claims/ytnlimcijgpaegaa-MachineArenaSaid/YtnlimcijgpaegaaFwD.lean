import Derived.Test.YtnlimcijgpaegaaFwC

set_option linter.all false

namespace Go.Fw
open Go
variable {P:Program} {E:Env} {keep:Nat→List Nat} {n0:Nat}
theorem low1_bd {n:Nat} {x:AV} (h:low1 n x=true):Bd n x:=fun _ _ _ hr=>low1_R hr h
theorem bds_low {n:Nat} {σ:List AObj} (h:σ.all (lowO n)=true):BdS n σ:=by
  intro o t cs ho i hi
  rw [List.all_eq_true] at h
  have:=h _ (List.mem_of_getElem? ho)
  simp only [lowO,List.all_eq_true] at this
  exact low1_bd (this _ (getD_mem' hi))
theorem le_dropB {f:Nat→AV} {l m:List AObj} (hn:n0≤l.length) (hb:BdS l.length l) (hf:∀ j,low1 l.length (f j)=true):Le n0 ⟨f,l++m⟩ ⟨f,l⟩:=by
  intro cx G w N a h0 hr hfr
  have hlen:l.length≤(l++m).length:=by simp
  have e:(l++m).take l.length=l:=by simp
  have h1:=hr.trunc hlen (by omega) (by rw [e];exact hb)
  rw [e] at h1
  exact ⟨{G with n:=l.length},h1,hfr.size,hfr.defers,fun j=>low1_R (hfr.rel j) (hf j)⟩
theorem le_backB {f g:Nat→AV} {σ l m:List AObj} (e:σ=l++m) (hn:n0≤l.length) (hb:BdS l.length l) (hg:∀ j,low1 l.length (g j)=true) (h:∀ j,LeR (f j) (g j)):Le n0 ⟨f,σ⟩ ⟨g,l⟩:=by
  subst e
  exact (Le.frame h).trans (le_dropB hn hb hg)
section
variable {D:Nat→Bool} {ds:List (Option Tmp)} {K:AS→Prop} {f:Nat→AV} {σ σ':List AObj} {n:Nat} {x:AV} {d:Option Tmp}
theorem a4_nil:all4 P E D ds n f σ K []=True:=rfl
theorem a4_cons {i:Nat} {op:Op} {ty:TypeId} {pos:String} {af:Array Edge} {r:List (Nat×Oper)} {l:List ((Nat×Oper)×List (Nat×Oper))}:
    all4 P E D ds n f σ K (((i,⟨d,op,ty,pos,af,none⟩),r)::l)=(avop P E (aev f) σ ⟨d,op,ty,pos,af,none⟩ (kPE P E D ds n r K d f σ)∧all4 P E D ds n f σ K l):=rfl
theorem pk_nil {α:Type}:picks ([]:List α)=[]:=rfl
theorem pk_cons {α:Type} {a:α} {l:List α}:picks (a::l)=(a,l)::(picks l).map fun p=>(p.1,a::p.2):=rfl
instance {s:AS} {g:List (Nat×Oper)}:Ny (perm4 P E D ds 0 g K s) (K s):=⟨fun h=>h⟩
instance {g:List (Nat×Oper)}:Ny (perm4 P E D ds (n+1) g K ⟨f,σ⟩) (all4 P E D ds n f σ K (picks g)):=⟨t_p4⟩
end
attribute [go_sem] a4_nil a4_cons pk_nil pk_cons lp_some
theorem lg {G:Prop} (h:G:=by
  try simp only [updL_nil,updL_cons,delF_top,delF_upd,Nat.reduceEqDiff,reduceIte]
  refine Le.frameS (by first|rfl|(simp only [go_sem];try rfl)) ?_
  repeat' (first|exact leF_top _|exact (fun _=>LeR.refl _)|(with_reducible refine leF_sl ?_ ?_)|(refine leF_upd ?_ ?_))
  all_goals (first|exact LeR.top _|exact LeR.refl _|(refine LeR.of_eq ?_;(try simp only [go_sem]);try rfl)|((try simp only [go_sem]);try rfl))):G:=h
def sw (n o:Nat):Nat:=if o=n then n+1 else if o=n+1 then n else o
def renF (p:Nat→Nat) (f:Nat→AV):Nat→AV:=fun j=>ren1 p (f j)
theorem renF_top {p:Nat→Nat}:renF p topF=topF:=rfl
theorem renF_upd {p:Nat→Nat} {f:Nat→AV} {i:Nat} {x:AV}:renF p (upd f i x)=upd (renF p f) i (ren1 p x):=by
  funext j;simp only [renF,upd];split<;>rfl
theorem flatF_top:∀ j,flat1 (topF j)=true:=fun _=>rfl
theorem flatF_upd {f:Nat→AV} {i:Nat} {x:AV} (hx:flat1 x=true) (hf:∀ j,flat1 (f j)=true):∀ j,flat1 (upd f i x j)=true:=by
  intro j;simp only [upd];split
  ·exact hx
  ·exact hf j
theorem le_swap2 {τ:List AObj} {x y:AObj} {f:Nat→AV} {S:AS} (hn:n0≤τ.length) (hτ:BdS τ.length τ) (hx:flatO x=true) (hy:flatO y=true) (hf:∀ j,flat1 (f j)=true)
    (hs:Le n0 ⟨renF (sw τ.length) f,τ++[renO (sw τ.length) y,renO (sw τ.length) x]⟩ S):Le n0 ⟨f,τ++[x,y]⟩ S:=by
  refine Le.trans (le_ren (l:=[x,y]) (l':=[renO (sw τ.length) y,renO (sw τ.length) x]) (sw τ.length) (sw τ.length) hn hτ rfl ?_ ?_ ?_ ?_ fun j=>⟨hf j,rfl⟩) hs
  ·intro o ho;unfold sw;rw [if_neg (by omega),if_neg (by omega)];exact ⟨rfl,rfl⟩
  ·intro k hk
   simp only [List.length_cons,List.length_nil] at hk
   rcases (show k=0∨k=1 by omega) with rfl|rfl<;>simp [sw]
  ·intro k hk
   simp only [List.length_cons,List.length_nil] at hk
   rcases (show k=0∨k=1 by omega) with rfl|rfl<;>simp [sw]
  ·intro k hk
   simp only [List.length_cons,List.length_nil] at hk
   rcases (show k=0∨k=1 by omega) with rfl|rfl<;>simp [sw,hx,hy]
end Go.Fw
