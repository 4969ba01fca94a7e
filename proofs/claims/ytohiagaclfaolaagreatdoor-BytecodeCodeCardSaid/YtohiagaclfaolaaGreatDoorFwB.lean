import Derived.Test.YtohiagaclfaolaaGreatDoorFwA
import Derived.ProofKit
import Derived.OpenShut
import Derived.Deep.Slices
import Derived.Sort.Row

set_option linter.all false

namespace Go.Fw
open Go
set_option linter.unusedSectionVars false
variable [TB]
variable {P:Program} {E:Env} {cx:Cx}
structure AS where
  f:Nat→AV
  σ:List AObj
def upd (f:Nat→AV) (i:Nat) (x:AV):Nat→AV:=fun j=>if j=i then x else f j
def putF (f:Nat→AV) (d:Option Tmp) (x:AV):Nat→AV:=
  match d with
  |some d=>upd f d x
  |none=>f
def topF:Nat→AV:=fun _=> .top
def keepF (f:Nat→AV):List Nat→(Nat→AV)
  |[]=>topF
  |i::l=>upd (keepF f l) i (f i)
structure FRel (G:Gh) (N:Nat) (f:Nat→AV) (a:Act):Prop where
  size:N≤a.tmps.size
  defers:a.defers=[]
  rel:∀ i,R G (f i) (a.tmps.getD i undef)
theorem FRel.mono {G G':Gh} {N:Nat} {f:Nat→AV} {a:Act} (h:FRel G N f a) (hG:G.le G'):FRel G' N f a:=⟨h.size,h.defers,fun i=>(h.rel i).mono hG⟩
theorem FRel.put {G:Gh} {N:Nat} {f:Nat→AV} {a:Act} (h:FRel G N f a) {d:Option Tmp} {x:AV} {v:Value} (hd:∀ t,d=some t→t<N) (hx:R G x v):FRel G N (putF f d x) (a.put d v):=by
  cases d with
  |none=>exact h
  |some d=>
   refine ⟨by simpa [Act.put] using h.size,h.defers,fun i=>?_⟩
   have hlt:d<a.tmps.size:=Nat.lt_of_lt_of_le (hd d rfl) h.size
   simp only [putF,upd,Act.put]
   rw [Array.getD_eq_getD_getElem?,Array.getElem?_setIfInBounds]
   by_cases e:i=d
   ·subst e;rw [if_pos rfl,if_pos rfl,if_pos hlt];exact hx
   ·rw [if_neg e,if_neg (Ne.symm e),←Array.getD_eq_getD_getElem?];exact h.rel i
theorem FRel.keep {G:Gh} {N:Nat} {f:Nat→AV} {a:Act} (h:FRel G N f a) (l:List Nat):FRel G N (keepF f l) a:=by
  refine ⟨h.size,h.defers,fun i=>?_⟩
  induction l with
  |nil=>exact R.top _
  |cons j l ih=>
   simp only [keepF,upd]
   split
   ·rename_i e;subst e;exact h.rel _
   ·exact ih
def impB (t b:Bool):Bool:= !t||b
theorem impB_self (t:Bool):impB t t=true:=by cases t<;>rfl
theorem impB_true (t:Bool):impB t true=true:=by cases t<;>rfl
theorem impB_false (b:Bool):impB false b=true:=rfl
theorem impB_t (b:Bool):impB true b=b:=rfl
theorem impB_ofR {t b:Bool} (h:b=true):impB t b=true:=by rw [h];exact impB_true t
theorem and_ofB {a b:Bool} (h:a=true) (k:b=true):(a&&b)=true:=by rw [h,k];rfl
theorem impB_andR (x a b:Bool):impB x (a&&b)=(impB x a&&impB x b):=by cases a<;>cases b<;>cases x<;>rfl
def gdN (b:Bool) (y:AV):AV:=if b=true then y else .gd b y
theorem pickV_gdl {t g c d:Bool}:pickV t (gdN g (.lit (.bool c))) (.lit (.bool d))=need (t=true→g=true) (.lit (.bool (pickB t c d))):=by
  cases g with
  |true=>simp [gdN,pickV,yes,need]
  |false=>rfl
theorem pickV_gdr {t g c d:Bool}:pickV t (.lit (.bool c)) (gdN g (.lit (.bool d)))=need (t=false→g=true) (.lit (.bool (pickB t c d))):=by
  cases g with
  |true=>simp [gdN,pickV,yes,need]
  |false=>rfl
theorem pickV_ll {t c d:Bool}:pickV t (.lit (.bool c)) (.lit (.bool d))=yes (.lit (.bool (pickB t c d))):=rfl
theorem pickV_gl {t g c d:Bool}:pickV t (.gd g (.lit (.bool c))) (.lit (.bool d))=need (t=true→g=true) (.lit (.bool (pickB t c d))):=rfl
theorem pickV_lg {t g c d:Bool}:pickV t (.lit (.bool c)) (.gd g (.lit (.bool d)))=need (t=false→g=true) (.lit (.bool (pickB t c d))):=rfl
theorem pickV_tl {t:Bool} {q:Array Value} {y:AV}:pickV t (.lit (.tuple q)) y=if t=true then yes (.lit (.tuple q)) else yes y:=rfl
theorem pickV_lt {t c:Bool} {q:Array Value}:pickV t (.lit (.bool c)) (.lit (.tuple q))=if t=true then yes (.lit (.bool c)) else yes (.lit (.tuple q)):=rfl
theorem pickV_int {t:Bool} {k:IntKind} {n:Int} {y:AV}:pickV t (.lit (.int k n)) y=if t=true then yes (.lit (.int k n)) else yes y:=rfl
theorem pickV_str {t:Bool} {s:ByteArray} {y:AV}:pickV t (.lit (.string s)) y=if t=true then yes (.lit (.string s)) else yes y:=rfl
theorem pickV_sl {t b:Bool} {n:Nat} {xs:List AV} {y:AV}:pickV t (.sl b n xs) y=if t=true then yes (.sl b n xs) else yes y:=rfl
theorem pickV_arr {t:Bool} {o v:Nat} {y:AV}:pickV t (.arr o v) y=if t=true then yes (.arr o v) else yes y:=rfl
theorem pickV_agg {t:Bool} {xs:List AV} {y:AV}:pickV t (.agg xs) y=if t=true then yes (.agg xs) else yes y:=rfl
theorem gdN_true (y:AV):gdN true y=y:=rfl
def gev (f:Nat→AV) (t:Bool) (x:Operand):AV:=
  match aev f x with
  |.gd b y=>gdN (impB t b) y
  |z=>z
def dsOf (ops:Array Oper):List (Option Tmp):=ops.toList.map (·.dst)
theorem dsOf_get {ops:Array Oper} {j:Nat}:(dsOf ops)[j]? =(ops[j]?).map (·.dst):=by simp [dsOf]
theorem dsOf_mk {l:List Oper}:dsOf l.toArray=l.map (·.dst):=by simp [dsOf]
def gVal (ds:List (Option Tmp)) (f:Nat→AV) (j:Nat) (want:Bool):Option Bool:=
  match ds[j]? with
  |some (some d)=>match f d with
   |.lit (.bool t)=>some (t==want)
   |.lit (.tuple _)=>some false
   |.gd g (.lit (.bool t))=>some (g&&(t==want))
   |_=>none
  |_=>none
def dval (P:Program) (E:Env) (ops:List (Option Tmp)) (f:Nat→AV) (σ:List AObj) (o:Oper):VR:=
  match o.guard with
  |none=>pval P E (aev f) σ o
  |some (j,want)=>match gVal ops f j want with
   |some t=>match pval P E (gev f t) σ o with
    |some (p,x)=>need (t=true→p) (.gd t x)
    |none=>if t=true then none else yes (.lit undef)
   |none=>none
def gEff (E:Env) (d:Option Tmp):Bool:=match d with
  |some d=>E.eg d
  |none=>true
def astep (P:Program) (E:Env) (ops:List (Option Tmp)) (o:Oper) (s:AS) (k:AV→List AObj→Prop):Prop:=
  match o.guard with
  |none=>avop P E (aev s.f) s.σ o k
  |some (j,want)=>if gEff E o.dst=true then
     (match gVal ops s.f j want with
     |some t=>(t=true→avop P E (gev s.f true) s.σ o k)∧(t=false→k (.lit undef) s.σ)
     |none=>False)
   else (gVal ops s.f j want=some false∧k (.lit undef) s.σ)∨match dval P E ops s.f s.σ o with
   |some (p,x)=>p∧k x s.σ
   |none=>False
def aops (P:Program) (E:Env) (ops:List (Option Tmp)):List Oper→AS→(AS→Prop)→Prop
  |[],s,K=>K s
  |o::l,s,K=>astep P E ops o s fun x σ'=>aops P E ops l ⟨putF s.f o.dst x,σ'⟩ K
def dops (P:Program) (E:Env) (ops:List (Option Tmp)):List Oper→AS→(AS→Prop)→Prop
  |[],s,K=>K s
  |o::l,s,K=>match dval P E ops s.f s.σ o with
   |some (p,x)=>p∧dops P E ops l ⟨putF s.f o.dst x,s.σ⟩ K
   |none=>False
def Post (cx:Cx) (N:Nat) (K:AS→Prop) (a:Act) (w:World):Prop:=∃ G s,Rel cx G s.σ w∧FRel G N s.f a∧K s
theorem gVal_sound {ops:Array Oper} {f:Nat→AV} {j:Nat} {want t:Bool} {G:Gh} {N:Nat} {a:Act} (hf:FRel G N f a) (h:gVal (dsOf ops) f j want=some t):(yielded ops a.tmps j==some want)=t:=by
  unfold gVal at h
  split at h
  ·rename_i d hd
   rw [dsOf_get] at hd
   have hd':(ops[j]?).bind (·.dst)=some d:=by
     cases hj:ops[j]? with
     |none=>rw [hj] at hd;cases hd
     |some o=>rw [hj] at hd;simpa using hd
   have hb:∀ t',a.tmps.getD d undef= .bool t'→yielded ops a.tmps j=some t':=by
     intro t' this
     unfold yielded
     rw [hd']
     rw [Array.getD_eq_getD_getElem?] at this
     have hs:a.tmps[d]? =some (.bool t'):=by
       cases he:a.tmps[d]? with
       |none=>rw [he] at this;cases this
       |some u=>rw [he] at this;simp at this;rw [this]
     simp [hs]
   have hr:=hf.rel d
   split at h
   ·rename_i t' ht
    cases h
    rw [ht] at hr
    rw [hb _ hr.lit_inv]
    cases t'<;>cases want<;>rfl
   ·rename_i q ht
    cases h
    rw [ht] at hr
    have hv:=hr.lit_inv
    have:yielded ops a.tmps j=none:=by
      unfold yielded
      rw [hd']
      rw [Array.getD_eq_getD_getElem?] at hv
      cases he:a.tmps[d]? with
      |none=>simp [he]
      |some u=>rw [he] at hv;simp at hv;subst hv;simp [he]
    rw [this]
    rfl
   ·rename_i g t' ht
    cases h
    rw [ht] at hr
    cases g with
    |true=>
     rw [hb _ (hr.gd_inv rfl).lit_inv]
     cases t'<;>cases want<;>rfl
    |false=>
     have hv:=hr.gd_inv2 rfl
     have:yielded ops a.tmps j=none:=by
       unfold yielded
       rw [hd']
       rw [Array.getD_eq_getD_getElem?] at hv
       cases he:a.tmps[d]? with
       |none=>simp [he]
       |some u=>rw [he] at hv;simp at hv;subst hv;simp [he,undef]
     rw [this]
     rfl
   ·cases h
  ·cases h
theorem gev_sound {f:Nat→AV} {t:Bool} {G:Gh} {N:Nat} {a:Act} (hf:FRel G N f a) (ht:t=true) (x:Operand):R G (gev f t x) (a.eval x):=by
  have h:=aev_sound hf.rel x
  unfold gev
  split
  ·rename_i b y hx
   rw [hx] at h
   subst ht
   rw [impB_t]
   unfold gdN
   split
   ·rename_i hb;exact h.gd_inv hb
   ·exact h
  ·exact h
def PanOk (cx:Cx) (c:List PanicEntry) (a:Act) (w:World):Prop:=a.defers=[]∧∃ v G σ x,c=[{v,recovered:=false}]∧Rel cx G σ w∧R G x v∧cx.px x σ
theorem Pan.ok {G:Gh} {c:List PanicEntry} {a:Act} {w:World} (ha:a.defers=[]) (h:Pan cx G c w):PanOk cx c a w:=by
  obtain ⟨v,G',σ',x,h0,_,h2,h3,h4⟩:=h;exact ⟨ha,v,G',σ',x,h0,h2,h3,h4⟩
theorem wp_of_yield {G:Gh} {w:World} {N:Nat} {f:Nat→AV} {a:Act} {o:Oper} {K:AS→Prop} {next:Act→World→Prop} {Q:Exit→Act→World→Prop} (hf:FRel G N f a) (hd:∀ t,o.dst=some t→t<N)
    (hy:Yield P cx G (fun x σ'=>K ⟨putF f o.dst x,σ'⟩) ((execOp a.eval o).run P w)) (hn:∀ a w,Post cx N K a w→next a w) (hP:∀ a w c,PanOk cx c a w→Q (.panic c) a w):o.wp P a w next Q:=by
  unfold Oper.wp
  generalize (execOp a.eval o).run P w=r at hy
  cases r with
  |ok n w'=>
   cases n with
   |value v=>
    obtain ⟨G',σ',x,h1,h2,h3,h4⟩:=hy
    exact hn _ _ ⟨G',_,h2,(hf.mono h1).put hd h3,h4⟩
   |skip=>
    obtain ⟨G',σ',x,h1,h2,h3,h4⟩:=hy
    exact hn _ _ ⟨G',_,h2,(hf.mono h1).put hd h3,h4⟩
   |enter g args=>
    refine Calls.mono hy ?_
    intro e w'' h
    cases e with
    |returned v=>
     obtain ⟨G',σ',x,h1,h2,h3,h4⟩:=h
     exact hn _ _ ⟨G',_,h2,(hf.mono h1).put hd h3,h4⟩
    |panicked c=>exact hP _ _ _ (Pan.ok hf.defers h)
    |outgrown=>exact h.elim
   |_=>exact hy.elim
  |halt x w'=>cases x<;>first|exact hP _ _ _ (Pan.ok hf.defers hy)|exact hy.elim
theorem Yield.guard {G:Gh} {x:AV} {σ:List AObj} (b:Bool) (hb:b=true) {r:Result Next} (h:Yield P cx G (fun y σ'=>y=x∧σ'=σ) r):Yield P cx G (fun y σ'=>y= .gd b x∧σ'=σ) r:=by
  cases r with
  |ok n w'=>
   cases n with
   |value v=>obtain ⟨G',σ',y,h1,h2,h3,rfl,rfl⟩:=h;exact ⟨G',_,_,h1,h2,.gd b _ _ (fun _=>h3) (fun e=>absurd (hb.symm.trans e) (by decide)),rfl,rfl⟩
   |skip=>obtain ⟨G',σ',y,h1,h2,h3,rfl,rfl⟩:=h;exact ⟨G',_,_,h1,h2,.gd b _ _ (fun _=>h3) (fun e=>absurd (hb.symm.trans e) (by decide)),rfl,rfl⟩
   |enter f args=>
    refine Calls.mono h fun e w'' h=>?_
    cases e with
      |returned v=>obtain ⟨G',σ',y,h1,h2,h3,rfl,rfl⟩:=h;exact ⟨G',_,_,h1,h2,.gd b _ _ (fun _=>h3) (fun e=>absurd (hb.symm.trans e) (by decide)),rfl,rfl⟩
      |panicked c=>exact h
      |outgrown=>exact h
   |_=>exact h.elim
  |halt x w'=>cases x<;>exact h
theorem dval_sound (hE:EnvOk P E) {ops:Array Oper} {o:Oper} {f:Nat→AV} {σ:List AObj} {K:AS→Prop} {G:Gh} {w:World} {N:Nat} {a:Act} {next:Act→World→Prop} {Q:Exit→Act→World→Prop} {p:Prop} {x:AV}
    (hr:Rel cx G σ w) (hf:FRel G N f a) (hd:∀ t,o.dst=some t→t<N) (hdv:dval P E (dsOf ops) f σ o=some (p,x)) (hp:p) (hK:K ⟨putF f o.dst x,σ⟩) (hn:∀ a w,Post cx N K a w→next a w) (hP:∀ a w c,PanOk cx c a w→Q (.panic c) a w):
    if Region.wanted o (yielded ops a.tmps) then o.wp P a w next Q else next (a.put o.dst undef) w:=by
  cases hg:o.guard with
  |none=>
   rw [if_pos (by simp [Region.wanted,hg])]
   unfold dval at hdv
   rw [hg] at hdv
   exact wp_of_yield hf hd ((pval_sound hE hr (aev_sound hf.rel) hdv hp).mono (fun y σ' ⟨e1,e2⟩=>by rw [e1,e2];exact hK)) hn hP
  |some jw=>
   obtain ⟨j,want⟩:=jw
   unfold dval at hdv
   rw [hg] at hdv
   simp only at hdv
   split at hdv
   ·rename_i t ht
    have wanted:Region.wanted o (yielded ops a.tmps)=t:=by
      have:=gVal_sound hf ht
      simp only [Region.wanted,hg]
      exact this
    split at hdv
    ·rename_i p' x' hpv
     cases hdv
     rw [wanted]
     split
     ·rename_i hw
      have hy:=pval_sound hE hr (gev_sound hf hw) hpv (hp hw)
      exact wp_of_yield hf hd ((hy.guard t hw).mono (fun y σ' ⟨e1,e2⟩=>by rw [e1,e2];exact hK)) hn hP
     ·rename_i hw
      refine hn _ _ ⟨G,⟨putF f o.dst (.gd t x'),σ⟩,hr,?_,hK⟩
      exact hf.put hd (.gd _ _ _ (fun e=>absurd e hw) (fun _=>rfl))
    ·split at hdv
     ·cases hdv
     ·rename_i hw
      cases hdv
      rw [wanted,if_neg hw]
      exact hn _ _ ⟨G,⟨putF f o.dst (.lit undef),σ⟩,hr,hf.put hd (R.lit _),hK⟩
   ·cases hdv
theorem astep_sound' (hE:EnvOk P E) (hpx:cx.px=E.px) {ops:Array Oper} {o:Oper} {s:AS} {K:AS→Prop} {G:Gh} {w:World} {N:Nat} {a:Act} {next:Act→World→Prop} {Q:Exit→Act→World→Prop} {k:AV→List AObj→Prop}
    (hr:Rel cx G s.σ w) (hf:FRel G N s.f a) (hd:∀ t,o.dst=some t→t<N) (h:astep P E (dsOf ops) o s k) (hk:∀ x σ',k x σ'→K ⟨putF s.f o.dst x,σ'⟩) (hn:∀ a w,Post cx N K a w→next a w) (hP:∀ a w c,PanOk cx c a w→Q (.panic c) a w):
    if Region.wanted o (yielded ops a.tmps) then o.wp P a w next Q else next (a.put o.dst undef) w:=by
  unfold astep at h
  cases hg:o.guard with
  |none=>
   rw [hg] at h
   simp only at h
   rw [if_pos (by simp [Region.wanted,hg])]
   exact wp_of_yield hf hd ((avop_sound hE hpx hr (aev_sound hf.rel) h).mono hk) hn hP
  |some jw=>
   obtain ⟨j,want⟩:=jw
   rw [hg] at h
   simp only at h
   split at h
   ·split at h
    ·rename_i t ht
     have wanted:Region.wanted o (yielded ops a.tmps)=t:=by
       have:=gVal_sound hf ht
       simp only [Region.wanted,hg]
       exact this
     rw [wanted]
     split
     ·rename_i hw
      exact wp_of_yield hf hd ((avop_sound hE hpx hr (gev_sound hf rfl) (h.1 hw)).mono hk) hn hP
     ·rename_i hw
      refine hn _ _ ⟨G,⟨putF s.f o.dst (.lit undef),s.σ⟩,hr,?_,hk _ _ (h.2 (by simpa using hw))⟩
      exact hf.put hd (R.lit _)
    ·exact h.elim
   ·rcases h with ⟨ht,h⟩|h
    ·have wanted:Region.wanted o (yielded ops a.tmps)=false:=by
       have:=gVal_sound hf ht
       simp only [Region.wanted,hg]
       exact this
     rw [wanted,if_neg (by decide)]
     exact hn _ _ ⟨G,⟨putF s.f o.dst (.lit undef),s.σ⟩,hr,hf.put hd (R.lit _),hk _ _ h⟩
    ·split at h
     ·rename_i p x hdv
      exact dval_sound hE hr hf hd hdv h.1 (hk _ _ h.2) hn hP
     ·exact h.elim
theorem astep_sound (hE:EnvOk P E) (hpx:cx.px=E.px) {ops:Array Oper} {o:Oper} {s:AS} {K:AS→Prop} {G:Gh} {w:World} {N:Nat} {a:Act} {next:Act→World→Prop} {Q:Exit→Act→World→Prop}
    (hr:Rel cx G s.σ w) (hf:FRel G N s.f a) (hd:∀ t,o.dst=some t→t<N) (h:astep P E (dsOf ops) o s fun x σ'=>K ⟨putF s.f o.dst x,σ'⟩) (hn:∀ a w,Post cx N K a w→next a w) (hP:∀ a w c,PanOk cx c a w→Q (.panic c) a w):
    if Region.wanted o (yielded ops a.tmps) then o.wp P a w next Q else next (a.put o.dst undef) w:=astep_sound' hE hpx hr hf hd h (fun _ _ h=>h) hn hP
theorem aops_sound (hE:EnvOk P E) (hpx:cx.px=E.px) {ops:Array Oper} {N:Nat} {K:AS→Prop} {Q:Exit→Act→World→Prop} (hQ:∀ a w,Post cx N K a w→Q .normal a w) (hP:∀ a w c,PanOk cx c a w→Q (.panic c) a w):
    ∀ (l:List Oper),(∀ o∈l,∀ t,o.dst=some t→t<N)→∀ (s:AS) (a:Act) (w:World) (G:Gh),Rel cx G s.σ w→FRel G N s.f a→aops P E (dsOf ops) l s K→wpList P ops Q l a w
  |[],_,s,a,w,G,hr,hf,h=>hQ a w ⟨G,s,hr,hf,h⟩
  |o::l,hd,s,a,w,G,hr,hf,h=>by
   have:=astep_sound (K:=fun s'=>aops P E (dsOf ops) l s' K) (next:=wpList P ops Q l) (Q:=Q) hE hpx hr hf (hd o (by simp)) h (fun a' w' ⟨G',s',h1,h2,h3⟩=>aops_sound hE hpx hQ hP l (fun o ho=>hd o (by simp [ho])) s' a' w' G' h1 h2 h3) hP
   unfold wpList
   split
   ·rename_i hw;rw [if_pos hw] at this;exact .inl this
   ·rename_i hw;rw [if_neg hw] at this;exact this
theorem pairs_congr {ev ev':Operand→AV} (ps:List (Nat×Operand)) (h:∀ x∈ps.map (·.2),ev x=ev' x):(ps.map fun p=>(p.1,ev p.2))=(ps.map fun p=>(p.1,ev' p.2)):=
  List.map_congr_left fun p hp=>by rw [h p.2 (List.mem_map.2 ⟨p,hp,rfl⟩)]
theorem pval_congr {ev ev':Operand→AV} {σ:List AObj} (o:Oper) (h:∀ x∈o.op.operands,ev x=ev' x):pval P E ev σ o=pval P E ev' σ o:=by
  obtain ⟨dst,op,type,pos,after,guard⟩:=o
  cases op<;>simp only [Op.operands] at h<;>simp only [pval]
  case build t ps=>rw [pairs_congr ps.toList fun x hx=>h x (by simpa using hx)]
  case buildSlice t n ps=>rw [pairs_congr ps.toList fun x hx=>h x (by simpa using hx)]
  case makeFunc fn first captured=>
    rw [List.map_congr_left (l:=first.toList) fun x hx=>h x (by simp;exact .inl (by simpa using hx)),List.map_congr_left (l:=captured.toList) fun x hx=>h x (by simp;exact .inr (by simpa using hx))]
  case call c=>
    have hargs:c.args.toList.map ev=c.args.toList.map ev':=List.map_congr_left fun x hx=>h x (by simp [Call.operands];exact .inr (by simpa using hx))
    rw [hargs]
    cases hc:c.callee with
    |value f=>have hf:ev f=ev' f:=h f (by simp [Call.operands,hc]);simp only [hf]
    |invoke r m=>rfl
    |builtin b=>
     simp only
     have:∀ x∈c.args.toList,ev x=ev' x:=fun x hx=>h x (by simp [Call.operands];exact .inr (by simpa using hx))
     generalize c.args.toList=l at this
     cases l with
     |nil=>rfl
     |cons a l=>cases l with
      |nil=>rfl
      |cons b l=>cases l with
       |nil=>simp only [this a (by simp),this b (by simp)]
       |cons _ _=>rfl
  case slice t x lo hi mx=>cases lo<;>cases hi<;>cases mx<;>simp_all
  all_goals (first|rfl|(simp_all;done))
theorem aev_put {f:Nat→AV} {dst:Option Tmp} {v:AV} {x:Operand} (h:∀ d,dst=some d→x≠ .tmp d):aev (putF f dst v) x=aev f x:=by
  cases dst with
  |none=>rfl
  |some d=>
   cases x with
   |tmp t=>
    have hne:t≠d:=fun e=>h d rfl (e ▸ rfl)
    simp [aev,putF,upd,hne]
   |_=>rfl
theorem dval_put {ops:Array Oper} (o:Oper) (f:Nat→AV) (σ:List AObj) (dst:Option Tmp) (v:AV) (h:∀ d,dst=some d→d ∉ o.looksAt ops):dval P E (dsOf ops) (putF f dst v) σ o=dval P E (dsOf ops) f σ o:=by
  have hops:∀ x∈o.op.operands,aev (putF f dst v) x=aev f x:=fun x hx=>aev_put fun d hd hxd=>h d hd (by
    subst hxd
    exact List.mem_append_left _ (List.mem_filterMap.2 ⟨.tmp d,by simpa using hx,rfl⟩))
  unfold dval
  cases hg:o.guard with
  |none=>exact pval_congr o hops
  |some jw=>
   obtain ⟨j,want⟩:=jw
   have hgv:gVal (dsOf ops) (putF f dst v) j want=gVal (dsOf ops) f j want:=by
     unfold gVal
     rw [dsOf_get]
     cases hj:ops[j]? with
     |none=>rfl
     |some oj=>
      simp only [Option.map_some]
      cases hd:oj.dst with
      |none=>rfl
      |some d=>
       have hne:∀ e,dst=some e→d≠e:=fun e he hde=>h e he (by
         subst hde
         unfold Oper.looksAt
         rw [hg]
         exact List.mem_append_right _ (by simp [hj,hd]))
       have:putF f dst v d=f d:=by
         cases dst with
         |none=>rfl
         |some e=>simp [putF,upd,hne e rfl]
       simp only [this]
   simp only [hgv]
   cases gVal (dsOf ops) f j want with
   |none=>rfl
   |some t=>
    simp only
    rw [pval_congr o (ev:=gev (putF f dst v) t) (ev':=gev f t) (fun x hx=>by unfold gev;rw [hops x hx])]
theorem putF_comm (f:Nat→AV) {x y:Option Tmp} (v u:AV) (h:∀ d,x=some d→y≠some d):putF (putF f x v) y u=putF (putF f y u) x v:=by
  cases x with
  |none=>rfl
  |some d=>
   cases y with
   |none=>rfl
   |some e=>
    have hne:d≠e:=fun he=>h d rfl (he ▸ rfl)
    funext i
    simp only [putF,upd]
    by_cases h1:i=e
    ·rw [if_pos h1,if_neg (fun h2=>hne (h2.symm.trans h1)),if_pos h1]
    ·rw [if_neg h1]
     by_cases h2:i=d
     ·rw [if_pos h2,if_pos h2]
     ·rw [if_neg h2,if_neg h2,if_neg h1]
def dOp (P:Program) (E:Env) (ops:Array Oper) (σ:List AObj) (i:Nat) (K:(Nat→AV)→Prop) (f:Nat→AV):Prop:=
  match ops[i]? with
  |none=>K f
  |some o=>∃ p x,dval P E (dsOf ops) f σ o=some (p,x)∧p∧K (putF f o.dst x)
def dAny (P:Program) (E:Env) (md:Region.Mode) (ops:Array Oper) (σ:List AObj) (Q:(Nat→AV)→Prop):Nat→Array Bool→(Nat→AV)→Prop
  |0,listed,f=>Region.ready md ops listed=[]∧Q f
  |fuel+1,listed,f=>(Region.ready md ops listed=[]→Q f)∧∀ i∈Region.ready md ops listed,dOp P E ops σ i (dAny P E md ops σ Q fuel (listed.setIfInBounds i true)) f
theorem dAny_first {md:Region.Mode} {ops:Array Oper} {σ:List AObj} {Q:(Nat→AV)→Prop} {i:Nat} {oi:Oper} {p:Prop} {x:AV} (hi:ops[i]? =some oi) (hp:p):
    ∀ (fuel:Nat) (listed:Array Bool) (f:Nat→AV),
      (∀ j oj,ops[j]? =some oj→j≠i→listed.getD j true=false→(∀ e∈oj.after,Region.binds md e=true→e.on≠i)→oi.apart ops oj=true)→
      i∈Region.ready md ops listed→dval P E (dsOf ops) f σ oi=some (p,x)→
      dAny P E md ops σ Q fuel (listed.setIfInBounds i true) (putF f oi.dst x)→dAny P E md ops σ Q (fuel+1) listed f:=by
  intro fuel
  induction fuel with
  |zero=>
   intro listed f _ hr hy H
   refine ⟨fun h=>(by rw [h] at hr;cases hr),fun j hj=>?_⟩
   by_cases hji:j=i
   ·subst hji;unfold dOp;simp only [hi];exact ⟨p,x,hy,hp,H⟩
   ·have:=ready_mono hj hji
    rw [H.1] at this
    cases this
  |succ fuel ih=>
   intro listed f hfree hr hy H
   refine ⟨fun h=>(by rw [h] at hr;cases hr),fun j hj=>?_⟩
   by_cases hji:j=i
   ·subst hji;unfold dOp;simp only [hi];exact ⟨p,x,hy,hp,H⟩
   ·have h1:=H.2 j (ready_mono hj hji)
    obtain ⟨hjun,oj,hoj,hall⟩:=mem_ready.1 hj
    have hnot:∀ e∈oj.after,Region.binds md e=true→e.on≠i:=fun e he hb heq=>by
      have h1:=hall e he hb
      have h0:=(mem_ready.1 hr).1
      rw [heq] at h1
      rcases Nat.lt_or_ge i listed.size with h'|h'
      ·simp [h'] at h0 h1;rw [h0] at h1;cases h1
      ·simp [Array.getElem?_eq_none h'] at h1
    obtain ⟨a1,a2,a3⟩:=Oper.apart_spec (hfree j oj hoj hji hjun hnot)
    unfold dOp at h1 ⊢
    simp only [hoj] at h1 ⊢
    obtain ⟨q,y,k1,k2,k3⟩:=h1
    rw [dval_put oj f σ oi.dst x a1] at k1
    refine ⟨q,y,k1,k2,?_⟩
    have hfree':∀ k ok,ops[k]? =some ok→k≠i→(listed.setIfInBounds j true).getD k true=false→
      (∀ e∈ok.after,Region.binds md e=true→e.on≠i)→oi.apart ops ok=true:=fun k ok hk hki hun hno=>by
      refine hfree k ok hk hki ?_ hno
      by_cases hjk:j=k
      ·subst hjk;exact hjun
      ·rw [getD_set_ne true hjk] at hun;exact hun
    refine ih (listed.setIfInBounds j true) _ hfree' (ready_mono hr (Ne.symm hji)) (by rw [dval_put oi f σ oj.dst y a3];exact hy) ?_
    rw [Array.setIfInBounds_comm _ _ hji,←putF_comm f x y a2]
    exact k3
theorem dAny_lex {md:Region.Mode} {ops:Array Oper} {σ:List AObj} {Q:AS→Prop}:∀ (l:List Oper) (k:Nat) (listed:Array Bool) (f:Nat→AV),(∀ j,l[j]? =ops[k+j]?)→
    Region.lexFrom md ops l.length k listed=true→dops P E (dsOf ops) l ⟨f,σ⟩ Q→dAny P E md ops σ (fun f=>Q ⟨f,σ⟩) l.length listed f
  |[],_,_,_,_,hB,h=>⟨by simpa [Region.lexFrom] using hB,h⟩
  |o::l,k,listed,f,hl,hB,h=>by
   have h0:ops[k]? =some o:=by simpa using (hl 0).symm
   simp only [List.length_cons,Region.lexFrom,Bool.and_eq_true] at hB
   obtain ⟨⟨hr,hf⟩,hB'⟩:=hB
   simp only [dops] at h
   split at h
   ·rename_i p x hv
    exact dAny_first h0 h.1 l.length listed f (Region.free_spec h0 hf) (by simpa using hr) hv
      (dAny_lex l (k+1) _ _ (fun j=>by have:=hl (j+1);simpa [Nat.add_assoc,Nat.add_comm 1 j] using this) hB' h.2)
   ·exact h.elim
theorem dAny_sound (hE:EnvOk P E) {md:Region.Mode} {ops:Array Oper} {σ:List AObj} {N:Nat} {K:AS→Prop} {Q:Exit→Act→World→Prop} (hd:∀ (i:Nat) (o:Oper),ops[i]? =some o→∀ t,o.dst=some t→t<N)
    (hQ:∀ a w,Post cx N K a w→Q .normal a w) (hP:∀ a w c,PanOk cx c a w→Q (.panic c) a w):∀ (fuel:Nat) (listed:Array Bool) (f:Nat→AV) (a:Act) (w:World) (G:Gh),Rel cx G σ w→FRel G N f a→
    dAny P E md ops σ (fun f=>K ⟨f,σ⟩) fuel listed f→wpAny P md ops Q fuel listed a w
  |0,listed,f,a,w,G,hr,hf,h=>⟨h.1,hQ a w ⟨G,⟨f,σ⟩,hr,hf,h.2⟩⟩
  |fuel+1,listed,f,a,w,G,hr,hf,h=>by
   refine ⟨fun h0=>hQ a w ⟨G,⟨f,σ⟩,hr,hf,h.1 h0⟩,fun i hi=>?_⟩
   have h1:=h.2 i hi
   unfold dOp at h1
   unfold wpOp
   split
   ·rename_i ho
    simp only [ho] at h1
    exact dAny_sound hE hd hQ hP fuel _ f a w G hr hf h1
   ·rename_i o ho
    simp only [ho] at h1
    obtain ⟨p,x,k1,k2,k3⟩:=h1
    have:=dval_sound (cx:=cx) (Q:=Q) (K:=fun s=>s.σ=σ∧dAny P E md ops σ (fun f=>K ⟨f,σ⟩) fuel (listed.setIfInBounds i true) s.f) (next:=wpAny P md ops Q fuel (listed.setIfInBounds i true)) hE hr hf (hd i o ho) k1 k2 ⟨rfl,k3⟩
      (fun a' w' ⟨G',s',q1,q2,q3,q4⟩=>dAny_sound hE hd hQ hP fuel _ s'.f a' w' G' (by rw [←q3];exact q1) q2 q4) hP
    split
    ·rename_i hw;rw [if_pos hw] at this;exact .inl this
    ·rename_i hw;rw [if_neg hw] at this;exact this
def Kp (D:Nat→Bool) (σ σ':List AObj):Prop:=∀ (o:Nat) (t:TypeId) (cs:List AV),D o=true→σ[o]? =some (.box t cs)→σ'[o]? =some (.box t cs)
theorem Kp.refl {D:Nat→Bool} (σ:List AObj):Kp D σ σ:=fun _ _ _ _ h=>h
theorem kp_nil {D:Nat→Bool} {σ:List AObj}:Kp D [] σ:=fun o t cs _ h=>by simp at h
theorem kp_cons {D:Nat→Bool} {x:AObj} {l l':List AObj} (h:Kp (fun i=>D (i+1)) l l'):Kp D (x::l) (x::l'):=fun o t cs d e=>by
  cases o with
  |zero=>exact e
  |succ o=>exact h o t cs d e
theorem kp_arr {D:Nat→Bool} {e sz:Nat} {xs:List AV} {ver:Nat} {fz:Bool} {y:AObj} {l l':List AObj} (h:Kp (fun i=>D (i+1)) l l'):Kp D (.arr e sz xs ver fz::l) (y::l'):=fun o t cs d e=>by
  cases o with
  |zero=>cases e
  |succ o=>exact h o t cs d e
theorem kp_app {D:Nat→Bool} {σ l l':List AObj} (h:Kp (fun i=>D (i+σ.length)) l l'):Kp D (σ++l) (σ++l'):=by
  induction σ generalizing D with
  |nil=>exact h
  |cons x σ ih=>exact kp_cons (ih h)
theorem kp_to {D:Nat→Bool} {σ l:List AObj}:Kp D σ (σ++l):=by
  have:=kp_app (D:=D) (σ:=σ) (kp_nil (σ:=l))
  rwa [List.append_nil] at this
def noArr:AV→Bool
  |.arr _ _=>false
  |.eref _ _ _ _ _=>false
  |.sub _ _ _ _ _=>false
  |.mp _=>false
  |_=>true
def noArr1:AV→Bool
  |.agg xs=>xs.all noArr
  |x=>noArr x
def boxIn (D:Nat→Bool):AV→Bool
  |.ref o _=>D o
  |x=>noArr x
def isIntV:AV→Bool
  |.lit (.int _ _)=>true
  |_=>false
def stabOp (D:Nat→Bool) (ev:Operand→AV):Op→Bool
  |.binOp _ _ _ y _=> !isNilS (ev y)
  |.move _|.assign _|.pick _ _ _|.build _ _|.unOp _ _ _|.makeFunc _ _ _|.field _ _ _|.index _ _ _|.extract _ _|.makeInterface _ _=>true
  |.slice _ x _ _ _=>noArr (ev x)
  |.load _ a=>boxIn D (ev a)
  |.convert _ _ x=>isIntV (ev x)
  |.fieldAddr _ x _=>noArr (ev x)
  |.indexAddr _ x _=>noArr (ev x)
  |.nilCheck x=>noArr (ev x)
  |.buildSlice _ _ ps=>ps.toList.all fun p=>noArr1 (ev p.2)&& !isU8 (ev p.2)
  |.call c=>match c.callee with
   |.builtin b=>(!isApp b&& !isCopy b)&&c.args.toList.all (fun x=>noArr (ev x))
   |.value f=>(match ev f with
    |.fn (.func _) xs ys=>(xs++c.args.toList.map ev++ys).all noArr1
    |_=>false)
   |_=>false
  |_=>false
def stabG (E:Env) (D:Nat→Bool) (ds:List (Option Tmp)) (f:Nat→AV) (o:Oper):Bool:=match o.guard with
  |none=>stabOp D (aev f) o.op
  |some (j,want)=> !gEff E o.dst&&match gVal ds f j want with
   |some true=>stabOp D (gev f true) o.op
   |some false=>true
   |none=>false
def sval (P:Program) (E:Env) (ds:List (Option Tmp)) (f:Nat→AV) (σ:List AObj) (o:Oper):VR:=match o.guard with
  |none=>pval P E (aev f) σ o
  |some (j,want)=>match gVal ds f j want with
   |some true=>match pval P E (gev f true) σ o with
    |some (p,x)=>need p (.gd true x)
    |none=>none
   |some false=>yes (.lit undef)
   |none=>none
theorem loadV_kp {jk:TypeId→AV} {D:Nat→Bool} {σ σ':List AObj} (hk:Kp D σ σ') {t:TypeId} {x y:AV} {p:Prop} (hn:boxIn D x=true) (h:loadV P jk σ t x=some (p,y)):loadV P jk σ' t x=some (p,y):=by
  cases x with
  |ref o off=>
   simp only [loadV] at h ⊢
   split at h
   ·rename_i t' cs ho
    rw [hk _ _ _ hn ho];exact h
   ·cases h
  |eref=>cases hn
  |_=>first|exact h|cases h
theorem shiftV_kp {σ σ':List AObj} {n:Nat} {x:AV} (hn:noArr x=true):shiftV σ' n x=shiftV σ n x:=by
  cases x<;>first|rfl|(simp [noArr] at hn)
theorem lenOf_kp {σ σ':List AObj} {x:AV} (hn:noArr x=true):lenOf σ' x=lenOf σ x:=by
  unfold lenOf
  split<;>first|rfl|(simp [noArr] at hn)
theorem mm_kp {σ σ':List AObj} {b:Builtin} (hb:b= .max∨b= .min) {ats:Array TypeId} {l:List AV}:builtinV P σ' b ats l=builtinV P σ b ats l:=by
  cases l with
  |nil=>rcases hb with rfl|rfl<;>rfl
  |cons a l=>cases a<;>first|(rcases hb with rfl|rfl<;>rfl)|(rename_i v;cases v<;>rcases hb with rfl|rfl<;>rfl)
theorem close0_kp {σ σ':List AObj} {b:Bool} {x:AV} (hn:noArr x=true):close0 b σ' x=close0 b σ x:=by
  cases x<;>first|rfl|(simp [noArr] at hn;done)|(rename_i f xs ys;cases xs<;>cases ys<;>rfl)
theorem closeL0_kp {σ σ':List AObj} {b:Bool}:∀ {xs:List AV},xs.all noArr=true→closeL0 b σ' xs=closeL0 b σ xs
  |[],_=>rfl
  |x::xs,h=>by
   rw [List.all_cons,Bool.and_eq_true] at h
   simp only [closeL0,close0_kp (σ:=σ) (σ':=σ') h.1,closeL0_kp (σ:=σ) (σ':=σ') h.2]
theorem close1_kp {σ σ':List AObj} {b:Bool} {x:AV} (hn:noArr1 x=true):close1 b σ' x=close1 b σ x:=by
  cases x
  case agg xs=>simp only [close1,closeL0_kp (σ:=σ) (σ':=σ') (show xs.all noArr=true from hn)]
  case fn f xs ys=>exact close0_kp rfl
  all_goals first|rfl|(exfalso;simp [noArr1,noArr] at hn;done)
theorem closeL1_kp {σ σ':List AObj} {b:Bool}:∀ {xs:List AV},xs.all noArr1=true→closeL1 b σ' xs=closeL1 b σ xs
  |[],_=>rfl
  |x::xs,h=>by
   rw [List.all_cons,Bool.and_eq_true] at h
   simp only [closeL1,close1_kp (σ:=σ) (σ':=σ') h.1,closeL1_kp (σ:=σ) (σ':=σ') h.2]
theorem close0_tf {σ:List AObj} {x:AV} (hn:noArr x=true):close0 true σ x=close0 false σ x:=by
  cases x<;>first|rfl|(simp [noArr] at hn;done)|(rename_i f xs ys;cases xs<;>cases ys<;>rfl)
theorem closeL0_tf {σ:List AObj}:∀ {xs:List AV},xs.all noArr=true→closeL0 true σ xs=closeL0 false σ xs
  |[],_=>rfl
  |x::xs,h=>by
   rw [List.all_cons,Bool.and_eq_true] at h
   simp only [closeL0,close0_tf (σ:=σ) h.1,closeL0_tf (σ:=σ) h.2]
theorem close1_tf {σ:List AObj} {x:AV} (hn:noArr1 x=true):close1 true σ x=close1 false σ x:=by
  cases x
  case agg xs=>simp only [close1,closeL0_tf (σ:=σ) (show xs.all noArr=true from hn)]
  case fn f xs ys=>exact close0_tf rfl
  all_goals first|rfl|(exfalso;simp [noArr1,noArr] at hn;done)
theorem closeL1_tf {σ:List AObj}:∀ {xs:List AV},xs.all noArr1=true→closeL1 true σ xs=closeL1 false σ xs
  |[],_=>rfl
  |x::xs,h=>by
   rw [List.all_cons,Bool.and_eq_true] at h
   simp only [closeL1,close1_tf (σ:=σ) h.1,closeL1_tf (σ:=σ) h.2]
theorem ids0_no {x:AV} (hn:noArr x=true):ids0 x=[]:=by
  cases x<;>first|rfl|(simp [noArr] at hn;done)
theorem ids1_no {x:AV} (hn:noArr1 x=true):ids1 x=[]:=by
  cases x
  case agg xs=>
    simp only [ids1]
    rw [List.flatMap_eq_nil_iff]
    intro y hy
    exact ids0_no (List.all_eq_true.1 (show xs.all noArr=true from hn) y hy)
  all_goals first|rfl|(exfalso;simp [noArr1,noArr] at hn;done)
theorem idsL_no {xs:List AV} (h:xs.all noArr1=true):xs.flatMap ids1=[]:=by
  rw [List.flatMap_eq_nil_iff]
  intro y hy
  exact ids1_no (List.all_eq_true.1 h y hy)
theorem buildL_kp {σ σ':List AObj} {sz:Nat}:∀ {ps:List (Nat×AV)} {xs:List AV},(∀ p∈ps,noArr1 p.2=true)→buildL σ' sz xs ps=buildL σ sz xs ps
  |[],_,_=>rfl
  |(i,x)::rest,xs,h=>by
   simp only [buildL,close1_kp (σ:=σ) (σ':=σ') (h (i,x) (by simp))]
   cases close1 false σ x with
   |none=>rfl
   |some y=>simp only [buildL_kp (σ:=σ) (σ':=σ') (sz:=sz) (ps:=rest) (xs:=xs.set i y) fun p hp=>h p (by simp [hp])]
theorem sliceV_kp {σ σ':List AObj} {t:TypeId} {x:AV} {lo hi mx:Option AV} (hn:noArr x=true):sliceV P σ' t x lo hi mx=sliceV P σ t x lo hi mx:=by
  unfold sliceV
  cases P.underlying t with
  |none=>cases x<;>rfl
  |some d=>cases d<;>cases x<;>first|rfl|(simp [noArr] at hn;done)|(rename_i v;cases v<;>first|rfl|(rename_i a n c;cases a<;>cases n<;>cases c<;>rfl))
theorem pval_kp {D:Nat→Bool} {ev:Operand→AV} {σ σ':List AObj} (hk:Kp D σ σ') {o:Oper} {p:Prop} {x:AV} (hs:stabOp D ev o.op=true) (h:pval P E ev σ o=some (p,x)):pval P E ev σ' o=some (p,x):=by
  obtain ⟨dst,op,type,pos,after,guard⟩:=o
  cases op<;>simp only [stabOp] at hs<;>simp only [pval] at h ⊢
  case load=>exact loadV_kp hk hs h
  case convert s d y=>
    generalize ev y=z at h hs ⊢
    cases z with
    |lit v=>cases v with
     |int k n=>
      have e:convV P σ' s d (.lit (.int k n))=convV P σ s d (.lit (.int k n)):=by
        unfold convV
        cases P.underlying s with
        |none=>rfl
        |some a=>cases P.underlying d with
         |none=>cases a<;>rfl
         |some b=>cases b<;>cases a<;>first|rfl|(rename_i e;simp only;cases P.underlying e with|none=>rfl|some t=>cases t<;>first|rfl|(rename_i kk;cases kk<;>rfl))
      rw [e];exact h
     |_=>simp [isIntV] at hs
    |_=>simp [isIntV] at hs
  case fieldAddr=>simp only [fieldAddrV,shiftV_kp (σ':=σ') (σ:=σ) hs] at h ⊢;exact h
  case slice t y lo hi mx=>rw [sliceV_kp (σ:=σ) (σ':=σ') hs];exact h
  case indexAddr t y i=>
    unfold indexAddrV at h ⊢
    generalize ev y=z at h hs ⊢
    cases z<;>first|exact h|(simp [noArr] at hs;done)
  case nilCheck y=>
    generalize ev y=z at h hs ⊢
    cases z<;>first|exact h|(exfalso;simp [noArr] at hs;done)|(rename_i f _ _;cases f<;>exact h)
  case buildSlice t n ps=>
    unfold buildSliceV at h ⊢
    have e:∀ sz xs,buildL σ' sz xs (ps.toList.map fun p=>(p.1,ev p.2))=buildL σ sz xs (ps.toList.map fun p=>(p.1,ev p.2)):=fun sz xs=>buildL_kp fun p hp=>by
      obtain ⟨q,hq,rfl⟩:=List.mem_map.1 hp
      exact (Bool.and_eq_true_iff.1 (List.all_eq_true.1 hs q hq)).1
    simp only [e]
    exact h
  case call c=>
    split at hs
    ·rename_i b hc
     simp only [Bool.and_eq_true,Bool.not_eq_true'] at hs
     simp only [hc,hs.1.1,Bool.false_eq_true,if_false] at h ⊢
     generalize hl:c.args.toList=l at h hs ⊢
     cases b<;>first|exact h|(rw [mm_kp (.inl rfl) (σ:=σ)];exact h)|(rw [mm_kp (.inr rfl) (σ:=σ)];exact h)|skip
     ·cases l with
      |nil=>exact h
      |cons a l=>cases l with
       |nil=>
        have hn:noArr (ev a)=true:=by simpa using hs.2
        simp only [builtinV,List.map_cons,List.map_nil,lenOf_kp (σ:=σ) (σ':=σ') hn] at h ⊢
        exact h
       |cons _ _=>exact h
    ·rename_i f hc
     split at hs
     ·rename_i g xs ys hf
      simp only [hc] at h ⊢
      unfold callV targetOf at h ⊢
      rw [hf] at h ⊢
      simp only at h ⊢
      rw [closeL1_kp (σ:=σ) (σ':=σ') hs,closeL1_kp (σ:=σ) (σ':=σ') hs]
      exact h
     ·cases hs
    ·cases hs
  all_goals first|exact h|cases hs
theorem avop_stab {D:Nat→Bool} {ev:Operand→AV} {σ:List AObj} {o:Oper} {p:Prop} {x:AV} {k:AV→List AObj→Prop} (hs:stabOp D ev o.op=true) (h:pval P E ev σ o=some (p,x)) (hp:p) (hk:k x σ):avop P E ev σ o k:=by
  by_cases hcv:∃ (c:Call) (f:Operand),o.op= .call c∧c.callee= .value f
  ·obtain ⟨c,f,hoc,hcf⟩:=hcv
   obtain ⟨dst,op,type,pos,after,guard⟩:=o
   simp only at hoc
   subst hoc
   simp only [stabOp,hcf] at hs
   split at hs
   ·rename_i g xs ys hf
    simp only [pval,hcf] at h
    unfold callV targetOf at h
    rw [hf] at h
    simp only at h
    unfold avop aeff
    simp only [hcf]
    unfold callE targetOf
    rw [hf]
    simp only
    cases hcl:closeL1 true σ (xs++c.args.toList.map ev++ys) with
    |none=>rw [hcl] at h;cases h
    |some as'=>
     rw [hcl] at h
     simp only at h ⊢
     cases hpc:E.pc g as' with
     |none=>rw [hpc] at h;cases h
     |some pr=>
      obtain ⟨p',r⟩:=pr
      rw [hpc] at h
      simp only at h ⊢
      have hpx:p'=p∧r=x:=by
        split at h
        ·cases h;exact ⟨rfl,rfl⟩
        ·cases h
      obtain ⟨rfl,rfl⟩:=hpx
      by_cases hsc:scal2 r=true
      ·rw [if_pos hsc];exact ⟨hp,hk⟩
      ·rw [if_neg hsc,idsL_no hs]
       have:closeL1 false (freezeL σ []) (xs++c.args.toList.map ev++ys)=some as':=by
         rw [←hcl,closeL1_tf hs];rfl
       rw [this]
       simp only [hpc]
       exact ⟨hp,hk⟩
   ·cases hs
  have he:aeff P E ev σ o k=none:=by
    obtain ⟨dst,op,type,pos,after,guard⟩:=o
    cases op<;>simp only [stabOp] at hs<;>simp only [aeff]
    case call c=>
      split at hs
      ·rename_i b hc
       simp only [Bool.and_eq_true,Bool.not_eq_true'] at hs
       simp only [hc,hs.1.1,hs.1.2,Bool.false_eq_true,if_false]
      ·rename_i f hc
       exact absurd ⟨c,f,rfl,hc⟩ hcv
      ·cases hs
    case convert s d y=>
      generalize ev y=z at hs
      cases z with
      |lit v=>cases v with
       |int kk n=>
        unfold bytesE
        cases P.underlying s with
        |none=>rfl
        |some a=>cases P.underlying d with
         |none=>cases a<;>rfl
         |some b=>cases a<;>cases b<;>rfl
       |_=>simp [isIntV] at hs
      |_=>simp [isIntV] at hs
    case binOp=>
      unfold snilE
      rw [if_neg (by simpa using hs)]
    case buildSlice t n ps=>
      unfold buildE
      split
      ·rfl
      ·rw [if_neg]
       rintro ⟨h1,h2⟩
       generalize ps.toList=l at hs h1 h2
       cases l with
       |nil=>simp at h1
       |cons a l=>
        rw [List.all_cons,Bool.and_eq_true,Bool.and_eq_true] at hs
        rw [List.map_cons,List.all_cons,Bool.and_eq_true] at h2
        have h3:=hs.1.2
        have h4:=h2.1
        simp only at h4
        rw [h4] at h3
        cases h3
    all_goals first|rfl|cases hs
  unfold avop
  rw [he,h]
  exact ⟨hp,hk⟩
theorem stab_congr {D:Nat→Bool} {ev ev':Operand→AV} (o:Oper) (h:∀ x∈o.op.operands,ev x=ev' x):stabOp D ev o.op=stabOp D ev' o.op:=by
  obtain ⟨dst,op,type,pos,after,guard⟩:=o
  cases op<;>simp only [Op.operands] at h<;>simp only [stabOp]
  case call c=>
    have:∀ x∈c.args.toList,ev x=ev' x:=fun x hx=>h x (by simp [Call.operands];exact .inr (by simpa using hx))
    cases hcc:c.callee with
    |builtin b=>
     simp only
     congr 1
     generalize c.args.toList=l at this
     induction l with
     |nil=>rfl
     |cons a l ih=>simp only [List.all_cons];rw [this a (by simp),ih fun x hx=>this x (by simp [hx])]
    |value f=>
     simp only
     have hf:ev f=ev' f:=h f (by simp [Call.operands, *])
     have hargs:c.args.toList.map ev=c.args.toList.map ev':=List.map_congr_left this
     rw [hf,hargs]
    |_=>rfl
  case buildSlice t n ps=>
    have h':∀ p∈ps.toList,ev p.2=ev' p.2:=fun p hp=>h p.2 (by simpa using ⟨p.1,by simpa using hp⟩)
    generalize ps.toList=l at h'
    induction l with
    |nil=>rfl
    |cons a l ih=>simp only [List.all_cons];rw [h' a (by simp),ih fun x hx=>h' x (by simp [hx])]
  all_goals (first|rfl|(simp_all;done))
theorem aeff_congr {ev ev':Operand→AV} {σ:List AObj} {k:AV→List AObj→Prop} (o:Oper) (h:∀ x∈o.op.operands,ev x=ev' x):aeff P E ev σ o k=aeff P E ev' σ o k:=by
  obtain ⟨dst,op,type,pos,after,guard⟩:=o
  cases op<;>simp only [Op.operands] at h<;>simp only [aeff]
  case buildSlice t n ps=>rw [pairs_congr ps.toList fun x hx=>h x (by simpa using hx)]
  case makeMap t r=>cases r with
    |none=>rfl
    |some r=>simp only [Option.map_some,makeMapE]
  case call c=>
    have hargs:c.args.toList.map ev=c.args.toList.map ev':=List.map_congr_left fun x hx=>h x (by simp [Call.operands];exact .inr (by simpa using hx))
    rw [hargs]
    cases hc:c.callee with
    |value f=>have hf:ev f=ev' f:=h f (by simp [Call.operands,hc]);simp only [hf]
    |invoke r m=>rfl
    |builtin b=>
     simp only
     have:∀ x∈c.args.toList,ev x=ev' x:=fun x hx=>h x (by simp [Call.operands];exact .inr (by simpa using hx))
     generalize c.args.toList=l at this
     cases l with
     |nil=>rfl
     |cons a l=>cases l with
      |nil=>rfl
      |cons b l=>cases l with
       |nil=>simp only [this a (by simp),this b (by simp)]
       |cons _ _=>rfl
  all_goals (first|rfl|(simp_all;done))
theorem avop_congr {ev ev':Operand→AV} {σ:List AObj} {k:AV→List AObj→Prop} (o:Oper) (h:∀ x∈o.op.operands,ev x=ev' x):avop P E ev σ o k=avop P E ev' σ o k:=by
  unfold avop
  rw [aeff_congr o h,pval_congr o h]
theorem ops_put {ops:Array Oper} {o:Oper} {f:Nat→AV} {dst:Option Tmp} {v:AV} (h:∀ d,dst=some d→d ∉ o.looksAt ops):∀ x∈o.op.operands,aev (putF f dst v) x=aev f x:=fun x hx=>aev_put fun d hd hxd=>h d hd (by
    subst hxd
    exact List.mem_append_left _ (List.mem_filterMap.2 ⟨.tmp d,by simpa using hx,rfl⟩))
theorem gVal_put {ops:Array Oper} {o:Oper} {f:Nat→AV} {dst:Option Tmp} {v:AV} {j:Nat} {want:Bool} (h:∀ d,dst=some d→d ∉ o.looksAt ops) (hg:o.guard=some (j,want)):gVal (dsOf ops) (putF f dst v) j want=gVal (dsOf ops) f j want:=by
  unfold gVal
  rw [dsOf_get]
  cases hj:ops[j]? with
  |none=>rfl
  |some oj=>
   simp only [Option.map_some]
   cases hd:oj.dst with
   |none=>rfl
   |some d=>
    have hne:∀ e,dst=some e→d≠e:=fun e he hde=>h e he (by
      subst hde
      unfold Oper.looksAt
      rw [hg]
      exact List.mem_append_right _ (by simp [hj,hd]))
    have:putF f dst v d=f d:=by
      cases dst with
      |none=>rfl
      |some e=>simp [putF,upd,hne e rfl]
    simp only [this]
theorem astep_put {ops:Array Oper} (o:Oper) (f:Nat→AV) (σ:List AObj) (dst:Option Tmp) (v:AV) {k:AV→List AObj→Prop} (h:∀ d,dst=some d→d ∉ o.looksAt ops):
    astep P E (dsOf ops) o ⟨putF f dst v,σ⟩ k=astep P E (dsOf ops) o ⟨f,σ⟩ k:=by
  have hops:=ops_put (f:=f) (v:=v) h
  unfold astep
  cases hg:o.guard with
  |none=>exact avop_congr o hops
  |some jw=>
   obtain ⟨j,want⟩:=jw
   simp only [gVal_put h hg,dval_put o f σ dst v h]
   have:∀ t,avop P E (gev (putF f dst v) t) σ o k=avop P E (gev f t) σ o k:=fun t=>avop_congr o fun x hx=>by unfold gev;rw [hops x hx]
   rw [this]
theorem sval_kp {D:Nat→Bool} {ds:List (Option Tmp)} {f:Nat→AV} {σ σ':List AObj} (hk:Kp D σ σ') {o:Oper} {p:Prop} {x:AV} (hs:stabG E D ds f o=true) (h:sval P E ds f σ o=some (p,x)):sval P E ds f σ' o=some (p,x):=by
  unfold sval stabG at*
  cases hg:o.guard with
  |none=>rw [hg] at h hs;exact pval_kp hk hs h
  |some jw=>
   obtain ⟨j,want⟩:=jw
   rw [hg] at h hs
   simp only [Bool.and_eq_true] at h hs ⊢
   cases hv:gVal ds f j want with
   |none=>rw [hv] at h;cases h
   |some t=>cases t with
    |false=>rw [hv] at h;exact h
    |true=>
     rw [hv] at h hs
     simp only at h hs ⊢
     split at h
     ·rename_i p' x' hp
      rw [pval_kp hk hs.2 hp]
      exact h
     ·cases h
theorem astep_stab {D:Nat→Bool} {ds:List (Option Tmp)} {f:Nat→AV} {σ:List AObj} {o:Oper} {p:Prop} {x:AV} {k:AV→List AObj→Prop} (hs:stabG E D ds f o=true) (h:sval P E ds f σ o=some (p,x)) (hp:p) (hk:k x σ):astep P E ds o ⟨f,σ⟩ k:=by
  unfold sval stabG at*
  unfold astep
  cases hg:o.guard with
  |none=>rw [hg] at h hs;exact avop_stab hs h hp hk
  |some jw=>
   obtain ⟨j,want⟩:=jw
   rw [hg] at h hs
   simp only [Bool.and_eq_true,Bool.not_eq_true'] at h hs ⊢
   rw [if_neg (by rw [hs.1];decide)]
   cases hv:gVal ds f j want with
   |none=>rw [hv] at h;cases h
   |some t=>cases t with
    |false=>rw [hv] at h;cases h;exact .inl ⟨rfl,hk⟩
    |true=>
     rw [hv] at h
     simp only at h
     split at h
     ·rename_i p' x' hpv
      cases h
      refine .inr ?_
      unfold dval
      simp only [hg,hv,hpv,need]
      exact ⟨fun _=>hp,hk⟩
     ·cases h
theorem stabG_put {D:Nat→Bool} {ops:Array Oper} (o:Oper) (f:Nat→AV) (dst:Option Tmp) (v:AV) (h:∀ d,dst=some d→d ∉ o.looksAt ops):stabG E D (dsOf ops) (putF f dst v) o=stabG E D (dsOf ops) f o:=by
  have hops:=ops_put (f:=f) (v:=v) h
  unfold stabG
  cases hg:o.guard with
  |none=>exact stab_congr o hops
  |some jw=>
   obtain ⟨j,want⟩:=jw
   simp only [gVal_put h hg]
   rw [stab_congr o (ev:=gev (putF f dst v) true) (ev':=gev f true) fun x hx=>by unfold gev;rw [hops x hx]]
theorem sval_put {ops:Array Oper} (o:Oper) (f:Nat→AV) (σ:List AObj) (dst:Option Tmp) (v:AV) (h:∀ d,dst=some d→d ∉ o.looksAt ops):sval P E (dsOf ops) (putF f dst v) σ o=sval P E (dsOf ops) f σ o:=by
  have hops:=ops_put (f:=f) (v:=v) h
  unfold sval
  cases hg:o.guard with
  |none=>exact pval_congr o hops
  |some jw=>
   obtain ⟨j,want⟩:=jw
   simp only [gVal_put h hg]
   rw [pval_congr o (ev:=gev (putF f dst v) true) (ev':=gev f true) fun x hx=>by unfold gev;rw [hops x hx]]
def sOp (P:Program) (E:Env) (D:Nat→Bool) (ops:Array Oper) (i:Nat) (K:AS→Prop) (s:AS):Prop:=
  match ops[i]? with
  |none=>K s
  |some o=>∃ k,astep P E (dsOf ops) o s k∧∀ x σ',k x σ'→Kp D s.σ σ'∧K ⟨putF s.f o.dst x,σ'⟩
def sAny (P:Program) (E:Env) (D:Nat→Bool) (md:Region.Mode) (ops:Array Oper) (Q:AS→Prop):Nat→Array Bool→AS→Prop
  |0,listed,s=>Region.ready md ops listed=[]∧Q s
  |fuel+1,listed,s=>(Region.ready md ops listed=[]→Q s)∧∀ i∈Region.ready md ops listed,sOp P E D ops i (sAny P E D md ops Q fuel (listed.setIfInBounds i true)) s
theorem sAny_first {D:Nat→Bool} {md:Region.Mode} {ops:Array Oper} {Q:AS→Prop} {i:Nat} {oi:Oper} {p:Prop} {x:AV} (hi:ops[i]? =some oi) (hp:p):
    ∀ (fuel:Nat) (listed:Array Bool) (s:AS),
      (∀ j oj,ops[j]? =some oj→j≠i→listed.getD j true=false→(∀ e∈oj.after,Region.binds md e=true→e.on≠i)→oi.apart ops oj=true)→
      i∈Region.ready md ops listed→stabG E D (dsOf ops) s.f oi=true→sval P E (dsOf ops) s.f s.σ oi=some (p,x)→
      sAny P E D md ops Q fuel (listed.setIfInBounds i true) ⟨putF s.f oi.dst x,s.σ⟩→sAny P E D md ops Q (fuel+1) listed s:=by
  intro fuel
  have here:∀ (s:AS) {K:AS→Prop},stabG E D (dsOf ops) s.f oi=true→sval P E (dsOf ops) s.f s.σ oi=some (p,x)→K ⟨putF s.f oi.dst x,s.σ⟩→sOp P E D ops i K s:=by
    intro s K hs hy H
    unfold sOp
    rw [hi]
    refine ⟨fun y σ'=>y=x∧σ'=s.σ,?_,fun y σ' ⟨e1,e2⟩=>by rw [e1,e2];exact ⟨Kp.refl _,H⟩⟩
    exact astep_stab hs hy hp ⟨rfl,rfl⟩
  induction fuel with
  |zero=>
   intro listed s _ hr hs hy H
   refine ⟨fun h=>(by rw [h] at hr;cases hr),fun j hj=>?_⟩
   by_cases hji:j=i
   ·subst hji;exact here s hs hy H
   ·have:=ready_mono hj hji
    rw [H.1] at this
    cases this
  |succ fuel ih=>
   intro listed s hfree hr hs hy H
   refine ⟨fun h=>(by rw [h] at hr;cases hr),fun j hj=>?_⟩
   by_cases hji:j=i
   ·subst hji;exact here s hs hy H
   ·have h1:=H.2 j (ready_mono hj hji)
    obtain ⟨hjun,oj,hoj,hall⟩:=mem_ready.1 hj
    have hnot:∀ e∈oj.after,Region.binds md e=true→e.on≠i:=fun e he hb heq=>by
      have h1:=hall e he hb
      have h0:=(mem_ready.1 hr).1
      rw [heq] at h1
      rcases Nat.lt_or_ge i listed.size with h'|h'
      ·simp [h'] at h0 h1;rw [h0] at h1;cases h1
      ·simp [Array.getElem?_eq_none h'] at h1
    obtain ⟨a1,a2,a3⟩:=Oper.apart_spec (hfree j oj hoj hji hjun hnot)
    have hfree':∀ k ok,ops[k]? =some ok→k≠i→(listed.setIfInBounds j true).getD k true=false→
      (∀ e∈ok.after,Region.binds md e=true→e.on≠i)→oi.apart ops ok=true:=fun k ok hk hki hun hno=>by
      refine hfree k ok hk hki ?_ hno
      by_cases hjk:j=k
      ·subst hjk;exact hjun
      ·rw [getD_set_ne true hjk] at hun;exact hun
    unfold sOp at h1 ⊢
    simp only [hoj] at h1 ⊢
    obtain ⟨k,k1,k2⟩:=h1
    rw [astep_put oj s.f s.σ oi.dst x a1] at k1
    refine ⟨k,k1,fun y σ' hky=>?_⟩
    obtain ⟨q1,q2⟩:=k2 y σ' hky
    refine ⟨q1,ih (listed.setIfInBounds j true) ⟨putF s.f oj.dst y,σ'⟩ hfree' (ready_mono hr (Ne.symm hji)) (by rw [stabG_put oi s.f oj.dst y a3];exact hs) (by rw [sval_put oi s.f σ' oj.dst y a3];exact sval_kp q1 hs hy) ?_⟩
    rw [Array.setIfInBounds_comm _ _ hji,←putF_comm s.f x y a2]
    exact q2
def pureOp:Op→Bool
  |.move _|.assign _|.pick _ _ _|.build _ _|.load _ _|.nilCheck _|.binOp _ _ _ _ _|.unOp _ _ _|.makeFunc _ _ _|.slice _ _ _ _ _|.fieldAddr _ _ _|.field _ _ _|.indexAddr _ _ _|.index _ _ _|.extract _ _=>true
  |.call c=>match c.callee with
   |.builtin b=> !isApp b&& !isCopy b
   |_=>false
  |_=>false
def pureK (o:Oper):Bool:=o.guard.isNone&&pureOp o.op
def isBin:Op→Bool
  |.binOp _ _ _ _ _=>true
  |_=>false
def plainK (o:Oper):Bool:=pureK o&& !isBin o.op
def snilO (P:Program) (σ:List AObj) (op:BinOp) (t:TypeId) (x y:AV):Option ((Bool→Prop)→Prop):=
  if isNilS y=true then (match P.underlying t,slOf σ x with
   |some (.slice _),some (_,xs)=>match op with
    |.eql=>some fun q=>(xs=[]→q true)∧q false
    |.neq=>some fun q=>(xs=[]→q false)∧q true
    |_=>none
   |some (.slice _),none=>if isNilS x=true then (match op with
    |.eql=>some fun q=>q true
    |.neq=>some fun q=>q false
    |_=>none) else none
   |_,_=>none) else none
theorem snilE_eq {σ:List AObj} {op:BinOp} {t:TypeId} {x y:AV} {k:AV→List AObj→Prop}:snilE P σ op t x y k=(snilO P σ op t x y).map fun g=>g fun b=>k (.lit (.bool b)) σ:=by
  unfold snilE snilO
  by_cases hy:isNilS y=true
  ·rw [if_pos hy,if_pos hy]
   cases P.underlying t with
   |none=>rfl
   |some d=>
    cases d<;>cases slOf σ x<;>first|rfl|(cases op<;>rfl;done)|(by_cases hx:isNilS x=true<;>simp only [hx,if_true,if_false,Bool.false_eq_true]<;>cases op<;>rfl)
  ·rw [if_neg hy,if_neg hy];rfl
theorem avop_pure {ev:Operand→AV} {σ:List AObj} {o:Oper} {k:AV→List AObj→Prop} (ho:pureOp o.op=true) (h:avop P E ev σ o k):avop P E ev σ o (fun x σ'=>σ'=σ∧k x σ'):=by
  obtain ⟨dst,op,type,pos,after,guard⟩:=o
  simp only at ho
  have plain:(∀ k,aeff P E ev σ ⟨dst,op,type,pos,after,guard⟩ k=none)→avop P E ev σ ⟨dst,op,type,pos,after,guard⟩ (fun x σ'=>σ'=σ∧k x σ'):=fun hn=>by
    unfold avop at h ⊢
    rw [hn] at h ⊢
    simp only at h ⊢
    split at h
    ·first|exact ⟨h.1,rfl,h.2⟩|exact ⟨h.1,trivial,h.2⟩
    ·exact h
  cases op<;>simp only [pureOp] at ho
  case binOp op t x y ty=>
    unfold avop at h ⊢
    simp only [aeff,snilE_eq] at h ⊢
    generalize snilO P σ op t (ev x) (ev y)=og at h ⊢
    generalize pval P E ev σ _=v at h ⊢
    cases og with
    |some g=>simpa using h
    |none=>cases v with
     |none=>exact h
     |some px=>obtain ⟨p,z⟩:=px;simpa using h
  case call c=>
    split at ho
    ·rename_i b hc
     refine plain fun k=>?_
     have ho':isApp b=false∧isCopy b=false:=by simpa using ho
     simp only [aeff,hc,ho'.1,ho'.2,Bool.false_eq_true,if_false]
    ·cases ho
  all_goals first|(cases ho;done)|exact plain fun _=>rfl
theorem astep_pure {ds:List (Option Tmp)} {o:Oper} {s:AS} {k:AV→List AObj→Prop} (ho:pureK o=true) (h:astep P E ds o s k):astep P E ds o s (fun x σ'=>σ'=s.σ∧k x σ'):=by
  simp only [pureK,Bool.and_eq_true,Option.isNone_iff_eq_none] at ho
  unfold astep at h ⊢
  rw [ho.1] at h ⊢
  exact avop_pure ho.2 h
theorem astep_plain {ds:List (Option Tmp)} {o:Oper} {f:Nat→AV} {σ:List AObj} {p:Prop} {x:AV} {k:AV→List AObj→Prop} (ho:plainK o=true) (h:sval P E ds f σ o=some (p,x)) (hp:p) (hk:k x σ):astep P E ds o ⟨f,σ⟩ k:=by
  simp only [plainK,pureK,Bool.and_eq_true,Option.isNone_iff_eq_none] at ho
  obtain ⟨⟨hg,ho⟩,hb⟩:=ho
  unfold sval at h
  unfold astep
  rw [hg] at h ⊢
  simp only at h ⊢
  have hn:aeff P E (aev f) σ o k=none:=by
    obtain ⟨dst,op,type,pos,after,guard⟩:=o
    simp only at ho hb
    cases op<;>simp only [pureOp,isBin] at ho hb
    case call c=>
      split at ho
      ·rename_i b hc
       have ho':isApp b=false∧isCopy b=false:=by simpa using ho
       simp only [aeff,hc,ho'.1,ho'.2,Bool.false_eq_true,if_false]
      ·cases ho
    all_goals first|(cases ho;done)|(cases hb;done)|rfl
  unfold avop
  rw [hn]
  simp only [h]
  exact ⟨hp,hk⟩
def clos (md:Region.Mode) (ops:Array Oper) (i:Nat):List Bool:=
  ops.toList.foldl (fun acc o=>acc++[acc.length==i||o.after.toList.any fun e=>Region.binds md e&&acc.getD e.on false]) []
def preB (md:Region.Mode) (ops:Array Oper) (listed:Array Bool) (i:Nat) (B:List Bool):Bool:=
  (List.range ops.size).all fun j=>match ops[j]? with
    |none=>true
    |some o=>if B.getD j false=true then !(listed.getD j true)&&(j==i||o.after.toList.any fun e=>Region.binds md e&&B.getD e.on false&&decide (e.on<ops.size)) else listed.getD j true||pureK o
theorem preB_spec {md:Region.Mode} {ops:Array Oper} {listed:Array Bool} {i:Nat} {B:List Bool} (h:preB md ops listed i B=true) {j:Nat} {o:Oper} (ho:ops[j]? =some o):
    (B.getD j false=true→listed.getD j true=false∧(j=i∨∃ e∈o.after,Region.binds md e=true∧B.getD e.on false=true∧e.on<ops.size))∧(B.getD j false=false→listed.getD j true=true∨pureK o=true):=by
  have hj:j<ops.size:=(Array.getElem?_eq_some_iff.1 ho).1
  have:=List.all_eq_true.1 h j (List.mem_range.2 hj)
  simp only [ho] at this
  constructor
  ·intro hb
   rw [if_pos hb] at this
   simp only [Bool.and_eq_true,Bool.not_eq_true',Bool.or_eq_true,beq_iff_eq,List.any_eq_true,decide_eq_true_eq] at this
   refine ⟨this.1,?_⟩
   rcases this.2 with h|⟨e,he,⟨h1,h2⟩,h3⟩
   ·exact .inl h
   ·exact .inr ⟨e,by simpa using he,h1,h2,h3⟩
  ·intro hb
   rw [if_neg (by rw [hb];simp)] at this
   simpa using this
theorem sAny_pre {D:Nat→Bool} {md:Region.Mode} {ops:Array Oper} {Q:AS→Prop} {i:Nat} {oi:Oper} {p:Prop} {x:AV} {B:List Bool} (hi:ops[i]? =some oi) (hp:p) (hpl:plainK oi=true)
    (hC:∀ j oj,ops[j]? =some oj→B.getD j false=true→j≠i→∃ e∈oj.after,Region.binds md e=true∧B.getD e.on false=true∧e.on<ops.size) (hBi:B.getD i false=true):
    ∀ (fuel:Nat) (listed:Array Bool) (s:AS),
      (∀ j oj,ops[j]? =some oj→j≠i→listed.getD j true=false→(∀ e∈oj.after,Region.binds md e=true→e.on≠i)→oi.apart ops oj=true)→
      (∀ j oj,ops[j]? =some oj→(B.getD j false=true→listed.getD j true=false)∧(B.getD j false=false→listed.getD j true=true∨pureK oj=true))→
      i∈Region.ready md ops listed→sval P E (dsOf ops) s.f s.σ oi=some (p,x)→
      sAny P E D md ops Q fuel (listed.setIfInBounds i true) ⟨putF s.f oi.dst x,s.σ⟩→sAny P E D md ops Q (fuel+1) listed s:=by
  intro fuel
  have here:∀ (s:AS) {K:AS→Prop},sval P E (dsOf ops) s.f s.σ oi=some (p,x)→K ⟨putF s.f oi.dst x,s.σ⟩→sOp P E D ops i K s:=by
    intro s K hy H
    unfold sOp
    rw [hi]
    refine ⟨fun y σ'=>y=x∧σ'=s.σ,?_,fun y σ' ⟨e1,e2⟩=>by rw [e1,e2];exact ⟨Kp.refl _,H⟩⟩
    exact astep_plain hpl hy hp ⟨rfl,rfl⟩
  induction fuel with
  |zero=>
   intro listed s _ _ hr hy H
   refine ⟨fun h=>(by rw [h] at hr;cases hr),fun j hj=>?_⟩
   by_cases hji:j=i
   ·subst hji;exact here s hy H
   ·have:=ready_mono hj hji
    rw [H.1] at this
    cases this
  |succ fuel ih=>
   intro listed s hfree hinv hr hy H
   refine ⟨fun h=>(by rw [h] at hr;cases hr),fun j hj=>?_⟩
   by_cases hji:j=i
   ·subst hji;exact here s hy H
   ·have h1:=H.2 j (ready_mono hj hji)
    obtain ⟨hjun,oj,hoj,hall⟩:=mem_ready.1 hj
    have hnot:∀ e∈oj.after,Region.binds md e=true→e.on≠i:=fun e he hb heq=>by
      have h1:=hall e he hb
      have h0:=(mem_ready.1 hr).1
      rw [heq] at h1
      rcases Nat.lt_or_ge i listed.size with h'|h'
      ·simp [h'] at h0 h1;rw [h0] at h1;cases h1
      ·simp [Array.getElem?_eq_none h'] at h1
    have hBj:B.getD j false=false:=by
      cases hb:B.getD j false with
      |false=>rfl
      |true=>
       exfalso
       obtain ⟨e,he,hbd,hBe,hlt⟩:=hC j oj hoj hb hji
       have h1:=hall e he hbd
       obtain ⟨oe,hoe⟩:∃ oe,ops[e.on]? =some oe:=⟨_,Array.getElem?_eq_getElem hlt⟩
       have h0:=(hinv e.on oe hoe).1 hBe
       rcases Nat.lt_or_ge e.on listed.size with h'|h'
       ·simp [h'] at h0 h1;rw [h0] at h1;cases h1
       ·simp [Array.getElem?_eq_none h'] at h1
    have hpj:pureK oj=true:=by
      rcases (hinv j oj hoj).2 hBj with h|h
      ·rw [h] at hjun;cases hjun
      ·exact h
    obtain ⟨a1,a2,a3⟩:=Oper.apart_spec (hfree j oj hoj hji hjun hnot)
    have hfree':∀ k ok,ops[k]? =some ok→k≠i→(listed.setIfInBounds j true).getD k true=false→
      (∀ e∈ok.after,Region.binds md e=true→e.on≠i)→oi.apart ops ok=true:=fun k ok hk hki hun hno=>by
      refine hfree k ok hk hki ?_ hno
      by_cases hjk:j=k
      ·subst hjk;exact hjun
      ·rw [getD_set_ne true hjk] at hun;exact hun
    have hinv':∀ k ok,ops[k]? =some ok→(B.getD k false=true→(listed.setIfInBounds j true).getD k true=false)∧(B.getD k false=false→(listed.setIfInBounds j true).getD k true=true∨pureK ok=true):=fun k ok hk=>by
      by_cases hjk:j=k
      ·subst hjk
       rw [hoj] at hk
       cases hk
       exact ⟨fun hb=>absurd (hBj.symm.trans hb) (by decide),fun _=> .inr hpj⟩
      ·rw [getD_set_ne true hjk];exact hinv k ok hk
    unfold sOp at h1 ⊢
    simp only [hoj] at h1 ⊢
    obtain ⟨k,k1,k2⟩:=h1
    rw [astep_put oj s.f s.σ oi.dst x a1] at k1
    refine ⟨_,astep_pure hpj k1,fun y σ' ⟨hσ,hky⟩=>?_⟩
    obtain ⟨q1,q2⟩:=k2 y σ' hky
    have hσ:σ'=s.σ:=hσ
    subst hσ
    have hy':sval P E (dsOf ops) (putF s.f oj.dst y) s.σ oi=some (p,x):=by rw [sval_put oi s.f s.σ oj.dst y a3];exact hy
    refine ⟨q1,ih (listed.setIfInBounds j true) ⟨putF s.f oj.dst y,s.σ⟩ hfree' hinv' (ready_mono hr (Ne.symm hji)) hy' ?_⟩
    rw [Array.setIfInBounds_comm _ _ hji,←putF_comm s.f x y a2]
    exact q2
def lops (P:Program) (E:Env) (D:Nat→Bool) (ds:List (Option Tmp)):List (Oper×Nat)→AS→(AS→Prop)→Prop
  |[],s,K=>K s
  |(o,0)::l,s,K=>astep P E ds o s fun x σ'=>Kp D s.σ σ'∧lops P E D ds l ⟨putF s.f o.dst x,σ'⟩ K
  |(o,1)::l,s,K=>stabG E D ds s.f o=true∧match sval P E ds s.f s.σ o with
   |some (p,x)=>p∧lops P E D ds l ⟨putF s.f o.dst x,s.σ⟩ K
   |none=>False
  |(o,_+2)::l,s,K=>match sval P E ds s.f s.σ o with
   |some (p,x)=>p∧lops P E D ds l ⟨putF s.f o.dst x,s.σ⟩ K
   |none=>False
def preI (md:Region.Mode) (ops:Array Oper) (listed:Array Bool) (i:Nat):Bool:=match ops[i]? with
  |some o=>plainK o&&Region.free md ops listed i&&(clos md ops i).getD i false&&preB md ops listed i (clos md ops i)
  |none=>false
def ordB (md:Region.Mode) (ops:Array Oper):List (Nat×Nat)→Array Bool→Bool
  |[],listed=>(Region.ready md ops listed).isEmpty
  |(i,b)::l,listed=>(Region.ready md ops listed).contains i&&(match b with
   |0=>Region.ready md ops listed==[i]
   |1=>Region.free md ops listed i
   |_+2=>preI md ops listed i)&&ordB md ops l (listed.setIfInBounds i true)
def pickO (ops:Array Oper):List (Nat×Nat)→Option (List (Oper×Nat))
  |[]=>some []
  |(i,b)::l=>match ops[i]?,pickO ops l with
   |some o,some l=>some ((o,b)::l)
   |_,_=>none
theorem sAny_ord {D:Nat→Bool} {md:Region.Mode} {ops:Array Oper} {Q:AS→Prop}:∀ (ord:List (Nat×Nat)) (l:List (Oper×Nat)) (listed:Array Bool) (s:AS),
    ordB md ops ord listed=true→pickO ops ord=some l→lops P E D (dsOf ops) l s Q→sAny P E D md ops Q ord.length listed s
  |[],l,listed,s,hB,hp,h=>by
   cases hp
   exact ⟨by simpa [ordB] using hB,h⟩
  |(i,b)::ord,l,listed,s,hB,hp,h=>by
   simp only [pickO] at hp
   split at hp
   ·rename_i o l' ho hl'
    cases hp
    simp only [ordB,Bool.and_eq_true] at hB
    obtain ⟨⟨hr,hf⟩,hB'⟩:=hB
    have hr':i∈Region.ready md ops listed:=by simpa using hr
    match b,hf,h with
    |1,hf,h=>
     simp only at hf
     simp only [lops] at h
     obtain ⟨hs,h⟩:=h
     split at h
     ·rename_i p x hv
      exact sAny_first ho h.1 ord.length listed s (Region.free_spec ho hf) hr' hs hv (sAny_ord ord l' _ _ hB' hl' h.2)
     ·exact h.elim
    |n+2,hf,h=>
     simp only [preI,ho,Bool.and_eq_true] at hf
     obtain ⟨⟨⟨h1,h2⟩,h3⟩,h4⟩:=hf
     simp only [lops] at h
     split at h
     ·rename_i p x hv
      exact sAny_pre (B:=clos md ops i) ho h.1 h1 (fun j oj hoj hb hji=>by
          rcases ((preB_spec h4 hoj).1 hb).2 with e|e
          ·exact absurd e hji
          ·exact e) h3 ord.length listed s (Region.free_spec ho h2) (fun j oj hoj=>⟨fun hb=>((preB_spec h4 hoj).1 hb).1,(preB_spec h4 hoj).2⟩) hr' hv (sAny_ord ord l' _ _ hB' hl' h.2)
     ·exact h.elim
    |0,hf,h=>
     simp only [beq_iff_eq] at hf
     simp only [lops] at h
     refine ⟨fun e=>(by rw [e] at hr';cases hr'),fun j hj=>?_⟩
     rw [hf] at hj
     obtain rfl:j=i:=by simpa using hj
     unfold sOp
     rw [ho]
     exact ⟨_,h,fun x σ' hk=>⟨hk.1,sAny_ord ord l' _ _ hB' hl' hk.2⟩⟩
   ·cases hp
theorem sAny_sound (hE:EnvOk P E) (hpx:cx.px=E.px) {D:Nat→Bool} {md:Region.Mode} {ops:Array Oper} {N:Nat} {K:AS→Prop} {Q:Exit→Act→World→Prop} (hd:∀ (i:Nat) (o:Oper),ops[i]? =some o→∀ t,o.dst=some t→t<N)
    (hQ:∀ a w,Post cx N K a w→Q .normal a w) (hP:∀ a w c,PanOk cx c a w→Q (.panic c) a w):∀ (fuel:Nat) (listed:Array Bool) (s:AS) (a:Act) (w:World) (G:Gh),Rel cx G s.σ w→FRel G N s.f a→
    sAny P E D md ops K fuel listed s→wpAny P md ops Q fuel listed a w
  |0,listed,s,a,w,G,hr,hf,h=>⟨h.1,hQ a w ⟨G,s,hr,hf,h.2⟩⟩
  |fuel+1,listed,s,a,w,G,hr,hf,h=>by
   refine ⟨fun h0=>hQ a w ⟨G,s,hr,hf,h.1 h0⟩,fun i hi=>?_⟩
   have h1:=h.2 i hi
   unfold sOp at h1
   unfold wpOp
   split
   ·rename_i ho
    simp only [ho] at h1
    exact sAny_sound hE hpx hd hQ hP fuel _ s a w G hr hf h1
   ·rename_i o ho
    simp only [ho] at h1
    obtain ⟨k,k1,k2⟩:=h1
    have:=astep_sound' (cx:=cx) (Q:=Q) (K:=sAny P E D md ops K fuel (listed.setIfInBounds i true)) (next:=wpAny P md ops Q fuel (listed.setIfInBounds i true)) hE hpx hr hf (hd i o ho) k1 (fun x σ' hk=>(k2 x σ' hk).2)
      (fun a' w' ⟨G',s',q1,q2,q3⟩=>sAny_sound hE hpx hd hQ hP fuel _ s' a' w' G' q1 q2 q3) hP
    split
    ·rename_i hw;rw [if_pos hw] at this;exact .inl this
    ·rename_i hw;rw [if_neg hw] at this;exact this
def regE (P:Program) (E:Env) (keep:Nat→List Nat) (id:Nat) (ops:Array Oper) (draw:Bool) (s:AS) (K:AS→Prop):Prop:=
  if draw=true then (Region.lexB .any ops=true∧dops P E (dsOf ops) ops.toList s fun s'=>K ⟨keepF s'.f (keep id),s'.σ⟩)∨
   ∃ D,sAny P E D .any ops (fun s'=>K ⟨keepF s'.f (keep id),s'.σ⟩) ops.size (Array.replicate ops.size false) s
  else aops P E (dsOf ops) ops.toList s fun s'=>K ⟨keepF s'.f (keep id),s'.σ⟩
def Le (n0:Nat) (s s':AS):Prop:=∀ (cx:Cx) (G:Gh) (w:World) (N:Nat) (a:Act),cx.G0.n=n0→Rel cx G s.σ w→FRel G N s.f a→∃ G',Rel cx G' s'.σ w∧FRel G' N s'.f a
def thenQ (K:AS→Prop) (Q:Exit→AS→Prop):Exit→AS→Prop
  |.normal,s=>K s
  |e,s=>Q e s
def blockQ (id:Nat) (Q:Exit→AS→Prop):Exit→AS→Prop
  |.exit id',s=>if id'=id then Q .normal s else Q (.exit id') s
  |e,s=>Q e s
def scopeQ (Q:Exit→AS→Prop):Exit→AS→Prop:=fun e s=>match e with
  |.goto _=>False
  |e=>Q e s
def awp (P:Program) (E:Env) (keep:Nat→List Nat) (n0:Nat):Code→(Exit→AS→Prop)→AS→Prop
  |.skip,Q,s=>Q .normal s
  |.region id ops draw,Q,s=>regE P E keep id ops draw s fun s'=>∃ s'',Le n0 s' s''∧Q .normal s''
  |.seq a b,Q,s=>awp P E keep n0 a (thenQ (awp P E keep n0 b Q) Q) s
  |.cond c a b,Q,s=>match aev s.f c with
   |.lit (.bool t)=>(t=true→awp P E keep n0 a Q s)∧(t=false→awp P E keep n0 b Q s)
   |_=>False
  |.block id c,Q,s=>awp P E keep n0 c (blockQ id Q) s
  |.loop c,Q,s=>∃ (ι:Type) (S:ι→AS) (m:ι→Nat) (i0:ι),Le n0 s (S i0)∧∀ i,awp P E keep n0 c (thenQ (fun s'=>∃ j,m j<m i∧Le n0 s' (S j)) Q) (S i)
  |.exit id,Q,s=>Q (.exit id) s
  |.ret,Q,s=>Q .ret s
  |.scope c,Q,s=>awp P E keep n0 c (scopeQ Q) s
  |.label _,Q,s=>Q .normal s
  |_,_,_=>False
def dstOk (N:Nat):Code→Bool
  |.region _ ops _=>ops.toList.all fun (o:Oper)=>match o.dst with|some t=>decide (t<N)|none=>true
  |.seq a b=>dstOk N a&&dstOk N b
  |.cond _ a b=>dstOk N a&&dstOk N b
  |.block _ c=>dstOk N c
  |.loop c=>dstOk N c
  |.scope c=>dstOk N c
  |_=>true
def PostE (cx:Cx) (N:Nat) (Q:Exit→AS→Prop) (e:Exit) (a:Act) (w:World):Prop:=match e with
  |.panic c=>PanOk cx c a w
  |e=>∃ G s,Rel cx G s.σ w∧FRel G N s.f a∧Q e s
theorem wp_loop_ix {ι:Type} {c:Code} {Q:Exit→Act→World→Prop} (I:ι→Act→World→Prop) (m:ι→Nat)
    (round:∀ i a w,I i a w→c.wp P (Exit.then (fun a' w'=>∃ j,m j<m i∧I j a' w') Q) a w) (i:ι) (a:Act) (w:World) (h₀:I i a w):(Code.loop c).wp P Q a w:=by
  intro b k cs
  have key:∀ n i a w,m i=n→I i a w→
    ∃ e a' w',Q e a' w'∧Arrives P (lone (b.at a (.code c:: .inLoop c::k)) cs w) b k cs e a' w':=by
    intro n
    induction n using Nat.strongRecOn with
    |_ n ih=>
     intro i a w hn hI
     obtain ⟨e,a₁,w₁,hq,harr⟩:=round i a w hI b (.inLoop c::k) cs
     cases e with
     |normal=>
      obtain ⟨j,hlt,hI₁⟩:=hq
      obtain ⟨e₂,a₂,w₂,hq₂,harr₂⟩:=ih (m j) (hn ▸ hlt) j a₁ w₁ rfl hI₁
      exact ⟨e₂,a₂,w₂,hq₂,.of_steps (Steps.trans harr (.one step_inLoop)) harr₂⟩
     |exit id=>exact ⟨_,a₁,w₁,hq,.pass (x:= .inLoop c) rfl (fun _ _=> .inl (by simp)) harr⟩
     |goto l=>exact ⟨_,a₁,w₁,hq,.pass (x:= .inLoop c) rfl (fun _ _=> .inl (by simp)) harr⟩
     |ret=>exact ⟨_,a₁,w₁,hq,.pass (x:= .inLoop c) rfl (fun _ _=> .inl (by simp)) harr⟩
     |panic ch=>exact ⟨_,a₁,w₁,hq,.pass (x:= .inLoop c) rfl (fun _ _=> .inl (by simp)) harr⟩
     |outgrown=>exact ⟨_,a₁,w₁,hq,.pass (x:= .inLoop c) rfl (fun _ _=> .inl (by simp)) harr⟩
  obtain ⟨e,a',w',hq,harr⟩:=key _ i a w rfl h₀
  exact ⟨e,a',w',hq,.of_steps (.one step_loop) harr⟩
theorem awp_sound (hE:EnvOk P E) (hpx:cx.px=E.px) (hm:P.follows .mixedOrders=true) {keep:Nat→List Nat} {n0 N:Nat} (hn0:cx.G0.n=n0):
    ∀ (c:Code),dstOk N c=true→∀ (Q:Exit→AS→Prop) (s:AS) (a:Act) (w:World) (G:Gh),Rel cx G s.σ w→FRel G N s.f a→awp P E keep n0 c Q s→c.wp P (PostE cx N Q) a w:=by
  intro c
  induction c with
  |skip=>intro _ Q s a w G hr hf h;exact wp_skip ⟨G,s,hr,hf,h⟩
  |region id ops draw=>
   intro hd Q s a w G hr hf h
   have hd':∀ o∈ops.toList,∀ t,o.dst=some t→t<N:=by
     intro o ho t ht
     simp only [dstOk,List.all_eq_true] at hd
     have:=hd o ho
     rw [ht] at this
     simpa using this
   simp only [awp,regE] at h
   have hk:∀ a w,Post cx N (fun s'=>∃ s'',Le n0 ⟨keepF s'.f (keep id),s'.σ⟩ s''∧Q .normal s'') a w→PostE cx N Q .normal a w:=fun a w ⟨G',s',h1,h2,s'',hle,h3⟩=>by
     obtain ⟨G'',k1,k2⟩:=hle cx G' w N a hn0 h1 (h2.keep (keep id))
     exact ⟨G'',s'',k1,k2,h3⟩
   have hP:∀ a w c,PanOk cx c a w→PostE cx N Q (.panic c) a w:=fun _ _ _ h=>h
   cases draw with
   |false=>
    simp only [Bool.false_eq_true,if_false] at h
    exact wp_region_list (aops_sound hE hpx hk hP ops.toList hd' s a w G hr hf h)
   |true=>
    simp only [if_true] at h
    rcases h with ⟨hB,h⟩|⟨D,h⟩
    rotate_left
    ·refine wp_region_any hm (sAny_sound (D:=D) (K:=fun s'=>∃ s'',Le n0 ⟨keepF s'.f (keep id),s'.σ⟩ s''∧Q .normal s'') hE hpx (fun i o ho=>hd' o (List.mem_of_getElem? (by simpa using ho))) hk hP _ _ s a _ G (hr.more (More.drawn w (w.drawn+1))) hf h)
    simp only [Region.lexB,Bool.and_eq_true] at hB
    refine wp_region_any hm (dAny_sound (σ:=s.σ) (K:=fun s'=>∃ s'',Le n0 ⟨keepF s'.f (keep id),s'.σ⟩ s''∧Q .normal s'') hE (fun i o ho=>hd' o (List.mem_of_getElem? (by simpa using ho))) hk hP _ _ s.f a _ G (hr.more (More.drawn w (w.drawn+1))) hf ?_)
    have:=dAny_lex (E:=E) (P:=P) (md:= .any) ops.toList 0 (Array.replicate ops.size false) s.f (by simp) (by simpa using hB.2) h
    simpa using this
  |seq x y ihx ihy=>
   intro hd Q s a w G hr hf h
   simp only [dstOk,Bool.and_eq_true] at hd
   refine wp_seq (wp_mono (ihx hd.1 _ s a w G hr hf h) (fun e a w hq=>?_))
   cases e with
   |normal=>obtain ⟨G',s',h1,h2,h3⟩:=hq;exact ihy hd.2 Q s' a w G' h1 h2 h3
   |_=>exact hq
  |cond c x y ihx ihy=>
   intro hd Q s a w G hr hf h
   simp only [dstOk,Bool.and_eq_true] at hd
   simp only [awp] at h
   split at h
   ·rename_i t ht
    have hc:a.eval c= .bool t:=by have:=aev_sound hf.rel c;rw [ht] at this;exact this.lit_inv
    exact wp_cond_split hc (fun e=>ihx hd.1 Q s a w G hr hf (h.1 e)) (fun e=>ihy hd.2 Q s a w G hr hf (h.2 e))
   ·exact h.elim
  |block id c ih=>
   intro hd Q s a w G hr hf h
   refine wp_block (wp_mono (ih hd _ s a w G hr hf h) (fun e a w hq=>?_))
   cases e with
   |exit id'=>
    obtain ⟨G',s',h1,h2,h3⟩:=hq
    simp only [blockQ] at h3
    simp only [Exit.inBlock]
    split
    ·rename_i e;rw [if_pos e] at h3;exact ⟨G',s',h1,h2,h3⟩
    ·rename_i e;rw [if_neg e] at h3;exact ⟨G',s',h1,h2,h3⟩
   |_=>exact hq
  |loop c ih=>
   intro hd Q s a w G hr hf h
   obtain ⟨ι,S,m,i0,hle,hround⟩:=h
   obtain ⟨G',h1,h2⟩:=hle cx G w N a hn0 hr hf
   refine wp_loop_ix (fun i a w=>∃ G,Rel cx G (S i).σ w∧FRel G N (S i).f a) m (fun i a w ⟨G,k1,k2⟩=>?_) i0 a w ⟨G',h1,h2⟩
   refine wp_mono (ih hd _ (S i) a w G k1 k2 (hround i)) (fun e a w hq=>?_)
   cases e with
   |normal=>
    obtain ⟨G',s',q1,q2,q3⟩:=hq
    obtain ⟨j,hj,hle⟩:=q3
    obtain ⟨G'',r1,r2⟩:=hle cx G' w N a hn0 q1 q2
    exact ⟨j,hj,G'',r1,r2⟩
   |_=>exact hq
  |exit id=>intro _ Q s a w G hr hf h;exact wp_exit ⟨G,s,hr,hf,h⟩
  |ret=>intro _ Q s a w G hr hf h;exact wp_ret ⟨G,s,hr,hf,h⟩
  |rangeFunc=>intro _ Q s a w G hr hf h;exact h.elim
  |scope c ih=>
   intro hd Q s a w G hr hf h
   refine wp_scope_straight (wp_mono (ih hd _ s a w G hr hf h) (fun e a w hq=>?_))
   cases e with
   |goto l=>obtain ⟨G',s',h1,h2,h3⟩:=hq;exact h3.elim
   |_=>exact hq
  |label=>intro _ Q s a w G hr hf h;exact wp_label ⟨G,s,hr,hf,h⟩
  |goto=>intro _ Q s a w G hr hf h;exact h.elim
  |refuse=>intro _ Q s a w G hr hf h;exact h.elim
end Go.Fw

namespace Go.Fw
open Go
set_option linter.unusedSectionVars false
variable [TB]
variable {P:Program} {E:Env} {cx:Cx}
def initF:Nat→List AV→(Nat→AV)
  |_,[]=>topF
  |k,x::l=>upd (initF (k+1) l) k x
theorem initF_get (args:List AV):∀ (k i:Nat),initF k args i=if k≤i∧i<k+args.length then args.getD (i - k) .top else .top:=by
  induction args with
  |nil=>intro k i;simp [initF,topF]
  |cons x l ih=>
   intro k i
   simp only [initF,upd,List.length_cons]
   by_cases e:i=k
   ·subst e;rw [if_pos rfl,if_pos (by omega)];simp
   ·rw [if_neg e,ih]
    by_cases h:k+1≤i∧i<k+1+l.length
    ·rw [if_pos h,if_pos (by omega),show i - k=(i - (k+1))+1 by omega];simp
    ·rw [if_neg h,if_neg (by omega)]
def resOne (P:Program) (s:AS):ResultVar→Option AV
  |.tmp t=>some (s.f t)
  |.cell a t=>match s.f a with
   |.ref o off=>match s.σ[o]? with
    |some (.box _ cs)=>match partV P t cs off with
     |some (_,x)=>some x
     |none=>none
    |_=>none
   |_=>none
def resL (P:Program) (s:AS):List ResultVar→Option (List AV)
  |[]=>some []
  |r::rs=>match resOne P s r,resL P s rs with
   |some x,some xs=>some (x::xs)
   |_,_=>none
def resV (P:Program) (s:AS) (rs:List ResultVar):Option AV:=
  match resL P s rs with
  |some [x]=>some x
  |some xs=>some (.tup xs)
  |none=>none
def runOne (tmps:Array Value):ResultVar→Sem Value
  |.tmp t=>pure (tmps.getD t undef)
  |.cell a t=>do loadVar t (←asAddr (tmps.getD a undef))
theorem resOne_sound {G:Gh} {s:AS} {w:World} {N:Nat} {a:Act} {r:ResultVar} {x:AV} (hr:Rel cx G s.σ w) (hf:FRel G N s.f a) (h:resOne P s r=some x):
    ∃ v,(runOne a.tmps r).run P w= .ok v w∧R G x v:=by
  cases r with
  |tmp t=>cases h;exact ⟨_,rfl,hf.rel t⟩
  |cell b t=>
   simp only [resOne] at h
   split at h
   ·rename_i o off hb
    split at h
    ·rename_i t' cs ho
     split at h
     ·rename_i p y hp
      cases h
      have hx:=hf.rel b
      rw [hb] at hx
      have hpt:p:=by
        unfold partV at hp
        split at hp
        ·split at hp<;>cases hp;trivial
        ·split at hp<;>cases hp;trivial
        ·cases hp
      obtain ⟨v,h1,h2⟩:=loadV_sound (P:=P) (jk:=fun _=> .top) (t:=t) (x:= .ref o off) (p:=p) hr hx (by simp only [loadV,ho];exact hp) hpt
      obtain ⟨_,g,_,hv⟩:=hx.ref_inv
      refine ⟨v,?_,h2⟩
      rw [hv] at h1
      simp only [runOne,hv]
      simpa [Instr.loadAt,Instr.sureAddr,asAddr] using h1
     ·cases h
    ·cases h
   ·cases h
theorem resL_sound {G:Gh} {s:AS} {w:World} {N:Nat} {a:Act} (hr:Rel cx G s.σ w) (hf:FRel G N s.f a):∀ {rs:List ResultVar} {xs:List AV},resL P s rs=some xs→
    ∃ vs,(rs.mapM (runOne a.tmps)).run P w= .ok vs w∧RLG G xs vs
  |[],xs,h=>by cases h;exact ⟨[],by simp,rfl,by simp⟩
  |r::rs,xs,h=>by
   simp only [resL] at h
   split at h
   ·rename_i x xs' h1 h2
    cases h
    obtain ⟨v,k1,k2⟩:=resOne_sound hr hf h1
    obtain ⟨vs,q1,q2,q3⟩:=resL_sound hr hf h2
    refine ⟨v::vs,by simp [List.mapM_cons,k1,q1],by simp [q2],fun i hi=>?_⟩
    cases i with
    |zero=>simpa using k2
    |succ i=>simpa using q3 i (by simpa using hi)
   ·cases h
theorem results_eq (fn:Func) (tmps:Array Value):results fn tmps=(do
    let vs←fn.results.mapM (runOne tmps)
    pure (if h:vs.size=1 then vs[0] else .tuple vs)):=by
  unfold results
  congr 1
theorem resV_sound {G:Gh} {s:AS} {w:World} {N:Nat} {a:Act} {fn:Func} {x:AV} (hr:Rel cx G s.σ w) (hf:FRel G N s.f a) (h:resV P s fn.results.toList=some x):
    ∃ v,(results fn a.tmps).run P w= .ok v w∧R G x v:=by
  unfold resV at h
  have key:∀ {xs},resL P s fn.results.toList=some xs→∃ vs,(fn.results.mapM (runOne a.tmps)).run P w= .ok vs.toArray w∧RLG G xs vs:=by
    intro xs hx
    obtain ⟨vs,h1,h2⟩:=resL_sound hr hf hx
    refine ⟨vs,?_,h2⟩
    rw [Array.mapM_eq_mapM_toList]
    simp [h1]
  split at h
  ·rename_i y hy
   cases h
   obtain ⟨vs,h1,h2,h3⟩:=key hy
   obtain ⟨v,rfl⟩:∃ v,vs=[v]:=by
     cases vs with
     |nil=>simp at h2
     |cons v vs=>cases vs with
      |nil=>exact ⟨v,rfl⟩
      |cons _ _=>simp at h2
   refine ⟨v,?_,by simpa using h3 0 (by simp)⟩
   rw [results_eq]
   simp [h1]
  ·rename_i xs hne hx
   cases h
   obtain ⟨vs,h1,h2,h3⟩:=key hx
   refine ⟨.tuple vs.toArray,?_,.tup _ _ h2 h3⟩
   rw [results_eq]
   have: ¬ vs.length=1:=by
     intro e
     cases xs with
     |nil=>rw [e] at h2;simp at h2
     |cons x xs=>cases xs with
      |nil=>exact hne x rfl
      |cons _ _=>rw [e] at h2;simp at h2
   simp [h1,this]
  ·cases h
def endQ (P:Program) (rs:List ResultVar) (k:AV→List AObj→Prop):Exit→AS→Prop:=fun e s=>match e with
  |.normal|.ret=>∃ x,resV P s rs=some x∧k x s.σ
  |_=>False
theorem xec_of (hE:EnvOk P E) (hm:P.follows .mixedOrders=true) {f:FuncId} {fn:Func} {c:Code} (keep:Nat→List Nat) (hfn:P.funcs[f]? =some fn) (hb:fn.body=some c) (hd:dstOk fn.ntmps c=true)
    {args:List AV} {σ:List AObj} {k:AV→List AObj→Prop} (hargs:args.length≤fn.ntmps)
    (h:awp P E keep σ.length c (endQ P fn.results.toList k) ⟨initF 0 args,σ⟩):XEC P E.px f args σ k:=by
  intro cx G w vs hpx hr hl
  have hr':Rel {cx with G0:=G} G σ w:=⟨hr.n,hr.ok,hr.inj,hr.own,hr.cell,hr.os,hr.tape,hr.output,hr.size,hr.block,fun _ _ _ _=>rfl,Gh.le.refl G⟩
  have hf:FRel G fn.ntmps (initF 0 args) {tmps:=vs.toArray++Array.replicate (fn.ntmps - vs.toArray.size) undef,defers:=[]}:=by
    refine ⟨by simp;have:=hl.1;omega,rfl,fun i=>?_⟩
    rw [initF_get]
    by_cases hi:i<args.length
    ·rw [if_pos (by omega)]
     have hi':i<vs.length:=by rw [hl.1];exact hi
     have:(vs.toArray++Array.replicate (fn.ntmps - vs.toArray.size) undef).getD i undef=vs.getD i undef:=by
       rw [Array.getD_eq_getD_getElem?,Array.getElem?_append_left (by simpa using hi')]
       simp [List.getD]
     rw [this]
     simpa using hl.2 i hi
    ·rw [if_neg (by omega)];exact R.top _
  have hw:=awp_sound (cx:={cx with G0:=G}) (N:=fn.ntmps) hE hpx hm hr.n c hd _ _ _ w G hr' hf h
  refine calls_of_wp hfn hb (wp_mono hw (fun e a w' hq=>?_))
  have back:∀ {G':Gh} {σ':List AObj} {w':World},Rel {cx with G0:=G} G' σ' w'→Rel cx G' σ' w':=fun h1=>
    ⟨h1.n,h1.ok,h1.inj,h1.own,h1.cell,h1.os,h1.tape,h1.output,h1.size,h1.block,fun k hk hM j=>(h1.old k hk hM j).trans (hr.old k hk hM j),hr.le0.trans h1.le0⟩
  have fin:∀ s' G',Rel {cx with G0:=G} G' s'.σ w'→FRel G' fn.ntmps s'.f a→(∃ x,resV P s' fn.results.toList=some x∧k x s'.σ)→a.defers=[]∧∃ v,(results fn a.tmps).run P w'= .ok v w'∧
    Ends cx G k (.returned v) w':=by
    rintro s' G' h1 h2 ⟨x,hx,hk⟩
    obtain ⟨v,q1,q2⟩:=resV_sound h1 h2 hx
    exact ⟨h2.defers,v,q1,G',s'.σ,x,h1.le0,back h1,q2,hk⟩
  cases e with
  |normal=>obtain ⟨G',s',h1,h2,h3⟩:=hq;exact fin s' G' h1 h2 h3
  |ret=>obtain ⟨G',s',h1,h2,h3⟩:=hq;exact fin s' G' h1 h2 h3
  |panic c=>obtain ⟨hd,v,G',σ',x,h0,h1,h2,h3⟩:=hq;exact ⟨hd,v,G',σ',x,h0,h1.le0,back h1,h2,h3⟩
  |exit id=>obtain ⟨G',s',h1,h2,h3⟩:=hq;exact h3.elim
  |goto l=>obtain ⟨G',s',h1,h2,h3⟩:=hq;exact h3.elim
  |outgrown=>obtain ⟨G',s',h1,h2,h3⟩:=hq;exact h3.elim
theorem ec_of_xec {X:AV→List AObj→Prop} (hX:∀ x σ,¬ X x σ) {f:FuncId} {args:List AV} {σ:List AObj} {k:AV→List AObj→Prop} (h:XEC P X f args σ k):EC P f args σ k:=by
  intro cx G w vs hr hl
  have to:Rel {cx with px:=X} G σ w:=⟨hr.n,hr.ok,hr.inj,hr.own,hr.cell,hr.os,hr.tape,hr.output,hr.size,hr.block,hr.old,hr.le0⟩
  refine (h {cx with px:=X} G w vs rfl to hl).mono ?_
  intro e w' he
  cases e with
  |returned v=>
   obtain ⟨G',σ',x,h1,h2,h3,h4⟩:=he
   exact ⟨v,G',σ',x,rfl,h1,⟨h2.n,h2.ok,h2.inj,h2.own,h2.cell,h2.os,h2.tape,h2.output,h2.size,h2.block,h2.old,h2.le0⟩,h3,h4⟩
  |panicked c=>obtain ⟨v,G',σ',x,_,_,_,_,hx⟩:=he;exact (hX _ _ hx).elim
  |outgrown=>exact he.elim
theorem ec_of (hE:EnvOk P E) (hm:P.follows .mixedOrders=true) {f:FuncId} {fn:Func} {c:Code} (keep:Nat→List Nat) (hfn:P.funcs[f]? =some fn) (hb:fn.body=some c) (hd:dstOk fn.ntmps c=true)
    {args:List AV} {σ:List AObj} {k:AV→List AObj→Prop} (hargs:args.length≤fn.ntmps)
    (h:awp P E keep σ.length c (endQ P fn.results.toList k) ⟨initF 0 args,σ⟩) (hX:∀ x σ,¬ E.px x σ:=by intro _ _ h;exact h):EC P f args σ k:=
  ec_of_xec hX (xec_of hE hm keep hfn hb hd hargs h)
def LeA (x y:AV):Prop:=∀ (C:Nat→Nat→Option Value) (v:Value),RC C x v→RC C y v
theorem LeA.refl (x:AV):LeA x x:=fun _ _ h=>h
def ids2:AV→List Nat
  |.tup xs=>xs.flatMap ids1
  |x=>ids1 x
def fin (x:AV) (σ:List AObj) (r:AV):Prop:=∃ y,close2 false (freezeL σ (ids2 x)) x=some y∧LeA y r
theorem pc_of_ec {f:FuncId} {args:List AV} {r:AV} (h:EC P f args [] fun x σ=>fin x σ r):PC P f args r:=by
  intro C w vs hl hin
  have h0:Rel {w0:=w,M:=fun _=>False,G0:=⟨C,0,fun _=>undef,fun _=>0⟩,px:=fun _ _=>False,tab:=hin.2,nm:=fun _ h=>h} ⟨C,0,fun _=>undef,fun _=>0⟩ [] w:=by
    refine ⟨rfl,?_,?_,?_,hin.1,rfl,rfl,rfl,Nat.le_refl _,fun _ _ _=>rfl,fun _ _ _ _=>rfl,Gh.le.refl _⟩
    ·intro o ob ho;simp at ho
    ·intro o1 o2 ob1 ob2 g ho1;simp at ho1
    ·intro o ob g ho;simp at ho
  refine (h _ _ w vs h0 ⟨hl.1,fun i hi=> .clo _ _ (hl.2 i hi)⟩).mono ?_
  rintro e w' ⟨v,G',σ',x,rfl,hle,hr,hx,y,hy,hLe⟩
  obtain ⟨G1,hG1,hr1⟩:=hr.freezeL (ids2 x)
  have hrc:RC G1.C y v:=by simpa using close2_sound (live:=false) hr1 (hx.mono hG1) hy
  refine ⟨v,G1.C,rfl,(hle.trans hG1).C,hLe _ _ hrc,hr1.inW,⟨hr1.os,hr1.tape,hr1.output,hr1.size,fun k hk=>hr1.block k hk (fun h=>h)⟩,fun k hk j=>hr1.old k hk (fun h=>h) j⟩
theorem pc_of (hE:EnvOk P E) (hm:P.follows .mixedOrders=true) {f:FuncId} {fn:Func} {c:Code} (keep:Nat→List Nat) (hfn:P.funcs[f]? =some fn) (hb:fn.body=some c) (hd:dstOk fn.ntmps c=true)
    {args:List AV} {r:AV} (hargs:args.length≤fn.ntmps)
    (h:awp P E keep 0 c (endQ P fn.results.toList fun x σ=>fin x σ r) ⟨initF 0 args,[]⟩) (hX:∀ x σ,¬ E.px x σ:=by intro _ _ h;exact h):PC P f args r:=
  pc_of_ec (ec_of hE hm keep hfn hb hd hargs h hX)
theorem law_of_pc {f:FuncId} {args:List AV} (h:PC P f args (.lit (.bool true))) (w:World) (vs:List Value) (hl:RL (allC w) args vs) (hT:TbIn w):
    Calls P f vs.toArray w fun e w'=>e= .returned (.bool true)∧RowKit.Below w.heap.size w w':=by
  refine (h (allC w) w vs hl ⟨fun k o u h=>h,hT⟩).mono ?_
  rintro e w' ⟨v,C',rfl,_,hrc,_,hm,_⟩
  cases hrc
  exact ⟨rfl,hm.below⟩
end Go.Fw

namespace Go.Fw
open Go
set_option linter.unusedSectionVars false
variable [TB]
variable {P:Program} {E:Env} {keep:Nat→List Nat} {n0:Nat}
structure KT (p:AS→Prop) where
  k:AS→Prop
  h:∀ s,p s→k s
structure QT (p:Exit→AS→Prop) where
  k:Exit→AS→Prop
  h:∀ e s,p e s→k e s
structure PT (p:Prop) where
  k:Prop
  h:p→k
theorem t_name {c:Code} {Q:Exit→AS→Prop} {s:AS} (h:∀ K:QT Q,awp P E keep n0 c K.k s):awp P E keep n0 c Q s:=h ⟨Q,fun _ _ h=>h⟩
theorem t_seq {a b:Code} {Q:Exit→AS→Prop} {s:AS} (h:∀ K:KT (awp P E keep n0 b Q),awp P E keep n0 a (thenQ K.k Q) s):awp P E keep n0 (.seq a b) Q s:=h ⟨_,fun _ h=>h⟩
theorem t_k {p:AS→Prop} {K:KT p} {s:AS} (h:p s):K.k s:=K.h s h
theorem t_p {p:Prop} {K:PT p} (h:p):K.k:=K.h h
theorem t_skip {Q:Exit→AS→Prop} {s:AS} (h:Q .normal s):awp P E keep n0 .skip Q s:=h
theorem t_exit {id:Nat} {Q:Exit→AS→Prop} {s:AS} (h:Q (.exit id) s):awp P E keep n0 (.exit id) Q s:=h
theorem t_ret {Q:Exit→AS→Prop} {s:AS} (h:Q .ret s):awp P E keep n0 .ret Q s:=h
theorem t_scope {c:Code} {Q:Exit→AS→Prop} {s:AS} (h:awp P E keep n0 c (scopeQ Q) s):awp P E keep n0 (.scope c) Q s:=h
theorem t_label {l:Nat} {Q:Exit→AS→Prop} {s:AS} (h:Q .normal s):awp P E keep n0 (.label l) Q s:=h
theorem t_block {id:Nat} {c:Code} {Q:Exit→AS→Prop} {s:AS} (h:awp P E keep n0 c (blockQ id Q) s):awp P E keep n0 (.block id c) Q s:=h
def keepK (k:AS→Prop) (l:List Nat):AS→Prop:=fun s'=>k ⟨keepF s'.f l,s'.σ⟩
theorem keepK_at {k:AS→Prop} {l:List Nat} {f:Nat→AV} {σ:List AObj}:keepK k l ⟨f,σ⟩=k ⟨keepF f l,σ⟩:=rfl
theorem t_region {id:Nat} {ops:List Oper} {Q:Exit→AS→Prop} {s:AS} (h:∀ K:KT (Q .normal),aops P E (dsOf ops.toArray) ops s (keepK K.k (keep id))):awp P E keep n0 (.region id ops.toArray false) Q s:=by
  have:=h ⟨fun s'=>∃ s'',Le n0 s' s''∧Q .normal s'',fun s h=>⟨s,fun _ G _ _ _ _ h1 h2=>⟨G,h1,h2⟩,h⟩⟩
  unfold keepK at this
  simpa [awp,regE] using this
theorem t_draw {id:Nat} {ops:List Oper} {Q:Exit→AS→Prop} {s:AS} (hB:Region.lexB .any ops.toArray=true) (h:∀ K:KT (Q .normal),dops P E (dsOf ops.toArray) ops s (keepK K.k (keep id))):
    awp P E keep n0 (.region id ops.toArray true) Q s:=by
  have:=h ⟨fun s'=>∃ s'',Le n0 s' s''∧Q .normal s'',fun s h=>⟨s,fun _ G _ _ _ _ h1 h2=>⟨G,h1,h2⟩,h⟩⟩
  unfold keepK at this
  refine .inl ⟨hB,?_⟩
  simpa using this
def lopsO (P:Program) (E:Env) (D:Nat→Bool) (ds:List (Option Tmp)) (l:Option (List (Oper×Nat))) (s:AS) (K:AS→Prop):Prop:=match l with
  |some l=>lops P E D ds l s K
  |none=>False
theorem t_drawE {id:Nat} {ops:List Oper} {Q:Exit→AS→Prop} {s:AS} (D:Nat→Bool) (ord:List (Nat×Nat)) (hB:(ord.length==ops.toArray.size&&ordB .any ops.toArray ord (Array.replicate ops.toArray.size false))=true)
    (h:∀ K:KT (Q .normal),lopsO P E D (dsOf ops.toArray) (pickO ops.toArray ord) s (keepK K.k (keep id))):awp P E keep n0 (.region id ops.toArray true) Q s:=by
  have:=h ⟨fun s'=>∃ s'',Le n0 s' s''∧Q .normal s'',fun s h=>⟨s,fun _ G _ _ _ _ h1 h2=>⟨G,h1,h2⟩,h⟩⟩
  unfold keepK lopsO at this
  split at this
  ·rename_i l hl
   simp only [Bool.and_eq_true,beq_iff_eq] at hB
   have h2:=sAny_ord (D:=D) (E:=E) (P:=P) (md:= .any) ord l (Array.replicate ops.toArray.size false) s hB.2 hl this
   rw [hB.1] at h2
   exact .inr ⟨D,h2⟩
  ·exact this.elim
def condP (x:AV) (A B:Prop):Prop:=match x with
  |.lit (.bool t)=>(t=true→A)∧(t=false→B)
  |_=>False
theorem t_cond {c:Operand} {a b:Code} {Q:Exit→AS→Prop} {s:AS} (h:∀ (A:PT (awp P E keep n0 a Q s)) (B:PT (awp P E keep n0 b Q s)),condP (aev s.f c) A.k B.k):awp P E keep n0 (.cond c a b) Q s:=by
  have:=h ⟨_,fun h=>h⟩ ⟨_,fun h=>h⟩
  unfold condP at this
  unfold awp
  exact this
theorem t_loop {c:Code} {Q:Exit→AS→Prop} {s:AS} {ι:Type} (S:ι→AS) (m:ι→Nat) (i0:ι) (h0:Le n0 s (S i0))
    (h:∀ i,∀ K:KT (fun s'=>∃ j,m j<m i∧Le n0 s' (S j)),awp P E keep n0 c (thenQ K.k Q) (S i)):awp P E keep n0 (.loop c) Q s:=
  ⟨ι,S,m,i0,h0,fun i=>h i ⟨_,fun _ h=>h⟩⟩
theorem e_nil {ops:List (Option Tmp)} {s:AS} {K:AS→Prop}:aops P E ops [] s K=K s:=rfl
def kE (P:Program) (E:Env) (ops:List (Option Tmp)) (l:List Oper) (K:AS→Prop) (d:Option Tmp) (f:Nat→AV):AV→List AObj→Prop:=fun x σ'=>aops P E ops l ⟨putF f d x,σ'⟩ K
theorem e_step {ops:List (Option Tmp)} {d:Option Tmp} {op:Op} {ty:TypeId} {pos:String} {af:Array Edge} {l:List Oper} {f:Nat→AV} {σ:List AObj} {K:AS→Prop}:
    aops P E ops (⟨d,op,ty,pos,af,none⟩::l) ⟨f,σ⟩ K=avop P E (aev f) σ ⟨d,op,ty,pos,af,none⟩ (kE P E ops l K d f):=rfl
def vk (v:VR) (k:AV→List AObj→Prop) (σ:List AObj):Prop:=match v with
  |some (p,x)=>p∧k x σ
  |none=>False
theorem vk_yes {x:AV} {k:AV→List AObj→Prop} {σ:List AObj}:vk (yes x) k σ=k x σ:=by simp [vk,yes]
theorem vk_need {p:Prop} {x:AV} {k:AV→List AObj→Prop} {σ:List AObj}:vk (need p x) k σ=(p∧k x σ):=rfl
theorem vk_some {p:Prop} {x:AV} {k:AV→List AObj→Prop} {σ:List AObj}:vk (some (p,x)) k σ=(p∧k x σ):=rfl
theorem vk_none {k:AV→List AObj→Prop} {σ:List AObj}:vk none k σ=False:=rfl
def gk (v:VR) (b:Bool) (k:AV→List AObj→Prop) (σ:List AObj):Prop:=match v with
  |some (p,x)=>(b=true→p)∧k (.gd b x) σ
  |none=>False
theorem gk_yes {x:AV} {b:Bool} {k:AV→List AObj→Prop} {σ:List AObj}:gk (yes x) b k σ=k (.gd b x) σ:=by simp [gk,yes]
theorem gk_need {p:Prop} {x:AV} {b:Bool} {k:AV→List AObj→Prop} {σ:List AObj}:gk (need p x) b k σ=((b=true→p)∧k (.gd b x) σ):=rfl
theorem gk_some {p:Prop} {x:AV} {b:Bool} {k:AV→List AObj→Prop} {σ:List AObj}:gk (some (p,x)) b k σ=((b=true→p)∧k (.gd b x) σ):=rfl
theorem gk_none {b:Bool} {k:AV→List AObj→Prop} {σ:List AObj}:gk none b k σ=False:=rfl
section
variable {ev:Operand→AV} {σ:List AObj} {d:Option Tmp} {ty:TypeId} {pos:String} {af:Array Edge} {g:Option (Nat×Bool)} {k:AV→List AObj→Prop}
theorem avop_val {o:Oper} (h:aeff P E ev σ o k=none):avop P E ev σ o k=vk (pval P E ev σ o) k σ:=by
  unfold avop;rw [h];rfl
theorem e_move {x:Operand}:avop P E ev σ ⟨d,.move x,ty,pos,af,g⟩ k=k (ev x) σ:=by simp [avop,aeff,pval,yes]
theorem e_assign {x:Operand}:avop P E ev σ ⟨d,.assign x,ty,pos,af,g⟩ k=k (ev x) σ:=by simp [avop,aeff,pval,yes]
def pickK (c a b:AV) (k:AV→List AObj→Prop) (σ:List AObj):Prop:=match c with
  |.lit (.bool t)=>vk (pickV t a b) k σ
  |_=>False
theorem e_pick {c a b:Operand}:avop P E ev σ ⟨d,.pick c a b,ty,pos,af,g⟩ k=pickK (ev c) (ev a) (ev b) k σ:=by
  rw [avop_val rfl]
  simp only [pval,pickK]
  cases ev c with
  |lit v=>cases v<;>rfl
  |_=>rfl
theorem e_build {t:TypeId} {ps:List (Nat×Operand)}:avop P E ev σ ⟨d,.build t ps.toArray,ty,pos,af,g⟩ k=vk (buildV P E t (ps.map fun p=>(p.1,ev p.2))) k σ:=rfl
theorem e_buildSlice {t:TypeId} {n:Nat} {ps:List (Nat×Operand)}:avop P E ev σ ⟨d,.buildSlice t n ps.toArray,ty,pos,af,g⟩ k=
    (match buildE P E (E.wr (d.getD 0)) σ t n (ps.map fun p=>(p.1,ev p.2)) k with
     |some p=>p
     |none=>vk (buildSliceV P E σ t n (ps.map fun p=>(p.1,ev p.2))) k σ):=by
  unfold avop
  simp only [aeff,pval]
  cases buildE P E (E.wr (d.getD 0)) σ t n (ps.map fun p=>(p.1,ev p.2)) k<;>rfl
theorem e_load {t:TypeId} {a:Operand}:avop P E ev σ ⟨d,.load t a,ty,pos,af,g⟩ k=vk (loadV P E.jk σ t (ev a)) k σ:=rfl
theorem e_nilCheck {a:Operand}:avop P E ev σ ⟨d,.nilCheck a,ty,pos,af,g⟩ k=vk (nilChkV σ (ev a)) k σ:=rfl
def ifK (o:Option Bool) (p:Prop) (k:AV→List AObj→Prop) (σ:List AObj):Prop:=match o with
  |some b=>k (.lit (.bool b)) σ
  |none=>p
def ifV (o:Option Bool) (p:VR):VR:=match o with
  |some b=>yes (.lit (.bool b))
  |none=>p
def binK (P:Program) (wr:Bool) (σ:List AObj) (op:BinOp) (t:TypeId) (x y:AV) (oy:Operand) (k:AV→List AObj→Prop):Prop:=
  if isNilS y=true then (match snilE P σ op t x y k with
   |some p=>p
   |none=>vk (binV P wr op t x y) k σ) else if isNilC oy=true then ifK (ifaceV P op t x y oy) (vk (binV P wr op t x y) k σ) k σ else vk (binV P wr op t x y) k σ
theorem iface_nilS {op:BinOp} {t:TypeId} {x y:AV} {oy:Operand} (h:isNilS y=true):ifaceV P op t x y oy=none:=by
  unfold isNilS at h
  split at h
  ·have:ifaceB op x (.lit (.slice none 0 0))=none:=by
     unfold ifaceB
     split<;>first|rfl|(rename_i h;simp at h)
   unfold ifaceV
   rw [this];simp
  ·cases h
theorem e_binOp {op:BinOp} {t t':TypeId} {x y:Operand}:avop P E ev σ ⟨d,.binOp op t x y t',ty,pos,af,g⟩ k=binK P (E.wr (d.getD 0)) σ op t (ev x) (ev y) y k:=by
  unfold avop binK
  simp only [aeff,pval]
  by_cases h:isNilS (ev y)=true
  ·rw [if_pos h,iface_nilS h];cases snilE P σ op t (ev x) (ev y) k<;>rfl
  ·rw [if_neg h]
   have:snilE P σ op t (ev x) (ev y) k=none:=by unfold snilE;rw [if_neg h]
   rw [this]
   by_cases hc:isNilC y=true
   ·rw [if_pos hc]
    simp only
    cases ifaceV P op t (ev x) (ev y) y with
    |some b=>simp [ifK,yes]
    |none=>rfl
   ·rw [if_neg hc]
    have:ifaceV P op t (ev x) (ev y) y=none:=by unfold ifaceV;rw [if_neg hc]
    rw [this];rfl
theorem e_unOp {op:UnOp} {t:TypeId} {x:Operand}:avop P E ev σ ⟨d,.unOp op t x,ty,pos,af,g⟩ k=vk (unV (E.wr (d.getD 0)) op (ev x)) k σ:=rfl
def convK (P:Program) (σ:List AObj) (s t:TypeId) (x:AV) (k:AV→List AObj→Prop):Prop:=match bytesE P σ s t x k with
  |some p=>p
  |none=>vk (convV P σ s t x) k σ
theorem e_convert {s t:TypeId} {x:Operand}:avop P E ev σ ⟨d,.convert s t x,ty,pos,af,g⟩ k=convK P σ s t (ev x) k:=by
  unfold avop convK
  simp only [aeff,pval]
  cases bytesE P σ s t (ev x) k<;>rfl
theorem e_makeFunc {fn:Fn} {xs ys:List Operand}:avop P E ev σ ⟨d,.makeFunc fn xs.toArray ys.toArray,ty,pos,af,g⟩ k=k (.fn fn (xs.map ev) (ys.map ev)) σ:=by
  rw [avop_val rfl];simp [pval,vk_yes]
theorem e_slice {t:TypeId} {x:Operand} {lo hi mx:Option Operand}:avop P E ev σ ⟨d,.slice t x lo hi mx,ty,pos,af,g⟩ k=vk (sliceV P σ t (ev x) (lo.map ev) (hi.map ev) (mx.map ev)) k σ:=rfl
theorem e_fieldAddr {s:TypeId} {x:Operand} {f:Nat}:avop P E ev σ ⟨d,.fieldAddr s x f,ty,pos,af,g⟩ k=vk (fieldAddrV P σ s (ev x) f) k σ:=rfl
theorem e_field {s:TypeId} {x:Operand} {f:Nat}:avop P E ev σ ⟨d,.field s x f,ty,pos,af,g⟩ k=vk (fieldV P s (ev x) f) k σ:=rfl
theorem e_indexAddr {s:TypeId} {x i:Operand}:avop P E ev σ ⟨d,.indexAddr s x i,ty,pos,af,g⟩ k=vk (indexAddrV P E.jk σ s (ev x) (ev i)) k σ:=rfl
theorem e_index {s:TypeId} {x i:Operand}:avop P E ev σ ⟨d,.index s x i,ty,pos,af,g⟩ k=vk (indexV P s (ev x) (ev i)) k σ:=rfl
theorem e_extract {x:Operand} {i:Nat}:avop P E ev σ ⟨d,.extract x i,ty,pos,af,g⟩ k=vk (extractV (ev x) i) k σ:=rfl
def ok (p:Option Prop):Prop:=match p with
  |some p=>p
  |none=>False
theorem ok_some {p:Prop}:ok (some p)=p:=rfl
theorem ok_none:ok none=False:=rfl
theorem e_alloc {t:TypeId} (h:(E.zero t).solid=true) (hz:(zeroT P t).isSome=true):avop P E ev σ ⟨d,.alloc t,ty,pos,af,g⟩ k=k (.ref σ.length 0) (σ++[.box t (E.zero t).cells]):=by
  simp [avop,aeff,h,hz]
theorem e_box {t:TypeId} {x:Operand} (h:(ev x).solid=true):avop P E ev σ ⟨d,.box t x,ty,pos,af,g⟩ k=k (.ref σ.length 0) (σ++[.box t (ev x).cells]):=by
  simp [avop,aeff,h]
theorem e_store {t:TypeId} {a x:Operand}:avop P E ev σ ⟨d,.store t a x,ty,pos,af,g⟩ k=ok (storeE P σ t (ev a) (ev x) k):=by
  unfold avop
  simp only [aeff,pval]
  cases storeE P σ t (ev a) (ev x) k<;>rfl
theorem e_makeSlice {t:TypeId} {a x:Operand}:avop P E ev σ ⟨d,.makeSlice t a x,ty,pos,af,g⟩ k=ok (makeE P E σ t (ev a) (ev x) k):=by
  unfold avop
  simp only [aeff,pval]
  cases makeE P E σ t (ev a) (ev x) k<;>rfl
theorem e_append {s x:Operand} {ats:Array TypeId}:avop P E ev σ ⟨d,.call ⟨.builtin .append,#[s,x],ats⟩,ty,pos,af,g⟩ k=
    (match appE P σ ats (ev s) (ev x) k with
     |some p=>p
     |none=>vk (pappV P σ ats (ev s) (ev x)) k σ):=by
  unfold avop
  simp only [aeff,isApp,if_true,pval]
  cases appE P σ ats (ev s) (ev x) k<;>rfl
theorem e_builtin {b:Builtin} (hb:isApp b=false) (hc:isCopy b=false) {xs:List Operand} {ats:Array TypeId}:avop P E ev σ ⟨d,.call ⟨.builtin b,xs.toArray,ats⟩,ty,pos,af,g⟩ k=vk (builtinV P σ b ats (xs.map ev)) k σ:=by
  unfold avop
  simp only [aeff,pval,hb,hc,Bool.false_eq_true,if_false]
  rfl
theorem e_lookup {t:TypeId} {x i:Operand} {b:Bool}:avop P E ev σ ⟨d,.lookup t x i b,ty,pos,af,g⟩ k=vk (lookV P E σ t (ev x) (ev i) b) k σ:=rfl
theorem e_makeIfc {t:TypeId} {x:Operand}:avop P E ev σ ⟨d,.makeInterface t x,ty,pos,af,g⟩ k=vk (ifcV P t (ev x)) k σ:=rfl
theorem e_panic {x:Operand}:avop P E ev σ ⟨d,.panic x,ty,pos,af,g⟩ k=ok (panE E σ (ev x)):=by
  unfold avop
  simp only [aeff,pval]
  cases panE E σ (ev x)<;>rfl
def callK (E:Env) (σ:List AObj) (f:AV) (args:List AV) (k:AV→List AObj→Prop):Prop:=match callE E σ f args k with
  |some p=>p
  |none=>vk (callV E σ f args) k σ
theorem e_call {f:Operand} {xs:List Operand} {ats:Array TypeId}:avop P E ev σ ⟨d,.call ⟨.value f,xs.toArray,ats⟩,ty,pos,af,g⟩ k=callK E σ (ev f) (xs.map ev) k:=by
  unfold avop callK
  simp only [aeff,pval]
  cases callE E σ (ev f) (xs.map ev) k with
  |none=>rfl
  |some p=>rfl
theorem p_move {x:Operand}:pval P E ev σ ⟨d,.move x,ty,pos,af,g⟩=yes (ev x):=rfl
theorem p_assign {x:Operand}:pval P E ev σ ⟨d,.assign x,ty,pos,af,g⟩=yes (ev x):=rfl
theorem p_pick {c a b:Operand}:pval P E ev σ ⟨d,.pick c a b,ty,pos,af,g⟩=(match ev c with
    |.lit (.bool t)=>pickV t (ev a) (ev b)
    |_=>none):=rfl
theorem p_build {t:TypeId} {ps:List (Nat×Operand)}:pval P E ev σ ⟨d,.build t ps.toArray,ty,pos,af,g⟩=buildV P E t (ps.map fun p=>(p.1,ev p.2)):=rfl
theorem p_buildSlice {t:TypeId} {n:Nat} {ps:List (Nat×Operand)}:pval P E ev σ ⟨d,.buildSlice t n ps.toArray,ty,pos,af,g⟩=buildSliceV P E σ t n (ps.map fun p=>(p.1,ev p.2)):=rfl
theorem p_load {t:TypeId} {a:Operand}:pval P E ev σ ⟨d,.load t a,ty,pos,af,g⟩=loadV P E.jk σ t (ev a):=rfl
theorem p_nilCheck {a:Operand}:pval P E ev σ ⟨d,.nilCheck a,ty,pos,af,g⟩=nilChkV σ (ev a):=rfl
theorem p_binOp {op:BinOp} {t t':TypeId} {x y:Operand}:pval P E ev σ ⟨d,.binOp op t x y t',ty,pos,af,g⟩=(if isNilC y=true then ifV (ifaceV P op t (ev x) (ev y) y) (binV P (E.wr (d.getD 0)) op t (ev x) (ev y)) else binV P (E.wr (d.getD 0)) op t (ev x) (ev y)):=by
  split
  ·rfl
  ·rename_i hc
   have:ifaceV P op t (ev x) (ev y) y=none:=by unfold ifaceV;rw [if_neg hc]
   simp only [pval,this]
theorem p_unOp {op:UnOp} {t:TypeId} {x:Operand}:pval P E ev σ ⟨d,.unOp op t x,ty,pos,af,g⟩=unV (E.wr (d.getD 0)) op (ev x):=rfl
theorem p_convert {s t:TypeId} {x:Operand}:pval P E ev σ ⟨d,.convert s t x,ty,pos,af,g⟩=convV P σ s t (ev x):=rfl
theorem p_makeFunc {fn:Fn} {xs ys:List Operand}:pval P E ev σ ⟨d,.makeFunc fn xs.toArray ys.toArray,ty,pos,af,g⟩=yes (.fn fn (xs.map ev) (ys.map ev)):=rfl
theorem p_slice {t:TypeId} {x:Operand} {lo hi mx:Option Operand}:pval P E ev σ ⟨d,.slice t x lo hi mx,ty,pos,af,g⟩=sliceV P σ t (ev x) (lo.map ev) (hi.map ev) (mx.map ev):=rfl
theorem p_fieldAddr {s:TypeId} {x:Operand} {f:Nat}:pval P E ev σ ⟨d,.fieldAddr s x f,ty,pos,af,g⟩=fieldAddrV P σ s (ev x) f:=rfl
theorem p_field {s:TypeId} {x:Operand} {f:Nat}:pval P E ev σ ⟨d,.field s x f,ty,pos,af,g⟩=fieldV P s (ev x) f:=rfl
theorem p_indexAddr {s:TypeId} {x i:Operand}:pval P E ev σ ⟨d,.indexAddr s x i,ty,pos,af,g⟩=indexAddrV P E.jk σ s (ev x) (ev i):=rfl
theorem p_index {s:TypeId} {x i:Operand}:pval P E ev σ ⟨d,.index s x i,ty,pos,af,g⟩=indexV P s (ev x) (ev i):=rfl
theorem p_lookup {t:TypeId} {x i:Operand} {b:Bool}:pval P E ev σ ⟨d,.lookup t x i b,ty,pos,af,g⟩=lookV P E σ t (ev x) (ev i) b:=rfl
theorem p_makeIfc {t:TypeId} {x:Operand}:pval P E ev σ ⟨d,.makeInterface t x,ty,pos,af,g⟩=ifcV P t (ev x):=rfl
theorem p_extract {x:Operand} {i:Nat}:pval P E ev σ ⟨d,.extract x i,ty,pos,af,g⟩=extractV (ev x) i:=rfl
theorem p_append {s x:Operand} {ats:Array TypeId}:pval P E ev σ ⟨d,.call ⟨.builtin .append,#[s,x],ats⟩,ty,pos,af,g⟩=pappV P σ ats (ev s) (ev x):=rfl
theorem p_builtin {b:Builtin} (hb:isApp b=false) {xs:List Operand} {ats:Array TypeId}:pval P E ev σ ⟨d,.call ⟨.builtin b,xs.toArray,ats⟩,ty,pos,af,g⟩=builtinV P σ b ats (xs.map ev):=by
  simp [pval,hb]
theorem p_call {f:Operand} {xs:List Operand} {ats:Array TypeId}:pval P E ev σ ⟨d,.call ⟨.value f,xs.toArray,ats⟩,ty,pos,af,g⟩=callV E σ (ev f) (xs.map ev):=rfl
theorem p_alloc {t:TypeId}:pval P E ev σ ⟨d,.alloc t,ty,pos,af,g⟩=none:=rfl
theorem p_box {t:TypeId} {x:Operand}:pval P E ev σ ⟨d,.box t x,ty,pos,af,g⟩=none:=rfl
theorem p_store {t:TypeId} {a x:Operand}:pval P E ev σ ⟨d,.store t a x,ty,pos,af,g⟩=none:=rfl
end
def gstep (P:Program) (E:Env) (t:Option Bool) (f:Nat→AV) (σ:List AObj) (o:Oper) (k:AV→List AObj→Prop):Prop:=
  (t=some false∧k (.lit (.tuple #[])) σ)∨match t with
  |some t=>match pval P E (gev f t) σ o with
   |some (p,x)=>(t=true→p)∧k (.gd t x) σ
   |none=>if t=true then False else k (.lit (.tuple #[])) σ
  |none=>False
def geff (P:Program) (E:Env) (t:Option Bool) (f:Nat→AV) (σ:List AObj) (o:Oper) (k:AV→List AObj→Prop):Prop:=
  match t with
  |some t=>(t=true→avop P E (gev f true) σ o k)∧(t=false→k (.lit (.tuple #[])) σ)
  |none=>False
theorem t_gF {f:Nat→AV} {σ:List AObj} {o:Oper} {k:AV→List AObj→Prop} (h:k (.lit (.tuple #[])) σ):gstep P E (some false) f σ o k:= .inl ⟨rfl,h⟩
theorem t_gS {t:Bool} {f:Nat→AV} {σ:List AObj} {o:Oper} {k:AV→List AObj→Prop} (h:gk (pval P E (gev f t) σ o) t k σ):gstep P E (some t) f σ o k:=by
  refine .inr ?_
  unfold gk at h
  split at h
  ·rename_i p x hv;simp only [hv];exact h
  ·exact h.elim
theorem e_guard {ops:List (Option Tmp)} {d:Option Tmp} {op:Op} {ty:TypeId} {pos:String} {af:Array Edge} {j:Nat} {want:Bool} {l:List Oper} {f:Nat→AV} {σ:List AObj} {K:AS→Prop} (hg:gEff E d=false):
    aops P E ops (⟨d,op,ty,pos,af,some (j,want)⟩::l) ⟨f,σ⟩ K=gstep P E (gVal ops f j want) f σ ⟨d,op,ty,pos,af,none⟩ (kE P E ops l K d f):=by
  have hp:∀ ev,pval P E ev σ ⟨d,op,ty,pos,af,some (j,want)⟩=pval P E ev σ ⟨d,op,ty,pos,af,none⟩:=fun ev=>rfl
  simp only [aops,astep,hg,dval,gstep,hp,Bool.false_eq_true,if_false]
  cases gVal ops f j want with
  |none=>rfl
  |some t=>
   simp only
   cases pval P E (gev f t) σ ⟨d,op,ty,pos,af,none⟩ with
   |none=>cases t<;>simp [kE,yes,undef]
   |some px=>rfl
theorem e_geff {ops:List (Option Tmp)} {d:Option Tmp} {op:Op} {ty:TypeId} {pos:String} {af:Array Edge} {j:Nat} {want:Bool} {l:List Oper} {f:Nat→AV} {σ:List AObj} {K:AS→Prop} (hg:gEff E d=true):
    aops P E ops (⟨d,op,ty,pos,af,some (j,want)⟩::l) ⟨f,σ⟩ K=geff P E (gVal ops f j want) f σ ⟨d,op,ty,pos,af,none⟩ (kE P E ops l K d f):=by
  have ha:∀ ev k,avop P E ev σ ⟨d,op,ty,pos,af,some (j,want)⟩ k=avop P E ev σ ⟨d,op,ty,pos,af,none⟩ k:=fun ev k=>rfl
  simp only [aops,astep,hg,geff,ha,if_true]
  rfl
theorem e_g {ops:List (Option Tmp)} {d:Option Tmp} {op:Op} {ty:TypeId} {pos:String} {af:Array Edge} {j:Nat} {want:Bool} {l:List Oper} {f:Nat→AV} {σ:List AObj} {K:AS→Prop}:
    aops P E ops (⟨d,op,ty,pos,af,some (j,want)⟩::l) ⟨f,σ⟩ K=if gEff E d=true then geff P E (gVal ops f j want) f σ ⟨d,op,ty,pos,af,none⟩ (kE P E ops l K d f)
      else gstep P E (gVal ops f j want) f σ ⟨d,op,ty,pos,af,none⟩ (kE P E ops l K d f):=by
  split
  ·rename_i h;exact e_geff h
  ·rename_i h;exact e_guard (by simpa using h)
theorem gEff_some {d:Nat}:gEff E (some d)=E.eg d:=rfl
theorem gEff_none:gEff E none=true:=rfl
def kD (P:Program) (E:Env) (ops:List (Option Tmp)) (l:List Oper) (K:AS→Prop) (d:Option Tmp) (f:Nat→AV):AV→List AObj→Prop:=fun x σ'=>dops P E ops l ⟨putF f d x,σ'⟩ K
theorem e_dcons {ops:List (Option Tmp)} {o:Oper} {l:List Oper} {f:Nat→AV} {σ:List AObj} {K:AS→Prop}:dops P E ops (o::l) ⟨f,σ⟩ K=vk (dval P E ops f σ o) (kD P E ops l K o.dst f) σ:=rfl
def kL (P:Program) (E:Env) (D:Nat→Bool) (ds:List (Option Tmp)) (l:List (Oper×Nat)) (K:AS→Prop) (d:Option Tmp) (f:Nat→AV):AV→List AObj→Prop:=fun x σ'=>lops P E D ds l ⟨putF f d x,σ'⟩ K
def kLE (P:Program) (E:Env) (D:Nat→Bool) (ds:List (Option Tmp)) (l:List (Oper×Nat)) (K:AS→Prop) (d:Option Tmp) (f:Nat→AV) (σ:List AObj):AV→List AObj→Prop:=fun x σ'=>Kp D σ σ'∧lops P E D ds l ⟨putF f d x,σ'⟩ K
theorem lo_some {D:Nat→Bool} {ds:List (Option Tmp)} {l:List (Oper×Nat)} {s:AS} {K:AS→Prop}:lopsO P E D ds (some l) s K=lops P E D ds l s K:=rfl
theorem l_nil {D:Nat→Bool} {ds:List (Option Tmp)} {s:AS} {K:AS→Prop}:lops P E D ds [] s K=K s:=rfl
theorem l_pre {D:Nat→Bool} {ds:List (Option Tmp)} {o:Oper} {l:List (Oper×Nat)} {f:Nat→AV} {σ:List AObj} {K:AS→Prop}:lops P E D ds ((o,2)::l) ⟨f,σ⟩ K=vk (sval P E ds f σ o) (kL P E D ds l K o.dst f) σ:=rfl
theorem l_true {D:Nat→Bool} {ds:List (Option Tmp)} {o:Oper} {l:List (Oper×Nat)} {f:Nat→AV} {σ:List AObj} {K:AS→Prop}:lops P E D ds ((o,1)::l) ⟨f,σ⟩ K=(stabG E D ds f o=true∧vk (sval P E ds f σ o) (kL P E D ds l K o.dst f) σ):=rfl
theorem l_false {D:Nat→Bool} {ds:List (Option Tmp)} {d:Option Tmp} {op:Op} {ty:TypeId} {pos:String} {af:Array Edge} {l:List (Oper×Nat)} {f:Nat→AV} {σ:List AObj} {K:AS→Prop}:
    lops P E D ds ((⟨d,op,ty,pos,af,none⟩,0)::l) ⟨f,σ⟩ K=avop P E (aev f) σ ⟨d,op,ty,pos,af,none⟩ (kLE P E D ds l K d f σ):=rfl
def gsv (v:VR):VR:=match v with
  |some (p,x)=>need p (.gd true x)
  |none=>none
theorem gsv_yes {x:AV}:gsv (yes x)=yes (.gd true x):=rfl
theorem gsv_need {p:Prop} {x:AV}:gsv (need p x)=need p (.gd true x):=rfl
theorem gsv_some {p:Prop} {x:AV}:gsv (some (p,x))=need p (.gd true x):=rfl
theorem sval_mk {ds:List (Option Tmp)} {d:Option Tmp} {op:Op} {ty:TypeId} {pos:String} {af:Array Edge} {f:Nat→AV} {σ:List AObj}:sval P E ds f σ ⟨d,op,ty,pos,af,none⟩=pval P E (aev f) σ ⟨d,op,ty,pos,af,none⟩:=rfl
def svalG (P:Program) (E:Env) (t:Option Bool) (f:Nat→AV) (σ:List AObj) (o:Oper):VR:=match t with
  |some true=>gsv (pval P E (gev f true) σ o)
  |some false=>yes (.lit (.tuple #[]))
  |none=>none
theorem sval_g {ds:List (Option Tmp)} {d:Option Tmp} {op:Op} {ty:TypeId} {pos:String} {af:Array Edge} {j:Nat} {want:Bool} {f:Nat→AV} {σ:List AObj}:
    sval P E ds f σ ⟨d,op,ty,pos,af,some (j,want)⟩=svalG P E (gVal ds f j want) f σ ⟨d,op,ty,pos,af,none⟩:=rfl
def stabO (D:Nat→Bool) (t:Option Bool) (f:Nat→AV) (op:Op):Bool:=match t with
  |some true=>stabOp D (gev f true) op
  |some false=>true
  |none=>false
theorem stab_mk {D:Nat→Bool} {ds:List (Option Tmp)} {f:Nat→AV} {d:Option Tmp} {op:Op} {ty:TypeId} {pos:String} {af:Array Edge}:stabG E D ds f ⟨d,op,ty,pos,af,none⟩=stabOp D (aev f) op:=rfl
theorem stab_g {D:Nat→Bool} {ds:List (Option Tmp)} {f:Nat→AV} {d:Option Tmp} {op:Op} {ty:TypeId} {pos:String} {af:Array Edge} {j:Nat} {want:Bool}:
    stabG E D ds f ⟨d,op,ty,pos,af,some (j,want)⟩=(!gEff E d&&stabO D (gVal ds f j want) f op):=rfl
theorem t_kL {D:Nat→Bool} {ds:List (Option Tmp)} {l:List (Oper×Nat)} {K:AS→Prop} {d:Option Tmp} {f:Nat→AV} {x:AV} {σ:List AObj} (h:lops P E D ds l ⟨putF f d x,σ⟩ K):kL P E D ds l K d f x σ:=h
theorem t_kLE {D:Nat→Bool} {ds:List (Option Tmp)} {l:List (Oper×Nat)} {K:AS→Prop} {d:Option Tmp} {f:Nat→AV} {x:AV} {σ σ':List AObj} (hk:Kp D σ σ') (h:lops P E D ds l ⟨putF f d x,σ'⟩ K):kLE P E D ds l K d f σ x σ':=⟨hk,h⟩
theorem e_dnil {ops:List (Option Tmp)} {s:AS} {K:AS→Prop}:dops P E ops [] s K=K s:=rfl
theorem e_dval {ops:List (Option Tmp)} {d:Option Tmp} {op:Op} {ty:TypeId} {pos:String} {af:Array Edge} {f:Nat→AV} {σ:List AObj}:
    dval P E ops f σ ⟨d,op,ty,pos,af,none⟩=pval P E (aev f) σ ⟨d,op,ty,pos,af,none⟩:=rfl
def gval (v:VR) (b:Bool):VR:=match v with
  |some (p,x)=>need (b=true→p) (.gd b x)
  |none=>if b=true then none else yes (.lit (.tuple #[]))
def gvalO (P:Program) (E:Env) (t:Option Bool) (f:Nat→AV) (σ:List AObj) (o:Oper):VR:=match t with
  |some t=>gval (pval P E (gev f t) σ o) t
  |none=>none
theorem e_gdval {ops:List (Option Tmp)} {d:Option Tmp} {op:Op} {ty:TypeId} {pos:String} {af:Array Edge} {j:Nat} {want:Bool} {f:Nat→AV} {σ:List AObj}:
    dval P E ops f σ ⟨d,op,ty,pos,af,some (j,want)⟩=gvalO P E (gVal ops f j want) f σ ⟨d,op,ty,pos,af,none⟩:=rfl
theorem gval_yes {x:AV} {b:Bool}:gval (yes x) b=yes (.gd b x):=by simp [gval,yes,need]
theorem gval_need {p:Prop} {x:AV} {b:Bool}:gval (need p x) b=need (b=true→p) (.gd b x):=rfl
theorem gval_none {b:Bool}:gval none b=if b=true then none else yes (.lit (.tuple #[])):=rfl
def ints (k:IntKind) (l:List Int):List AV:=l.map fun n=> .lit (.int k n)
def strs (l:List ByteArray):List AV:=l.map fun s=> .lit (.string s)
theorem ints_length (k:IntKind) (l:List Int):(ints k l).length=l.length:=by simp [ints]
theorem strs_length (l:List ByteArray):(strs l).length=l.length:=by simp [strs]
theorem ints_nil (k:IntKind):ints k []=[]:=rfl
theorem ints_cons (k:IntKind) (n:Int) (l:List Int):ints k (n::l)= .lit (.int k n)::ints k l:=rfl
theorem ints_append (k:IntKind) (l m:List Int):ints k l++ints k m=ints k (l++m):=by simp [ints]
theorem ints_append1 (k:IntKind) (l:List Int) (n:Int):ints k l++[.lit (.int k n)]=ints k (l++[n]):=by simp [ints]
theorem ints_take (k:IntKind) (l:List Int) (n:Nat):(ints k l).take n=ints k (l.take n):=by simp [ints]
theorem ints_drop (k:IntKind) (l:List Int) (n:Nat):(ints k l).drop n=ints k (l.drop n):=by simp [ints]
theorem ints_set (k:IntKind) (l:List Int) (i:Nat) (n:Int):(ints k l).set i (.lit (.int k n))=ints k (l.set i n):=by simp [ints,List.map_set]
theorem ints_getD (k:IntKind) (l:List Int) (i:Nat) (h:i<l.length):(ints k l).getD i .top= .lit (.int k (l.getD i 0)):=by simp [ints,List.getD,h]
theorem u8sOf_ints (l:List Int):u8sOf (ints .u8 l)=some l:=by
  induction l with
  |nil=>rfl
  |cons n l ih=>simp only [ints,List.map_cons,u8sOf] at ih ⊢;rw [ih];rfl
def bytesI (s:ByteArray):List Int:=s.data.toList.map fun b=>(b.toNat:Int)
theorem u8s_ints (s:ByteArray):u8s s=ints .u8 (bytesI s):=by simp [u8s,ints,bytesI]
end Go.Fw

namespace Go.Fw
open Go
set_option linter.unusedSectionVars false
variable [TB]
variable {P:Program}
def lookZ:List (Nat×AV)→Nat→AV
  |[],_=> .top
  |p::l,t=>if t=p.1 then p.2 else lookZ l t
def ZerOk (P:Program) (p:Nat×AV):Prop:=∀ v,zeroT P p.1=some v→RC (fun _ _=>none) p.2 v
theorem zs_nil:∀ p∈([]:List (Nat×AV)),ZerOk P p:=by intro p hp;cases hp
theorem zs_cons {p:Nat×AV} {l:List (Nat×AV)} (h:ZerOk P p) (hl:∀ p∈l,ZerOk P p):∀ q∈p::l,ZerOk P q:=by
  intro q hq
  rcases List.mem_cons.1 hq with rfl|hq
  ·exact h
  ·exact hl q hq
theorem zer_sound (l:List (Nat×AV)) (h:∀ p∈l,ZerOk P p):∀ t v,zeroT P t=some v→RC (fun _ _=>none) (lookZ l t) v:=by
  induction l with
  |nil=>intro t v _;exact .top v
  |cons p l ih=>
   intro t v hz
   simp only [lookZ]
   split
   ·rename_i e;exact h p (by simp) v (by rw [←e];exact hz)
   ·exact ih (fun q hq=>h q (by simp [hq])) t v hz
def ZL (C:Nat→Nat→Option Value) (xs:List AV) (vs:List Value):Prop:=vs.length=xs.length∧(∀ i,i<xs.length→(vs.getD i undef).oneCell'=true)∧∀ i,i<xs.length→RC C (xs.getD i .top) (vs.getD i undef)
theorem zl_nil {C:Nat→Nat→Option Value}:ZL C [] []:=⟨rfl,by simp,by simp⟩
theorem zl_cons {C:Nat→Nat→Option Value} {x:AV} {v:Value} {xs:List AV} {vs:List Value} (h:RC C x v) (h1:v.oneCell'=true) (hl:ZL C xs vs):ZL C (x::xs) (v::vs):=by
  refine ⟨by simp [hl.1],fun i hi=>?_,fun i hi=>?_⟩
  ·cases i with
   |zero=>exact h1
   |succ i=>simpa using hl.2.1 i (by simpa using hi)
  ·cases i with
   |zero=>exact h
   |succ i=>simpa using hl.2.2 i (by simpa using hi)
theorem zr_agg {C:Nat→Nat→Option Value} (xs:List AV) (vs:List Value) (h:ZL C xs vs):RC C (.agg xs) (.agg vs.toArray):= .agg xs vs h.1 h.2.1 h.2.2
structure PCon (P:Program) where
  f:FuncId
  c:List AV→VR
  ok:∀ args p r,c args=some (p,r)→p→PC P f args r
  fk:fok P f=true
structure ECon (P:Program) where
  f:FuncId
  c:List AV→List AObj→(AV→List AObj→Prop)→Prop
  ok:∀ args σ k,c args σ k→EC P f args σ k
  fk:fok P f=true
def pcL:List (PCon P)→FuncId→List AV→VR
  |[],_,_=>none
  |c::l,f,args=>if f=c.f then c.c args else pcL l f args
def ecL:List (ECon P)→FuncId→List AV→List AObj→(AV→List AObj→Prop)→Prop
  |[],_,_,_,_=>False
  |c::l,f,args,σ,k=>if f=c.f then c.c args σ k else ecL l f args σ k
def envJ (jk:TypeId→AV) (zer:TypeId→AV) (wr eg:Nat→Bool) (ps:List (PCon P)) (es:List (ECon P)):Env:=⟨zer,wr,eg,jk,pcL ps,ecL es,fun _ _=>False⟩
def envOf (zer:TypeId→AV) (wr eg:Nat→Bool) (ps:List (PCon P)) (es:List (ECon P)):Env:=envJ (fun _=> .top) zer wr eg ps es
theorem envJOk {jk:TypeId→AV} {zer:TypeId→AV} {wr eg:Nat→Bool} {ps:List (PCon P)} {es:List (ECon P)} (hz:∀ t v,zeroT P t=some v→RC (fun _ _=>none) (zer t) v):EnvOk P (envJ jk zer wr eg ps es) where
  zero:=hz
  pc:=by
   intro f args p r h hp
   simp only [envJ] at h
   induction ps with
   |nil=>cases h
   |cons c l ih=>
    simp only [pcL] at h
    split at h
    ·rename_i e;subst e;exact .inl ⟨c.fk,c.ok args p r h hp⟩
    ·exact ih h
  ec:=by
   intro f args σ k h
   simp only [envJ] at h
   induction es with
   |nil=>exact h.elim
   |cons c l ih=>
    simp only [ecL] at h
    split at h
    ·rename_i e;subst e;exact ⟨c.fk,(c.ok args σ k h).xec⟩
    ·exact ih h
theorem envOk {zer:TypeId→AV} {wr eg:Nat→Bool} {ps:List (PCon P)} {es:List (ECon P)} (hz:∀ t v,zeroT P t=some v→RC (fun _ _=>none) (zer t) v):EnvOk P (envOf zer wr eg ps es):=envJOk hz
theorem env_zero {zer:TypeId→AV} {wr eg:Nat→Bool} {ps:List (PCon P)} {es:List (ECon P)} {t:TypeId}:(envOf zer wr eg ps es).zero t=zer t:=rfl
theorem env_wr {zer:TypeId→AV} {wr eg:Nat→Bool} {ps:List (PCon P)} {es:List (ECon P)} {t:Nat}:(envOf zer wr eg ps es).wr t=wr t:=rfl
theorem env_eg {zer:TypeId→AV} {wr eg:Nat→Bool} {ps:List (PCon P)} {es:List (ECon P)} {t:Nat}:(envOf zer wr eg ps es).eg t=eg t:=rfl
theorem env_pc {zer:TypeId→AV} {wr eg:Nat→Bool} {ps:List (PCon P)} {es:List (ECon P)} {f:FuncId} {args:List AV}:(envOf zer wr eg ps es).pc f args=pcL ps f args:=rfl
theorem env_ec {zer:TypeId→AV} {wr eg:Nat→Bool} {ps:List (PCon P)} {es:List (ECon P)} {f:FuncId} {args:List AV} {σ:List AObj} {k:AV→List AObj→Prop}:(envOf zer wr eg ps es).ec f args σ k=ecL es f args σ k:=rfl
theorem env_jk {zer:TypeId→AV} {wr eg:Nat→Bool} {ps:List (PCon P)} {es:List (ECon P)} {t:TypeId}:(envOf zer wr eg ps es).jk t= .top:=rfl
theorem envj_zero {jk zer:TypeId→AV} {wr eg:Nat→Bool} {ps:List (PCon P)} {es:List (ECon P)} {t:TypeId}:(envJ jk zer wr eg ps es).zero t=zer t:=rfl
theorem envj_wr {jk zer:TypeId→AV} {wr eg:Nat→Bool} {ps:List (PCon P)} {es:List (ECon P)} {t:Nat}:(envJ jk zer wr eg ps es).wr t=wr t:=rfl
theorem envj_eg {jk zer:TypeId→AV} {wr eg:Nat→Bool} {ps:List (PCon P)} {es:List (ECon P)} {t:Nat}:(envJ jk zer wr eg ps es).eg t=eg t:=rfl
theorem envj_pc {jk zer:TypeId→AV} {wr eg:Nat→Bool} {ps:List (PCon P)} {es:List (ECon P)} {f:FuncId} {args:List AV}:(envJ jk zer wr eg ps es).pc f args=pcL ps f args:=rfl
theorem envj_ec {jk zer:TypeId→AV} {wr eg:Nat→Bool} {ps:List (PCon P)} {es:List (ECon P)} {f:FuncId} {args:List AV} {σ:List AObj} {k:AV→List AObj→Prop}:(envJ jk zer wr eg ps es).ec f args σ k=ecL es f args σ k:=rfl
theorem envj_jk {jk zer:TypeId→AV} {wr eg:Nat→Bool} {ps:List (PCon P)} {es:List (ECon P)} {t:TypeId}:(envJ jk zer wr eg ps es).jk t=jk t:=rfl
theorem Le.refl (n0:Nat) (s:AS):Le n0 s s:=fun _ G _ _ _ _ h1 h2=>⟨G,h1,h2⟩
theorem Le.trans {n0:Nat} {a b c:AS} (h:Le n0 a b) (k:Le n0 b c):Le n0 a c:=fun cx G w N x e h1 h2=>by
  obtain ⟨G1,p1,p2⟩:=h cx G w N x e h1 h2
  exact k cx G1 w N x e p1 p2
def LeR (x y:AV):Prop:=∀ (G:Gh) (v:Value),R G x v→R G y v
theorem LeR.refl (x:AV):LeR x x:=fun _ _ h=>h
theorem LeR.top (x:AV):LeR x .top:=fun _ v _=>R.top v
theorem LeR.of_eq {x y:AV} (h:x=y):LeR x y:=by subst h;exact LeR.refl x
theorem LeR.nil (full:Bool) (sz:Nat):LeR (.lit (.slice none 0 0)) (.sl full sz []):=fun _ v h=>by rw [h.lit_inv];exact .clo _ _ (.nil full sz none)
theorem LeR.full (sz:Nat) (xs:List AV) (full:Bool):LeR (.sl full sz xs) (.sl false sz xs):=fun _ v h=> .clo _ _ (by
  cases h.sl_inv with
  |nil _ _ a=>exact .nil false sz a
  |sl _ _ _ b off cap f hc hm hf hw hC h1 hR=>exact .sl false sz xs b off cap f hc hm (by simp) hw hC h1 hR)
theorem Le.frame {n0:Nat} {f g:Nat→AV} {σ:List AObj} (h:∀ i,LeR (f i) (g i)):Le n0 ⟨f,σ⟩ ⟨g,σ⟩:=fun _ G _ _ _ _ h1 h2=>⟨G,h1,⟨h2.size,h2.defers,fun i=>h i _ _ (h2.rel i)⟩⟩
theorem Le.frameS {n0:Nat} {f g:Nat→AV} {σ σ':List AObj} (e:σ=σ') (h:∀ i,LeR (f i) (g i)):Le n0 ⟨f,σ⟩ ⟨g,σ'⟩:=by subst e;exact Le.frame h
theorem leF_top (f:Nat→AV):∀ i,LeR (f i) (topF i):=fun i=>LeR.top _
theorem leF_upd {f g:Nat→AV} {i:Nat} {x:AV} (h:LeR (f i) x) (hg:∀ j,LeR (f j) (g j)):∀ j,LeR (f j) (upd g i x j):=by
  intro j
  simp only [upd]
  split
  ·rename_i e;subst e;exact h
  ·exact hg j
theorem end_ret {rs:List ResultVar} {k:AV→List AObj→Prop} {K:QT (endQ P rs k)} {s:AS} {x:AV} (hx:resV P s rs=some x) (h:k x s.σ):K.k .ret s:=K.h _ _ ⟨x,hx,h⟩
theorem end_norm {rs:List ResultVar} {k:AV→List AObj→Prop} {K:QT (endQ P rs k)} {s:AS} {x:AV} (hx:resV P s rs=some x) (h:k x s.σ):K.k .normal s:=K.h _ _ ⟨x,hx,h⟩
theorem LeA.of_eq {x y:AV} (h:x=y):LeA x y:=by subst h;exact LeA.refl x
theorem LeA.full (full:Bool) (sz:Nat) (xs:List AV):LeA (.sl full sz xs) (.sl false sz xs):=fun C v h=>by
  cases h with
  |nil _ _ a=>exact .nil false sz a
  |sl _ _ _ b off cap f hc hm hf hw hC h1 hR=>exact .sl false sz xs b off cap f hc hm (by simp) hw hC h1 hR
theorem LeA.nil (full:Bool) (sz:Nat):LeA (.lit (.slice none 0 0)) (.sl full sz []):=fun C v h=>by cases h;exact .nil full sz none
theorem set_same {σ:List AObj} {o:Nat} {ob:AObj} (ho:σ[o]? =some ob):σ.set o ob=σ:=by
  apply List.ext_getElem?
  intro i
  by_cases e:i=o
  ·subst e;rw [List.getElem?_set_self (List.getElem?_eq_some_iff.1 ho).1,ho]
  ·rw [List.getElem?_set_ne (by omega)]
theorem get_set {σ:List AObj} {o:Nat} {ob:AObj} (ho:σ[o]? =some ob) (x:AObj):(σ.set o x)[o]? =some x:=List.getElem?_set_self (List.getElem?_eq_some_iff.1 ho).1
end Go.Fw

namespace Go.Fw
open Go
set_option linter.unusedSectionVars false
variable [TB]
theorem thenQ_n {K:AS→Prop} {Q:Exit→AS→Prop} {s:AS}:thenQ K Q .normal s=K s:=rfl
theorem thenQ_r {K:AS→Prop} {Q:Exit→AS→Prop} {s:AS}:thenQ K Q .ret s=Q .ret s:=rfl
theorem thenQ_e {K:AS→Prop} {Q:Exit→AS→Prop} {i:Nat} {s:AS}:thenQ K Q (.exit i) s=Q (.exit i) s:=rfl
theorem blockQ_n {i:Nat} {Q:Exit→AS→Prop} {s:AS}:blockQ i Q .normal s=Q .normal s:=rfl
theorem blockQ_r {i:Nat} {Q:Exit→AS→Prop} {s:AS}:blockQ i Q .ret s=Q .ret s:=rfl
theorem blockQ_e {i j:Nat} {Q:Exit→AS→Prop} {s:AS}:blockQ i Q (.exit j) s=if j=i then Q .normal s else Q (.exit j) s:=rfl
theorem scopeQ_n {Q:Exit→AS→Prop} {s:AS}:scopeQ Q .normal s=Q .normal s:=rfl
theorem scopeQ_r {Q:Exit→AS→Prop} {s:AS}:scopeQ Q .ret s=Q .ret s:=rfl
theorem scopeQ_e {i:Nat} {Q:Exit→AS→Prop} {s:AS}:scopeQ Q (.exit i) s=Q (.exit i) s:=rfl
theorem condP_lit {t:Bool} {A B:Prop}:condP (.lit (.bool t)) A B=((t=true→A)∧(t=false→B)):=rfl
theorem aev_tmp {f:Nat→AV} {t:Tmp}:aev f (.tmp t)=f t:=rfl
theorem aev_func {f:Nat→AV} {t:FuncId}:aev f (.func t)= .fn (.func t) [] []:=rfl
theorem aev_const {f:Nat→AV} {v:Value}:aev f (.const v)=ofConst v:=rfl
theorem ofC_int {k:IntKind} {n:Int}:ofConst (.int k n)= .lit (.int k n):=rfl
theorem ofC_bool {b:Bool}:ofConst (.bool b)= .lit (.bool b):=rfl
theorem ofC_str {s:ByteArray}:ofConst (.string s)= .lit (.string s):=rfl
theorem ofC_slice {a:Option Addr} {n c:Nat}:ofConst (.slice a n c)= .lit (.slice a n c):=rfl
theorem ofC_ptr {a:Option Addr}:ofConst (.pointer a)= .lit (.pointer a):=rfl
theorem ofC_iface:ofConst .nilIface= .lit .nilIface:=rfl
theorem ofC_nf:ofConst .nilFunc= .lit .nilFunc:=rfl
theorem putF_some {f:Nat→AV} {d:Nat} {x:AV}:putF f (some d) x=upd f d x:=rfl
theorem putF_none {f:Nat→AV} {x:AV}:putF f none x=f:=rfl
theorem upd_at {f:Nat→AV} {i j:Nat} {x:AV}:upd f i x j=if j=i then x else f j:=rfl
theorem topF_at {i:Nat}:topF i= .top:=rfl
theorem keepF_nil {f:Nat→AV}:keepF f []=topF:=rfl
theorem keepF_cons {f:Nat→AV} {i:Nat} {l:List Nat}:keepF f (i::l)=upd (keepF f l) i (f i):=rfl
theorem initF_nil {k:Nat}:initF k []=topF:=rfl
theorem initF_cons {k:Nat} {x:AV} {l:List AV}:initF k (x::l)=upd (initF (k+1) l) k x:=rfl
theorem cells_lit {v:Value}:(AV.lit v).cells=[.lit v]:=rfl
theorem cells_sl {b:Bool} {n:Nat} {xs:List AV}:(AV.sl b n xs).cells=[.sl b n xs]:=rfl
theorem cells_arr {o v:Nat}:(AV.arr o v).cells=[.arr o v]:=rfl
theorem cells_ref {o v:Nat}:(AV.ref o v).cells=[.ref o v]:=rfl
theorem cells_agg {xs:List AV}:(AV.agg xs).cells=xs:=rfl
theorem cells_fn {f:Fn} {xs ys:List AV}:(AV.fn f xs ys).cells=[.fn f xs ys]:=rfl
theorem solid_int {k:IntKind} {n:Int}:(AV.lit (.int k n)).solid=true:=rfl
theorem solid_bool {b:Bool}:(AV.lit (.bool b)).solid=true:=rfl
theorem solid_str {b:ByteArray}:(AV.lit (.string b)).solid=true:=rfl
theorem solid_slice {a:Option Addr} {n c:Nat}:(AV.lit (.slice a n c)).solid=true:=rfl
theorem solid_ptr {a:Option Addr}:(AV.lit (.pointer a)).solid=true:=rfl
theorem solid_sl {b:Bool} {n:Nat} {xs:List AV}:(AV.sl b n xs).solid=true:=rfl
theorem solid_arr {o v:Nat}:(AV.arr o v).solid=true:=rfl
theorem cells_sub {o v z a b:Nat}:(AV.sub o v z a b).cells=[.sub o v z a b]:=rfl
theorem cells_mp {o:Nat}:(AV.mp o).cells=[.mp o]:=rfl
theorem solid_sub {o v z a b:Nat}:(AV.sub o v z a b).solid=true:=rfl
theorem solid_mp {o:Nat}:(AV.mp o).solid=true:=rfl
theorem solid_ref {o v:Nat}:(AV.ref o v).solid=true:=rfl
theorem solid_agg {xs:List AV}:(AV.agg xs).solid=true:=rfl
theorem solid_fn {f:Fn} {xs ys:List AV}:(AV.fn f xs ys).solid=true:=rfl
theorem beqT (b:Bool):(b==true)=b:=by cases b<;>rfl
theorem beqF (b:Bool):(b==false)= !b:=by cases b<;>rfl
theorem beqS (b:Bool):(b==b)=true:=by cases b<;>rfl
theorem eqFT:(false=true)=False:=by simp
theorem eqTF:(true=false)=False:=by simp
theorem one_ints (k:IntKind) (n:Int):[AV.lit (.int k n)]=ints k [n]:=rfl
theorem t_kE {P:Program} {E:Env} {ops:List (Option Tmp)} {l:List Oper} {K:AS→Prop} {d:Option Tmp} {f:Nat→AV} {x:AV} {σ:List AObj} (h:aops P E ops l ⟨putF f d x,σ⟩ K):kE P E ops l K d f x σ:=h
theorem t_kD {P:Program} {E:Env} {ops:List (Option Tmp)} {l:List Oper} {K:AS→Prop} {d:Option Tmp} {f:Nat→AV} {x:AV} {σ:List AObj} (h:dops P E ops l ⟨putF f d x,σ⟩ K):kD P E ops l K d f x σ:=h
theorem gval_some {p:Prop} {x:AV} {b:Bool}:gval (some (p,x)) b=need (b=true→p) (.gd b x):=rfl
attribute [go_sem] gval_some dsOf_mk beqT beqF beqS eqFT eqTF Bool.and_true Bool.true_and Bool.and_false Bool.false_and Bool.or_true Bool.or_false Bool.true_or Bool.false_or Bool.not_true Bool.not_false true_implies false_implies and_true true_and implies_true thenQ_n thenQ_r thenQ_e blockQ_n blockQ_r blockQ_e scopeQ_n scopeQ_r scopeQ_e condP_lit aev_tmp aev_func aev_const ofC_int ofC_bool ofC_str ofC_slice ofC_ptr ofC_iface ofC_nf putF_some putF_none upd_at topF_at keepF_nil keepF_cons initF_nil initF_cons e_nil keepK_at gEff_some gEff_none e_g e_step vk_yes vk_need vk_some vk_none gk_yes gk_need gk_some gk_none e_move e_assign e_pick e_build e_buildSlice e_load e_nilCheck e_binOp e_unOp e_convert e_makeFunc e_slice e_fieldAddr e_field e_indexAddr e_index e_extract ok_some ok_none e_store e_makeSlice e_append e_builtin e_call e_lookup e_makeIfc e_panic p_lookup p_makeIfc p_move p_assign p_pick p_build p_buildSlice p_load p_nilCheck p_binOp p_unOp p_convert p_makeFunc p_slice p_fieldAddr p_field p_indexAddr p_index p_extract p_append p_builtin p_call p_alloc p_box p_store lo_some l_nil l_pre l_true l_false gsv_yes gsv_need gsv_some sval_mk svalG sval_g stabO stab_g stab_mk stabOp boxIn noArr noArr1 isU8 buildE pickO e_dcons e_dnil e_dval e_gdval gval_yes gval_need gval_none pickK convK binK isNilS snilE callK gvalO gVal gev impB_self impB_true impB_false impB_t impB_andR gdN_true pickV_gdl pickV_gdr pickV_ll pickV_gl pickV_lg pickV_tl pickV_lt pickV_int pickV_str pickV_sl pickV_arr pickV_agg pickB partV loadV shiftV fieldAddrV fieldV indexAddrV indexV bndV sliceV slV subV lookV ifcV notIf keyT sameA findA putA arithV intBinV strBinV isPtr isNilP boolEq ptrEq nilEq binV scEq aggEq ifK ifV isNilC ifaceV ifaceB unV slOf lenOf getObj? convV fillV buildV setRange foldI builtinV arrOf capC close0 closeL0 close1 closeL1 close2 scal0 scal1 scal2 buildL buildSliceV nilChkV extractV srcOf pappV targetOf callV isApp isCopy subOf appE storeE makeE bytesE callE mapE makeMapE srcN copyT dstOf copyE panE freezeO ids0 ids1 ids2 freezeL cells_sub cells_mp solid_sub solid_mp cells_lit cells_sl cells_arr cells_ref cells_agg cells_fn solid_int solid_bool solid_str solid_slice solid_ptr solid_sl solid_arr solid_ref solid_agg solid_fn eq_self true_or or_true false_or or_false and_self not_true_eq_false not_false_eq_true ints_append1 ints_append ints_take ints_drop u8sOf_ints u8s_ints List.set_set Option.some.injEq exists_eq_left' Prod.mk.injEq AV.lit.injEq Value.int.injEq env_zero env_wr env_eg env_pc env_ec env_jk envj_zero envj_wr envj_eg envj_pc envj_ec envj_jk pcL ecL ints_length strs_length List.getElem?_cons_zero List.getElem?_cons_succ List.set_cons_zero List.set_cons_succ List.length_cons List.length_nil List.length_append List.map_cons List.map_nil List.getD_cons_zero List.getD_cons_succ List.nil_append List.cons_append List.append_nil List.getElem?_toArray List.all_cons List.all_nil List.flatMap_cons List.flatMap_nil List.foldl_cons List.foldl_nil Option.bind_some Option.map_some Option.map_none Option.isSome_some Option.isSome_none List.drop_succ_cons List.drop_zero List.take_succ_cons List.take_zero Option.getD_some Option.getD_none
end Go.Fw

namespace Go.Fw
open Go
set_option linter.unusedSectionVars false
variable [TB]
variable {P:Program}
theorem wrap_u8 (n:Int):IntKind.u8.wrap n=n % 256:=rfl
theorem wrap_u64 (n:Int):IntKind.u64.wrap n=n % 18446744073709551616:=rfl
theorem wrap_i64 {n:Int} (h:inI64 n):IntKind.i64.wrap n=n:=by
  unfold inI64 at h
  have e:IntKind.i64.wrap n=if n % 18446744073709551616≥9223372036854775808 then n % 18446744073709551616 - 18446744073709551616 else n % 18446744073709551616:=by
    simp [IntKind.wrap,IntKind.bits,IntKind.signed]
  rw [e]
  split<;>omega
section
variable {E:Env} {ev:Operand→AV} {σ:List AObj} {d:Option Tmp} {ty:TypeId} {pos:String} {af:Array Edge} {g:Option (Nat×Bool)} {k:AV→List AObj→Prop} {t:TypeId} {x:Operand}
theorem e_alloc':avop P E ev σ ⟨d,.alloc t,ty,pos,af,g⟩ k=if (E.zero t).solid=true∧(zeroT P t).isSome=true then k (.ref σ.length 0) (σ++[.box t (E.zero t).cells]) else False:=by
  split
  ·rename_i h;exact e_alloc h.1 h.2
  ·rename_i h;simp only [avop,aeff,pval,if_neg h]
theorem e_box':avop P E ev σ ⟨d,.box t x,ty,pos,af,g⟩ k=if (ev x).solid=true then k (.ref σ.length 0) (σ++[.box t (ev x).cells]) else False:=by
  split
  ·rename_i h;exact e_box h
  ·rename_i h;simp only [avop,aeff,pval,if_neg h]
end
section
variable {E:Env} {ev:Operand→AV} {σ:List AObj} {d:Option Tmp} {ty:TypeId} {pos:String} {af:Array Edge} {g:Option (Nat×Bool)} {k:AV→List AObj→Prop} {xs:List Operand} {ats:Array TypeId}
theorem e_len:avop P E ev σ ⟨d,.call ⟨.builtin .len,xs.toArray,ats⟩,ty,pos,af,g⟩ k=vk (builtinV P σ .len ats (xs.map ev)) k σ:=e_builtin rfl rfl
theorem p_len:pval P E ev σ ⟨d,.call ⟨.builtin .len,xs.toArray,ats⟩,ty,pos,af,g⟩=builtinV P σ .len ats (xs.map ev):=p_builtin rfl
theorem e_min:avop P E ev σ ⟨d,.call ⟨.builtin .min,xs.toArray,ats⟩,ty,pos,af,g⟩ k=vk (builtinV P σ .min ats (xs.map ev)) k σ:=e_builtin rfl rfl
end
def kOf (k:IntKind):List AV→Option (List Int)
  |[]=>some []
  |.lit (.int k' n)::xs=>if k'=k then (kOf k xs).map (n:: ·) else none
  |_::_=>none
theorem kOf_ints (k:IntKind) (l:List Int):kOf k (ints k l)=some l:=by
  induction l with
  |nil=>rfl
  |cons n l ih=>simp only [ints,List.map_cons,kOf,if_true] at ih ⊢;rw [ih];rfl
theorem kOf_inv {k:IntKind} {xs:List AV} {l:List Int} (h:kOf k xs=some l):xs=ints k l:=by
  induction xs generalizing l with
  |nil=>cases h;rfl
  |cons x xs ih=>
   unfold kOf at h
   split at h
   ·rename_i e;cases e
   ·rename_i k' n xs' e
    cases e
    split at h
    ·rename_i hk
     subst hk
     cases hx:kOf k' xs with
     |none=>rw [hx] at h;cases h
     |some l'=>rw [hx] at h;cases h;rw [ih hx];rfl
    ·cases h
   ·cases h
def strsOf:List AV→Option (List ByteArray)
  |[]=>some []
  |.lit (.string s)::xs=>(strsOf xs).map (s:: ·)
  |_::_=>none
theorem strsOf_strs (l:List ByteArray):strsOf (strs l)=some l:=by
  induction l with
  |nil=>rfl
  |cons n l ih=>simp only [strs,List.map_cons,strsOf] at ih ⊢;rw [ih];rfl
theorem strsOf_inv {xs:List AV} {l:List ByteArray} (h:strsOf xs=some l):xs=strs l:=by
  induction xs generalizing l with
  |nil=>cases h;rfl
  |cons x xs ih=>
   unfold strsOf at h
   split at h
   ·rename_i e;cases e
   ·rename_i n xs' e
    cases e
    cases hx:strsOf xs with
    |none=>rw [hx] at h;cases h
    |some l'=>rw [hx] at h;cases h;rw [ih hx];rfl
   ·cases h
def slA (sz:Nat):AV→Option (List AV)
  |.lit (.slice none 0 0)=>some []
  |.sl _ sz' xs=>if sz'=sz then some xs else none
  |_=>none
theorem slA_le {sz:Nat} {x:AV} {xs:List AV} (h:slA sz x=some xs):LeA x (.sl false sz xs):=by
  unfold slA at h
  split at h
  ·cases h;exact LeA.nil false sz
  ·split at h
   ·rename_i e;cases h;subst e;exact LeA.full _ _ _
   ·cases h
  ·cases h
def slK (k:IntKind) (x:AV):Option (List Int):=(slA 1 x).bind (kOf k)
theorem slK_le {k:IntKind} {x:AV} {l:List Int} (h:slK k x=some l):LeA x (.sl false 1 (ints k l)):=by
  unfold slK at h
  cases hx:slA 1 x with
  |none=>rw [hx] at h;cases h
  |some xs=>rw [hx] at h;rw [←kOf_inv h];exact slA_le hx
theorem slK_nil {k:IntKind}:slK k (.lit (.slice none 0 0))=some []:=rfl
theorem slK_sl {k:IntKind} {b:Bool} {l:List Int}:slK k (.sl b 1 (ints k l))=some l:=by simp [slK,slA,kOf_ints]
theorem slK_emp {k:IntKind} {b:Bool}:slK k (.sl b 1 [])=some []:=rfl
theorem slK_cons {k:IntKind} {b:Bool} {n:Int} {xs:List AV}:slK k (.sl b 1 (.lit (.int k n)::xs))=(slK k (.sl b 1 xs)).map (n:: ·):=by
  simp [slK,slA,kOf]
def slS (x:AV):Option (List ByteArray):=(slA 1 x).bind strsOf
theorem slS_le {x:AV} {l:List ByteArray} (h:slS x=some l):LeA x (.sl false 1 (strs l)):=by
  unfold slS at h
  cases hx:slA 1 x with
  |none=>rw [hx] at h;cases h
  |some xs=>rw [hx] at h;rw [←strsOf_inv h];exact slA_le hx
theorem slS_nil:slS (.lit (.slice none 0 0))=some []:=rfl
theorem slS_sl {b:Bool} {l:List ByteArray}:slS (.sl b 1 (strs l))=some l:=by simp [slS,slA,strsOf_strs]
def LeL:List AV→List AV→Prop
  |[],[]=>True
  |x::xs,y::ys=>LeA x y∧LeL xs ys
  |_,_=>False
theorem LeL.rl {C:Nat→Nat→Option Value}:∀ {xs ys:List AV} {vs:List Value},LeL xs ys→RL C xs vs→RL C ys vs
  |[],[],_,_,h=>h
  |x::xs,y::ys,vs,hl,h=>by
   cases vs with
   |nil=>have:=h.1;simp at this
   |cons v vs=>
    have ih:=LeL.rl (C:=C) (vs:=vs) hl.2 ⟨by simpa using h.1,fun i hi=>by simpa using h.2 (i+1) (by simpa using hi)⟩
    refine ⟨by simp [ih.1],fun i hi=>?_⟩
    cases i with
    |zero=>simpa using hl.1 _ _ (by simpa using h.2 0 (by simp))
    |succ i=>simpa using ih.2 i (by simpa using hi)
  |[],_::_,_,hl,_=>hl.elim
  |_::_,[],_,hl,_=>hl.elim
theorem PC.weak {f:FuncId} {as bs:List AV} {r:AV} (h:PC P f bs r) (hl:LeL as bs):PC P f as r:=fun C w vs hv hin=>h C w vs (hl.rl hv) hin
theorem LeA.tup {xs ys:List AV} (h:LeL xs ys):LeA (.tup xs) (.tup ys):=fun C v hv=>by
  cases hv with
  |tup _ vs hl hh=>exact .tup ys vs (h.rl ⟨hl,hh⟩).1 (h.rl ⟨hl,hh⟩).2
theorem LeA.slx {b:Bool} {sz:Nat} {xs ys:List AV} (h:xs=ys):LeA (.sl b sz xs) (.sl false sz ys):=by subst h;exact LeA.full b sz xs
theorem upd_top {f:Nat→AV} {i:Nat} (h:f i= .top):upd f i .top=f:=by
  funext j
  simp only [upd]
  split
  ·rename_i e;rw [e,h]
  ·rfl
def slx (sz:Nat) (x:AV) (xs:List AV):Prop:=match x with
  |.sl _ sz' ys=>sz'=sz∧ys=xs
  |.lit (.slice none 0 0)=>[]=xs
  |_=>False
theorem leF_sl {f g:Nat→AV} {i sz:Nat} {xs:List AV} (h:slx sz (f i) xs) (hg:∀ j,LeR (f j) (g j)):∀ j,LeR (f j) (upd g i (.sl false sz xs) j):=by
  refine leF_upd ?_ hg
  unfold slx at h
  split at h
  ·rename_i e;rw [e];obtain ⟨rfl,rfl⟩:=h;exact LeR.full _ _ _
  ·rename_i e;rw [e,←h];exact LeR.nil _ _
  ·exact h.elim
theorem set_app {σ:List AObj} {x y:AObj}:(σ++[x]).set σ.length y=σ++[y]:=by simp
def arrAt (e sz:Nat) (σ:List AObj) (o ver:Nat) (p:List AV→Prop):Prop:=match σ[o]? with
  |some (.arr e' sz' xs ver' fz)=>(e'=e∧sz'=sz∧ver'=ver∧fz=false)∧p xs
  |_=>False
theorem arrAt_inv {e sz:Nat} {σ:List AObj} {o ver:Nat} {p:List AV→Prop} (h:arrAt e sz σ o ver p):∃ xs,σ[o]? =some (.arr e sz xs ver false)∧p xs:=by
  unfold arrAt at h
  split at h
  ·rename_i e' sz' xs ver' fz ho
   obtain ⟨⟨rfl,rfl,rfl,rfl⟩,hp⟩:=h
   exact ⟨xs,ho,hp⟩
  ·exact h.elim
def withK (k:IntKind) (xs:List AV) (p:List Int→Prop):Prop:=match kOf k xs with
  |some l=>p l
  |none=>False
theorem withK_ints {k:IntKind} {l:List Int} {p:List Int→Prop}:withK k (ints k l) p=p l:=by unfold withK;rw [kOf_ints]
theorem withK_nil {k:IntKind} {p:List Int→Prop}:withK k [] p=p []:=rfl
theorem withK_inv {k:IntKind} {xs:List AV} {p:List Int→Prop} (h:withK k xs p):∃ l,xs=ints k l∧p l:=by
  unfold withK at h
  split at h
  ·rename_i l hl;exact ⟨l,kOf_inv hl,h⟩
  ·exact h.elim
attribute [go_sem] e_alloc' e_box' decide_false decide_true slx upd_top Int.toNat_natCast e_len p_len e_min slK_nil slK_sl slK_emp slK_cons slS_nil slS_sl set_app withK_ints withK_nil arrAt
end Go.Fw

namespace Go.Fw
open Go
set_option linter.unusedSectionVars false
variable [TB]
variable {P:Program} {cx:Cx} {G:Gh} {σ:List AObj} {w:World}
def Bd (n:Nat) (x:AV):Prop:=∀ (G:Gh) (v:Value),n≤G.n→R G x v→R {G with n:=n} x v
theorem Bd.lit (n:Nat) (v:Value):Bd n (.lit v):=fun _ _ _ h=>by rw [h.lit_inv];exact R.lit _
theorem Bd.top (n:Nat):Bd n .top:=fun _ v _ _=>R.top v
theorem Bd.sl (n:Nat) (b:Bool) (sz:Nat) (xs:List AV):Bd n (.sl b sz xs):=fun _ v _ h=> .clo _ _ h.sl_inv
theorem Bd.sref (n:Nat) (x:AV) (j:Nat):Bd n (.sref x j):=fun _ v _ h=> .clo _ _ h.sref_inv
theorem Bd.ref {n o off:Nat} (ho:o<n):Bd n (.ref o off):=fun G v _ h=>by
  obtain ⟨_,g,h1,rfl⟩:=h.ref_inv
  exact .ref o off g ho h1
theorem Bd.arr {n o ver:Nat} (ho:o<n):Bd n (.arr o ver):=fun G v _ h=>by
  obtain ⟨_,h1,h2⟩:=h.arr_inv
  exact .arr o ver v ho h1 h2 h.arr_slice
theorem Bd.eref {n o ver sz i j:Nat} (ho:o<n):Bd n (.eref o ver sz i j):=fun G v _ h=>by
  obtain ⟨_,h1,h2⟩:=h.eref_inv
  exact .eref o ver sz i j v ho h1 h2 h.eref_ptr
theorem Bd.sub {n o ver sz lo hi:Nat} (ho:o<n):Bd n (.sub o ver sz lo hi):=fun G v _ h=>by
  obtain ⟨_,h1,h2⟩:=h.sub_inv
  exact .sub o ver sz lo hi v ho h1 h2 h.sub_slice
theorem Bd.mp {n o:Nat} (ho:o<n):Bd n (.mp o):=fun G v _ h=>by
  obtain ⟨_,g,h1,rfl⟩:=h.mp_inv
  exact .mp o g ho h1
theorem Bd.bsl {n o m:Nat} (ho:o<n):Bd n (.bsl o m):=fun G v _ h=>by
  obtain ⟨_,g,cap,h1,h2,h3,rfl⟩:=h.bsl_inv
  exact .bsl o m g cap ho h1 h2 h3
theorem Bd.agg {n:Nat} {xs:List AV} (h:∀ i,i<xs.length→Bd n (xs.getD i .top)):Bd n (.agg xs):=fun G v hn hr=>by
  obtain ⟨vs,rfl,h1,h2,h3⟩:=hr.agg_inv
  exact .agg xs vs h1 h2 fun i hi=>h i hi G _ hn (h3 i hi)
theorem Bd.tup {n:Nat} {xs:List AV} (h:∀ i,i<xs.length→Bd n (xs.getD i .top)):Bd n (.tup xs):=fun G v hn hr=>by
  obtain ⟨vs,rfl,h1,h3⟩:=hr.tup_inv
  exact .tup xs vs h1 fun i hi=>h i hi G _ hn (h3 i hi)
theorem Bd.fn {n:Nat} {f:Fn} {xs ys:List AV} (h:∀ i,i<xs.length→Bd n (xs.getD i .top)) (h':∀ i,i<ys.length→Bd n (ys.getD i .top)):Bd n (.fn f xs ys):=fun G v hn hr=>by
  obtain ⟨vs,us,rfl,⟨h1,h2⟩,h3,h4⟩:=hr.fn_inv
  exact .fn f xs ys vs us h1 (fun i hi=>h i hi G _ hn (h2 i hi)) h3 fun i hi=>h' i hi G _ hn (h4 i hi)
theorem Bd.gd {n:Nat} {b:Bool} {x:AV} (h:b=true→Bd n x):Bd n (.gd b x):=fun G v hn hr=> .gd b x v (fun hb=>h hb G v hn (hr.gd_inv hb)) (fun hb=>hr.gd_inv2 hb)
theorem Bd.of_rc {C:Nat→Nat→Option Value} {x:AV} {v:Value} (h:RC C x v) (n:Nat):Bd n x:=by
  induction h with
  |top v=>exact .top n
  |lit v=>exact .lit n v
  |nil full sz a=>exact .sl n full sz []
  |sl full sz xs b off cap f hc hm hf hw hC h1 _ _=>exact .sl n full sz xs
  |sref x j b off f hC h1 _ _=>exact .sref n x j
  |agg xs vs hl h1 _ ih=>exact .agg ih
  |tup xs vs hl _ ih=>exact .tup ih
  |fn f xs ys vs us hl _ hl' _ ih ih'=>exact .fn ih ih'
  |gd b x v _ _ ih=>exact .gd ih
theorem Bd.of_r {x:AV} {v:Value} (h:R G x v):Bd G.n x:=by
  induction h with
  |clo x v h=>exact .of_rc h _
  |arr o ver v ho hv h hs=>exact .arr ho
  |ref o off g ho h=>exact .ref ho
  |eref o ver sz i j v ho hv h hs=>exact .eref ho
  |sub o ver sz lo hi v ho hv h hs=>exact .sub ho
  |mp o g ho h=>exact .mp ho
  |bsl o n g cap ho h hn hm=>exact .bsl ho
  |agg xs vs hl h1 _ ih=>exact .agg ih
  |tup xs vs hl _ ih=>exact .tup ih
  |fn f xs ys vs us hl _ hl' _ ih ih'=>exact .fn ih ih'
  |gd b x v _ _ ih=>exact .gd ih
def BdL (n:Nat) (xs:List AV):Prop:=∀ i,i<xs.length→Bd n (xs.getD i .top)
theorem BdL.nil {n:Nat}:BdL n []:=fun i hi=>by simp at hi
theorem BdL.cons {n:Nat} {x:AV} {xs:List AV} (h:Bd n x) (hs:BdL n xs):BdL n (x::xs):=fun i hi=>by
  cases i with
  |zero=>exact h
  |succ i=>simpa using hs i (by simpa using hi)
def BdS (n:Nat) (σ:List AObj):Prop:=∀ (o:Nat) (t:TypeId) (cs:List AV),σ[o]? =some (AObj.box t cs)→BdL n cs
theorem Rel.bds (hr:Rel cx G σ w):BdS σ.length σ:=by
  intro o t cs ho i hi
  obtain ⟨g,cur,h1,h2,h3,h4,h5⟩:=hr.ok o _ ho
  rw [←hr.n]
  exact .of_r (h4 i hi).1
theorem BdS.set {n:Nat} (h:BdS n σ) (o t:Nat) {cs:List AV} (hc:BdL n cs):BdS n (σ.set o (.box t cs)):=by
  intro o' t' cs' ho
  by_cases e:o'=o
  ·subst e
   by_cases hlt:o'<σ.length
   ·rw [List.getElem?_set_self hlt] at ho;cases ho;exact hc
   ·rw [List.getElem?_eq_none (by simp;omega)] at ho;cases ho
  ·rw [List.getElem?_set_ne (by omega)] at ho;exact h o' t' cs' ho
theorem Rel.trunc (hr:Rel cx G σ w) {n:Nat} (hn:n≤σ.length) (h0:cx.G0.n≤n) (hb:BdS n (σ.take n)):Rel cx {G with n:=n} (σ.take n) w:=by
  have old:∀ o ob,(σ.take n)[o]? =some ob→σ[o]? =some ob:=fun o ob ho=>by
    rw [List.getElem?_take] at ho;split at ho
    ·exact ho
    ·cases ho
  have hGn:n≤G.n:=by rw [hr.n];exact hn
  refine ⟨by simp [hn],?_,fun o1 o2 ob1 ob2 g h1 l1 h2 l2=>hr.inj o1 o2 ob1 ob2 g (old _ _ h1) l1 (old _ _ h2) l2,fun o ob g ho=>hr.own o ob g (old _ _ ho),
    hr.cell,hr.os,hr.tape,hr.output,hr.size,hr.block,hr.old,⟨hr.le0.C,h0,hr.le0.ver,hr.le0.b,hr.le0.p⟩⟩
  intro o ob ho
  have hok:=hr.ok o ob (old o ob ho)
  cases ob with
  |gone=>trivial
  |box t cs=>
   obtain ⟨g,cur,h1,h2,h3,h4,h5⟩:=hok
   exact ⟨g,cur,h1,h2,h3,fun i hi=>⟨hb o t cs ho i hi G _ hGn (h4 i hi).1,(h4 i hi).2⟩,h5⟩
  |arr e sz xs ver fz=>
   obtain ⟨h1,h2,h3⟩:=hok
   refine ⟨h1,h2,?_⟩
   split at h3
   ·rename_i hf;rw [if_pos hf];exact h3
   ·rename_i hf
    rw [if_neg hf]
    rcases h3 with h3|⟨g,cap,cur,h3⟩
    ·exact .inl h3
    ·exact .inr ⟨g,cap,cur,⟨h3.v,h3.pos,h3.blk,h3.le,h3.max,h3.size,h3.wid,h3.one,h3.rel,h3.unc⟩⟩
  |map es=>
   obtain ⟨g,ents,clock,h1,h2⟩:=hok
   exact ⟨g,ents,clock,h1,⟨h2.heap,h2.size,h2.key,h2.val,h2.unc⟩⟩
def finE (n:Nat) (x:AV) (σ:List AObj) (k:AV→List AObj→Prop):Prop:=
  ∃ y r,close2 false (freezeL σ (ids2 x)) x=some y∧LeA y r∧BdS n ((freezeL σ (ids2 x)).take n)∧k r ((freezeL σ (ids2 x)).take n)
theorem freezeO_length (σ:List AObj) (o:Nat):(Fw.freezeO σ o).length=σ.length:=by unfold Fw.freezeO;split<;>simp
theorem freezeL_length (os:List Nat):∀ (σ:List AObj),(Fw.freezeL σ os).length=σ.length:=by
  induction os with
  |nil=>intro σ;rfl
  |cons o os ih=>intro σ;exact (ih _).trans (freezeO_length σ o)
theorem ec_fin {f:FuncId} {args:List AV} {k:AV→List AObj→Prop} (h:BdS σ.length σ→EC P f args σ fun x σ'=>finE σ.length x σ' k):EC P f args σ k:=by
  intro cx G w vs hr hl
  refine (h hr.bds cx G w vs hr hl).mono ?_
  rintro e w' ⟨v,G',σ',x,rfl,hle,hr',hx,y,r,hy,hLe,hbd,hk⟩
  obtain ⟨G1,hG1,hr1⟩:=hr'.freezeL (ids2 x)
  have hrc:RC G1.C y v:=by simpa using close2_sound (live:=false) hr1 (hx.mono hG1) hy
  have hlen:σ.length≤(freezeL σ' (ids2 x)).length:=by
    rw [freezeL_length,←hr.n,←hr'.n];exact hle.n
  have h0:cx.G0.n≤σ.length:=by rw [←hr.n];exact hr.le0.n
  have hle1:=hle.trans hG1
  refine ⟨v,{G1 with n:=σ.length},_,r,rfl,⟨hle1.C,by rw [hr.n];exact Nat.le_refl _,hle1.ver,hle1.b,hle1.p⟩,hr1.trunc hlen h0 hbd,.clo _ _ (hLe _ _ hrc),hk⟩
def wk:AV→AV
  |.sl _ sz xs=> .sl false sz xs
  |x=>x
theorem wk_le (x:AV):LeA x (wk x):=by
  unfold wk
  split
  ·exact LeA.full _ _ _
  ·exact LeA.refl _
def clB (σ:List AObj) (o:Nat):Option (List AObj):=match σ[o]? with
  |some (.box t cs)=>match closeL0 false (freezeL σ (cs.flatMap ids0)) cs with
   |some cs'=>some ((freezeL σ (cs.flatMap ids0)).set o (.box t (cs'.map wk)))
   |none=>none
  |_=>none
theorem freezeO_box {σ:List AObj} {o:Nat} {t:TypeId} {cs:List AV} (h:σ[o]? =some (AObj.box t cs)) (i:Nat):(Fw.freezeO σ i)[o]? =some (AObj.box t cs):=by
  unfold Fw.freezeO
  split
  ·rename_i e sz xs ver hi
   have:i≠o:=fun e'=>by subst e';rw [h] at hi;cases hi
   rw [List.getElem?_set_ne this];exact h
  ·exact h
theorem freezeL_box (os:List Nat):∀ {σ:List AObj} {o:Nat} {t:TypeId} {cs:List AV},σ[o]? =some (AObj.box t cs)→(Fw.freezeL σ os)[o]? =some (AObj.box t cs):=by
  induction os with
  |nil=>intro σ o t cs h;exact h
  |cons i os ih=>intro σ o t cs h;exact ih (freezeO_box h i)
theorem Rel.clB (hr:Rel cx G σ w) {o:Nat} {σ':List AObj} (h:Fw.clB σ o=some σ'):∃ G',G.le G'∧Rel cx G' σ' w:=by
  unfold Fw.clB at h
  split at h
  ·rename_i t cs ho
   split at h
   ·rename_i cs' hcs
    cases h
    obtain ⟨G1,h1,h2⟩:=hr.freezeL (cs.flatMap ids0)
    have ho2:=freezeL_box (cs.flatMap ids0) ho
    obtain ⟨g,cur,q1,q2,q3,q4,q5⟩:=h2.ok o _ ho2
    have htk:∀ i,i<cs.length→(cur.toList.take cs.length).getD i undef=cur.getD i undef:=fun i hi=>by
      simp [Array.getD_eq_getD_getElem?,List.getD,List.getElem?_take,hi]
    have hl:RLG G1 cs (cur.toList.take cs.length):=⟨by simp;omega,fun i hi=>by rw [htk i hi];exact (q4 i hi).1⟩
    have hc:=closeL0_sound (live:=false) h2 hl hcs
    have hlen:cs'.length=cs.length:=by have:=hc.1;simp at this;omega
    refine ⟨G1,h1,h2.turn o _ (.box t (cs'.map wk)) ho2 rfl (Gh.le.refl G1) rfl rfl (fun _ _=>⟨rfl,rfl⟩) ⟨g,cur,q1,q2,by rw [List.length_map];omega,fun i hi=>⟨?_,(q4 i (by rw [List.length_map] at hi;omega)).2⟩,q5⟩
      (fun _ h=> .inl h) rfl rfl rfl (Nat.le_refl _) (fun _ _ _=>rfl)⟩
    rw [List.length_map] at hi
    have:=hc.2 i hi
    have e:(cs'.map wk).getD i .top=wk (cs'.getD i .top):=by simp [List.getD,hi]
    rw [e]
    rw [htk i (by omega)] at this
    exact .clo _ _ (wk_le _ _ _ (by simpa using this))
   ·cases h
  ·cases h
theorem EC.clB {f:FuncId} {args:List AV} {k:AV→List AObj→Prop} {o:Nat} {σ':List AObj} (h:Fw.clB σ o=some σ') (hc:EC P f args σ' k):EC P f args σ k:=by
  intro cx G w vs hr hl
  obtain ⟨G1,h1,h2⟩:=hr.clB h
  refine (hc cx G1 w vs h2 ⟨hl.1,fun i hi=>(hl.2 i hi).mono h1⟩).mono ?_
  rintro e w' ⟨v,G',σ'',x,rfl,hle,q⟩
  exact ⟨v,G',σ'',x,rfl,h1.trans hle,q⟩
def withB (t:TypeId) (σ:List AObj) (o:Nat) (p:List AObj→List AV→Prop):Prop:=match clB σ o with
  |some σ'=>match σ'[o]? with
   |some (.box t' cs)=>t'=t∧p σ' cs
   |_=>False
  |none=>False
theorem withB_inv {t o:Nat} {p:List AObj→List AV→Prop} (h:withB t σ o p):∃ σ' cs,Fw.clB σ o=some σ'∧σ'[o]? =some (.box t cs)∧p σ' cs:=by
  unfold withB at h
  split at h
  ·rename_i σ' hc
   split at h
   ·rename_i t' cs ho
    obtain ⟨rfl,hp⟩:=h
    exact ⟨σ',cs,hc,ho,hp⟩
   ·exact h.elim
  ·exact h.elim
theorem objs_app (σ l m:List AObj):σ++l++m=σ++(l++m):=List.append_assoc _ _ _
theorem getA {τ l:List AObj} {n k:Nat} (h:τ.length=n):(τ++l)[n+k]? =l[k]? :=by
  subst h;rw [List.getElem?_append_right (by omega)];congr 1;omega
theorem getA0 {τ l:List AObj} {n:Nat} (h:τ.length=n):(τ++l)[n]? =l[0]? :=getA (k:=0) h
theorem setA {τ l:List AObj} {n k:Nat} {y:AObj} (h:τ.length=n):(τ++l).set (n+k) y=τ++l.set k y:=by
  subst h;rw [List.set_append_right _ _ (by omega)];congr 2;omega
theorem setA0 {τ l:List AObj} {n:Nat} {y:AObj} (h:τ.length=n):(τ++l).set n y=τ++l.set 0 y:=setA (k:=0) h
theorem takeA {τ l:List AObj} {n:Nat} (h:τ.length=n):(τ++l).take n=τ:=by subst h;simp
theorem get_app_of {σ:List AObj} {o:Nat} {ob:AObj} (ho:σ[o]? =some ob) (l:List AObj):(σ++l)[o]? =some ob:=by
  rw [List.getElem?_append_left (List.getElem?_eq_some_iff.1 ho).1];exact ho
theorem set_app_of {σ:List AObj} {o:Nat} {ob:AObj} (ho:σ[o]? =some ob) (l:List AObj) (y:AObj):(σ++l).set o y=σ.set o y++l:=by
  rw [List.set_append_left _ _ (List.getElem?_eq_some_iff.1 ho).1]
theorem withK_cons {k:IntKind} {n:Int} {xs:List AV} {p:List Int→Prop}:withK k (.lit (.int k n)::xs) p=withK k xs (fun l=>p (n::l)):=by
  unfold withK
  simp only [kOf,if_true]
  cases kOf k xs<;>rfl
attribute [go_sem] withB clB wk objs_app getA getA0 setA setA0 takeA withK_cons List.length_set
end Go.Fw

namespace Go.Fw
open Go Go.ChangeShapes Go.WideShapes Go.ChangeAt Go.RowKit
set_option linter.unusedSectionVars false
variable [TB]
variable {H:Type} {enc:TypeId×Value→H} {P:Program}
def rowed (P:Program) (ts:List TypeId):Bool:=ts.all fun t=>P.readableRec t&&decide (t<P.types.size)
theorem trodAll_stays (hl:laidOutB P=true) {W W':World} (hb:Below W.heap.size W W') {sp:Nat→Bool}:∀ {ts:List TypeId} {vs:List Value} {ds:List (DataW H)} {ps:List MemPlace},rowed P ts=true→
    DataW.TrodAll enc P W 0 (fun _=>true) true ts vs ds ps→(∀ x∈ps,x.block<W.heap.size)→(∀ x∈ps,sp x.block=true)→DataW.TrodAll enc P W' 0 sp true ts vs ds ps
  |[],_,_,_,_,h,_,_=>by
   obtain ⟨rfl,rfl,rfl⟩:=trodAll_nil h
   exact trodAll_mk0
  |t::ts,_,_,_,hr,h,hlt,hsp=>by
   obtain ⟨v,vs,d,ds,p,q,rfl,rfl,rfl,h1,h2⟩:=trodAll_cons h
   simp only [rowed,List.all_cons,Bool.and_eq_true,decide_eq_true_eq] at hr
   refine trodAll_cons_mk (WideElems.Trod_stays hl hr.1.1 hr.1.2 h1 (fun x hx=>hb.same (hlt x (by simp [hx]))) (fun x hx=>hsp x (by simp [hx]))) ?_
   exact trodAll_stays hl hb (by simpa [rowed] using hr.2) h2 (fun x hx=>hlt x (by simp [hx])) (fun x hx=>hsp x (by simp [hx]))
theorem law_post {f:Func} {s:ChangeSpec} {W W':World} {args:Array Value} {ds gs:List (DataW H)} {before:List MemPlace} {tb:TypeId} (hl:laidOutB P=true)
    (hW:DataW.Whole enc P f.params.toList s.vars false W args.toList ds gs before) (hv:s.vars=[]) (hr:rowed P f.params.toList=true) (hb:Below W.heap.size W W')
    (hs:s.fn H (ds++gs)={results:=[.lit (.bool true)],args:=ds}) (ht:f.resultTypes= #[tb]) (hu:P.underlying tb=some .bool):
    s.post enc P f false true false false W args (.bool true) W':=by
  have hlt:=fun p hp=>hW.lt p hp
  have hW':=hW
  obtain ⟨p,q,hA,hV,rfl,hz,hn⟩:=hW
  rw [hv] at hV
  obtain ⟨rfl,rfl⟩:=trodVars_none hV
  simp only [List.append_nil] at*
  have hargs:∀ sp:Nat→Bool,(∀ x∈p,sp x.block=true)→DataW.TrodAll enc P W' 0 sp true f.params.toList args.toList (s.fn H ds).args p:=fun sp hsp=>by
    rw [hs];exact trodAll_stays hl hb hr hA hlt hsp
  have hres:∀ (b:Nat) (sp:Nat→Bool) (hd:Bool),DataW.TrodAll enc P W' b sp hd f.resultTypes.toList ((Value.bool true).resultList f.resultTypes.size) (s.fn H ds).results []:=fun b sp hd=>by
    rw [hs,ht];exact trodAll_cons_mk (shut_bool hu _) trodAll_mk0
  have hvars:∀ sp:Nat→Bool,DataW.TrodVars enc P W' sp s.vars (s.fn H ds).vars []:=fun sp=>by
    rw [hs,hv];rfl
  have hold:∀ x∈p,(fun b=>decide (b<W.heap.size)) x.block=true:=fun x hx=>by simpa using hlt x hx
  refine ⟨ds,[],p,[],p,[],hW',by simpa using hres _ _ _,by simpa using hargs _ hold,by simpa using hvars _,World.keptBut_mono (fun x hx=>⟨hx,?_⟩) (hb.frame _),fun _=>?_⟩
  ·simpa using hx
  ·refine ⟨ok_one ht rfl (okWide_bool_mk hu _),_,_,([]++p)++[],⟨[]++p,[],trodAll_append (by simpa using hargs _ (fun _ _=>rfl)) (by simpa using hres _ _ _),by simpa using hvars _,rfl,?_,?_⟩,?_⟩
   ·intro b off hp
    have hp':MemPlace.cell b off∈p:=by simpa using hp
    rw [hb.frozen (p:=⟨b,off,none⟩) (hlt _ hp')]
    exact hz b off hp'
   ·intro ha;cases ha
   ·intro x hx _;simpa using hx
end Go.Fw

namespace Go.Fw
open Go
set_option linter.unusedSectionVars false
variable [TB]
def LeRL:List AV→List AV→Prop
  |[],[]=>True
  |x::xs,y::ys=>LeR x y∧LeRL xs ys
  |_,_=>False
theorem LeRL.nil:LeRL [] []:=trivial
theorem LeRL.cons {x y:AV} {xs ys:List AV} (h:LeR x y) (hs:LeRL xs ys):LeRL (x::xs) (y::ys):=⟨h,hs⟩
theorem LeRL.rlg {G:Gh}:∀ {xs ys:List AV} {vs:List Value},LeRL xs ys→RLG G xs vs→RLG G ys vs
  |[],[],_,_,h=>h
  |x::xs,y::ys,vs,hl,h=>by
   cases vs with
   |nil=>have:=h.1;simp at this
   |cons v vs=>
    have ih:=LeRL.rlg (G:=G) (vs:=vs) hl.2 ⟨by simpa using h.1,fun i hi=>by simpa using h.2 (i+1) (by simpa using hi)⟩
    refine ⟨by simp [ih.1],fun i hi=>?_⟩
    cases i with
    |zero=>simpa using hl.1 _ _ (by simpa using h.2 0 (by simp))
    |succ i=>simpa using ih.2 i (by simpa using hi)
  |[],_::_,_,hl,_=>hl.elim
  |_::_,[],_,hl,_=>hl.elim
theorem EC.weak {P:Program} {f:FuncId} {as bs:List AV} {σ:List AObj} {k:AV→List AObj→Prop} (h:EC P f bs σ k) (hl:LeRL as bs):EC P f as σ k:=fun cx G w vs hr hv=>h cx G w vs hr (hl.rlg hv)
theorem slA_leR {sz:Nat} {x:AV} {xs:List AV} (h:slA sz x=some xs):LeR x (.sl false sz xs):=by
  unfold slA at h
  split at h
  ·cases h;exact LeR.nil false sz
  ·split at h
   ·rename_i e;cases h;subst e;exact LeR.full _ _ _
   ·cases h
  ·cases h
theorem slK_leR {k:IntKind} {x:AV} {l:List Int} (h:slK k x=some l):LeR x (.sl false 1 (ints k l)):=by
  unfold slK at h
  cases hx:slA 1 x with
  |none=>rw [hx] at h;cases h
  |some xs=>rw [hx] at h;rw [←kOf_inv h];exact slA_leR hx
end Go.Fw

namespace Go.Fw
open Go Go.ChangeShapes Go.WideShapes Go.ChangeAt Go.RowKit Go.Deep
set_option linter.unusedSectionVars false
variable [TB]
variable {H:Type} {enc:TypeId×Value→H} {P:Program} {W:World}
def mkV (P:Program) (e:TypeId) (xs:List AV):AV:=match aggT P e with
  |some true=> .agg xs
  |_=>xs.headD .top
inductive Sh (P:Program):TypeId→List AV→Prop
  |bool (t:TypeId) (b:Bool) (ht:P.underlying t=some .bool):Sh P t [.lit (.bool b)]
  |int (t:TypeId) (k:IntKind) (n:Int) (ht:P.underlying t=some (.int k)) (hn:(Lit.int k n).wf=true):Sh P t [.lit (.int k n)]
  |str (t:TypeId) (s:ByteArray) (ht:P.underlying t=some .string) (hs:s.size≤maxLen):Sh P t [.lit (.string s)]
  |sl (t e:TypeId) (yss:List (List AV)) (ht:P.underlying t=some (.slice e)) (hl:yss.length≤maxLen) (h:∀ xs∈yss,Sh P e xs):Sh P t [.sl false (szT P e) (yss.map (mkV P e))]
  |struct (t:TypeId) (fs:Array Field) (xss:List (List AV)) (ht:P.underlying t=some (.struct fs)) (hl:xss.length=fs.size)
     (h:∀ (i:Nat) (f:Field) (xs:List AV),fs.toList[i]? =some f→xss[i]? =some xs→Sh P f.type xs):Sh P t xss.flatten
  |array (t:TypeId) (n:Nat) (e:TypeId) (xss:List (List AV)) (ht:P.underlying t=some (.array n e)) (hl:xss.length=n) (h:∀ xs∈xss,Sh P e xs):Sh P t xss.flatten
def layFs (P:Program):Nat→List Field→Option Nat
  |o,[]=>some o
  |o,f::fs=>if f.offset=o then layFs P (o+szT P f.type) fs else none
def simT (P:Program):Nat→TypeId→Bool
  |0,_=>false
  |m+1,t=>match P.underlying t with
   |some .bool|some (.int _)|some .string=>szT P t==1
   |some (.slice e)=>simT P m e&&decide (0<szT P e)&&szT P t==1
   |some (.struct fs)=>layFs P 0 fs.toList==some (szT P t)&&fs.toList.all fun f=>simT P m f.type
   |some (.array n e)=>n*szT P e==szT P t&&simT P m e
   |_=>false
theorem cellsOf_sz (t:TypeId):P.cellsOf t=szT P t:=by
  unfold Program.cellsOf szT
  cases P.info? t<;>rfl
def RCs (C:Nat→Nat→Option Value) (xs:List AV) (cs:List Value):Prop:=xs.length=cs.length∧∀ i,i<cs.length→RC C (xs.getD i .top) (cs.getD i undef)∧(cs.getD i undef).oneCell'=true
theorem RCs.nil {C:Nat→Nat→Option Value}:RCs C [] []:=⟨rfl,by simp⟩
theorem RCs.one {C:Nat→Nat→Option Value} {x:AV} {v:Value} (h:RC C x v) (h1:v.oneCell'=true):RCs C [x] [v]:=⟨rfl,fun i hi=>by
  have:i=0:=by simpa using hi
  subst this
  exact ⟨h,h1⟩⟩
theorem RCs.append {C:Nat→Nat→Option Value} {xs ys:List AV} {cs ds:List Value} (h:RCs C xs cs) (k:RCs C ys ds):RCs C (xs++ys) (cs++ds):=by
  refine ⟨by simp [h.1,k.1],fun i hi=>?_⟩
  by_cases e:i<cs.length
  ·rw [getD_app_left cs ds _ e,getD_app_left xs ys _ (by rw [h.1];exact e)]
   exact h.2 i e
  ·rw [getD_app_right cs ds _ (by omega),getD_app_right xs ys _ (by rw [h.1];omega),h.1]
   exact k.2 (i - cs.length) (by simp at hi;omega)
theorem sh_cells {e:TypeId} {xs:List AV} (h:Sh P e xs):(mkV P e xs).cells=xs:=by
  unfold mkV
  cases h with
  |bool t b ht=>have:aggT P e=some false:=by simp [aggT,ht]
                rw [this];rfl
  |int t k n ht=>have:aggT P e=some false:=by simp [aggT,ht]
                 rw [this];rfl
  |str t s ht=>have:aggT P e=some false:=by simp [aggT,ht]
               rw [this];rfl
  |sl t e' yss ht=>have:aggT P e=some false:=by simp [aggT,ht]
                   rw [this];rfl
  |struct t fs xss ht=>have:aggT P e=some true:=by simp [aggT,ht]
                       rw [this];rfl
  |array t n e' xss ht=>have:aggT P e=some true:=by simp [aggT,ht]
                        rw [this];rfl
theorem flat_mkV {e:TypeId}:∀ {yss:List (List AV)},(∀ xs∈yss,Sh P e xs)→flat (yss.map (mkV P e))=yss.flatten
  |[],_=>rfl
  |xs::yss,h=>by
   have ih:=flat_mkV (yss:=yss) fun ys hy=>h ys (by simp [hy])
   simp only [flat,List.map_cons,List.flatMap_cons,List.flatten_cons,sh_cells (h xs (by simp))] at ih ⊢
   rw [ih]
theorem rcs_fields {C:Nat→Nat→Option Value} {cs:List Value}:∀ (fs:List Field) (o z:Nat),layFs P o fs=some z→z=cs.length→
    (∀ f∈fs,∃ xs,Sh P f.type xs∧RCs C xs ((cs.drop f.offset).take (szT P f.type)))→
    ∃ xss:List (List AV),xss.length=fs.length∧(∀ (i:Nat) (f:Field) (xs:List AV),fs[i]? =some f→xss[i]? =some xs→Sh P f.type xs)∧RCs C xss.flatten (cs.drop o)
  |[],o,z,hl,hz,_=>by
   simp only [layFs,Option.some.injEq] at hl
   exact ⟨[],rfl,by simp,by rw [List.drop_of_length_le (by omega)];exact RCs.nil⟩
  |f::fs,o,z,hl,hz,h=>by
   simp only [layFs] at hl
   split at hl
   ·rename_i ho
    obtain ⟨xs,hs,hr⟩:=h f (by simp)
    obtain ⟨xss,h1,h2,h3⟩:=rcs_fields fs _ z hl hz fun g hg=>h g (by simp [hg])
    refine ⟨xs::xss,by simp [h1],fun i g ys hg hy=>?_,?_⟩
    ·cases i with
     |zero=>simp at hg hy;subst hg hy;exact hs
     |succ i=>exact h2 i g ys (by simpa using hg) (by simpa using hy)
    ·rw [ho] at hr
     have e:cs.drop o=(cs.drop o).take (szT P f.type)++cs.drop (o+szT P f.type):=by
       rw [←List.drop_drop,List.take_append_drop]
     rw [e,List.flatten_cons]
     exact hr.append h3
   ·cases hl
theorem rcs_elems {C:Nat→Nat→Option Value} {e:TypeId} {sz:Nat} {cs:List Value}:∀ (n o:Nat),n*sz+o=cs.length→
    (∀ i,i<n→∃ xs,Sh P e xs∧RCs C xs ((cs.drop (o+i*sz)).take sz))→
    ∃ xss:List (List AV),xss.length=n∧(∀ xs∈xss,Sh P e xs)∧RCs C xss.flatten (cs.drop o)
  |0,o,hz,_=>⟨[],rfl,by simp,by rw [List.drop_of_length_le (by omega)];exact RCs.nil⟩
  |n+1,o,hz,h=>by
   obtain ⟨xs,hs,hr⟩:=h 0 (by omega)
   obtain ⟨xss,h1,h2,h3⟩:=rcs_elems (C:=C) (e:=e) (sz:=sz) (cs:=cs) n (o+sz) (by rw [Nat.add_mul] at hz;omega) fun i hi=>by
     have:=h (i+1) (by omega)
     rwa [show o+(i+1)*sz=o+sz+i*sz by rw [Nat.add_mul];omega] at this
   refine ⟨xs::xss,by simp [h1],fun ys hy=>?_,?_⟩
   ·rcases List.mem_cons.1 hy with rfl|hy
    ·exact hs
    ·exact h2 ys hy
   ·rw [Nat.zero_mul,Nat.add_zero] at hr
    have e:cs.drop o=(cs.drop o).take sz++cs.drop (o+sz):=by
      rw [←List.drop_drop,List.take_append_drop]
    rw [e,List.flatten_cons]
    exact hr.append h3
theorem choose_lt' {α:Type} [Inhabited α] {p:Nat→α→Prop}:∀ {n:Nat},(∀ i,i<n→∃ x,p i x)→∃ l:List α,l.length=n∧∀ i,i<n→p i (l.getD i default)
  |0,_=>⟨[],rfl,by omega⟩
  |n+1,h=>by
   obtain ⟨x,hx⟩:=h n (by omega)
   obtain ⟨l,hl,hp⟩:=choose_lt' (n:=n) fun i hi=>h i (by omega)
   refine ⟨l++[x],by simp [hl],fun i hi=>?_⟩
   by_cases e:i<n
   ·rw [getD_app_left _ _ _ (by omega)];exact hp i e
   ·have:i=n:=by omega
    subst this
    rw [getD_app_right _ _ _ (by omega),hl,Nat.sub_self]
    simpa using hx
theorem flatten_getD {sz:Nat}:∀ {yss:List (List AV)} (_:∀ xs∈yss,xs.length=sz) (i r:Nat),i<yss.length→r<sz→(yss.flatten).getD (i*sz+r) .top=(yss.getD i []).getD r .top
  |[],_,i,r,hi,_=>by simp at hi
  |xs::yss,h,i,r,hi,hr=>by
   have h0:=h xs (by simp)
   cases i with
   |zero=>rw [List.flatten_cons,Nat.zero_mul,Nat.zero_add,getD_app_left _ _ _ (by omega)];rfl
   |succ i=>
    rw [List.flatten_cons,getD_app_right _ _ _ (by rw [Nat.add_mul];omega),h0,show (i+1)*sz+r - sz=i*sz+r by rw [Nat.add_mul];omega]
    have:=flatten_getD (yss:=yss) (fun ys hy=>h ys (by simp [hy])) i r (by simpa using hi) hr
    simpa using this
theorem flatten_len {sz:Nat}:∀ {yss:List (List AV)},(∀ xs∈yss,xs.length=sz)→yss.flatten.length=yss.length*sz
  |[],_=>by simp
  |xs::yss,h=>by
   rw [List.flatten_cons,List.length_append,h xs (by simp),flatten_len fun ys hy=>h ys (by simp [hy]),List.length_cons,Nat.add_mul]
   omega
theorem open_sh {held:Bool} {base:Nat} {sp:Nat→Bool} (hsp:∀ b,sp b=true):∀ (m:Nat) (t:TypeId) (fuel:Nat) (cs:List Value) (x:DataW H×List MemPlace),simT P m t=true→DataW.trod enc P W base sp held fuel t cs=some x→
    ∃ xs,Sh P t xs∧RCs (allC W) xs cs∧cs.length=szT P t:=by
  intro m
  induction m with
  |zero=>intro t fuel cs x hm;cases hm
  |succ m ih=>
   intro t fuel cs x hm h
   unfold simT at hm
   split at hm
   ·rename_i ht
    have hz:szT P t=1:=by simpa using hm
    cases fuel with
    |zero=>simp [DataW.trod] at h
    |succ n=>
     unfold DataW.trod at h
     rw [ht] at h
     rcases cs with _|⟨v,_|⟨_,_⟩⟩
     ·simp at h
     ·cases v<;>simp at h
      exact ⟨_,.bool t _ ht,RCs.one (.lit _) rfl,by rw [hz];rfl⟩
     ·simp at h
   ·rename_i k ht
    have hz:szT P t=1:=by simpa using hm
    cases fuel with
    |zero=>simp [DataW.trod] at h
    |succ n=>
     unfold DataW.trod at h
     rw [ht] at h
     rcases cs with _|⟨v,_|⟨_,_⟩⟩
     ·simp at h
     ·cases v<;>simp at h
      obtain ⟨⟨rfl,hw⟩,_⟩:=h
      exact ⟨_,.int t _ _ ht hw,RCs.one (.lit _) rfl,by rw [hz];rfl⟩
     ·simp at h
   ·rename_i ht
    have hz:szT P t=1:=by simpa using hm
    cases fuel with
    |zero=>simp [DataW.trod] at h
    |succ n=>
     unfold DataW.trod at h
     rw [ht] at h
     rcases cs with _|⟨v,_|⟨_,_⟩⟩
     ·simp at h
     ·cases v<;>simp at h
      exact ⟨_,.str t _ ht h.1,RCs.one (.lit _) rfl,by rw [hz];rfl⟩
     ·simp at h
   ·rename_i e ht
    simp only [Bool.and_eq_true,decide_eq_true_eq,beq_iff_eq] at hm
    obtain ⟨⟨hm,hpos⟩,hz⟩:=hm
    rcases open_slice ht h with ⟨rfl,_⟩|⟨a,len,cap,mm,n,D,Pl,rfl,_,hl,hcm,hmm,_,hx⟩
    ·exact ⟨_,.sl t e [] ht (Nat.zero_le _) (by simp),RCs.one (.nil _ _ _) rfl,by rw [hz];rfl⟩
    ·rw [hsp,if_pos rfl] at hmm
     subst hmm
     by_cases hc0:mm=0
     ·subst hc0
      have:len=0:=by omega
      subst this
      exact ⟨_,.sl t e [] ht (Nat.zero_le _) (by simp),RCs.one (.nil _ _ _) rfl,by rw [hz];rfl⟩
     ·
      obtain ⟨c0,hc0',_⟩:=hx 0 (by omega)
      have hcell0:=(World.cells?_some hc0').2.2 0 (by rw [cellsOf_sz];exact hpos)
      have hlen0:=(World.cells?_some hc0').2.1
      have hspot:a.spot=none:=by
        rw [List.getElem?_eq_getElem (by rw [hlen0,cellsOf_sz];exact hpos)] at hcell0
        unfold World.cell? at hcell0
        split at hcell0
        ·split at hcell0
         ·cases hcell0
         ·rename_i hs;simpa [Addr.add] using hs
        ·cases hcell0
      obtain ⟨b,off,spot⟩:=a
      simp only at hspot
      subst hspot
      have hel:∀ i,i<len→∃ xs,Sh P e xs∧xs.length=szT P e∧∀ r,r<szT P e→∃ v,W.cell? ⟨b,off+(i*szT P e+r),none⟩=some v∧RC (allC W) (xs.getD r .top) v∧v.oneCell'=true:=by
        intro i hi
        obtain ⟨cs',h1,h2⟩:=hx i (by omega)
        obtain ⟨xs,k1,k2,k3⟩:=ih e n cs' _ hm h2
        obtain ⟨_,q2,q3⟩:=World.cells?_some h1
        rw [cellsOf_sz] at q3
        refine ⟨xs,k1,by rw [k2.1,k3],fun r hr=>?_⟩
        have hr':r<cs'.length:=by rw [k3];exact hr
        have:=k2.2 r hr'
        refine ⟨cs'.getD r undef,?_,this⟩
        have e1:=q3 r hr
        rw [Addr.add_plain,Addr.add_plain] at e1
        rw [show off+(i*szT P e+r)=off+i*szT P e+r by omega,e1,getD_elem _ _ hr',List.getElem?_eq_getElem hr']
      obtain ⟨yss,hy1,hy2⟩:=choose_lt' (p:=fun i xs=>Sh P e xs∧xs.length=szT P e∧∀ r,r<szT P e→∃ v,W.cell? ⟨b,off+(i*szT P e+r),none⟩=some v∧RC (allC W) (xs.getD r .top) v∧v.oneCell'=true) hel
      have hmem:∀ xs∈yss,Sh P e xs∧xs.length=szT P e:=by
        intro xs hxs
        obtain ⟨i,hi,rfl⟩:=List.getElem_of_mem hxs
        have:=hy2 i (by omega)
        rw [getD_elem _ _ hi] at this
        exact ⟨this.1,this.2.1⟩
      have hfl:=flat_mkV (P:=P) (e:=e) (yss:=yss) fun xs hxs=>(hmem xs hxs).1
      have hfl2:=flatten_len (sz:=szT P e) (yss:=yss) fun xs hxs=>(hmem xs hxs).2
      have key:∀ j,j<yss.flatten.length→∃ v,W.cell? ⟨b,off+j,none⟩=some v∧RC (allC W) (yss.flatten.getD j .top) v∧v.oneCell'=true:=by
        intro j hj
        rw [hfl2,hy1] at hj
        have hi:j / szT P e<len:=Nat.div_lt_of_lt_mul (by rw [Nat.mul_comm];exact hj)
        have hr:j % szT P e<szT P e:=Nat.mod_lt _ hpos
        have ej:j=j / szT P e*szT P e+j % szT P e:=by rw [Nat.mul_comm];exact (Nat.div_add_mod j _).symm
        obtain ⟨v,v1,v2,v3⟩:=(hy2 _ hi).2.2 _ hr
        refine ⟨v,by rw [ej];exact v1,?_,v3⟩
        rw [ej,flatten_getD (fun xs hxs=>(hmem xs hxs).2) _ _ (by rw [hy1];exact hi) hr]
        exact v2
      refine ⟨_,.sl t e yss ht (by omega) fun xs hxs=>(hmem xs hxs).1,RCs.one ?_ rfl,by rw [hz];rfl⟩
      have hyl:(yss.map (mkV P e)).length=len:=by simp [hy1]
      rw [←hyl]
      refine .sl false _ _ b off mm (fun j=>(W.cell? ⟨b,off+j,none⟩).getD undef) (by rw [hyl];omega) hcm (by simp) (fun x hx=>?_) (fun j hj=>?_) (fun j hj=>?_) (fun j hj=>?_)
      ·obtain ⟨xs,hxs,rfl⟩:=List.mem_map.1 hx
       rw [sh_cells (hmem xs hxs).1,(hmem xs hxs).2]
      ·rw [hfl] at hj
       obtain ⟨v,v1,_⟩:=key j hj
       simp only [allC];rw [v1];rfl
      ·rw [hfl] at hj
       obtain ⟨v,v1,_,v3⟩:=key j hj
       rw [v1];exact v3
      ·rw [hfl] at hj ⊢
       obtain ⟨v,v1,v2,_⟩:=key j hj
       rw [v1];exact v2
   ·rename_i fs ht
    simp only [Bool.and_eq_true,beq_iff_eq,List.all_eq_true] at hm
    obtain ⟨xs,n,_,rfl,hl,hlen,hf⟩:=DataW.trod_struct ht h
    rw [cellsOf_sz] at hl
    obtain ⟨xss,h1,h2,h3⟩:=rcs_fields (P:=P) (C:=allC W) (cs:=cs) fs.toList 0 _ hm.1 hl.symm fun f hfm=>by
      obtain ⟨i,hi,rfl⟩:=List.getElem_of_mem hfm
      have hfi:=hf i fs.toList[i] (by simp at hi;simp [hi])
      cases hxi:xs[i]? with
      |none=>
       exfalso
       have:i<xs.length:=by rw [hlen];simpa using hi
       rw [List.getElem?_eq_getElem this] at hxi
       cases hxi
      |some y=>
       rw [hxi] at hfi
       obtain ⟨ys,k1,k2,_⟩:=ih _ n _ y (hm.2 _ hfm) hfi
       rw [cellsOf_sz] at k2
       exact ⟨ys,k1,k2⟩
    exact ⟨_,.struct t fs xss ht (by simpa using h1) h2,by simpa using h3,hl⟩
   ·rename_i n e ht
    simp only [Bool.and_eq_true,beq_iff_eq] at hm
    obtain ⟨xs,k,_,rfl,hl,hlen,hf⟩:=DataW.trod_array ht h
    rw [cellsOf_sz] at hl
    obtain ⟨xss,h1,h2,h3⟩:=rcs_elems (P:=P) (C:=allC W) (e:=e) (sz:=szT P e) (cs:=cs) n 0 (by rw [hl,hm.1];omega) fun i hi=>by
      have hfi:=hf i hi
      cases hxi:xs[i]? with
      |none=>
       exfalso
       rw [List.getElem?_eq_getElem (by omega)] at hxi
       cases hxi
      |some y=>
       rw [hxi] at hfi
       obtain ⟨ys,k1,k2,_⟩:=ih _ k _ y hm.2 hfi
       rw [cellsOf_sz] at k2
       exact ⟨ys,k1,by simpa using k2⟩
    exact ⟨_,.array t n e xss ht h1 h2,by simpa using h3,hl⟩
   ·cases hm
end Go.Fw

namespace Go.Fw
open Go Go.ChangeShapes Go.WideShapes Go.ChangeAt Go.RowKit
set_option linter.unusedSectionVars false
variable [TB]
variable {H:Type} {enc:TypeId×Value→H} {P:Program} {W:World}
def ShV (P:Program) (t:TypeId) (x:AV):Prop:=∃ c,Sh P t c∧x=mkV P t c
def ShL (P:Program):List TypeId→List AV→Prop
  |[],[]=>True
  |t::ts,x::xs=>ShV P t x∧ShL P ts xs
  |_,_=>False
theorem sh_int {t:TypeId} {k:IntKind} {xs:List AV} (ht:P.underlying t=some (.int k)) (h:Sh P t xs):∃ n,xs=[.lit (.int k n)]∧(Lit.int k n).wf=true:=by
  cases h<;>rename_i h'<;>first|(rw [ht] at h';cases h';done)|skip
  all_goals simp_all
theorem sh_str {t:TypeId} {xs:List AV} (ht:P.underlying t=some .string) (h:Sh P t xs):∃ s:ByteArray,xs=[.lit (.string s)]∧s.size≤maxLen:=by
  cases h<;>simp_all
theorem sh_slice {t e:TypeId} {xs:List AV} (ht:P.underlying t=some (.slice e)) (h:Sh P t xs):∃ ys,xs=[.sl false (szT P e) ys]∧ys.length≤maxLen∧∀ y∈ys,ShV P e y:=by
  cases h with
  |sl t e' yss ht' hl hy=>
   rw [ht] at ht'
   cases ht'
   exact ⟨_,rfl,by simpa using hl,fun y hm=>by
     obtain ⟨c,hc,rfl⟩:=List.mem_map.1 hm
     exact ⟨c,hy c hc,rfl⟩⟩
  |_=>simp_all
theorem sh_struct {t:TypeId} {fs:Array Field} {xs:List AV} (ht:P.underlying t=some (.struct fs)) (h:Sh P t xs):
    ∃ xss:List (List AV),xs=xss.flatten∧xss.length=fs.size∧∀ (i:Nat) (f:Field) (ys:List AV),fs.toList[i]? =some f→xss[i]? =some ys→Sh P f.type ys:=by
  cases h with
  |struct t fs' xss ht' hl hx=>
   rw [ht] at ht'
   cases ht'
   exact ⟨xss,rfl,hl,hx⟩
  |_=>simp_all
theorem mkV_one {t:TypeId} {x:AV} (h:aggT P t=some false):mkV P t [x]=x:=by unfold mkV;rw [h];rfl
theorem mkV_agg {t:TypeId} {xs:List AV} (h:aggT P t=some true):mkV P t xs= .agg xs:=by unfold mkV;rw [h]
theorem shv_int {t:TypeId} {k:IntKind} {x:AV} (ht:P.underlying t=some (.int k)) (h:ShV P t x):∃ n,x= .lit (.int k n)∧(Lit.int k n).wf=true:=by
  obtain ⟨c,hc,rfl⟩:=h
  obtain ⟨n,rfl,hn⟩:=sh_int ht hc
  exact ⟨n,mkV_one (by simp [aggT,ht]),hn⟩
theorem list_ints {k:IntKind} {q:Int→Prop}:∀ {ys:List AV},(∀ y∈ys,∃ n,y= .lit (.int k n)∧q n)→∃ l:List Int,ys=ints k l∧∀ n∈l,q n
  |[],_=>⟨[],rfl,by simp⟩
  |y::ys,h=>by
   obtain ⟨n,rfl,hn⟩:=h y (by simp)
   obtain ⟨l,rfl,hl⟩:=list_ints (ys:=ys) fun z hz=>h z (by simp [hz])
   exact ⟨n::l,rfl,fun m hm=>by rcases List.mem_cons.1 hm with rfl|hm;exact hn;exact hl m hm⟩
theorem sh_ints {t e:TypeId} {k:IntKind} {xs:List AV} (ht:P.underlying t=some (.slice e)) (he:P.underlying e=some (.int k)) (hz:szT P e=1) (h:Sh P t xs):
    ∃ l:List Int,xs=[.sl false 1 (ints k l)]∧l.length≤maxLen∧∀ n∈l,(Lit.int k n).wf=true:=by
  obtain ⟨ys,rfl,hl,hy⟩:=sh_slice ht h
  obtain ⟨l,rfl,hl'⟩:=list_ints fun y hm=>shv_int he (hy y hm)
  exact ⟨l,by rw [hz],by simpa [ints] using hl,hl'⟩
theorem shv_ints {t e:TypeId} {k:IntKind} {x:AV} (ht:P.underlying t=some (.slice e)) (he:P.underlying e=some (.int k)) (hz:szT P e=1) (h:ShV P t x):
    ∃ l:List Int,x= .sl false 1 (ints k l)∧l.length≤maxLen∧∀ n∈l,(Lit.int k n).wf=true:=by
  obtain ⟨c,hc,rfl⟩:=h
  obtain ⟨l,rfl,hl⟩:=sh_ints ht he hz hc
  exact ⟨l,mkV_one (by simp [aggT,ht]),hl⟩
theorem shv_agg {t:TypeId} {x:AV} (ha:aggT P t=some true) (h:ShV P t x):∃ c,x= .agg c∧Sh P t c:=by
  obtain ⟨c,hc,rfl⟩:=h
  exact ⟨c,mkV_agg ha,hc⟩
theorem wf_i64 {a:Int} (w:(Lit.int .i64 a).wf=true):inI64 a:=by
  have: -9223372036854775808≤a∧a≤9223372036854775807:=by simpa [Lit.wf,IntKind.min,IntKind.max,IntKind.signed,IntKind.bits] using w
  exact this
theorem wf_u8 {a:Int} (w:(Lit.int .u8 a).wf=true):0≤a∧a<256:=by
  have:0≤a∧a≤255:=by simpa [Lit.wf,IntKind.min,IntKind.max,IntKind.signed,IntKind.bits] using w
  omega
theorem arg_rc {held:Bool} {base b0:Nat} {sp:Nat→Bool} (hsp:∀ b,sp b=true) {m:Nat} {t:TypeId} {v:Value} {d:DataW H} {ps:List MemPlace} (hm:simT P m t=true) (hval:Value.okWide P W .any base t v)
    (h:DataW.Trod enc P W b0 sp held t v d ps):∃ x,ShV P t x∧RC (allC W) x v:=by
  obtain ⟨fuel,h⟩:=h
  obtain ⟨xs,h1,h2,h3⟩:=open_sh hsp m t fuel _ _ hm h
  refine ⟨_,⟨xs,h1,rfl⟩,?_⟩
  have agg:∀ (_:aggT P t=some true),(∃ cs,v= .agg cs)→RC (allC W) (mkV P t xs) v:=by
    rintro ha ⟨cs,rfl⟩
    rw [mkV_agg ha]
    have e:cs=cs.toList.toArray:=by simp
    simp only [Value.cells] at h2
    conv=>rhs;rw [e]
    exact .agg xs cs.toList h2.1.symm (fun i hi=>(h2.2 i (by rw [←h2.1];exact hi)).2) (fun i hi=>(h2.2 i (by rw [←h2.1];exact hi)).1)
  have one:∀ {x:AV},xs=[x]→(aggT P t=some false)→(∀ cs,v≠ .agg cs)→RC (allC W) (mkV P t xs) v:=by
    rintro x rfl ha hv
    rw [mkV_one ha]
    have hc:v.cells= #[v]:=by
      cases v<;>first|rfl|(exfalso;exact hv _ rfl)
    have:=h2.2 0 (by rw [←h2.1];simp)
    rw [hc] at this
    simpa using this.1
  have notAgg:(∀ fs,P.underlying t≠some (.struct fs))→(∀ n e,P.underlying t≠some (.array n e))→(∀ ms,P.underlying t≠some (.interface ms))→(∀ k e,P.underlying t≠some (.map k e))→
    (∀ a b c,P.underlying t≠some (.func a b c))→(∀ a b,P.underlying t≠some (.chan a b))→P.underlying t≠some .unsafePointer→∀ cs,v≠ .agg cs:=by
    rintro a1 a2 a3 a4 a5 a6 a7 cs rfl
    unfold Value.okWide at hval
    split at hval
    ·rename_i ht;exact a1 _ ht
    ·rename_i ht;exact a2 _ _ ht
    ·unfold Cell.okWide at hval
     split at hval<;>first|(exfalso;simp_all;done)|skip
     unfold Cell.ok at hval
     split at hval<;>simp_all
  cases h1 with
  |bool t b ht=>exact one rfl (by simp [aggT,ht]) (notAgg (by simp [ht]) (by simp [ht]) (by simp [ht]) (by simp [ht]) (by simp [ht]) (by simp [ht]) (by simp [ht]))
  |int t k n ht=>exact one rfl (by simp [aggT,ht]) (notAgg (by simp [ht]) (by simp [ht]) (by simp [ht]) (by simp [ht]) (by simp [ht]) (by simp [ht]) (by simp [ht]))
  |str t s ht=>exact one rfl (by simp [aggT,ht]) (notAgg (by simp [ht]) (by simp [ht]) (by simp [ht]) (by simp [ht]) (by simp [ht]) (by simp [ht]) (by simp [ht]))
  |sl t e' yss ht=>exact one rfl (by simp [aggT,ht]) (notAgg (by simp [ht]) (by simp [ht]) (by simp [ht]) (by simp [ht]) (by simp [ht]) (by simp [ht]) (by simp [ht]))
  |struct t fs xss ht=>
   refine agg (by simp [aggT,ht]) ?_
   unfold Value.okWide at hval
   rw [ht] at hval
   exact ⟨_,hval.choose_spec.1⟩
  |array t n e' xss ht=>
   refine agg (by simp [aggT,ht]) ?_
   unfold Value.okWide at hval
   rw [ht] at hval
   exact ⟨_,hval.choose_spec.1⟩
theorem args_shl {base:Nat} {m:Nat}:∀ {ts:List TypeId} {vs:List Value} {ds:List (DataW H)} {ps:List MemPlace},ts.all (simT P m)=true→
    (∀ (j:Nat) (t:TypeId) (v:Value),ts[j]? =some t→vs[j]? =some v→Value.okWide P W .any base t v)→
    DataW.TrodAll enc P W 0 (fun _=>true) true ts vs ds ps→ds.length=ts.length∧∃ xs,ShL P ts xs∧RL (allC W) xs vs
  |[],_,_,_,_,_,h=>by
   obtain ⟨rfl,rfl,rfl⟩:=trodAll_nil h
   exact ⟨rfl,[],trivial,rfl,by simp⟩
  |t::ts,_,_,_,hs,hv,h=>by
   obtain ⟨v,vs,d,ds,p,q,rfl,rfl,rfl,h1,h2⟩:=trodAll_cons h
   simp only [List.all_cons,Bool.and_eq_true] at hs
   obtain ⟨x,k1,k2⟩:=arg_rc (fun _=>rfl) hs.1 (hv 0 t v rfl rfl) h1
   obtain ⟨hl,xs,k3,k4⟩:=args_shl (ts:=ts) hs.2 (fun j u w hu hw=>hv (j+1) u w (by simpa using hu) (by simpa using hw)) h2
   refine ⟨by simp [hl],x::xs,⟨k1,k3⟩,by simp [k4.1],fun i hi=>?_⟩
   cases i with
   |zero=>simpa using k2
   |succ i=>simpa using k4.2 i (by simpa using hi)
theorem law_body {f:FuncId} {fn:Func} {s:ChangeSpec} {base:Nat} {args:Array Value} {ds gs:List (DataW H)} {before:List MemPlace} {tb:TypeId} {m:Nat}
    (hpc:∀ xs,ShL P fn.params.toList xs→PC P f xs (.lit (.bool true))) (hl:laidOutB P=true) (hs:fn.params.toList.all (simT P m)=true) (hv:s.vars=[]) (hr:rowed P fn.params.toList=true)
    (hfn:∀ ds:List (DataW H),ds.length=fn.params.toList.length→s.fn H ds={results:=[.lit (.bool true)],args:=ds}) (ht:fn.resultTypes= #[tb]) (hu:P.underlying tb=some .bool)
    (hval:∀ (j:Nat) t v,fn.params[j]? =some t→args[j]? =some v→Value.okWide P W .any base t v) (hW:DataW.Whole enc P fn.params.toList s.vars false W args.toList ds gs before) (hT:TbIn W):
    Calls P f args W fun e W'=>∃ v,e= .returned v∧s.post enc P fn false true false false W args v W':=by
  have hW':=hW
  obtain ⟨p,q,hA,hV,rfl,hz,hn⟩:=hW
  rw [hv] at hV
  obtain ⟨rfl,rfl⟩:=trodVars_none hV
  obtain ⟨hdl,xs,hx,hrl⟩:=args_shl hs (fun j t v h1 h2=>hval j t v (by simpa using h1) (by simpa using h2)) hA
  have:=law_of_pc (hpc xs hx) W args.toList hrl hT
  rw [show args.toList.toArray=args by simp] at this
  refine this.mono fun e W' ⟨he,hb⟩=>?_
  subst he
  exact ⟨_,rfl,law_post hl hW' hv hr hb (by rw [List.append_nil];exact hfn ds hdl) ht hu⟩
end Go.Fw

namespace Go.Fw
set_option linter.unusedSectionVars false
variable [TB]
theorem la_cons {α:Type} {a:α} {as bs:List α}:(a::as).append bs=a::as.append bs:=rfl
theorem la_nil {α:Type} {bs:List α}:List.append [] bs=bs:=rfl
attribute [go_sem] la_cons la_nil
end Go.Fw

namespace Go.Fw
open Go
set_option linter.unusedSectionVars false
variable [TB]
variable {P:Program}
theorem ints_getJ (k:IntKind) (l:List Int) (i:Nat):(ints k l).getD i (.lit (.int k 0))= .lit (.int k (l.getD i 0)):=by
  simp only [ints,List.getD_eq_getElem?_getD,List.getElem?_map];cases l[i]? <;>rfl
attribute [go_sem] ints_getJ ints_set
theorem le_nil {n0:Nat} {f:Nat→AV} {σ:List AObj} (i e sz:Nat) (h:f i= .lit (.slice none 0 0)):Le n0 ⟨f,σ⟩ ⟨upd f i (.arr σ.length 0),σ++[.arr e sz [] 0 false]⟩:=by
  intro cx G w N a _ hr hf
  obtain ⟨G',h1,h2,h3⟩:=Rel.newEmpty hr e sz none
  refine ⟨G',h2,hf.size,hf.defers,fun j=>?_⟩
  have hj:R G' (f j) (a.tmps.getD j undef):=(hf.rel j).mono h1
  simp only [upd]
  split
  ·rename_i e;subst e;rw [h] at hj;rw [hj.lit_inv];exact h3
  ·exact hj
theorem le_freeze {n0:Nat} {f:Nat→AV} {σ:List AObj} (i:Nat) {o e sz ver:Nat} {xs:List AV} (h:f i= .arr o ver) (ho:σ[o]? =some (.arr e sz xs ver false)):Le n0 ⟨f,σ⟩ ⟨upd f i (.sl false sz xs),σ.set o (.arr e sz xs ver true)⟩:=by
  intro cx G w N a _ hr hf
  obtain ⟨G',h1,h2⟩:=Rel.freezeO hr o
  have e1:Fw.freezeO σ o=σ.set o (.arr e sz xs ver true):=by unfold Fw.freezeO;rw [ho]
  rw [e1] at h2
  refine ⟨G',h2,hf.size,hf.defers,fun j=>?_⟩
  have hj:R G' (f j) (a.tmps.getD j undef):=(hf.rel j).mono h1
  simp only [upd]
  split
  ·rename_i e2;subst e2;rw [h] at hj
   have hc:Fw.arrOf false (σ.set o (.arr e sz xs ver true)) o ver=some (.sl false sz xs):=by unfold Fw.arrOf;rw [get_set ho];simp
   have:=arrOf_sound (live:=false) h2 hj hc
   exact .clo _ _ (by simpa using this)
  ·exact hj
def delF (f:Nat→AV) (i:Nat):Nat→AV:=fun j=>if j=i then .top else f j
theorem delF_top (i:Nat):delF topF i=topF:=by funext j;simp [delF,topF]
theorem delF_upd (f:Nat→AV) (i j:Nat) (x:AV):delF (upd f j x) i=if j=i then delF f i else upd (delF f i) j x:=by
  funext k
  split
  ·rename_i e;subst e;simp only [delF,upd];split<;>rfl
  ·rename_i e
   simp only [delF,upd]
   split
   ·rename_i e2;subst e2;rw [if_neg (fun h=>e h.symm)]
   ·rfl
def updL (f:Nat→AV):List (Nat×AV)→Nat→AV
  |[]=>f
  |p::l=>upd (delF (updL f l) p.1) p.1 p.2
theorem or_na (a b:Bool):(a||(!a&&b))=(a||b):=by cases a<;>rfl
variable {E:Env} {keep:Nat→List Nat} {n0:Nat}
theorem t_loopF {c:Code} {Q:Exit→AS→Prop} {f:Nat→AV} {σ:List AObj} {ι:Type} (S:ι→List (Nat×AV)) (g:ι→List AObj) (m:ι→Nat) (i0:ι) (h0:Le n0 ⟨f,σ⟩ ⟨updL f (S i0),g i0⟩)
    (h:∀ i,∀ K:KT (fun s'=>∃ j,m j<m i∧Le n0 s' ⟨updL f (S j),g j⟩),awp P E keep n0 c (thenQ K.k Q) ⟨updL f (S i),g i⟩):awp P E keep n0 (.loop c) Q ⟨f,σ⟩:=
  ⟨ι,fun i=>⟨updL f (S i),g i⟩,m,i0,h0,fun i=>h i ⟨_,fun _ h=>h⟩⟩
theorem updL_nil {f:Nat→AV}:updL f []=f:=rfl
theorem updL_cons {f:Nat→AV} {i:Nat} {x:AV} {l:List (Nat×AV)}:updL f ((i,x)::l)=upd (delF (updL f l) i) i x:=rfl
attribute [go_sem] delF_top delF_upd updL_nil updL_cons or_na
def endP (o:Option AV) (k:AV→List AObj→Prop) (σ:List AObj):Prop:=match o with
  |some x=>k x σ
  |none=>False
theorem endP_some {x:AV} {k:AV→List AObj→Prop} {σ:List AObj}:endP (some x) k σ=k x σ:=rfl
theorem end_retE {rs:List ResultVar} {k:AV→List AObj→Prop} {K:QT (endQ P rs k)} {s:AS} (h:endP (resV P s rs) k s.σ):K.k .ret s:=by
  unfold endP at h
  split at h
  ·rename_i x hx;exact end_ret hx h
  ·exact h.elim
theorem end_normE {rs:List ResultVar} {k:AV→List AObj→Prop} {K:QT (endQ P rs k)} {s:AS} (h:endP (resV P s rs) k s.σ):K.k .normal s:=by
  unfold endP at h
  split at h
  ·rename_i x hx;exact end_norm hx h
  ·exact h.elim
theorem ec_ofR (hE:EnvOk P E) (hm:P.follows .mixedOrders=true) {f:FuncId} {fn:Func} {c:Code} (keep:Nat→List Nat) {rs:List ResultVar} (hfn:P.funcs[f]? =some fn) (hb:fn.body=some c) (hrs:fn.results.toList=rs) (hd:dstOk fn.ntmps c=true)
    {args:List AV} {σ:List AObj} {k:AV→List AObj→Prop} (hargs:args.length≤fn.ntmps)
    (h:awp P E keep σ.length c (endQ P rs k) ⟨initF 0 args,σ⟩) (hX:∀ x σ,¬ E.px x σ:=by intro _ _ h;exact h):EC P f args σ k:=by
  subst hrs
  exact ec_of hE hm keep hfn hb hd hargs h hX
theorem pc_ofR (hE:EnvOk P E) (hm:P.follows .mixedOrders=true) {f:FuncId} {fn:Func} {c:Code} (keep:Nat→List Nat) {rs:List ResultVar} (hfn:P.funcs[f]? =some fn) (hb:fn.body=some c) (hrs:fn.results.toList=rs) (hd:dstOk fn.ntmps c=true)
    {args:List AV} {r:AV} (hargs:args.length≤fn.ntmps)
    (h:awp P E keep 0 c (endQ P rs fun x σ=>fin x σ r) ⟨initF 0 args,[]⟩) (hX:∀ x σ,¬ E.px x σ:=by intro _ _ h;exact h):PC P f args r:=by
  subst hrs
  exact pc_of hE hm keep hfn hb hd hargs h hX
def resK:VR→Option AV
  |some (_,x)=>some x
  |none=>none
theorem resK_yes {x:AV}:resK (yes x)=some x:=rfl
theorem resK_need {p:Prop} {x:AV}:resK (need p x)=some x:=rfl
def resB (P:Program) (t:TypeId) (off:Nat):Option AObj→Option AV
  |some (.box _ cs)=>resK (partV P t cs off)
  |_=>none
def resA (P:Program) (t:TypeId) (σ:List AObj):AV→Option AV
  |.ref o off=>resB P t off σ[o]?
  |_=>none
theorem resOne_tmp {s:AS} {t:Tmp}:resOne P s (.tmp t)=some (s.f t):=rfl
theorem resOne_cell {s:AS} {a:Tmp} {t:TypeId}:resOne P s (.cell a t)=resA P t s.σ (s.f a):=by
  unfold resOne
  simp only
  cases h:s.f a with
  |ref o off=>
   simp only [resA]
   cases h2:s.σ[o]? with
   |none=>rfl
   |some ob=>cases ob<;>first|rfl|(simp only [resB,resK];cases partV P t _ off<;>rfl)
  |_=>rfl
attribute [go_sem] endP_some resV resL resOne_tmp resOne_cell resA resB resK_yes resK_need
end Go.Fw

namespace Go.Fw
open Go Go.Sort
set_option linter.unusedSectionVars false
variable [TB]
variable {P:Program}
theorem geff_true {E:Env} {f:Nat→AV} {σ:List AObj} {o:Oper} {k:AV→List AObj→Prop}:geff P E (some true) f σ o k=avop P E (gev f true) σ o k:=by simp [geff]
theorem geff_false {E:Env} {f:Nat→AV} {σ:List AObj} {o:Oper} {k:AV→List AObj→Prop}:geff P E (some false) f σ o k=k (.lit (.tuple #[])) σ:=by simp [geff]
theorem t_geffS {E:Env} {t:Bool} {f:Nat→AV} {σ:List AObj} {o:Oper} {k:AV→List AObj→Prop} (h1:t=true→geff P E (some t) f σ o k) (h2:t=false→geff P E (some t) f σ o k):geff P E (some t) f σ o k:=by
  cases h:t with
  |true=>subst h;exact h1 rfl
  |false=>subst h;exact h2 rfl
def famK (x y:VR):VR:=match x with
  |some z=>some z
  |none=>y
theorem famK_some {z:Prop×AV} {y:VR}:famK (some z) y=some z:=rfl
theorem famK_none {y:VR}:famK none y=y:=rfl
def envM (fam:FuncId→List AV→VR) (jk:TypeId→AV) (zer:TypeId→AV) (wr eg:Nat→Bool) (ps:List (PCon P)) (es:List (ECon P)):Env:=⟨zer,wr,eg,jk,fun f args=>famK (fam f args) (pcL ps f args),ecL es,fun _ _=>False⟩
theorem envMOk {fam:FuncId→List AV→VR} {jk zer:TypeId→AV} {wr eg:Nat→Bool} {ps:List (PCon P)} {es:List (ECon P)} (hz:∀ t v,zeroT P t=some v→RC (fun _ _=>none) (zer t) v)
    (hf:∀ f args p r,fam f args=some (p,r)→p→(fok P f=true∧PC P f args r)∨XC P f args r):EnvOk P (envM fam jk zer wr eg ps es) where
  zero:=hz
  pc:=by
   intro f args p r h hp
   simp only [envM,famK] at h
   split at h
   ·rename_i z hz;cases h;exact hf f args p r hz hp
   ·exact (envJOk (jk:=jk) (wr:=wr) (eg:=eg) (ps:=ps) (es:=es) hz).pc f args p r h hp
  ec:=(envJOk (jk:=jk) (wr:=wr) (eg:=eg) (ps:=ps) (es:=es) hz).ec
section
variable {fam:FuncId→List AV→VR} {jk zer:TypeId→AV} {wr eg:Nat→Bool} {ps:List (PCon P)} {es:List (ECon P)}
theorem envm_zero {t:TypeId}:(envM fam jk zer wr eg ps es).zero t=zer t:=rfl
theorem envm_wr {t:Nat}:(envM fam jk zer wr eg ps es).wr t=wr t:=rfl
theorem envm_eg {t:Nat}:(envM fam jk zer wr eg ps es).eg t=eg t:=rfl
theorem envm_jk {t:TypeId}:(envM fam jk zer wr eg ps es).jk t=jk t:=rfl
theorem envm_pc {f:FuncId} {args:List AV}:(envM fam jk zer wr eg ps es).pc f args=famK (fam f args) (pcL ps f args):=rfl
theorem envm_ec {f:FuncId} {args:List AV} {σ:List AObj} {k:AV→List AObj→Prop}:(envM fam jk zer wr eg ps es).ec f args σ k=ecL es f args σ k:=rfl
end
attribute [go_sem] famK_some famK_none envm_zero envm_wr envm_eg envm_jk envm_pc envm_ec
end Go.Fw

namespace Go.Fw
open Go
set_option linter.unusedSectionVars false
variable [TB]
variable {P:Program} {E:Env}
structure HL (l:List Oper) where
  v:List Oper
  h:v=l
theorem t_hideE {ds:List (Option Tmp)} {o:Oper} {l:List Oper} {s:AS} {K:AS→Prop} (h:∀ L:HL l,aops P E ds (o::L.v) s K):aops P E ds (o::l) s K:=h ⟨l,rfl⟩
theorem t_openE {ds:List (Option Tmp)} {l:List Oper} {L:HL l} {s:AS} {K:AS→Prop} (h:aops P E ds l s K):aops P E ds L.v s K:=by rw [L.h];exact h
theorem t_hideD {ds:List (Option Tmp)} {o:Oper} {l:List Oper} {s:AS} {K:AS→Prop} (h:∀ L:HL l,dops P E ds (o::L.v) s K):dops P E ds (o::l) s K:=h ⟨l,rfl⟩
theorem t_openD {ds:List (Option Tmp)} {l:List Oper} {L:HL l} {s:AS} {K:AS→Prop} (h:dops P E ds l s K):dops P E ds L.v s K:=by rw [L.h];exact h
end Go.Fw

namespace Go.Fw
open Go
set_option linter.unusedSectionVars false
variable [TB]
variable {P:Program}
def low0 (n:Nat):AV→Bool
  |.arr o _=>decide (o<n)
  |.ref o _=>decide (o<n)
  |.eref o _ _ _ _=>decide (o<n)
  |.sub o _ _ _ _=>decide (o<n)
  |.mp o=>decide (o<n)
  |.bsl o _=>decide (o<n)
  |.top=>true
  |.lit _=>true
  |.sl _ _ _=>true
  |.sref _ _=>true
  |_=>false
def low1 (n:Nat):AV→Bool
  |.agg xs=>xs.all (low0 n)
  |.tup xs=>xs.all (low0 n)
  |.fn _ xs ys=>xs.all (low0 n)&&ys.all (low0 n)
  |.gd _ x=>low0 n x
  |x=>low0 n x
theorem low0_R {G:Gh} {n:Nat} {x:AV} {v:Value} (h:R G x v) (hl:low0 n x=true):R {G with n:=n} x v:=by
  cases x with
  |arr o ver=>
   have hl':o<n:=by simpa [low0] using hl
   cases h with
   |clo _ _ h=>cases h
   |arr _ _ _ ho hv h hs=>exact .arr o ver v hl' hv h hs
  |ref o off=>
   have hl':o<n:=by simpa [low0] using hl
   cases h with
   |clo _ _ h=>cases h
   |ref _ _ g ho h=>exact .ref o off g hl' h
  |eref o ver sz i j=>
   have hl':o<n:=by simpa [low0] using hl
   cases h with
   |clo _ _ h=>cases h
   |eref _ _ _ _ _ _ ho hv h hs=>exact .eref o ver sz i j v hl' hv h hs
  |sub o ver sz lo hi=>
   have hl':o<n:=by simpa [low0] using hl
   obtain ⟨_,h1,h2⟩:=h.sub_inv
   exact .sub o ver sz lo hi v hl' h1 h2 h.sub_slice
  |mp o=>
   have hl':o<n:=by simpa [low0] using hl
   obtain ⟨_,g,h1,rfl⟩:=h.mp_inv
   exact .mp o g hl' h1
  |bsl o m=>
   have hl':o<n:=by simpa [low0] using hl
   obtain ⟨_,g,cap,h1,h2,h3,rfl⟩:=h.bsl_inv
   exact .bsl o m g cap hl' h1 h2 h3
  |top=>exact R.top v
  |lit u=>rw [h.lit_inv];exact R.lit u
  |sl full sz xs=>exact .clo _ _ h.sl_inv
  |sref y j=>exact .clo _ _ h.sref_inv
  |agg xs=>cases hl
  |tup xs=>cases hl
  |fn f xs ys=>cases hl
  |gd b y=>cases hl
theorem all_getD {n:Nat} {xs:List AV} (h:xs.all (low0 n)=true) {i:Nat} (hi:i<xs.length):low0 n (xs.getD i .top)=true:=by
  rw [List.all_eq_true] at h
  exact h _ (getD_mem' hi)
theorem low1_R {G:Gh} {n:Nat} {x:AV} {v:Value} (h:R G x v) (hl:low1 n x=true):R {G with n:=n} x v:=by
  cases x with
  |agg xs=>
   obtain ⟨vs,rfl,h1,h2,h3⟩:=h.agg_inv
   exact .agg xs vs h1 h2 fun i hi=>low0_R (h3 i hi) (all_getD hl hi)
  |tup xs=>
   obtain ⟨vs,rfl,h1,h3⟩:=h.tup_inv
   exact .tup xs vs h1 fun i hi=>low0_R (h3 i hi) (all_getD hl hi)
  |fn f xs ys=>
   obtain ⟨vs,us,rfl,⟨h1,h2⟩,h3,h4⟩:=h.fn_inv
   simp only [low1,Bool.and_eq_true] at hl
   exact .fn f xs ys vs us h1 (fun i hi=>low0_R (h2 i hi) (all_getD hl.1 hi)) h3 fun i hi=>low0_R (h4 i hi) (all_getD hl.2 hi)
  |gd b y=>exact .gd b y v (fun hb=>low0_R (h.gd_inv hb) hl) (fun hb=>h.gd_inv2 hb)
  |arr o ver=>exact low0_R h hl
  |ref o off=>exact low0_R h hl
  |eref o ver sz i j=>exact low0_R h hl
  |sub o ver sz lo hi=>exact low0_R h hl
  |bsl o m=>exact low0_R h hl
  |mp o=>exact low0_R h hl
  |top=>exact R.top v
  |lit u=>rw [h.lit_inv];exact R.lit u
  |sl full sz xs=>exact .clo _ _ h.sl_inv
  |sref y j=>exact .clo _ _ h.sref_inv
def lowO (n:Nat):AObj→Bool
  |.box _ cs=>cs.all (low1 n)
  |_=>true
theorem le_drop {n0:Nat} {f:Nat→AV} {l:List AObj} {ob:AObj} (hn:n0≤l.length) (hb:l.all (lowO l.length)=true) (hf:∀ j,low1 l.length (f j)=true):Le n0 ⟨f,l++[ob]⟩ ⟨f,l⟩:=by
  intro cx G w N a h0 hr hfr
  have get:∀ {o:Nat} {x:AObj},l[o]? =some x→(l++[ob])[o]? =some x:=fun {o x} h=>by
    rw [List.getElem?_append_left (List.getElem?_eq_some_iff.1 h).1];exact h
  refine ⟨{G with n:=l.length},⟨rfl,?_,?_,?_,hr.cell,hr.os,hr.tape,hr.output,hr.size,hr.block,hr.old,?_⟩,hfr.size,hfr.defers,fun j=>low1_R (hfr.rel j) (hf j)⟩
  ·intro o x ho
   have hk:=hr.ok o x (get ho)
   cases x with
   |gone=>trivial
   |box t cs=>
    have hm:lowO l.length (.box t cs)=true:=by
      rw [List.all_eq_true] at hb
      exact hb _ (List.mem_of_getElem? ho)
    obtain ⟨g,cur,h1,h2,h3,h4,h5⟩:=hk
    simp only [lowO,List.all_eq_true] at hm
    exact ⟨g,cur,h1,h2,h3,fun i hi=>⟨low1_R (h4 i hi).1 (hm _ (getD_mem' hi)),(h4 i hi).2⟩,h5⟩
   |arr e sz xs ver fz=>
    obtain ⟨h1,h2,h3⟩:=hk
    refine ⟨h1,h2,?_⟩
    cases fz with
    |true=>exact h3
    |false=>
     simp only [Bool.false_eq_true,if_false] at h3 ⊢
     rcases h3 with h3|⟨g,cap,cur,h3⟩
     ·exact .inl h3
     ·exact .inr ⟨g,cap,cur,h3.keep (CLe.refl _) rfl h3.unc⟩
   |map es=>
    obtain ⟨g,ents,clock,h1,h2⟩:=hk
    exact ⟨g,ents,clock,h1,h2.keep (CLe.refl _) rfl h2.unc⟩
  ·intro o1 o2 ob1 ob2 g h1 h2 h3 h4 h5 h6
   exact hr.inj o1 o2 ob1 ob2 g (get h1) h2 (get h3) h4 h5 h6
  ·intro o x g h1 h2 h3
   exact hr.own o x g (get h1) h2 h3
  ·have h:=hr.le0
   exact ⟨h.C,by show cx.G0.n≤l.length;omega,h.ver,h.b,h.p⟩
theorem low_top {n:Nat}:∀ j,low1 n (topF j)=true:=fun _=>rfl
theorem low_upd {n:Nat} {f:Nat→AV} {i:Nat} {x:AV} (hx:low1 n x=true) (hf:∀ j,low1 n (f j)=true):∀ j,low1 n (upd f i x j)=true:=by
  intro j
  simp only [upd]
  split
  ·exact hx
  ·exact hf j
theorem low_lit {n:Nat} {v:Value}:low1 n (.lit v)=true:=rfl
theorem low_sl {n:Nat} {b:Bool} {z:Nat} {xs:List AV}:low1 n (.sl b z xs)=true:=rfl
theorem low_ref {n o k:Nat}:low1 n (.ref o k)=decide (o<n):=rfl
theorem low_sub {n o a b c d:Nat}:low1 n (.sub o a b c d)=decide (o<n):=rfl
theorem low_mp {n o:Nat}:low1 n (.mp o)=decide (o<n):=rfl
theorem low_arr {n o k:Nat}:low1 n (.arr o k)=decide (o<n):=rfl
theorem le_backD {n0:Nat} {f g:Nat→AV} {σ l:List AObj} {ob:AObj} (e:σ=l++[ob]) (hn:n0≤l.length) (hb:l.all (lowO l.length)=true) (hg:∀ j,low1 l.length (g j)=true) (h:∀ j,LeR (f j) (g j)):Le n0 ⟨f,σ⟩ ⟨g,l⟩:=by
  subst e
  exact (Le.frame h).trans (le_drop hn hb hg)
theorem nil_sl {sz:Nat}:∀ (G:Gh) (v:Value),R G (.sl true sz []) v→∃ a,v= .slice a 0 0:=fun _ _ h=>by
  cases h.sl_inv with
  |nil _ _ a=>exact ⟨a,rfl⟩
  |sl _ _ _ b off cap f hc hm hf=>
   have:cap=0:=hf rfl
   subst this
   exact ⟨_,rfl⟩
theorem le_nilB {n0:Nat} {f:Nat→AV} {σ:List AObj} (o off e sz:Nat) {t:TypeId} {cs:List AV} (ho:σ[o]? =some (.box t cs)) (hi:off<cs.length) (hc:∀ (G:Gh) (v:Value),R G (cs.getD off .top) v→∃ a,v= .slice a 0 0):
    Le n0 ⟨f,σ⟩ ⟨f,σ.set o (.box t (cs.set off (.arr σ.length 0)))++[.arr e sz [] 0 false]⟩:=by
  intro cx G w N a _ hr hf
  obtain ⟨g,cur,b1,b2,b3,b4,b5⟩:=hr.ok o _ ho
  obtain ⟨ad,had⟩:=hc G _ (b4 off hi).1
  obtain ⟨G',h1,h2,h3⟩:=Rel.newEmpty hr e sz ad
  have hlt:=(List.getElem?_eq_some_iff.1 ho).1
  have ho':(σ++[AObj.arr e sz [] 0 false])[o]? =some (.box t cs):=by rw [List.getElem?_append_left hlt];exact ho
  have hb':G'.b o= .pointer (some ⟨g,0,none⟩):=h1.ptr (by rw [hr.n];exact hlt) b1
  have hu:∀ j,G'.C g j=none:=by
    obtain ⟨g',cur',c1,_,_,_,c5⟩:=h2.ok o _ ho'
    rw [hb'] at c1
    cases c1
    exact c5
  have:=h2.touch (g:=g) (ob':= .box t (cs.set off (.arr σ.length 0))) ho' rfl (by rw [hb'];rfl) (Touch.refl w g) ⟨g,cur,hb',b2,by simpa using b3,fun i hi'=>⟨?_,(b4 i (by simpa using hi')).2⟩,hu⟩
  ·rw [List.set_append_left _ _ hlt] at this
   exact ⟨G',this,hf.size,hf.defers,fun j=>(hf.rel j).mono h1⟩
  ·by_cases he:off=i
   ·subst he
    rw [getD_elem _ _ (by simpa using hi'),List.getElem_set_self,had]
    exact h3
   ·rw [getD_elem _ _ (by simpa using hi'),List.getElem_set_ne he,←getD_elem _ .top (by simpa using hi')];exact (b4 i (by simpa using hi')).1.mono h1
end Go.Fw
namespace Go.Fw
open Go
set_option linter.unusedSectionVars false
variable [TB]
variable {P:Program} {E:Env}
attribute [go_sem] Int.cast_ofNat_Int Nat.reduceEqDiff reduceIte Nat.reduceAdd Nat.reduceMul Nat.reduceLeDiff Nat.reduceSub Nat.reduceLT Nat.zero_lt_succ Int.reduceToNat Int.reduceAdd Int.reduceSub Int.reduceMul Int.reduceNeg Int.reduceLT Int.reduceLE Int.reduceGT Int.reduceGE Int.reduceEq Int.reduceBEq Int.reduceBNe Nat.reduceBEq List.reduceReplicate
theorem t_br {a b p q:Prop} {A:PT p} {B:PT q} (h1:a→p) (h2:b→q):(a→A.k)∧(b→B.k):=⟨fun h=>A.h (h1 h),fun h=>B.h (h2 h)⟩
theorem t_kLF {D:Nat→Bool} {ds:List (Option Tmp)} {l:List (Oper×Nat)} {K:AS→Prop} {d:Option Tmp} {f:Nat→AV} {x:AV} {σ σ':List AObj} (h:lops P E D ds l ⟨putF f d x,σ'⟩ K) (hk:Kp D σ σ'):kLE P E D ds l K d f σ x σ':=t_kLE hk h
end Go.Fw

namespace Go.Fw
open Go
set_option linter.unusedSectionVars false
variable [TB]
variable {P:Program}
theorem EC.frz {f:FuncId} {args args':List AV} {σ:List AObj} {os:List Nat} {k:AV→List AObj→Prop} (h:closeL1 false (freezeL σ os) args=some args') (hk:EC P f args' (freezeL σ os) k):EC P f args σ k:=by
  intro cx G w vs hr hl
  obtain ⟨G1,hG1,hr1⟩:=hr.freezeL os
  have hl1:RLG G1 args vs:=⟨hl.1,fun i hi=>(hl.2 i hi).mono hG1⟩
  have hc:=closeL1_sound (live:=false) hr1 hl1 h
  refine (hk cx G1 w vs hr1 ⟨hc.1,fun i hi=> .clo _ _ (hc.2 i hi)⟩).mono ?_
  rintro e w' ⟨v,G',σ',x,h1,h2,h3⟩
  exact ⟨v,G',σ',x,h1,hG1.trans h2,h3⟩
def frzK (c:ECon P) (args:List AV) (σ:List AObj) (k:AV→List AObj→Prop):Prop:=match closeL1 false (freezeL σ (args.flatMap ids1)) args with
  |some a=>c.c a (freezeL σ (args.flatMap ids1)) k
  |none=>False
def ECon.frz (c:ECon P):ECon P where
  f:=c.f
  c:=frzK c
  ok:=by
   intro args σ k h
   unfold frzK at h
   split at h
   ·rename_i a ha;exact EC.frz ha (c.ok _ _ _ h)
   ·exact h.elim
  fk:=c.fk
theorem frz_f {c:ECon P}:c.frz.f=c.f:=rfl
theorem frz_c {c:ECon P} {args:List AV} {σ:List AObj} {k:AV→List AObj→Prop}:c.frz.c args σ k=frzK c args σ k:=rfl
attribute [go_sem] frz_f frz_c frzK
end Go.Fw

namespace Go.Fw
open Go
set_option linter.unusedSectionVars false
variable [TB]
variable {P:Program} {E:Env} {keep:Nat→List Nat} {n0:Nat}
class Nx (G:Prop) (H:outParam Prop):Prop where
  go:H→G
class Ny (G:Prop) (H:outParam Prop):Prop where
  go:H→G
theorem nx {G H:Prop} [Nx G H] (h:H):G:=Nx.go h
theorem ny {G H:Prop} [Ny G H] (h:H):G:=Ny.go h
instance {id:Nat} {c:Code} {Q:Exit→AS→Prop} {s:AS}:Nx (awp P E keep n0 (.block id c) Q s) (awp P E keep n0 c (blockQ id Q) s):=⟨t_block⟩
instance {c:Code} {Q:Exit→AS→Prop} {s:AS}:Nx (awp P E keep n0 (.scope c) Q s) (awp P E keep n0 c (scopeQ Q) s):=⟨t_scope⟩
instance {l:Nat} {Q:Exit→AS→Prop} {s:AS}:Nx (awp P E keep n0 (.label l) Q s) (Q .normal s):=⟨t_label⟩
instance {Q:Exit→AS→Prop} {s:AS}:Nx (awp P E keep n0 .skip Q s) (Q .normal s):=⟨t_skip⟩
instance {id:Nat} {Q:Exit→AS→Prop} {s:AS}:Nx (awp P E keep n0 (.exit id) Q s) (Q (.exit id) s):=⟨t_exit⟩
instance {Q:Exit→AS→Prop} {s:AS}:Nx (awp P E keep n0 .ret Q s) (Q .ret s):=⟨t_ret⟩
instance {p:AS→Prop} {K:KT p} {s:AS}:Nx (K.k s) (p s):=⟨t_k⟩
instance {p:Prop} {K:PT p}:Nx K.k p:=⟨t_p⟩
instance {f:Nat→AV} {σ:List AObj} {o:Oper} {k:AV→List AObj→Prop}:Nx (gstep P E (some false) f σ o k) (k (.lit (.tuple #[])) σ):=⟨t_gF⟩
instance {ops:List (Option Tmp)} {l:List Oper} {K:AS→Prop} {d:Option Tmp} {f:Nat→AV} {x:AV} {σ:List AObj}:Ny (kE P E ops l K d f x σ) (aops P E ops l ⟨putF f d x,σ⟩ K):=⟨t_kE⟩
instance {ops:List (Option Tmp)} {l:List Oper} {K:AS→Prop} {d:Option Tmp} {f:Nat→AV} {x:AV} {σ:List AObj}:Ny (kD P E ops l K d f x σ) (dops P E ops l ⟨putF f d x,σ⟩ K):=⟨t_kD⟩
instance (priority:=high) {ops:List (Option Tmp)} {l:List Oper} {L:HL l} {K:AS→Prop} {d:Option Tmp} {f:Nat→AV} {x:AV} {σ:List AObj}:Ny (kE P E ops L.v K d f x σ) (aops P E ops l ⟨putF f d x,σ⟩ K):=⟨fun h=>t_kE (t_openE h)⟩
instance (priority:=high) {ops:List (Option Tmp)} {l:List Oper} {L:HL l} {K:AS→Prop} {d:Option Tmp} {f:Nat→AV} {x:AV} {σ:List AObj}:Ny (kD P E ops L.v K d f x σ) (dops P E ops l ⟨putF f d x,σ⟩ K):=⟨fun h=>t_kD (t_openD h)⟩
instance {t:Bool} {f:Nat→AV} {σ:List AObj} {o:Oper} {k:AV→List AObj→Prop}:Ny (gstep P E (some t) f σ o k) (gk (pval P E (gev f t) σ o) t k σ):=⟨t_gS⟩
instance {D:Nat→Bool} {ds:List (Option Tmp)} {l:List (Oper×Nat)} {K:AS→Prop} {d:Option Tmp} {f:Nat→AV} {x:AV} {σ:List AObj}:Ny (kL P E D ds l K d f x σ) (lops P E D ds l ⟨putF f d x,σ⟩ K):=⟨t_kL⟩
class Nh (G:Prop) (H:outParam Prop):Prop where
  go:H→G
theorem nh {G H:Prop} [Nh G H] (h:H):G:=Nh.go h
instance {ds:List (Option Tmp)} {o:Oper} {l:List Oper} {s:AS} {K:AS→Prop}:Nh (aops P E ds (o::l) s K) (∀ L:HL l,aops P E ds (o::L.v) s K):=⟨t_hideE⟩
instance {ds:List (Option Tmp)} {o:Oper} {l:List Oper} {s:AS} {K:AS→Prop}:Nh (dops P E ds (o::l) s K) (∀ L:HL l,dops P E ds (o::L.v) s K):=⟨t_hideD⟩
theorem kp_sk {D:Nat→Bool} {x y:AObj} {l l':List AObj} (h0:D 0=false) (h:Kp (fun i=>D (i+1)) l l'):Kp D (x::l) (y::l'):=fun o t cs d e=>by
  cases o with
  |zero=>rw [h0] at d;cases d
  |succ o=>exact h o t cs d e
class Kg (G:Prop) (D:outParam (Nat→Bool)) (σ σ':outParam (List AObj)):Prop where
  go:Kp D σ σ'→G
instance {D:Nat→Bool} {σ σ':List AObj}:Kg (Kp D σ σ') D σ σ':=⟨id⟩
theorem kpd {G:Prop} {D:Nat→Bool} {σ σ':List AObj} [Kg G D σ σ'] (h:Kp D σ σ':=by repeat' (first|(with_reducible first|exact kp_nil|exact Kp.refl _|exact kp_to|refine kp_cons ?_|refine kp_arr ?_|refine kp_app ?_)|((with_reducible refine kp_sk ?_ ?_);rfl))):G:=Kg.go h
theorem pcR (hE:EnvOk P E) {f:FuncId} {fn:Func} {c:Code} (keep:Nat→List Nat) (hfn:P.funcs[f]? =some fn) (rs:List ResultVar) {args:List AV} {r:AV} (hm:P.follows .mixedOrders=true:=by exact mixed) (hb:fn.body=some c:=by exact rfl)
    (hrs:fn.results.toList=rs:=by kernel_rfl) (hd:dstOk fn.ntmps c=true:=by kernel_rfl) (hargs:args.length≤fn.ntmps:=by exact Nat.le_of_ble_eq_true rfl)
    (h:∀ K:QT (endQ P rs fun x σ=>fin x σ r),awp P E keep 0 c K.k ⟨initF 0 args,[]⟩) (hX:∀ x σ,¬ E.px x σ:=by intro _ _ h;exact h):PC P f args r:=pc_ofR hE hm keep hfn hb hrs hd hargs (t_name h) hX
theorem ecR (hE:EnvOk P E) {f:FuncId} {fn:Func} {c:Code} (keep:Nat→List Nat) (hfn:P.funcs[f]? =some fn) (rs:List ResultVar) {args:List AV} {σ:List AObj} {k:AV→List AObj→Prop} (hm:P.follows .mixedOrders=true:=by exact mixed) (hb:fn.body=some c:=by exact rfl)
    (hrs:fn.results.toList=rs:=by kernel_rfl) (hd:dstOk fn.ntmps c=true:=by kernel_rfl) (hargs:args.length≤fn.ntmps:=by exact Nat.le_of_ble_eq_true rfl)
    (h:∀ K:QT (endQ P rs k),awp P E keep σ.length c K.k ⟨initF 0 args,σ⟩) (hX:∀ x σ,¬ E.px x σ:=by intro _ _ h;exact h):EC P f args σ k:=ec_ofR hE hm keep hfn hb hrs hd hargs (t_name h) hX
theorem pcO (hE:EnvOk P E) {f:FuncId} {fn:Func} {c:Code} (keep:Nat→List Nat) (hfn:P.funcs[f]? =some fn) {args:List AV} {r:AV} (hm:P.follows .mixedOrders=true:=by exact mixed) (hb:fn.body=some c:=by exact rfl)
    (hd:dstOk fn.ntmps c=true:=by kernel_rfl) (hargs:args.length≤fn.ntmps:=by exact Nat.le_of_ble_eq_true rfl)
    (h:∀ K:QT (endQ P fn.results.toList fun x σ=>fin x σ r),awp P E keep 0 c K.k ⟨initF 0 args,[]⟩) (hX:∀ x σ,¬ E.px x σ:=by intro _ _ h;exact h):PC P f args r:=pc_of hE hm keep hfn hb hd hargs (t_name h) hX
theorem ecO (hE:EnvOk P E) {f:FuncId} {fn:Func} {c:Code} (keep:Nat→List Nat) (hfn:P.funcs[f]? =some fn) {args:List AV} {σ:List AObj} {k:AV→List AObj→Prop} (hm:P.follows .mixedOrders=true:=by exact mixed) (hb:fn.body=some c:=by exact rfl)
    (hd:dstOk fn.ntmps c=true:=by kernel_rfl) (hargs:args.length≤fn.ntmps:=by exact Nat.le_of_ble_eq_true rfl)
    (h:∀ K:QT (endQ P fn.results.toList k),awp P E keep σ.length c K.k ⟨initF 0 args,σ⟩) (hX:∀ x σ,¬ E.px x σ:=by intro _ _ h;exact h):EC P f args σ k:=ec_of hE hm keep hfn hb hd hargs (t_name h) hX
theorem nd {p:Prop} (h:p:=by first|(with_reducible assumption)|(intros;(try simp only [Bool.and_eq_true,Bool.or_eq_true,Bool.or_eq_false_iff,Bool.not_eq_true',Bool.not_eq_false',decide_eq_true_eq,decide_eq_false_iff_not,beq_iff_eq,beq_eq_false_iff_ne,bne_iff_ne,bne_eq_false_iff_eq,ne_eq,inI64,List.length_append] at*)<;>omega)|(intros;(with_reducible first|refine impB_ofR ?_|refine and_ofB ?_ ?_)<;>with_reducible first|assumption|(refine impB_ofR ?_;assumption))|((try simp only [Bool.and_eq_true] at vr);simp only [impB,vr,Bool.or_true,Bool.true_or,Bool.and_self,Bool.not_true,Bool.not_false,Bool.and_true];done)):p:=h
theorem om {p:Prop} (h:p:=by intros;(try simp only [Bool.and_eq_true,Bool.or_eq_true,Bool.not_eq_true',decide_eq_true_eq,decide_eq_false_iff_not,beq_iff_eq,bne_iff_ne,ne_eq,inI64,List.length_append] at*)<;>omega):p:=h
end Go.Fw

namespace Go.Fw
open Go
set_option linter.unusedSectionVars false
variable [TB]
variable {P:Program} {E:Env} {keep:Nat→List Nat} {n0:Nat}
def lopsF (P:Program) (E:Env) (D:Nat→Bool) (ds:List (Option Tmp)) (a:Oper):List (Oper×Nat)→List (Oper×Nat)→AS→(AS→Prop)→Prop
  |[],_,_,_=>False
  |(o,b)::l,m,s,K=>match b,m with
   |0,_::m'=>(astep P E ds o s fun x σ'=>Kp D s.σ σ'∧lopsF P E D ds a l m' ⟨putF s.f o.dst x,σ'⟩ K)∧(astep P E ds a s fun x σ'=>Kp D s.σ σ'∧lops P E D ds m ⟨putF s.f a.dst x,σ'⟩ K)
   |1,_::m'=>stabG E D ds s.f o=true∧match sval P E ds s.f s.σ o with
    |some (p,x)=>p∧lopsF P E D ds a l m' ⟨putF s.f o.dst x,s.σ⟩ K
    |none=>False
   |2,_::m'=>match sval P E ds s.f s.σ o with
    |some (p,x)=>p∧lopsF P E D ds a l m' ⟨putF s.f o.dst x,s.σ⟩ K
    |none=>False
   |3,_=>astep P E ds o s fun x σ'=>Kp D s.σ σ'∧lops P E D ds l ⟨putF s.f o.dst x,σ'⟩ K
   |_,_=>False
def lopsFO (P:Program) (E:Env) (D:Nat→Bool) (ds:List (Option Tmp)) (a:Option Oper) (l m:Option (List (Oper×Nat))) (s:AS) (K:AS→Prop):Prop:=match a,l,m with
  |some a,some l,some m=>lopsF P E D ds a l m s K
  |_,_,_=>False
def noA (a:Nat) (ord:List (Nat×Nat)):List (Nat×Nat):=ord.filter fun p=> !(p.1==a)
def kF (P:Program) (E:Env) (D:Nat→Bool) (ds:List (Option Tmp)) (a:Oper) (l m:List (Oper×Nat)) (K:AS→Prop) (d:Option Tmp) (f:Nat→AV):AV→List AObj→Prop:=fun x σ'=>lopsF P E D ds a l m ⟨putF f d x,σ'⟩ K
def kFE (P:Program) (E:Env) (D:Nat→Bool) (ds:List (Option Tmp)) (a:Oper) (l m:List (Oper×Nat)) (K:AS→Prop) (d:Option Tmp) (f:Nat→AV) (σ:List AObj):AV→List AObj→Prop:=fun x σ'=>Kp D σ σ'∧lopsF P E D ds a l m ⟨putF f d x,σ'⟩ K
theorem fo_some {D:Nat→Bool} {ds:List (Option Tmp)} {a:Oper} {l m:List (Oper×Nat)} {s:AS} {K:AS→Prop}:lopsFO P E D ds (some a) (some l) (some m) s K=lopsF P E D ds a l m s K:=rfl
theorem lF_pre {D:Nat→Bool} {ds:List (Option Tmp)} {a o:Oper} {p:Oper×Nat} {l m:List (Oper×Nat)} {f:Nat→AV} {σ:List AObj} {K:AS→Prop}:lopsF P E D ds a ((o,2)::l) (p::m) ⟨f,σ⟩ K=vk (sval P E ds f σ o) (kF P E D ds a l m K o.dst f) σ:=rfl
theorem lF_true {D:Nat→Bool} {ds:List (Option Tmp)} {a o:Oper} {p:Oper×Nat} {l m:List (Oper×Nat)} {f:Nat→AV} {σ:List AObj} {K:AS→Prop}:lopsF P E D ds a ((o,1)::l) (p::m) ⟨f,σ⟩ K=(stabG E D ds f o=true∧vk (sval P E ds f σ o) (kF P E D ds a l m K o.dst f) σ):=rfl
theorem lF_at {D:Nat→Bool} {ds:List (Option Tmp)} {a o:Oper} {l m:List (Oper×Nat)} {s:AS} {K:AS→Prop}:lopsF P E D ds a ((o,3)::l) m s K=lops P E D ds ((o,0)::l) s K:=by cases m<;>rfl
theorem lF_eff {D:Nat→Bool} {ds:List (Option Tmp)} {a:Oper} {p:Oper×Nat} {d:Option Tmp} {op:Op} {ty:TypeId} {pos:String} {af:Array Edge} {l m:List (Oper×Nat)} {f:Nat→AV} {σ:List AObj} {K:AS→Prop}:
    lopsF P E D ds a ((⟨d,op,ty,pos,af,none⟩,0)::l) (p::m) ⟨f,σ⟩ K=(avop P E (aev f) σ ⟨d,op,ty,pos,af,none⟩ (kFE P E D ds a l m K d f σ)∧lops P E D ds ((a,0)::p::m) ⟨f,σ⟩ K):=rfl
theorem t_kF {D:Nat→Bool} {ds:List (Option Tmp)} {a:Oper} {l m:List (Oper×Nat)} {K:AS→Prop} {d:Option Tmp} {f:Nat→AV} {x:AV} {σ:List AObj} (h:lopsF P E D ds a l m ⟨putF f d x,σ⟩ K):kF P E D ds a l m K d f x σ:=h
instance {D:Nat→Bool} {ds:List (Option Tmp)} {a:Oper} {l m:List (Oper×Nat)} {K:AS→Prop} {d:Option Tmp} {f:Nat→AV} {x:AV} {σ:List AObj}:Ny (kF P E D ds a l m K d f x σ) (lopsF P E D ds a l m ⟨putF f d x,σ⟩ K):=⟨t_kF⟩
attribute [go_sem] fo_some lF_at noA List.filter_cons List.filter_nil
end Go.Fw

namespace Go.Fw
open Go
set_option linter.unusedSectionVars false
variable [TB]
variable {P:Program} {E:Env}
structure HP (l:List (Oper×Nat)) where
  v:List (Oper×Nat)
  h:v=l
structure HP2 (l m:List (Oper×Nat)) where
  v:List (Oper×Nat)
  w:List (Oper×Nat)
  h:v=l
  g:w=m
class Nk (G:Prop) (H C:outParam Prop):Prop where
  go:H→C→G
section
variable {D:Nat→Bool} {ds:List (Option Tmp)} {K:AS→Prop} {d:Option Tmp} {f:Nat→AV} {x:AV} {σ σ':List AObj} {a:Oper} {p q:Oper×Nat} {l m:List (Oper×Nat)} {s:AS}
instance:Nh (lops P E D ds (p::l) s K) (∀ L:HP l,lops P E D ds (p::L.v) s K):=⟨fun h=>h ⟨l,rfl⟩⟩
instance:Nh (lopsF P E D ds a (p::l) (q::m) s K) (∀ L:HP2 l m,lopsF P E D ds a (p::L.v) (q::L.w) s K):=⟨fun h=>h ⟨l,m,rfl,rfl⟩⟩
instance (priority:=high) {L:HP l}:Ny (kL P E D ds L.v K d f x σ) (lops P E D ds l ⟨putF f d x,σ⟩ K):=⟨fun h=>by unfold kL;rw [L.h];exact h⟩
instance (priority:=high) {L:HP2 l m}:Ny (kL P E D ds L.w K d f x σ) (lops P E D ds m ⟨putF f d x,σ⟩ K):=⟨fun h=>by unfold kL;rw [L.g];exact h⟩
instance (priority:=high) {L:HP2 l m}:Ny (kF P E D ds a L.v L.w K d f x σ) (lopsF P E D ds a l m ⟨putF f d x,σ⟩ K):=⟨fun h=>by unfold kF;rw [L.h,L.g];exact h⟩
instance:Nk (kLE P E D ds l K d f σ x σ') (lops P E D ds l ⟨putF f d x,σ'⟩ K) (Kp D σ σ'):=⟨fun h c=>⟨c,h⟩⟩
instance (priority:=high) {L:HP l}:Nk (kLE P E D ds L.v K d f σ x σ') (lops P E D ds l ⟨putF f d x,σ'⟩ K) (Kp D σ σ'):=⟨fun h c=>⟨c,by rw [L.h];exact h⟩⟩
instance (priority:=high) {L:HP2 l m}:Nk (kLE P E D ds L.w K d f σ x σ') (lops P E D ds m ⟨putF f d x,σ'⟩ K) (Kp D σ σ'):=⟨fun h c=>⟨c,by rw [L.g];exact h⟩⟩
instance (priority:=high) {L:HP2 l m}:Nk (kLE P E D ds L.v K d f σ x σ') (lops P E D ds l ⟨putF f d x,σ'⟩ K) (Kp D σ σ'):=⟨fun h c=>⟨c,by rw [L.h];exact h⟩⟩
instance (priority:=high) {L:HP2 l m}:Nk (kLE P E D ds (p::L.w) K d f σ x σ') (lops P E D ds (p::m) ⟨putF f d x,σ'⟩ K) (Kp D σ σ'):=⟨fun h c=>⟨c,by rw [L.g];exact h⟩⟩
instance:Nk (kFE P E D ds a l m K d f σ x σ') (lopsF P E D ds a l m ⟨putF f d x,σ'⟩ K) (Kp D σ σ'):=⟨fun h c=>⟨c,h⟩⟩
instance (priority:=high) {L:HP2 l m}:Nk (kFE P E D ds a L.v L.w K d f σ x σ') (lopsF P E D ds a l m ⟨putF f d x,σ'⟩ K) (Kp D σ σ'):=⟨fun h c=>⟨c,by rw [L.h,L.g];exact h⟩⟩
end
end Go.Fw
namespace Go.Fw
open Go
set_option linter.unusedSectionVars false
variable [TB]
variable {P:Program} {E:Env} {keep:Nat→List Nat} {n0:Nat}
def ordG (md:Region.Mode) (ops:Array Oper) (a:Nat):List (Nat×Nat)→Array Bool→Bool
  |[],_=>false
  |(i,b)::l,listed=>match b with
   |0=> !(i==a)&&((Region.ready md ops listed==[i,a]||Region.ready md ops listed==[a,i])&&ordG md ops a l (listed.setIfInBounds i true))
   |1=> !(i==a)&&((Region.ready md ops listed).contains i&&(Region.free md ops listed i&&ordG md ops a l (listed.setIfInBounds i true)))
   |2=> !(i==a)&&((Region.ready md ops listed).contains i&&(preI md ops listed i&&ordG md ops a l (listed.setIfInBounds i true)))
   |3=>(i==a)&&(Region.ready md ops listed==[i]&&ordB md ops l (listed.setIfInBounds i true))
   |_=>false
theorem noA_ne {a i b:Nat} {l:List (Nat×Nat)} (h:(!(i==a))=true):noA a ((i,b)::l)=(i,b)::noA a l:=by
  unfold noA;rw [List.filter_cons];simp only [h];rfl
theorem ordB_tl {md:Region.Mode} {ops:Array Oper} {i b:Nat} {l:List (Nat×Nat)} {listed:Array Bool} (h:ordB md ops ((i,b)::l) listed=true):ordB md ops l (listed.setIfInBounds i true)=true:=by
  unfold ordB at h;rw [Bool.and_eq_true] at h;exact h.2
theorem sAny_ordG {D:Nat→Bool} {md:Region.Mode} {ops:Array Oper} {Q:AS→Prop} {a:Nat} {oa:Oper} (ha:ops[a]? =some oa):∀ (ord:List (Nat×Nat)) (l lm:List (Oper×Nat)) (listed:Array Bool) (s:AS),
    ordG md ops a ord listed=true→ordB md ops (noA a ord) (listed.setIfInBounds a true)=true→pickO ops ord=some l→pickO ops (noA a ord)=some lm→(noA a ord).length+1=ord.length→lopsF P E D (dsOf ops) oa l lm s Q→sAny P E D md ops Q ord.length listed s
  |[],l,lm,listed,s,hB,_,_,_,_,_=>by cases hB
  |(i,b)::ord,l,lm,listed,s,hB,hM,hp,hpm,hlen,h=>by
   simp only [pickO] at hp
   split at hp
   rotate_left
   ·cases hp
   rename_i o l' ho hl'
   cases hp
   match b,hB,h with
   |n+4,hB,h=>cases hB
   |3,hB,h=>
    simp only [ordG,Bool.and_eq_true,beq_iff_eq] at hB
    obtain ⟨rfl,hr,hB'⟩:=hB
    have h':astep P E (dsOf ops) o s fun x σ'=>Kp D s.σ σ'∧lops P E D (dsOf ops) l' ⟨putF s.f o.dst x,σ'⟩ Q:=by cases lm<;>exact h
    refine ⟨fun e=>(by rw [e] at hr;cases hr),fun j hj=>?_⟩
    rw [hr] at hj
    obtain rfl:j=i:=by simpa using hj
    unfold sOp
    rw [ho]
    exact ⟨_,h',fun x σ' hk=>⟨hk.1,sAny_ord ord l' _ _ hB' hl' hk.2⟩⟩
   |0,hB,h=>
    simp only [ordG] at hB
    rw [Bool.and_eq_true,Bool.and_eq_true,Bool.or_eq_true,beq_iff_eq,beq_iff_eq] at hB
    obtain ⟨hne,hr,hB1⟩:=hB
    rw [noA_ne hne] at hM hpm hlen
    have hpm0:=hpm
    simp only [pickO,ho] at hpm
    split at hpm
    rotate_left
    ·cases hpm
    rename_i o2 lm' ho2 hlm'
    cases ho2
    cases hpm
    have hM':=ordB_tl hM
    have hia:i≠a:=by simpa using hne
    rw [Array.setIfInBounds_comm _ _ (Ne.symm hia)] at hM'
    have hlen':(noA a ord).length+1=ord.length:=by simpa using hlen
    have h':(astep P E (dsOf ops) o s fun x σ'=>Kp D s.σ σ'∧lopsF P E D (dsOf ops) oa l' lm' ⟨putF s.f o.dst x,σ'⟩ Q)∧(astep P E (dsOf ops) oa s fun x σ'=>Kp D s.σ σ'∧lops P E D (dsOf ops) ((o,0)::lm') ⟨putF s.f oa.dst x,σ'⟩ Q):=h
    have hne':Region.ready md ops listed≠[]:=by rcases hr with e|e<;>(rw [e];simp)
    refine ⟨fun e=>absurd e hne',fun j hj=>?_⟩
    have hj':j=i∨j=a:=by
      rcases hr with e|e<;>(rw [e] at hj;simp at hj;omega)
    rcases hj' with rfl|rfl
    ·unfold sOp
     rw [ho]
     exact ⟨_,h'.1,fun x σ' hk=>⟨hk.1,sAny_ordG ha ord l' lm' _ _ hB1 hM' hl' hlm' hlen' hk.2⟩⟩
    ·unfold sOp
     rw [ha]
     refine ⟨_,h'.2,fun x σ' hk=>⟨hk.1,?_⟩⟩
     have:=sAny_ord _ _ _ _ hM hpm0 hk.2
     rw [List.length_cons,hlen'] at this
     exact this
   |1,hB,h=>
    simp only [ordG] at hB
    rw [Bool.and_eq_true,Bool.and_eq_true,Bool.and_eq_true] at hB
    obtain ⟨hne,hr,hf,hB'⟩:=hB
    rw [noA_ne hne] at hM hpm hlen
    simp only [pickO,ho] at hpm
    split at hpm
    rotate_left
    ·cases hpm
    rename_i o2 lm' ho2 hlm'
    cases ho2
    cases hpm
    have hM':=ordB_tl hM
    have hia:i≠a:=by simpa using hne
    rw [Array.setIfInBounds_comm _ _ (Ne.symm hia)] at hM'
    have hlen':(noA a ord).length+1=ord.length:=by simpa using hlen
    have hr':i∈Region.ready md ops listed:=by simpa using hr
    have h':stabG E D (dsOf ops) s.f o=true∧match sval P E (dsOf ops) s.f s.σ o with
      |some (p,x)=>p∧lopsF P E D (dsOf ops) oa l' lm' ⟨putF s.f o.dst x,s.σ⟩ Q
      |none=>False:=h
    obtain ⟨hs,h'⟩:=h'
    split at h'
    ·rename_i p x hv
     exact sAny_first ho h'.1 ord.length listed s (Region.free_spec ho hf) hr' hs hv (sAny_ordG ha ord l' lm' _ _ hB' hM' hl' hlm' hlen' h'.2)
    ·exact h'.elim
   |2,hB,h=>
    simp only [ordG] at hB
    rw [Bool.and_eq_true,Bool.and_eq_true,Bool.and_eq_true] at hB
    obtain ⟨hne,hr,hf,hB'⟩:=hB
    rw [noA_ne hne] at hM hpm hlen
    simp only [pickO,ho] at hpm
    split at hpm
    rotate_left
    ·cases hpm
    rename_i o2 lm' ho2 hlm'
    cases ho2
    cases hpm
    have hM':=ordB_tl hM
    have hia:i≠a:=by simpa using hne
    rw [Array.setIfInBounds_comm _ _ (Ne.symm hia)] at hM'
    have hlen':(noA a ord).length+1=ord.length:=by simpa using hlen
    have hr':i∈Region.ready md ops listed:=by simpa using hr
    have h':match sval P E (dsOf ops) s.f s.σ o with
      |some (p,x)=>p∧lopsF P E D (dsOf ops) oa l' lm' ⟨putF s.f o.dst x,s.σ⟩ Q
      |none=>False:=h
    simp only [preI,ho,Bool.and_eq_true] at hf
    obtain ⟨⟨⟨h1,h2⟩,h3⟩,h4⟩:=hf
    split at h'
    ·rename_i p x hv
     exact sAny_pre (B:=clos md ops i) ho h'.1 h1 (fun j oj hoj hb hji=>by
         rcases ((preB_spec h4 hoj).1 hb).2 with e|e
         ·exact absurd e hji
         ·exact e) h3 ord.length listed s (Region.free_spec ho h2) (fun j oj hoj=>⟨fun hb=>((preB_spec h4 hoj).1 hb).1,(preB_spec h4 hoj).2⟩) hr' hv (sAny_ordG ha ord l' lm' _ _ hB' hM' hl' hlm' hlen' h'.2)
    ·exact h'.elim
theorem t_drawG {id:Nat} {ops:List Oper} {Q:Exit→AS→Prop} {s:AS} (D:Nat→Bool) (a:Nat) (ord:List (Nat×Nat))
    (hB:(ord.length==ops.toArray.size&&(noA a ord).length+1==ord.length)=true) (hG:ordG .any ops.toArray a ord (Array.replicate ops.toArray.size false)=true) (hM:ordB .any ops.toArray (noA a ord) ((Array.replicate ops.toArray.size false).setIfInBounds a true)=true)
    (h:∀ K:KT (Q .normal),lopsFO P E D (dsOf ops.toArray) ops.toArray[a]? (pickO ops.toArray ord) (pickO ops.toArray (noA a ord)) s (keepK K.k (keep id))):awp P E keep n0 (.region id ops.toArray true) Q s:=by
  have:=h ⟨fun s'=>∃ s'',Le n0 s' s''∧Q .normal s'',fun s h=>⟨s,fun _ G _ _ _ _ h1 h2=>⟨G,h1,h2⟩,h⟩⟩
  unfold keepK lopsFO at this
  split at this
  ·rename_i oa l m ha hl hm
   simp only [Bool.and_eq_true,beq_iff_eq] at hB
   have h2:=sAny_ordG (D:=D) (E:=E) (P:=P) (md:= .any) ha ord l m (Array.replicate ops.toArray.size false) s hG hM hl hm hB.2 this
   rw [hB.1] at h2
   exact .inr ⟨D,h2⟩
  ·exact this.elim
end Go.Fw
namespace Go.Fw
open Go
set_option linter.unusedSectionVars false
variable [TB]
variable {P:Program} {E:Env}
theorem lG_true {D:Nat→Bool} {ds:List (Option Tmp)} {a o:Oper} {p:Oper×Nat} {l m:List (Oper×Nat)} {f:Nat→AV} {σ:List AObj} {K:AS→Prop}:lopsF P E D ds a ((o,1)::l) (p::m) ⟨f,σ⟩ K=(stabG E D ds f o=true∧vk (sval P E ds f σ o) (kF P E D ds a l m K o.dst f) σ):=Eq.trans lF_true rfl
attribute [go_sem] lG_true
end Go.Fw

namespace Go.Fw
open Go
set_option linter.unusedSectionVars false
variable [TB]
variable {P:Program} {E:Env} {keep:Nat→List Nat} {n0:Nat}
section
variable {K:AS→Prop} {Q:Exit→AS→Prop} {s:AS} {i id:Nat}
instance:Nx (thenQ K Q .normal s) (K s):=⟨fun h=>h⟩
instance:Nx (thenQ K Q .ret s) (Q .ret s):=⟨fun h=>h⟩
instance:Nx (thenQ K Q (.exit i) s) (Q (.exit i) s):=⟨fun h=>h⟩
instance:Nx (blockQ id Q .normal s) (Q .normal s):=⟨fun h=>h⟩
instance:Nx (blockQ id Q .ret s) (Q .ret s):=⟨fun h=>h⟩
instance (priority:=high):Nx (blockQ id Q (.exit id) s) (Q .normal s):=⟨fun h=>by rw [blockQ_e,if_pos rfl];exact h⟩
instance:Nx (scopeQ Q .normal s) (Q .normal s):=⟨fun h=>h⟩
instance:Nx (scopeQ Q .ret s) (Q .ret s):=⟨fun h=>h⟩
instance:Nx (scopeQ Q (.exit i) s) (Q (.exit i) s):=⟨fun h=>h⟩
theorem t_bx {j:Nat} (h:Q (.exit j) s) (hn:j≠id:=by decide):blockQ id Q (.exit j) s:=by rw [blockQ_e,if_neg hn];exact h
end
section
variable {ops:List (Option Tmp)} {o:Oper} {l:List Oper} {K:AS→Prop} {d:Option Tmp} {f:Nat→AV} {x:AV} {σ:List AObj}
instance (priority:=high+1):Ny (kE P E ops (o::l) K d f x σ) (∀ L:HL l,aops P E ops (o::L.v) ⟨putF f d x,σ⟩ K):=⟨fun h=>t_kE (t_hideE h)⟩
instance (priority:=high+1):Ny (kD P E ops (o::l) K d f x σ) (∀ L:HL l,dops P E ops (o::L.v) ⟨putF f d x,σ⟩ K):=⟨fun h=>t_kD (t_hideD h)⟩
instance (priority:=high+1) {L:HL (o::l)}:Ny (kE P E ops L.v K d f x σ) (∀ L:HL l,aops P E ops (o::L.v) ⟨putF f d x,σ⟩ K):=⟨fun h=>t_kE (t_openE (t_hideE h))⟩
instance (priority:=high+1) {L:HL (o::l)}:Ny (kD P E ops L.v K d f x σ) (∀ L:HL l,dops P E ops (o::L.v) ⟨putF f d x,σ⟩ K):=⟨fun h=>t_kD (t_openD (t_hideD h))⟩
end
theorem t_rh {id:Nat} {o:Oper} {l:List Oper} {Q:Exit→AS→Prop} {s:AS} (h:∀ (K:KT (Q .normal)) (L:HL l),aops P E (dsOf (o::l).toArray) (o::L.v) s (keepK K.k (keep id))):awp P E keep n0 (.region id (o::l).toArray false) Q s:=
  t_region fun K=>t_hideE (h K)
theorem t_dwh {id:Nat} {o:Oper} {l:List Oper} {Q:Exit→AS→Prop} {s:AS} (hB:Region.lexB .any (o::l).toArray=true:=by kernel_rfl) (h:∀ (K:KT (Q .normal)) (L:HL l),dops P E (dsOf (o::l).toArray) (o::L.v) s (keepK K.k (keep id))):awp P E keep n0 (.region id (o::l).toArray true) Q s:=
  t_draw hB fun K=>t_hideD (h K)
instance {id:Nat} {Q:Exit→AS→Prop} {s:AS}:Nx (awp P E keep n0 (.region id (List.toArray []) false) Q s) (∀ K:KT (Q .normal),aops P E (dsOf (List.toArray [])) [] s (keepK K.k (keep id))):=⟨fun h=>t_region h⟩
instance {id:Nat} {o:Oper} {l:List Oper} {Q:Exit→AS→Prop} {s:AS}:Ny (awp P E keep n0 (.region id (o::l).toArray false) Q s) (∀ (K:KT (Q .normal)) (L:HL l),aops P E (dsOf (o::l).toArray) (o::L.v) s (keepK K.k (keep id))):=⟨t_rh⟩
instance {c:Operand} {a b:Code} {Q:Exit→AS→Prop} {s:AS}:Ny (awp P E keep n0 (.cond c a b) Q s) (∀ (A:PT (awp P E keep n0 a Q s)) (B:PT (awp P E keep n0 b Q s)),condP (aev s.f c) A.k B.k):=⟨t_cond⟩
class Nl (G:Prop) (H:outParam Prop):Prop where
  go:H→G
theorem nl {G H:Prop} [Nl G H] (h:H):G:=Nl.go h
instance {rs:List ResultVar} {k:AV→List AObj→Prop} {K:QT (endQ P rs k)} {s:AS}:Nl (K.k .ret s) (endP (resV P s rs) k s.σ):=⟨end_retE⟩
instance {rs:List ResultVar} {k:AV→List AObj→Prop} {K:QT (endQ P rs k)} {s:AS}:Nl (K.k .normal s) (endP (resV P s rs) k s.σ):=⟨end_normE⟩
attribute [go_sem] fin
theorem lf {G:Prop} (h:G:=by
  simp only [updL_nil,updL_cons,delF_top,delF_upd,Nat.reduceEqDiff,reduceIte]
  refine Le.frameS (by first|rfl|(simp only [go_sem];try rfl)) ?_
  repeat' (first|exact leF_top _|exact (fun _=>LeR.refl _)|(with_reducible refine leF_sl ?_ ?_)|(refine leF_upd ?_ ?_))
  all_goals (first|exact LeR.top _|exact LeR.refl _|(refine LeR.of_eq ?_;(try simp only [go_sem]);try rfl)|((try simp only [go_sem]);try rfl))):G:=h
theorem wf {p:Prop} (h:p:=by first|(simp only;omega)|omega):p:=h
theorem lq {G:Prop} (h:G:=by
  repeat' (first|exact leF_top _|exact (fun _=>LeR.refl _)|(with_reducible refine leF_sl ?_ ?_)|(refine leF_upd ?_ ?_))
  all_goals (first|exact LeR.top _|exact LeR.refl _|(refine LeR.of_eq ?_;(try simp only [go_sem]);try rfl)|((try simp only [go_sem]);try rfl))):G:=h
instance {a b:Code} {Q:Exit→AS→Prop} {s:AS}:Nx (awp P E keep n0 (.seq a b) Q s) (∀ K:KT (awp P E keep n0 b Q),awp P E keep n0 a (thenQ K.k Q) s):=⟨t_seq⟩
theorem t_dO (id:Nat) (D:Nat→Bool) (ord:List (Nat×Nat)) {ops:List Oper} {Q:Exit→AS→Prop} {s:AS} (h:∀ K:KT (Q .normal),lopsO P E D (dsOf ops.toArray) (pickO ops.toArray ord) s (keepK K.k (keep id))) (hB:(ord.length==ops.toArray.size&&ordB .any ops.toArray ord (Array.replicate ops.toArray.size false))=true:=by kernel_rfl):awp P E keep n0 (.region id ops.toArray true) Q s:=t_drawE D ord hB h
end Go.Fw

namespace Go.Fw
open Go
set_option linter.unusedSectionVars false
variable [TB]
variable {P:Program}
theorem le_cut {n0:Nat} {f:Nat→AV} {σ:List AObj} (i:Nat) {o e sz ver hi:Nat} {xs:List AV} (h:f i= .sub o ver sz 0 hi) (ho:σ[o]? =some (.arr e sz xs ver false)):Le n0 ⟨f,σ⟩ ⟨upd f i (.arr o (ver+1)),σ.set o (.arr e sz (xs.take hi) (ver+1) false)⟩:=by
  intro cx G w N a _ hr hf
  have hi':R G (.sub o ver sz 0 hi) (a.tmps.getD i undef):=by rw [←h];exact hf.rel i
  obtain ⟨G',h1,h2,h3⟩:=hr.cutArr ho hi'
  refine ⟨G',h2,hf.size,hf.defers,fun j=>?_⟩
  simp only [upd]
  split
  ·rename_i e;subst e;exact h3
  ·exact (hf.rel j).mono h1
structure XCon (P:Program) (X:AV→List AObj→Prop) where
  f:FuncId
  c:List AV→List AObj→(AV→List AObj→Prop)→Prop
  ok:∀ args σ k,c args σ k→XEC P X f args σ k
  fk:fok P f=true
def xcL {X:AV→List AObj→Prop}:List (XCon P X)→(FuncId→List AV→List AObj→(AV→List AObj→Prop)→Prop)→FuncId→List AV→List AObj→(AV→List AObj→Prop)→Prop
  |[],E,f,args,σ,k=>E f args σ k
  |c::l,E,f,args,σ,k=>if f=c.f then c.c args σ k else xcL l E f args σ k
def envX (X:AV→List AObj→Prop) (xs:List (XCon P X)) (E:Env):Env:=⟨E.zero,E.wr,E.eg,E.jk,E.pc,xcL xs E.ec,X⟩
theorem envXOk {X:AV→List AObj→Prop} {xs:List (XCon P X)} {E:Env} (hE:EnvOk P E) (hX:∀ x σ,¬ E.px x σ:=by intro _ _ h;exact h):EnvOk P (envX X xs E) where
  zero:=hE.zero
  pc:=hE.pc
  ec:=by
   intro f args σ k h
   simp only [envX] at h
   induction xs with
   |nil=>exact ⟨(hE.ec f args σ k h).1,(ec_of_xec hX (hE.ec f args σ k h).2).xec⟩
   |cons c l ih=>
    simp only [xcL] at h
    split at h
    ·rename_i e;subst e;exact ⟨c.fk,c.ok args σ k h⟩
    ·exact ih h
section
variable {X:AV→List AObj→Prop} {xs:List (XCon P X)} {E:Env}
theorem envx_zero {t:TypeId}:(envX X xs E).zero t=E.zero t:=rfl
theorem envx_wr {t:Nat}:(envX X xs E).wr t=E.wr t:=rfl
theorem envx_eg {t:Nat}:(envX X xs E).eg t=E.eg t:=rfl
theorem envx_jk {t:TypeId}:(envX X xs E).jk t=E.jk t:=rfl
theorem envx_pc {f:FuncId} {args:List AV}:(envX X xs E).pc f args=E.pc f args:=rfl
theorem envx_ec {f:FuncId} {args:List AV} {σ:List AObj} {k:AV→List AObj→Prop}:(envX X xs E).ec f args σ k=xcL xs E.ec f args σ k:=rfl
theorem envx_px {x:AV} {σ:List AObj}:(envX X xs E).px x σ=X x σ:=rfl
end
attribute [go_sem] envx_zero envx_wr envx_eg envx_jk envx_pc envx_ec envx_px xcL
end Go.Fw

namespace Go.Fw
open Go
set_option linter.unusedSectionVars false
variable [TB]
variable {P:Program} {E:Env} {keep:Nat→List Nat} {n0:Nat}
def picks {α:Type}:List α→List (α×List α)
  |[]=>[]
  |a::l=>(a,l)::(picks l).map fun p=>(p.1,a::p.2)
def perm4 (P:Program) (E:Env) (D:Nat→Bool) (ds:List (Option Tmp)):Nat→List (Nat×Oper)→(AS→Prop)→AS→Prop
  |0,_,K,s=>K s
  |n+1,g,K,s=>∀ p∈picks g,astep P E ds p.1.2 s fun x σ'=>Kp D s.σ σ'∧perm4 P E D ds n p.2 K ⟨putF s.f p.1.2.dst x,σ'⟩
def lopsP (P:Program) (E:Env) (D:Nat→Bool) (ds:List (Option Tmp)) (l1:Option (List (Oper×Nat))) (n:Nat) (g:Option (List (Nat×Oper))) (l2:Option (List (Oper×Nat))) (s:AS) (K:AS→Prop):Prop:=match l1,g,l2 with
  |some l1,some g,some l2=>lops P E D ds l1 s fun s=>perm4 P E D ds n g (fun s=>lops P E D ds l2 s K) s
  |_,_,_=>False
theorem lp_some {D:Nat→Bool} {ds:List (Option Tmp)} {l1 l2:List (Oper×Nat)} {n:Nat} {g:List (Nat×Oper)} {s:AS} {K:AS→Prop}:
    lopsP P E D ds (some l1) n (some g) (some l2) s K=lops P E D ds l1 s fun s=>perm4 P E D ds n g (fun s=>lops P E D ds l2 s K) s:=rfl
def kPE (P:Program) (E:Env) (D:Nat→Bool) (ds:List (Option Tmp)) (n:Nat) (g:List (Nat×Oper)) (K:AS→Prop) (d:Option Tmp) (f:Nat→AV) (σ:List AObj):AV→List AObj→Prop:=fun x σ'=>Kp D σ σ'∧perm4 P E D ds n g K ⟨putF f d x,σ'⟩
def all4 (P:Program) (E:Env) (D:Nat→Bool) (ds:List (Option Tmp)) (n:Nat) (f:Nat→AV) (σ:List AObj) (K:AS→Prop):List ((Nat×Oper)×List (Nat×Oper))→Prop
  |[]=>True
  |((_,⟨d,op,ty,pos,af,none⟩),r)::l=>avop P E (aev f) σ ⟨d,op,ty,pos,af,none⟩ (kPE P E D ds n r K d f σ)∧all4 P E D ds n f σ K l
  |_=>False
theorem p4_all {D:Nat→Bool} {ds:List (Option Tmp)} {n:Nat} {f:Nat→AV} {σ:List AObj} {K:AS→Prop}:∀ {l:List ((Nat×Oper)×List (Nat×Oper))},all4 P E D ds n f σ K l→∀ p∈l,astep P E ds p.1.2 ⟨f,σ⟩ fun x σ'=>Kp D σ σ'∧perm4 P E D ds n p.2 K ⟨putF f p.1.2.dst x,σ'⟩
  |[],_,p,hp=>by cases hp
  |((i,⟨d,op,ty,pos,af,none⟩),r)::l,h,p,hp=>by
   simp only [all4] at h
   rcases List.mem_cons.1 hp with rfl|hp
   ·exact h.1
   ·exact p4_all h.2 p hp
  |((i,⟨d,op,ty,pos,af,some g⟩),r)::l,h,p,hp=>by exact h.elim
theorem t_p4 {D:Nat→Bool} {ds:List (Option Tmp)} {n:Nat} {g:List (Nat×Oper)} {f:Nat→AV} {σ:List AObj} {K:AS→Prop} (h:all4 P E D ds n f σ K (picks g)):perm4 P E D ds (n+1) g K ⟨f,σ⟩:=p4_all h
end Go.Fw

namespace Go.Fw
open Go
set_option linter.unusedSectionVars false
variable [TB]
variable {P:Program} {E:Env} {keep:Nat→List Nat} {n0:Nat}
def allD:Nat→Bool:=fun _=>true
theorem kp_setA {σ:List AObj} {o:Nat} {e sz ver:Nat} {xs:List AV} {fz:Bool} {X:AObj} (ho:σ[o]? =some (.arr e sz xs ver fz)):Kp allD σ (σ.set o X):=fun o' t cs _ h=>by
  by_cases e:o=o'
  ·subst e;rw [ho] at h;cases h
  ·rw [List.getElem?_set_ne e];exact h
theorem kp_appA {σ l:List AObj}:Kp allD σ (σ++l):=fun o t cs _ h=>by
  rw [List.getElem?_append_left (List.getElem?_eq_some_iff.1 h).1];exact h
theorem appE_form {σ:List AObj} {ats:Array TypeId} {s x:AV}:(∀ k,appE P σ ats s x k=none)∨∃ p y σ',Kp allD σ σ'∧∀ k,appE P σ ats s x k=some (p∧k y σ'):=by
  unfold appE
  cases appT P ats with
  |none=>exact .inl fun _=>rfl
  |some e=>cases srcOf σ x with
   |none=>exact .inl fun _=>rfl
   |some q=>
    obtain ⟨sz',ys⟩:=q
    simp only
    split
    ·by_cases h:sz'=szT P e∨ys=[]
     ·simp only [if_pos h]
      exact .inr ⟨_,_,_,kp_appA,fun _=>rfl⟩
     ·simp only [if_neg h];exact .inl fun _=>trivial
    ·rename_i sz xs
     by_cases h:(sz'=sz∨ys=[])∧sz=szT P e
     ·simp only [if_pos h]
      exact .inr ⟨_,_,_,kp_appA,fun _=>rfl⟩
     ·simp only [if_neg h];exact .inl fun _=>trivial
    ·rename_i o ver
     split
     ·rename_i e' sz xs ver' ho
      by_cases h:ver=ver'∧e'=e∧sz=szT P e∧(sz'=sz∨ys=[])
      ·simp only [if_pos h]
       exact .inr ⟨_,_,_,kp_setA ho,fun _=>rfl⟩
      ·simp only [if_neg h];exact .inl fun _=>trivial
     ·exact .inl fun _=>rfl
    ·rename_i o ver sz0 lo hi
     split
     ·rename_i e' sz xs ver' ho
      split
      ·rename_i sz2 zs hz
       by_cases h:lo=0∧ver=ver'∧e'=e∧sz=szT P e∧sz0=sz∧(sz2=sz∨zs=[])
       ·simp only [if_pos h]
        exact .inr ⟨_,_,_,kp_setA ho,fun _=>rfl⟩
       ·simp only [if_neg h];exact .inl fun _=>trivial
      ·exact .inl fun _=>rfl
     ·exact .inl fun _=>rfl
    ·exact .inl fun _=>rfl
def appK (o:Oper):Bool:=o.guard.isNone&&(match o.op with
  |.call c=>(match c.callee with
   |.builtin b=>isApp b
   |_=>false)
  |_=>false)
theorem avop_app {ev:Operand→AV} {σ:List AObj} {o:Oper} {k:AV→List AObj→Prop} (ho:appK o=true) (h:avop P E ev σ o k):avop P E ev σ o (fun x σ'=>Kp allD σ σ'∧k x σ'):=by
  obtain ⟨dst,op,type,pos,after,guard⟩:=o
  simp only [appK,Bool.and_eq_true] at ho
  have hc:=ho.2
  have key:(∀ k,aeff P E ev σ ⟨dst,op,type,pos,after,guard⟩ k=none)∨∃ p y σ',Kp allD σ σ'∧∀ k,aeff P E ev σ ⟨dst,op,type,pos,after,guard⟩ k=some (p∧k y σ'):=by
    cases op<;>simp only at hc
    case call c=>
      split at hc
      ·rename_i b hb
       simp only [aeff,hb,if_pos hc]
       split
       ·exact appE_form
       ·exact .inl fun _=>rfl
      ·cases hc
    all_goals cases hc
  unfold avop at h ⊢
  rcases key with hn|⟨p,y,σ',hk,hs⟩
  ·rw [hn] at h ⊢
   simp only at h ⊢
   split at h
   ·exact ⟨h.1,Kp.refl _,h.2⟩
   ·exact h
  ·rw [hs] at h ⊢
   exact ⟨h.1,hk,h.2⟩
theorem astep_kp {ds:List (Option Tmp)} {o:Oper} {s:AS} {k:AV→List AObj→Prop} (ho:(pureK o||appK o)=true) (h:astep P E ds o s k):∃ k',astep P E ds o s k'∧∀ x σ',k' x σ'→Kp allD s.σ σ'∧k x σ':=by
  rcases Bool.or_eq_true_iff.1 ho with ho|ho
  ·exact ⟨_,astep_pure ho h,fun x σ' hk=>⟨by rw [hk.1];exact Kp.refl _,hk.2⟩⟩
  ·have hg:o.guard=none:=by simp only [appK,Bool.and_eq_true,Option.isNone_iff_eq_none] at ho;exact ho.1
   refine ⟨fun x σ'=>Kp allD s.σ σ'∧k x σ',?_,fun _ _ h=>h⟩
   unfold astep at h ⊢
   rw [hg] at h ⊢
   exact avop_app ho h
def preC (md:Region.Mode) (ops:Array Oper) (listed:Array Bool) (i:Nat) (B:List Bool):Bool:=
  (List.range ops.size).all fun j=>match ops[j]? with
    |none=>true
    |some o=>if B.getD j false=true then !(listed.getD j true)&&(j==i||o.after.toList.any fun e=>Region.binds md e&&B.getD e.on false&&decide (e.on<ops.size)) else listed.getD j true||(pureK o||appK o)
theorem preC_spec {md:Region.Mode} {ops:Array Oper} {listed:Array Bool} {i:Nat} {B:List Bool} (h:preC md ops listed i B=true) {j:Nat} {o:Oper} (ho:ops[j]? =some o):
    (B.getD j false=true→listed.getD j true=false∧(j=i∨∃ e∈o.after,Region.binds md e=true∧B.getD e.on false=true∧e.on<ops.size))∧(B.getD j false=false→listed.getD j true=true∨(pureK o||appK o)=true):=by
  have hj:j<ops.size:=(Array.getElem?_eq_some_iff.1 ho).1
  have:=List.all_eq_true.1 h j (List.mem_range.2 hj)
  simp only [ho] at this
  constructor
  ·intro hb
   rw [if_pos hb] at this
   simp only [Bool.and_eq_true,Bool.not_eq_true',Bool.or_eq_true,beq_iff_eq,List.any_eq_true,decide_eq_true_eq] at this
   refine ⟨this.1,?_⟩
   rcases this.2 with h|⟨e,he,⟨h1,h2⟩,h3⟩
   ·exact .inl h
   ·exact .inr ⟨e,by simpa using he,h1,h2,h3⟩
  ·intro hb
   rw [if_neg (by rw [hb];simp)] at this
   exact Bool.or_eq_true_iff.1 this
theorem sAny_pre3 {D:Nat→Bool} {md:Region.Mode} {ops:Array Oper} {Q:AS→Prop} {i:Nat} {oi:Oper} {p:Prop} {x:AV} {B:List Bool} (hi:ops[i]? =some oi) (hp:p)
    (hC:∀ j oj,ops[j]? =some oj→B.getD j false=true→j≠i→∃ e∈oj.after,Region.binds md e=true∧B.getD e.on false=true∧e.on<ops.size) (hBi:B.getD i false=true):
    ∀ (fuel:Nat) (listed:Array Bool) (s:AS),
      (∀ j oj,ops[j]? =some oj→j≠i→listed.getD j true=false→(∀ e∈oj.after,Region.binds md e=true→e.on≠i)→oi.apart ops oj=true)→
      (∀ j oj,ops[j]? =some oj→(B.getD j false=true→listed.getD j true=false)∧(B.getD j false=false→listed.getD j true=true∨(pureK oj||appK oj)=true))→
      i∈Region.ready md ops listed→stabG E allD (dsOf ops) s.f oi=true→sval P E (dsOf ops) s.f s.σ oi=some (p,x)→
      sAny P E D md ops Q fuel (listed.setIfInBounds i true) ⟨putF s.f oi.dst x,s.σ⟩→sAny P E D md ops Q (fuel+1) listed s:=by
  intro fuel
  have here:∀ (s:AS) {K:AS→Prop},stabG E allD (dsOf ops) s.f oi=true→sval P E (dsOf ops) s.f s.σ oi=some (p,x)→K ⟨putF s.f oi.dst x,s.σ⟩→sOp P E D ops i K s:=by
    intro s K hs hy H
    unfold sOp
    rw [hi]
    refine ⟨fun y σ'=>y=x∧σ'=s.σ,?_,fun y σ' ⟨e1,e2⟩=>by rw [e1,e2];exact ⟨Kp.refl _,H⟩⟩
    exact astep_stab hs hy hp ⟨rfl,rfl⟩
  induction fuel with
  |zero=>
   intro listed s _ _ hr hs hy H
   refine ⟨fun h=>(by rw [h] at hr;cases hr),fun j hj=>?_⟩
   by_cases hji:j=i
   ·subst hji;exact here s hs hy H
   ·have:=ready_mono hj hji
    rw [H.1] at this
    cases this
  |succ fuel ih=>
   intro listed s hfree hinv hr hs hy H
   refine ⟨fun h=>(by rw [h] at hr;cases hr),fun j hj=>?_⟩
   by_cases hji:j=i
   ·subst hji;exact here s hs hy H
   ·have h1:=H.2 j (ready_mono hj hji)
    obtain ⟨hjun,oj,hoj,hall⟩:=mem_ready.1 hj
    have hnot:∀ e∈oj.after,Region.binds md e=true→e.on≠i:=fun e he hb heq=>by
      have h1:=hall e he hb
      have h0:=(mem_ready.1 hr).1
      rw [heq] at h1
      rcases Nat.lt_or_ge i listed.size with h'|h'
      ·simp [h'] at h0 h1;rw [h0] at h1;cases h1
      ·simp [Array.getElem?_eq_none h'] at h1
    have hBj:B.getD j false=false:=by
      cases hb:B.getD j false with
      |false=>rfl
      |true=>
       exfalso
       obtain ⟨e,he,hbd,hBe,hlt⟩:=hC j oj hoj hb hji
       have h1:=hall e he hbd
       obtain ⟨oe,hoe⟩:∃ oe,ops[e.on]? =some oe:=⟨_,Array.getElem?_eq_getElem hlt⟩
       have h0:=(hinv e.on oe hoe).1 hBe
       rcases Nat.lt_or_ge e.on listed.size with h'|h'
       ·simp [h'] at h0 h1;rw [h0] at h1;cases h1
       ·simp [Array.getElem?_eq_none h'] at h1
    have hpj:(pureK oj||appK oj)=true:=by
      rcases (hinv j oj hoj).2 hBj with h|h
      ·rw [h] at hjun;cases hjun
      ·exact h
    obtain ⟨a1,a2,a3⟩:=Oper.apart_spec (hfree j oj hoj hji hjun hnot)
    have hfree':∀ k ok,ops[k]? =some ok→k≠i→(listed.setIfInBounds j true).getD k true=false→
      (∀ e∈ok.after,Region.binds md e=true→e.on≠i)→oi.apart ops ok=true:=fun k ok hk hki hun hno=>by
      refine hfree k ok hk hki ?_ hno
      by_cases hjk:j=k
      ·subst hjk;exact hjun
      ·rw [getD_set_ne true hjk] at hun;exact hun
    have hinv':∀ k ok,ops[k]? =some ok→(B.getD k false=true→(listed.setIfInBounds j true).getD k true=false)∧(B.getD k false=false→(listed.setIfInBounds j true).getD k true=true∨(pureK ok||appK ok)=true):=fun k ok hk=>by
      by_cases hjk:j=k
      ·subst hjk
       rw [hoj] at hk
       cases hk
       exact ⟨fun hb=>absurd (hBj.symm.trans hb) (by decide),fun _=> .inr hpj⟩
      ·rw [getD_set_ne true hjk];exact hinv k ok hk
    unfold sOp at h1 ⊢
    simp only [hoj] at h1 ⊢
    obtain ⟨k,k1,k2⟩:=h1
    rw [astep_put oj s.f s.σ oi.dst x a1] at k1
    obtain ⟨k',k1',hk'⟩:=astep_kp (s:=s) hpj k1
    refine ⟨k',k1',fun y σ' hky'=>?_⟩
    obtain ⟨q0,hky⟩:=hk' y σ' hky'
    obtain ⟨q1,q2⟩:=k2 y σ' hky
    refine ⟨q1,ih (listed.setIfInBounds j true) ⟨putF s.f oj.dst y,σ'⟩ hfree' hinv' (ready_mono hr (Ne.symm hji)) (by rw [stabG_put oi s.f oj.dst y a3];exact hs) (by rw [sval_put oi s.f σ' oj.dst y a3];exact sval_kp q0 hs hy) ?_⟩
    rw [Array.setIfInBounds_comm _ _ hji,←putF_comm s.f x y a2]
    exact q2
def lopsX (P:Program) (E:Env) (D:Nat→Bool) (ds:List (Option Tmp)):List (Oper×Nat)→AS→(AS→Prop)→Prop
  |[],s,K=>K s
  |(o,0)::l,s,K=>lops P E D ds [(o,0)] s fun s=>lopsX P E D ds l s K
  |(o,1)::l,s,K=>lops P E D ds [(o,1)] s fun s=>lopsX P E D ds l s K
  |(o,2)::l,s,K=>lops P E D ds [(o,2)] s fun s=>lopsX P E D ds l s K
  |(o,_+3)::l,s,K=>lops P E allD ds [(o,1)] s fun s=>lopsX P E D ds l s K
def preX (md:Region.Mode) (ops:Array Oper) (listed:Array Bool) (i:Nat):Bool:=Region.free md ops listed i&&(clos md ops i).getD i false&&preC md ops listed i (clos md ops i)
def ordX (md:Region.Mode) (ops:Array Oper):List (Nat×Nat)→Array Bool→Bool
  |[],listed=>(Region.ready md ops listed).isEmpty
  |(i,b)::l,listed=>(Region.ready md ops listed).contains i&&(match b with
   |0=>Region.ready md ops listed==[i]
   |1=>Region.free md ops listed i
   |2=>preI md ops listed i
   |_+3=>preX md ops listed i)&&ordX md ops l (listed.setIfInBounds i true)
theorem sAny_ordX {D:Nat→Bool} {md:Region.Mode} {ops:Array Oper} {Q:AS→Prop}:∀ (ord:List (Nat×Nat)) (l:List (Oper×Nat)) (listed:Array Bool) (s:AS),
    ordX md ops ord listed=true→pickO ops ord=some l→lopsX P E D (dsOf ops) l s Q→sAny P E D md ops Q ord.length listed s
  |[],l,listed,s,hB,hp,h=>by
   cases hp
   exact ⟨by simpa [ordX] using hB,h⟩
  |(i,b)::ord,l,listed,s,hB,hp,h=>by
   simp only [pickO] at hp
   split at hp
   ·rename_i o l' ho hl'
    cases hp
    simp only [ordX,Bool.and_eq_true] at hB
    obtain ⟨⟨hr,hf⟩,hB'⟩:=hB
    have hr':i∈Region.ready md ops listed:=by simpa using hr
    match b,hf,h with
    |1,hf,h=>
     simp only at hf
     simp only [lopsX,lops] at h
     obtain ⟨hs,h⟩:=h
     split at h
     ·rename_i p x hv
      exact sAny_first ho h.1 ord.length listed s (Region.free_spec ho hf) hr' hs hv (sAny_ordX ord l' _ _ hB' hl' h.2)
     ·exact h.elim
    |n+3,hf,h=>
     simp only [preX,Bool.and_eq_true] at hf
     obtain ⟨⟨h2,h3⟩,h4⟩:=hf
     simp only [lopsX,lops] at h
     obtain ⟨hs,h⟩:=h
     split at h
     ·rename_i p x hv
      exact sAny_pre3 (B:=clos md ops i) ho h.1 (fun j oj hoj hb hji=>by
          rcases ((preC_spec h4 hoj).1 hb).2 with e|e
          ·exact absurd e hji
          ·exact e) h3 ord.length listed s (Region.free_spec ho h2) (fun j oj hoj=>⟨fun hb=>((preC_spec h4 hoj).1 hb).1,(preC_spec h4 hoj).2⟩) hr' hs hv (sAny_ordX ord l' _ _ hB' hl' h.2)
     ·exact h.elim
    |2,hf,h=>
     simp only [preI,ho,Bool.and_eq_true] at hf
     obtain ⟨⟨⟨h1,h2⟩,h3⟩,h4⟩:=hf
     simp only [lopsX,lops] at h
     split at h
     ·rename_i p x hv
      exact sAny_pre (B:=clos md ops i) ho h.1 h1 (fun j oj hoj hb hji=>by
          rcases ((preB_spec h4 hoj).1 hb).2 with e|e
          ·exact absurd e hji
          ·exact e) h3 ord.length listed s (Region.free_spec ho h2) (fun j oj hoj=>⟨fun hb=>((preB_spec h4 hoj).1 hb).1,(preB_spec h4 hoj).2⟩) hr' hv (sAny_ordX ord l' _ _ hB' hl' h.2)
     ·exact h.elim
    |0,hf,h=>
     simp only [beq_iff_eq] at hf
     simp only [lopsX,lops] at h
     refine ⟨fun e=>(by rw [e] at hr';cases hr'),fun j hj=>?_⟩
     rw [hf] at hj
     obtain rfl:j=i:=by simpa using hj
     unfold sOp
     rw [ho]
     exact ⟨_,h,fun x σ' hk=>⟨hk.1,sAny_ordX ord l' _ _ hB' hl' hk.2⟩⟩
   ·cases hp
def lopsXO (P:Program) (E:Env) (D:Nat→Bool) (ds:List (Option Tmp)) (l:Option (List (Oper×Nat))) (s:AS) (K:AS→Prop):Prop:=match l with
  |some l=>lopsX P E D ds l s K
  |none=>False
theorem lX_some {D:Nat→Bool} {ds:List (Option Tmp)} {l:List (Oper×Nat)} {s:AS} {K:AS→Prop}:lopsXO P E D ds (some l) s K=lopsX P E D ds l s K:=rfl
theorem lX_nil {D:Nat→Bool} {ds:List (Option Tmp)} {s:AS} {K:AS→Prop}:lopsX P E D ds [] s K=K s:=rfl
theorem lX_0 {D:Nat→Bool} {ds:List (Option Tmp)} {o:Oper} {l:List (Oper×Nat)} {s:AS} {K:AS→Prop}:lopsX P E D ds ((o,0)::l) s K=lops P E D ds [(o,0)] s fun s=>lopsX P E D ds l s K:=rfl
theorem lX_1 {D:Nat→Bool} {ds:List (Option Tmp)} {o:Oper} {l:List (Oper×Nat)} {s:AS} {K:AS→Prop}:lopsX P E D ds ((o,1)::l) s K=lops P E D ds [(o,1)] s fun s=>lopsX P E D ds l s K:=rfl
theorem lX_2 {D:Nat→Bool} {ds:List (Option Tmp)} {o:Oper} {l:List (Oper×Nat)} {s:AS} {K:AS→Prop}:lopsX P E D ds ((o,2)::l) s K=lops P E D ds [(o,2)] s fun s=>lopsX P E D ds l s K:=rfl
theorem lX_3 {D:Nat→Bool} {ds:List (Option Tmp)} {o:Oper} {l:List (Oper×Nat)} {s:AS} {K:AS→Prop}:lopsX P E D ds ((o,3)::l) s K=lops P E allD ds [(o,1)] s fun s=>lopsX P E D ds l s K:=rfl
theorem t_drawX {id:Nat} {ops:List Oper} {Q:Exit→AS→Prop} {s:AS} (D:Nat→Bool) (ord:List (Nat×Nat)) (hB:(ord.length==ops.toArray.size&&ordX .any ops.toArray ord (Array.replicate ops.toArray.size false))=true)
    (h:∀ K:KT (Q .normal),lopsXO P E D (dsOf ops.toArray) (pickO ops.toArray ord) s (keepK K.k (keep id))):awp P E keep n0 (.region id ops.toArray true) Q s:=by
  have:=h ⟨fun s'=>∃ s'',Le n0 s' s''∧Q .normal s'',fun s h=>⟨s,fun _ G _ _ _ _ h1 h2=>⟨G,h1,h2⟩,h⟩⟩
  unfold keepK lopsXO at this
  split at this
  ·rename_i l hl
   simp only [Bool.and_eq_true,beq_iff_eq] at hB
   have h2:=sAny_ordX (D:=D) (E:=E) (P:=P) (md:= .any) ord l (Array.replicate ops.toArray.size false) s hB.2 hl this
   rw [hB.1] at h2
   exact .inr ⟨D,h2⟩
  ·exact this.elim
attribute [go_sem] lX_some lX_nil lX_0 lX_1 lX_2 lX_3 allD
end Go.Fw

namespace Go.Fw
open Go
set_option linter.unusedSectionVars false
variable [TB]
variable {P:Program}
theorem le_dropM {n0:Nat} {f:Nat→AV} {l m:List AObj} (hn:n0≤l.length) (hb:l.all (lowO l.length)=true) (hf:∀ j,low1 l.length (f j)=true):Le n0 ⟨f,l++m⟩ ⟨f,l⟩:=by
  intro cx G w N a h0 hr hfr
  have get:∀ {o:Nat} {x:AObj},l[o]? =some x→(l++m)[o]? =some x:=fun {o x} h=>by
    rw [List.getElem?_append_left (List.getElem?_eq_some_iff.1 h).1];exact h
  refine ⟨{G with n:=l.length},⟨rfl,?_,?_,?_,hr.cell,hr.os,hr.tape,hr.output,hr.size,hr.block,hr.old,?_⟩,hfr.size,hfr.defers,fun j=>low1_R (hfr.rel j) (hf j)⟩
  ·intro o x ho
   have hk:=hr.ok o x (get ho)
   cases x with
   |gone=>trivial
   |box t cs=>
    have hm:lowO l.length (.box t cs)=true:=by
      rw [List.all_eq_true] at hb
      exact hb _ (List.mem_of_getElem? ho)
    obtain ⟨g,cur,h1,h2,h3,h4,h5⟩:=hk
    simp only [lowO,List.all_eq_true] at hm
    exact ⟨g,cur,h1,h2,h3,fun i hi=>⟨low1_R (h4 i hi).1 (hm _ (getD_mem' hi)),(h4 i hi).2⟩,h5⟩
   |arr e sz xs ver fz=>
    obtain ⟨h1,h2,h3⟩:=hk
    refine ⟨h1,h2,?_⟩
    cases fz with
    |true=>exact h3
    |false=>
     simp only [Bool.false_eq_true,if_false] at h3 ⊢
     rcases h3 with h3|⟨g,cap,cur,h3⟩
     ·exact .inl h3
     ·exact .inr ⟨g,cap,cur,h3.keep (CLe.refl _) rfl h3.unc⟩
   |map es=>
    obtain ⟨g,ents,clock,h1,h2⟩:=hk
    exact ⟨g,ents,clock,h1,h2.keep (CLe.refl _) rfl h2.unc⟩
  ·intro o1 o2 ob1 ob2 g h1 h2 h3 h4 h5 h6
   exact hr.inj o1 o2 ob1 ob2 g (get h1) h2 (get h3) h4 h5 h6
  ·intro o x g h1 h2 h3
   exact hr.own o x g (get h1) h2 h3
  ·have h:=hr.le0
   exact ⟨h.C,by show cx.G0.n≤l.length;omega,h.ver,h.b,h.p⟩
theorem le_backM {n0:Nat} {f g:Nat→AV} {σ l m:List AObj} (e:σ=l++m) (hn:n0≤l.length) (hb:l.all (lowO l.length)=true) (hg:∀ j,low1 l.length (g j)=true) (h:∀ j,LeR (f j) (g j)):Le n0 ⟨f,σ⟩ ⟨g,l⟩:=by
  subst e
  exact (Le.frame h).trans (le_dropM hn hb hg)
end Go.Fw

namespace Go.Fw
open Go
set_option linter.unusedSectionVars false
variable [TB]
variable {P:Program} {E:Env} {keep:Nat→List Nat} {n0:Nat}
theorem BdS.same {n:Nat} {σ τ:List AObj} (h:BdS n σ) (hs:∀ (o:Nat) (t:TypeId) (cs:List AV),τ[o]? =some (AObj.box t cs)→σ[o]? =some (AObj.box t cs)):BdS n τ:=
  fun o t cs ho=>h o t cs (hs o t cs ho)
section
variable {D:Nat→Bool} {ds:List (Option Tmp)} {K:AS→Prop} {f:Nat→AV} {σ σ':List AObj} {n:Nat} {x:AV} {d:Option Tmp}
theorem a4_nil:all4 P E D ds n f σ K []=True:=rfl
theorem a4_cons {i:Nat} {op:Op} {ty:TypeId} {pos:String} {af:Array Edge} {r:List (Nat×Oper)} {l:List ((Nat×Oper)×List (Nat×Oper))}:
    all4 P E D ds n f σ K (((i,⟨d,op,ty,pos,af,none⟩),r)::l)=(avop P E (aev f) σ ⟨d,op,ty,pos,af,none⟩ (kPE P E D ds n r K d f σ)∧all4 P E D ds n f σ K l):=rfl
theorem pk_nil {α:Type}:picks ([]:List α)=[]:=rfl
theorem pk_cons {α:Type} {a:α} {l:List α}:picks (a::l)=(a,l)::(picks l).map fun p=>(p.1,a::p.2):=rfl
instance {s:AS} {g:List (Nat×Oper)}:Ny (perm4 P E D ds 0 g K s) (K s):=⟨fun h=>h⟩
instance {g:List (Nat×Oper)}:Ny (perm4 P E D ds (n+1) g K ⟨f,σ⟩) (all4 P E D ds n f σ K (picks g)):=⟨t_p4⟩
end
attribute [go_sem] a4_nil a4_cons pk_nil pk_cons lp_some
end Go.Fw

namespace Go.Fw
open Go
set_option linter.unusedSectionVars false
variable [TB]
variable {P:Program} {n0:Nat}
end Go.Fw

namespace Go.Fw
open Go
set_option linter.unusedSectionVars false
variable [TB]
variable {P:Program} {σ:List AObj}
end Go.Fw

namespace Go.Fw
open Go
set_option linter.unusedSectionVars false
variable [TB]
variable {P:Program}
structure CallU (P:Program) (f:FuncId) (args:List AV) (σ:List AObj) (k:AV→List AObj→Prop):Prop where
  fk:fok P f=true
  ec:EC P f args σ k
def envU (P:Program) (jk:TypeId→AV) (zer:TypeId→AV) (wr eg:Nat→Bool) (ps:List (PCon P)):Env:=⟨zer,wr,eg,jk,pcL ps,fun f args σ k=>CallU P f args σ k,fun _ _=>False⟩
section
variable {jk zer:TypeId→AV} {wr eg:Nat→Bool} {ps:List (PCon P)}
theorem envu_zero {t:TypeId}:(envU P jk zer wr eg ps).zero t=zer t:=rfl
theorem envu_wr {t:Nat}:(envU P jk zer wr eg ps).wr t=wr t:=rfl
theorem envu_eg {t:Nat}:(envU P jk zer wr eg ps).eg t=eg t:=rfl
theorem envu_jk {t:TypeId}:(envU P jk zer wr eg ps).jk t=jk t:=rfl
theorem envu_pc {f:FuncId} {args:List AV}:(envU P jk zer wr eg ps).pc f args=pcL ps f args:=rfl
theorem envu_ec {f:FuncId} {args:List AV} {σ:List AObj} {k:AV→List AObj→Prop}:(envU P jk zer wr eg ps).ec f args σ k=CallU P f args σ k:=rfl
end
attribute [go_sem] envu_zero envu_wr envu_eg envu_jk envu_pc envu_ec
end Go.Fw

namespace Go.Fw
open Go
set_option linter.unusedSectionVars false
variable [TB]
variable {P:Program} {E:Env} {keep:Nat→List Nat} {n0:Nat}
def picksD (dep:List (Nat×Nat)) (g:List (Nat×Oper)):List ((Nat×Oper)×List (Nat×Oper)):=(picks g).filter fun p=>dep.all fun e=> !(e.2==p.1.1&&g.any fun q=>q.1==e.1)
def perm4D (P:Program) (E:Env) (D:Nat→Bool) (ds:List (Option Tmp)) (dep:List (Nat×Nat)):Nat→List (Nat×Oper)→(AS→Prop)→AS→Prop
  |0,_,K,s=>K s
  |n+1,g,K,s=>∀ p∈picksD dep g,astep P E ds p.1.2 s fun x σ'=>Kp D s.σ σ'∧perm4D P E D ds dep n p.2 K ⟨putF s.f p.1.2.dst x,σ'⟩
def lopsPD (P:Program) (E:Env) (D:Nat→Bool) (ds:List (Option Tmp)) (dep:List (Nat×Nat)) (l1:Option (List (Oper×Nat))) (n:Nat) (g:Option (List (Nat×Oper))) (l2:Option (List (Oper×Nat))) (s:AS) (K:AS→Prop):Prop:=match l1,g,l2 with
  |some l1,some g,some l2=>lops P E D ds l1 s fun s=>perm4D P E D ds dep n g (fun s=>lops P E D ds l2 s K) s
  |_,_,_=>False
theorem lpD_some {D:Nat→Bool} {ds:List (Option Tmp)} {dep:List (Nat×Nat)} {l1 l2:List (Oper×Nat)} {n:Nat} {g:List (Nat×Oper)} {s:AS} {K:AS→Prop}:
    lopsPD P E D ds dep (some l1) n (some g) (some l2) s K=lops P E D ds l1 s fun s=>perm4D P E D ds dep n g (fun s=>lops P E D ds l2 s K) s:=rfl
def kPD (P:Program) (E:Env) (D:Nat→Bool) (ds:List (Option Tmp)) (dep:List (Nat×Nat)) (n:Nat) (g:List (Nat×Oper)) (K:AS→Prop) (d:Option Tmp) (f:Nat→AV) (σ:List AObj):AV→List AObj→Prop:=fun x σ'=>Kp D σ σ'∧perm4D P E D ds dep n g K ⟨putF f d x,σ'⟩
def all4D (P:Program) (E:Env) (D:Nat→Bool) (ds:List (Option Tmp)) (dep:List (Nat×Nat)) (n:Nat) (f:Nat→AV) (σ:List AObj) (K:AS→Prop):List ((Nat×Oper)×List (Nat×Oper))→Prop
  |[]=>True
  |((_,⟨d,op,ty,pos,af,none⟩),r)::l=>avop P E (aev f) σ ⟨d,op,ty,pos,af,none⟩ (kPD P E D ds dep n r K d f σ)∧all4D P E D ds dep n f σ K l
  |_=>False
theorem p4D_all {D:Nat→Bool} {ds:List (Option Tmp)} {dep:List (Nat×Nat)} {n:Nat} {f:Nat→AV} {σ:List AObj} {K:AS→Prop}:∀ {l:List ((Nat×Oper)×List (Nat×Oper))},all4D P E D ds dep n f σ K l→∀ p∈l,astep P E ds p.1.2 ⟨f,σ⟩ fun x σ'=>Kp D σ σ'∧perm4D P E D ds dep n p.2 K ⟨putF f p.1.2.dst x,σ'⟩
  |[],_,p,hp=>by cases hp
  |((i,⟨d,op,ty,pos,af,none⟩),r)::l,h,p,hp=>by
   simp only [all4D] at h
   rcases List.mem_cons.1 hp with rfl|hp
   ·exact h.1
   ·exact p4D_all h.2 p hp
  |((i,⟨d,op,ty,pos,af,some g⟩),r)::l,h,p,hp=>by exact h.elim
section
variable {D:Nat→Bool} {ds:List (Option Tmp)} {dep:List (Nat×Nat)} {K:AS→Prop} {f:Nat→AV} {σ σ':List AObj} {n:Nat} {x:AV} {d:Option Tmp}
theorem a4D_nil:all4D P E D ds dep n f σ K []=True:=rfl
theorem a4D_cons {i:Nat} {op:Op} {ty:TypeId} {pos:String} {af:Array Edge} {r:List (Nat×Oper)} {l:List ((Nat×Oper)×List (Nat×Oper))}:
    all4D P E D ds dep n f σ K (((i,⟨d,op,ty,pos,af,none⟩),r)::l)=(avop P E (aev f) σ ⟨d,op,ty,pos,af,none⟩ (kPD P E D ds dep n r K d f σ)∧all4D P E D ds dep n f σ K l):=rfl
instance {s:AS} {g:List (Nat×Oper)}:Ny (perm4D P E D ds dep 0 g K s) (K s):=⟨fun h=>h⟩
instance {g:List (Nat×Oper)}:Ny (perm4D P E D ds dep (n+1) g K ⟨f,σ⟩) (all4D P E D ds dep n f σ K (picksD dep g)):=⟨p4D_all⟩
end
attribute [go_sem] a4D_nil a4D_cons lpD_some
end Go.Fw

namespace Go.Fw
open Go
set_option linter.unusedSectionVars false
variable [TB]
end Go.Fw

namespace Go.Fw
open Go
set_option linter.unusedSectionVars false
variable [TB]
end Go.Fw

namespace Go.Fw
open Go
set_option linter.unusedSectionVars false
variable [TB]
variable {P:Program} {σ:List AObj}
end Go.Fw

namespace Go.Fw
open Go
set_option linter.unusedSectionVars false
variable [TB]
variable {P:Program} {n0:Nat}
end Go.Fw
