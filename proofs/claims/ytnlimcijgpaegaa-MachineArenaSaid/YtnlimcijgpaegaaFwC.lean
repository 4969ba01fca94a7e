import Derived.Test.YtnlimcijgpaegaaFwB

set_option linter.all false

namespace Go.Fw
open Go
variable {P:Program}
theorem le_dropM {n0:Nat} {f:Nat→AV} {l m:List AObj} (hn:n0≤l.length) (hb:l.all (lowO l.length)=true) (hf:∀ j,low1 l.length (f j)=true):Le n0 ⟨f,l++m⟩ ⟨f,l⟩:=by
  intro cx G w N a h0 hr hfr
  have get:∀ {o:Nat} {x:AObj},l[o]? =some x→(l++m)[o]? =some x:=fun {o x} h=>by
    rw [List.getElem?_append_left (List.getElem?_eq_some_iff.1 h).1];exact h
  refine ⟨{G with n:=l.length},⟨rfl,?_,?_,?_,hr.cell,hr.os,hr.tape,hr.output,hr.size,hr.block,hr.old,?_⟩,hfr.size,hfr.defers,fun j=>low1_R (hfr.rel j) (hf j)⟩
  ·intro o x ho
   have hk:=hr.ok o x (get ho)
   cases x with
   |gone=>trivial
   |box t cs=>
    have hm:lowO l.length (.box t cs)=true:=by
      rw [List.all_eq_true] at hb
      exact hb _ (List.mem_of_getElem? ho)
    obtain ⟨g,cur,h1,h2,h3,h4,h5⟩:=hk
    simp only [lowO,List.all_eq_true] at hm
    exact ⟨g,cur,h1,h2,h3,fun i hi=>⟨low1_R (h4 i hi).1 (hm _ (getD_mem' hi)),(h4 i hi).2⟩,h5⟩
   |arr e sz xs ver fz=>
    obtain ⟨h1,h2,h3⟩:=hk
    refine ⟨h1,h2,?_⟩
    cases fz with
    |true=>exact h3
    |false=>
     simp only [Bool.false_eq_true,if_false] at h3 ⊢
     rcases h3 with h3|⟨g,cap,cur,h3⟩
     ·exact .inl h3
     ·exact .inr ⟨g,cap,cur,h3.keep (CLe.refl _) rfl h3.unc⟩
   |map es=>
    obtain ⟨g,ents,clock,h1,h2⟩:=hk
    exact ⟨g,ents,clock,h1,h2.keep (CLe.refl _) rfl h2.unc⟩
  ·intro o1 o2 ob1 ob2 g h1 h2 h3 h4 h5 h6
   exact hr.inj o1 o2 ob1 ob2 g (get h1) h2 (get h3) h4 h5 h6
  ·intro o x g h1 h2 h3
   exact hr.own o x g (get h1) h2 h3
  ·have h:=hr.le0
   exact ⟨h.C,by show cx.G0.n≤l.length;omega,h.ver,h.b,h.p⟩
theorem le_backM {n0:Nat} {f g:Nat→AV} {σ l m:List AObj} (e:σ=l++m) (hn:n0≤l.length) (hb:l.all (lowO l.length)=true) (hg:∀ j,low1 l.length (g j)=true) (h:∀ j,LeR (f j) (g j)):Le n0 ⟨f,σ⟩ ⟨g,l⟩:=by
  subst e
  exact (Le.frame h).trans (le_dropM hn hb hg)
end Go.Fw
