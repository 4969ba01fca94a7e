import Derived.Test.YtnlimcijgpaegaaFwD

set_option linter.all false

namespace Go.Fw
open Go
variable {P:Program} {n0:Nat}
theorem le_swapM {τ m:List AObj} {x y:AObj} {f:Nat→AV} {S:AS} (hn:n0≤τ.length) (hτ:BdS τ.length τ) (hx:flatO x=true) (hy:flatO y=true) (hm:m.all flatO=true) (hf:∀ j,flat1 (f j)=true)
    (hs:Le n0 ⟨renF (sw τ.length) f,τ++(renO (sw τ.length) y::renO (sw τ.length) x::m.map (renO (sw τ.length)))⟩ S):Le n0 ⟨f,τ++(x::y::m)⟩ S:=by
  have hbig:∀ k,2≤k→sw τ.length (τ.length+k)=τ.length+k:=fun k hk=>by unfold sw;rw [if_neg (by omega),if_neg (by omega)]
  have h0:sw τ.length (τ.length+0)=τ.length+1:=by simp [sw]
  have h1:sw τ.length (τ.length+1)=τ.length+0:=by simp [sw]
  refine Le.trans (le_ren (l:=x::y::m) (l':=renO (sw τ.length) y::renO (sw τ.length) x::m.map (renO (sw τ.length))) (sw τ.length) (sw τ.length) hn hτ (by simp) ?_ ?_ ?_ ?_ fun j=>⟨hf j,rfl⟩) hs
  ·intro o ho;unfold sw;rw [if_neg (by omega),if_neg (by omega)];exact ⟨rfl,rfl⟩
  ·intro k hk
   rcases (show k=0∨k=1∨2≤k by omega) with rfl|rfl|h2
   ·rw [h0,h1];simp
   ·rw [h1,h0];simp
   ·rw [hbig k h2,hbig k h2];exact ⟨by omega,by omega,rfl⟩
  ·intro k hk
   rcases (show k=0∨k=1∨2≤k by omega) with rfl|rfl|h2
   ·rw [h0,h1];simp
   ·rw [h1,h0];simp
   ·rw [hbig k h2,hbig k h2];exact ⟨by omega,by omega,rfl⟩
  ·intro k hk
   rcases (show k=0∨k=1∨2≤k by omega) with rfl|rfl|h2
   ·rw [h0];simp [hx]
   ·rw [h1];simp [hy]
   ·rw [hbig k h2]
    obtain ⟨k,rfl⟩:∃ j,k=j+2:=⟨k - 2,by omega⟩
    simp only [List.length_cons] at hk
    have hkm:k<m.length:=by omega
    rw [show τ.length+(k+2) - τ.length=k+2 by omega]
    have e1:(x::y::m).getD (k+2) .gone=m[k]:=by simp [List.getD,hkm]
    rw [e1]
    refine ⟨List.all_eq_true.1 hm _ (List.getElem_mem hkm),?_⟩
    simp [hkm]
theorem EC.frz1 {f:FuncId} {pre post:List AV} {o ver e sz:Nat} {xs:List AV} {σ:List AObj} {k:AV→List AObj→Prop} (ho:σ[o]? =some (.arr e sz xs ver false))
    (hk:EC P f (pre++ .sl false sz xs::post) (σ.set o (.arr e sz xs ver true)) k):EC P f (pre++ .arr o ver::post) σ k:=by
  intro cx G w vs hr hl
  obtain ⟨G1,hG1,hr1⟩:=Rel.freezeO hr o
  have e1:Fw.freezeO σ o=σ.set o (.arr e sz xs ver true):=by unfold Fw.freezeO;rw [ho]
  rw [e1] at hr1
  refine (hk cx G1 w vs hr1 ⟨by rw [hl.1];simp,fun i hi=>?_⟩).mono ?_
  ·have hi':i<(pre++ .arr o ver::post).length:=by simpa using hi
   have hj:=(hl.2 i hi').mono hG1
   by_cases hip:i=pre.length
   ·subst hip
    have a1:(pre++AV.arr o ver::post).getD pre.length .top= .arr o ver:=by simp [List.getD]
    have a2:(pre++AV.sl false sz xs::post).getD pre.length .top= .sl false sz xs:=by simp [List.getD]
    rw [a1] at hj
    rw [a2]
    have hc:Fw.arrOf false (σ.set o (.arr e sz xs ver true)) o ver=some (.sl false sz xs):=by unfold Fw.arrOf;rw [get_set ho];simp
    have:=arrOf_sound (live:=false) hr1 hj hc
    exact .clo _ _ (by simpa using this)
   ·have a3:(pre++AV.sl false sz xs::post).getD i .top=(pre++AV.arr o ver::post).getD i .top:=by
      simp only [List.getD]
      congr 1
      by_cases h:i<pre.length
      ·rw [List.getElem?_append_left h,List.getElem?_append_left h]
      ·rw [List.getElem?_append_right (by omega),List.getElem?_append_right (by omega)]
       obtain ⟨q,hq⟩:∃ q,i - pre.length=q+1:=⟨i - pre.length - 1,by omega⟩
       rw [hq];rfl
    rw [a3];exact hj
  ·rintro en w' ⟨v,G',σ',x,h1,h2,h3⟩
   exact ⟨v,G',σ',x,h1,hG1.trans h2,h3⟩
end Go.Fw
