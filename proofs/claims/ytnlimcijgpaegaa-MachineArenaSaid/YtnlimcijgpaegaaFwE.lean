import Derived.Test.YtnlimcijgpaegaaFwD

set_option linter.all false

namespace Go.Fw
open Go
variable {P:Program} {n0:Nat}
theorem le_swapM {τ m:List AObj} {x y:AObj} {f:Nat→AV} {S:AS} (hn:n0≤τ.length) (hτ:BdS τ.length τ) (hx:flatO x=true) (hy:flatO y=true) (hm:m.all flatO=true) (hf:∀ j,flat1 (f j)=true)
    (hs:Le n0 ⟨renF (sw τ.length) f,τ++(renO (sw τ.length) y::renO (sw τ.length) x::m.map (renO (sw τ.length)))⟩ S):Le n0 ⟨f,τ++(x::y::m)⟩ S:=by
  have hbig:∀ k,2≤k→sw τ.length (τ.length+k)=τ.length+k:=fun k hk=>by unfold sw;rw [if_neg (by omega),if_neg (by omega)]
  have h0:sw τ.length (τ.length+0)=τ.length+1:=by simp [sw]
  have h1:sw τ.length (τ.length+1)=τ.length+0:=by simp [sw]
  refine Le.trans (le_ren (l:=x::y::m) (l':=renO (sw τ.length) y::renO (sw τ.length) x::m.map (renO (sw τ.length))) (sw τ.length) (sw τ.length) hn hτ (by simp) ?_ ?_ ?_ ?_ fun j=>⟨hf j,rfl⟩) hs
  ·intro o ho;unfold sw;rw [if_neg (by omega),if_neg (by omega)];exact ⟨rfl,rfl⟩
  ·intro k hk
   rcases (show k=0∨k=1∨2≤k by omega) with rfl|rfl|h2
   ·rw [h0,h1];simp
   ·rw [h1,h0];simp
   ·rw [hbig k h2,hbig k h2];exact ⟨by omega,by omega,rfl⟩
  ·intro k hk
   rcases (show k=0∨k=1∨2≤k by omega) with rfl|rfl|h2
   ·rw [h0,h1];simp
   ·rw [h1,h0];simp
   ·rw [hbig k h2,hbig k h2];exact ⟨by omega,by omega,rfl⟩
  ·intro k hk
   rcases (show k=0∨k=1∨2≤k by omega) with rfl|rfl|h2
   ·rw [h0];simp [hx]
   ·rw [h1];simp [hy]
   ·rw [hbig k h2]
    obtain ⟨k,rfl⟩:∃ j,k=j+2:=⟨k - 2,by omega⟩
    simp only [List.length_cons] at hk
    have hkm:k<m.length:=by omega
    rw [show τ.length+(k+2) - τ.length=k+2 by omega]
    have e1:(x::y::m).getD (k+2) .gone=m[k]:=by simp [List.getD,hkm]
    rw [e1]
    refine ⟨List.all_eq_true.1 hm _ (List.getElem_mem hkm),?_⟩
    simp [hkm]
end Go.Fw

namespace Go.Fw
open Go
variable {P:Program} {σ:List AObj}
def finK (n:Nat) (x:AV) (σ:List AObj) (k:AV→List AObj→Prop):Prop:=
  ∃ r,LeR x r∧Bd n r∧BdS n (σ.take n)∧k r (σ.take n)
theorem ec_finK {f:FuncId} {args:List AV} {k:AV→List AObj→Prop} (h:BdS σ.length σ→EC P f args σ fun x σ'=>finK σ.length x σ' k):EC P f args σ k:=by
  intro cx G w vs hr hl
  refine (h hr.bds cx G w vs hr hl).mono ?_
  rintro e w' ⟨v,G',σ',x,rfl,hle,hr',hx,r,hLe,hbx,hbd,hk⟩
  have hlen:σ.length≤σ'.length:=by rw [←hr.n,←hr'.n];exact hle.n
  have h0:cx.G0.n≤σ.length:=by rw [←hr.n];exact hr.le0.n
  have hn:σ.length≤G'.n:=by rw [hr'.n];exact hlen
  exact ⟨v,{G' with n:=σ.length},_,r,rfl,⟨hle.C,by rw [hr.n];exact Nat.le_refl _,hle.ver,hle.b,hle.p⟩,hr'.trunc hlen h0 hbd,hbx G' v hn (hLe _ _ hx),hk⟩
end Go.Fw
