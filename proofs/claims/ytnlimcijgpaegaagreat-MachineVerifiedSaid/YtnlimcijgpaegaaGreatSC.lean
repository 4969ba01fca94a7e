import Derived.Test.YtnlimcijgpaegaaGreatSB
import Derived.Test.YtnlimcijgpaegaaGreatSA
import Derived.Test.YtnlimcijgpaegaaGreatFwB
import Derived.Lib.SlicesCompact
import Derived.Shelf.Sort.Plain
import Derived.Shelf.Small.Bits
import Derived.Ground.Names2Prog
import Derived.Shelf.Slices.CompactI
import Derived.Test.YtnlimcijgpaegaaGreatProg

set_option linter.all false

namespace Go.Proofs.YtnlimcijgpaegaaGreat.Bm
open Go.Proofs.YtnlimcijgpaegaaGreat
open Go Go.Fw
section
variable {B:Prg} {mt:List Int}
theorem part_mono {f:Nat} (ih:∀ (tk:VTk) (s:List Rng) (w:W) (r:List Rng×W),vrun B mt f tk s w=some r→vrun B mt (f+1) tk s w=some r) {i to:Int} {s:List Rng} {r:Int} {x:Rng} {w:W} {o:Option (List Rng)×W}
    (h:partV (vrun B mt f) i to s r x w=some o):partV (vrun B mt (f+1)) i to s r x w=some o:=by
  unfold partV at h ⊢
  split at h
  ·rename_i hx;rw [if_pos hx];exact h
  ·rename_i hx
   rw [if_neg hx]
   split at h
   ·rename_i t w' hr
    rw [ih _ _ _ _ hr];exact h
   ·cases h
theorem vrun_mono:∀ (f:Nat) (tk:VTk) (s:List Rng) (w:W) (r:List Rng×W),vrun B mt f tk s w=some r→vrun B mt (f+1) tk s w=some r
  |0,_,_,_,_,h=>by cases h
  |f+1,.blk i to,s,w,r,h=>by
   rw [vrun] at h ⊢
   split at h
   ·rename_i hi
    rw [if_pos hi]
    simp only at h ⊢
    split at h
    ·rename_i hc
     rw [if_pos hc]
     split at h
     ·rename_i yes w1 h1
      rw [part_mono (vrun_mono f) h1]
      simp only
      split at h
      ·rename_i no w2 h2
       rw [part_mono (vrun_mono f) h2]
       simp only
       split at h
       ·rename_i t ht
        try rw [ht]
        exact vrun_mono f _ _ _ _ h
       ·cases h
      ·cases h
     ·cases h
    ·rename_i hc
     rw [if_neg hc]
     split at h
     ·rename_i hc2
      rw [if_pos hc2]
      split at h
      ·rename_i hv
       rw [if_pos hv]
       exact vrun_mono f _ _ _ _ h
      ·rename_i hv
       rw [if_neg hv]
       split at h
       ·rename_i t w1 h1
        rw [vrun_mono f _ _ _ _ h1]
        exact vrun_mono f _ _ _ _ h
       ·cases h
     ·rename_i hc2
      rw [if_neg hc2]
      exact vrun_mono f _ _ _ _ h
   ·rename_i hi
    rw [if_neg hi]
    exact h
  |f+1,.lop i v,head,w,r,h=>by
   rw [vrun] at h ⊢
   split at h
   ·rename_i t w1 h1
    rw [vrun_mono f _ _ _ _ h1]
    simp only
    split at h
    ·rename_i hg;rw [if_pos hg];exact h
    ·rename_i hg;rw [if_neg hg];exact vrun_mono f _ _ _ _ h
   ·cases h
theorem vrun_le {f g:Nat} (hfg:f≤g) {tk:VTk} {s:List Rng} {w:W} {r:List Rng×W} (h:vrun B mt f tk s w=some r):vrun B mt g tk s w=some r:=by
  induction hfg with
  |refl=>exact h
  |step _ ih=>exact vrun_mono _ _ _ _ _ ih
def VR (B:Prg) (mt:List Int) (tk:VTk) (s:List Rng) (w:W) (t:List Rng) (w':W):Prop:=∃ f,vrun B mt f tk s w=some (t,w')
def PV (B:Prg) (mt:List Int) (i to:Int) (s:List Rng) (r:Int) (x:Rng) (w:W) (o:Option (List Rng)) (w':W):Prop:=
  (x.lo>x.hi∧o=none∧w'={w with before:=wipe w.before i to})∨(¬ x.lo>x.hi∧∃ t,o=some t∧VR B mt (.blk i to) (withR s r x) w t w')
theorem PV.part {i to:Int} {s:List Rng} {r:Int} {x:Rng} {w:W} {o:Option (List Rng)} {w':W} (h:PV B mt i to s r x w o w'):∃ f,∀ g,f≤g→partV (vrun B mt g) i to s r x w=some (o,w'):=by
  rcases h with ⟨hx,rfl,rfl⟩|⟨hx,t,rfl,f,hf⟩
  ·exact ⟨0,fun g _=>by unfold partV;rw [if_pos hx]⟩
  ·exact ⟨f,fun g hg=>by unfold partV;rw [if_neg hx,vrun_le hg hf]⟩
variable {i to:Int} {s t:List Rng} {w w':W}
theorem vr_end (h: ¬ i<to):VR B mt (.blk i to) s w s w:=⟨1,by rw [vrun,if_neg h]⟩
theorem vr_plain (h:i<to) (h1:(B.op i).code≠11) (h2:(B.op i).code≠10) (k:VR B mt (.blk (i+1) to) (if wrtB (B.op i).code=true then withR s (B.op i).a (resultR (B.op i) s) else s) {w with before:=w.before.set i.toNat s} t w'):
    VR B mt (.blk i to) s w t w':=by
  obtain ⟨f,hf⟩:=k
  exact ⟨f+1,by rw [vrun,if_pos h];simp only;rw [if_neg h1,if_neg h2];exact hf⟩
theorem vr_if {yes no:Option (List Rng)} {w1 w2:W} {u:List Rng} (h:i<to) (h1:(B.op i).code=11)
    (ky:PV B mt (i+1) (gt mt i) s (B.op i).a ⟨maxI (gR s (B.op i).a).lo 0,(gR s (B.op i).a).hi⟩ {w with before:=w.before.set i.toNat s} yes w1)
    (kn:PV B mt (minI (gt mt i+1) (gt mt (gt mt i))) (gt mt (gt mt i)) s (B.op i).a ⟨(gR s (B.op i).a).lo,minI (gR s (B.op i).a).hi (-1)⟩ w1 no w2)
    (hu:hullsR yes no=some u) (k:VR B mt (.blk (gt mt (gt mt i)+1) to) u w2 t w'):VR B mt (.blk i to) s w t w':=by
  obtain ⟨f1,hf1⟩:=ky.part
  obtain ⟨f2,hf2⟩:=kn.part
  obtain ⟨f3,hf3⟩:=k
  refine ⟨max f1 (max f2 f3)+1,?_⟩
  rw [vrun,if_pos h]
  simp only
  rw [if_pos h1,hf1 _ (by omega)]
  simp only
  rw [hf2 _ (by omega)]
  simp only
  rw [hu]
  exact vrun_le (by omega) hf3
theorem vr_for0 (h:i<to) (h1:(B.op i).code=10) (hv:(gR s (B.op i).b).lo>(gR s (B.op i).c).hi - 1)
    (k:VR B mt (.blk (gt mt i+1) to) s {w with before:=wipe (w.before.set i.toNat s) (i+1) (gt mt i)} t w'):VR B mt (.blk i to) s w t w':=by
  obtain ⟨f,hf⟩:=k
  exact ⟨f+1,by rw [vrun,if_pos h];simp only;rw [if_neg (by omega),if_pos h1,if_pos hv];exact hf⟩
theorem vr_for {u:List Rng} {w1:W} (h:i<to) (h1:(B.op i).code=10) (hv: ¬ (gR s (B.op i).b).lo>(gR s (B.op i).c).hi - 1)
    (j:VR B mt (.lop i ⟨(gR s (B.op i).b).lo,(gR s (B.op i).c).hi - 1⟩) (grownR ((lookH w.heads i).getD s) s) {w with before:=w.before.set i.toNat s} u w1)
    (k:VR B mt (.blk (gt mt i+1) to) u w1 t w'):VR B mt (.blk i to) s w t w':=by
  obtain ⟨f1,hf1⟩:=j
  obtain ⟨f,hf⟩:=k
  refine ⟨max f1 f+1,?_⟩
  rw [vrun,if_pos h]
  simp only
  rw [if_neg (by omega),if_pos h1,if_neg hv,vrun_le (show f1≤max f1 f by omega) hf1]
  exact vrun_le (by omega) hf
theorem vr_lopE {v:Rng} {head:List Rng} {w1:W} (j:VR B mt (.blk (i+1) (gt mt i)) (withR head (B.op i).a v) {w with heads:=putH w.heads i head} t w1) (hg:grownR head t=head):VR B mt (.lop i v) head w head w1:=by
  obtain ⟨f,hf⟩:=j
  exact ⟨f+1,by rw [vrun,hf];simp only;rw [if_pos hg]⟩
theorem vr_lop {v:Rng} {head u:List Rng} {w1:W} (j:VR B mt (.blk (i+1) (gt mt i)) (withR head (B.op i).a v) {w with heads:=putH w.heads i head} u w1) (hg:grownR head u≠head)
    (k:VR B mt (.lop i v) (grownR head u) w1 t w'):VR B mt (.lop i v) head w t w':=by
  obtain ⟨f1,hf1⟩:=j
  obtain ⟨f,hf⟩:=k
  refine ⟨max f1 f+1,?_⟩
  rw [vrun,vrun_le (show f1≤max f1 f by omega) hf1]
  simp only
  rw [if_neg hg]
  exact vrun_le (by omega) hf
end
def rkR (r:Rng):Nat:=if r=machR then 0 else if r=intsR then 1 else if r=⟨-1,1⟩ then 2 else if r=boolR then 3 else 4
def rkS (l:List Rng):Nat:=(l.map rkR).sum
theorem grow_rk {a b:Rng} (ha:OkR a) (hb:OkR b):growR a b=a∨rkR (growR a b)<rkR a:=by
  unfold growR
  split
  ·exact .inl rfl
  ·rename_i h
   right
   have hm:=hull_mach ha.2 hb.2
   have hl:=hull_l a b
   have hne:hullR a b≠a:=h
   generalize hullR a b=H at hm hl hne
   obtain ⟨H,H'⟩:=H
   obtain ⟨a,a'⟩:=a
   obtain ⟨l1,l2⟩:=hl
   obtain ⟨m1,m2⟩:=hm
   simp only [machR,maxC] at l1 l2 m1 m2
   have hne': ¬ (H=a∧H'=a'):=fun e=>hne (by rw [e.1,e.2])
   have e1:rkR machR=0:=rfl
   have e2:rkR intsR=1:=rfl
   have e3:rkR ⟨-1,1⟩=2:=rfl
   have e4:rkR boolR=3:=rfl
   have d2:rkR ⟨-2147483648,2147483647⟩=1:=rfl
   have d4:rkR ⟨0,1⟩=3:=rfl
   have hC:maxC=1099511627776:=rfl
   by_cases c1:(⟨a,a'⟩:Rng)=machR
   ·exfalso;cases c1;omega
   by_cases c2:(⟨a,a'⟩:Rng)=intsR
   ·cases c2
    rw [d2]
    unfold widenR
    rw [if_neg (fun h=>by obtain ⟨h1,h2⟩:=h;simp only [boolR] at h1 h2;omega),if_neg (fun h=>by obtain ⟨h1,h2⟩:=h;simp only at h1 h2;omega),if_neg (fun h=>by obtain ⟨h1,h2⟩:=h;simp only [intsR] at h1 h2;omega)]
    rw [e1];omega
   by_cases c3:(⟨a,a'⟩:Rng)=⟨-1,1⟩
   ·cases c3
    rw [e3]
    unfold widenR
    rw [if_neg (fun h=>by obtain ⟨h1,h2⟩:=h;simp only [boolR] at h1 h2;omega),if_neg (fun h=>by obtain ⟨h1,h2⟩:=h;simp only at h1 h2;omega)]
    split
    ·rw [e2];omega
    ·rw [e1];omega
   by_cases c4:(⟨a,a'⟩:Rng)=boolR
   ·cases c4
    rw [d4]
    unfold widenR
    rw [if_neg (fun h=>by obtain ⟨h1,h2⟩:=h;simp only [boolR] at h1 h2;omega)]
    split
    ·rw [e3];omega
    ·split
     ·rw [e2];omega
     ·rw [e1];omega
   ·have:rkR ⟨a,a'⟩=4:=by unfold rkR;rw [if_neg c1,if_neg c2,if_neg c3,if_neg c4]
    rw [this]
    unfold widenR
    split
    ·rw [e4];omega
    ·split
     ·rw [e3];omega
     ·split
      ·rw [e2];omega
      ·rw [e1];omega
theorem grown_rk:∀ {n:Nat} {s t:List Rng},OkS n s→OkS n t→grownR s t=s∨rkS (grownR s t)<rkS s
  |0,[],[],_,_=> .inl rfl
  |0,_::_,_,h,_=>by have:=h.1;simp at this
  |0,[],_::_,_,h=>by have:=h.1;simp at this
  |n+1,[],_,h,_=>by have:=h.1;simp at this
  |n+1,_::_,[],_,h=>by have:=h.1;simp at this
  |n+1,a::s,b::t,h,k=>by
   have h':OkS n s:=⟨by have:=h.1;simpa using this,fun i hi=>by have:=h.2 (i+1) (by omega);simpa using this⟩
   have k':OkS n t:=⟨by have:=k.1;simpa using this,fun i hi=>by have:=k.2 (i+1) (by omega);simpa using this⟩
   have ha:OkR a:=by have:=h.2 0 (by omega);simpa using this
   have hb:OkR b:=by have:=k.2 0 (by omega);simpa using this
   have e:grownR (a::s) (b::t)=growR a b::grownR s t:=rfl
   rw [e]
   simp only [rkS,List.map_cons,List.sum_cons]
   rcases grow_rk ha hb with h1|h1<;>rcases grown_rk h' k' with h2|h2
   ·left;rw [h1,h2]
   ·right;simp only [rkS] at h2;rw [h1];omega
   ·right;rw [h2];omega
   ·right;simp only [rkS] at h2;omega
end Go.Proofs.YtnlimcijgpaegaaGreat.Bm

namespace Go.Proofs.YtnlimcijgpaegaaGreat
open Go Go.Fw Bm
set_option maxRecDepth 20000
def bfsV (l:List (List Rng)):List AV:=l.map fun s=> .sl false 2 (rgsV s)
def hdsV (l:List (Int×List Rng)):List (Value×AV):=l.map fun e=>(.int .i64 e.1,.sl false 2 (rgsV e.2))
def bxB (B:Prg):AObj:= .box 26 [.lit (.int .i64 B.regs),.lit (.int .i64 B.arena),.sl false 6 (opsV B.ops),.sl false 2 (plsV B.ins),.sl false 2 (plsV B.outs),.sl false 3 (arrs B.types)]
def wkO (B:Prg) (mt:List Int):AObj:= .box 86 [.lit (.int .i64 B.regs),.lit (.int .i64 B.arena),.sl false 6 (opsV B.ops),.sl false 2 (plsV B.ins),.sl false 2 (plsV B.outs),.sl false 3 (arrs B.types),.sl false 1 (ints .i64 mt),.arr 1 0,.mp 2]
def objs (B:Prg) (mt:List Int) (w:W) (ex:List AObj):List AObj:=bxB B:: .arr 53 1 (bfsV w.before) 0 false:: .map (hdsV w.heads)::wkO B mt::ex
section
variable {B:Prg} {mt:List Int} {w w':W} {ex:List AObj} {x y z:AObj}
theorem ob_len:(objs B mt w ex).length=ex.length+4:=rfl
theorem ob_0:(objs B mt w ex)[0]? =some (bxB B):=rfl
theorem ob_1:(objs B mt w ex)[1]? =some (.arr 53 1 (bfsV w.before) 0 false):=rfl
theorem ob_2:(objs B mt w ex)[2]? =some (.map (hdsV w.heads)):=rfl
theorem ob_3:(objs B mt w ex)[3]? =some (.box 86 [.lit (.int .i64 B.regs),.lit (.int .i64 B.arena),.sl false 6 (opsV B.ops),.sl false 2 (plsV B.ins),.sl false 2 (plsV B.outs),.sl false 3 (arrs B.types),.sl false 1 (ints .i64 mt),.arr 1 0,.mp 2]):=rfl
theorem ob_x {n:Nat}:(objs B mt w ex)[n+4]? =ex[n]? :=rfl
theorem ob_app {l:List AObj}:objs B mt w ex++l=objs B mt w (ex++l):=rfl
theorem ob_s1 {l:List (List Rng)}:(objs B mt w ex).set 1 (.arr 53 1 (bfsV l) 0 false)=objs B mt {w with before:=l} ex:=rfl
theorem ob_s2 {l:List (Int×List Rng)}:(objs B mt w ex).set 2 (.map (hdsV l))=objs B mt {w with heads:=l} ex:=rfl
theorem ob_sx {n:Nat}:(objs B mt w ex).set (n+4) y=objs B mt w (ex.set n y):=rfl
theorem ob_take {l:List AObj}:(objs B mt w (ex++l)).take (ex.length+4)=objs B mt w ex:=by
  show bxB B:: .arr 53 1 (bfsV w.before) 0 false:: .map (hdsV w.heads)::wkO B mt::(ex++l).take ex.length=_
  rw [List.take_left'];rfl;rfl
theorem ob_take0:(objs B mt w ex).take (ex.length+4)=objs B mt w ex:=by
  rw [←ob_len (B:=B) (mt:=mt) (w:=w),List.take_length]
theorem ex_20:(ex++[x,y])[ex.length]? =some x:=by simp
theorem ob_bds {n:Nat} (h:BdS n (objs B mt w ex)):BdS n (objs B mt w' ex):=h.same fun o t cs ho=>by
  rcases o with _|_|_|_|o
  ·exact ho
  ·cases ho
  ·cases ho
  ·exact ho
  ·exact ho
theorem kp_ob {D:Nat→Bool} {l m:List AObj} (h:∀ (o:Nat) (t:TypeId) (cs:List AV),l[o]? =some (AObj.box t cs)→m[o]? =some (AObj.box t cs)):Kp D (objs B mt w l) (objs B mt w' m):=fun o t cs _ ho=>by
  rcases o with _|_|_|_|o
  ·exact ho
  ·cases ho
  ·cases ho
  ·exact ho
  ·exact h o t cs ho
theorem bfsV_length (l:List (List Rng)):(bfsV l).length=l.length:=by simp [bfsV]
theorem bfsV_set (l:List (List Rng)) (i:Nat) (s:List Rng):(bfsV l).set i (.sl false 2 (rgsV s))=bfsV (l.set i s):=by simp [bfsV]
theorem le_bef {n0 j:Nat} {f:Nat→AV}:Le n0 ⟨f,(objs B mt w ex).set 1 (.arr 53 1 ((bfsV w.before).set j (.lit (.slice none 0 0))) 0 false)⟩ ⟨f,objs B mt {w with before:=w.before.set j []} ex⟩:=by
  have fl:∀ l:List (List Rng),flat (bfsV l)=bfsV l:=fun l=>by
    induction l with
    |nil=>rfl
    |cons a l ih=>show AV.cells _++flat (bfsV l)=_;rw [ih];rfl
  have fs:flat ((bfsV w.before).set j (.lit (.slice none 0 0)))=(bfsV w.before).set j (.lit (.slice none 0 0)):=by
    have:∀ l:List AV,(∀ x∈l,x.cells=[x])→flat l=l:=fun l=>by
      induction l with
      |nil=>intro _;rfl
      |cons a l ih=>intro h;show AV.cells a++flat l=_;rw [h a (by simp),ih (fun x hx=>h x (by simp [hx]))];rfl
    apply this
    intro x hx
    rcases List.mem_or_eq_of_mem_set hx with hx|rfl
    ·simp only [bfsV,List.mem_map] at hx
     obtain ⟨_,_,rfl⟩:=hx;rfl
    ·rfl
  refine Le.trans (le_arrE (o:=1) (ys:=bfsV (w.before.set j [])) (xs:=(bfsV w.before).set j (.lit (.slice none 0 0))) rfl ?_ ?_ ?_ ?_) (Le.refl _ _)
  ·simp [bfsV]
  ·intro y hy
   simp only [bfsV,List.mem_map] at hy
   obtain ⟨_,_,rfl⟩:=hy;rfl
  ·rw [fl,fs];simp [bfsV]
  ·intro i hi
   rw [fl,fs]
   rw [fs] at hi
   simp only [List.length_set,bfsV_length] at hi
   by_cases e:i=j
   ·subst e
    rw [List.getD_eq_getElem?_getD,List.getElem?_set_self (by rw [bfsV_length];exact hi),List.getD_eq_getElem?_getD]
    have:(bfsV (w.before.set i []))[i]? =some (.sl false 2 []):=by simp [bfsV,hi,rgsV]
    rw [this]
    exact LeA.nil _ _
   ·rw [List.getD_eq_getElem?_getD,List.getElem?_set_ne (fun h=>e h.symm),List.getD_eq_getElem?_getD]
    have:(bfsV (w.before.set j []))[i]? =(bfsV w.before)[i]? :=by simp [bfsV,List.getElem?_set_ne (fun h=>e h.symm)]
    rw [this]
    exact LeA.refl _
end
attribute [go_sem] ob_len ob_0 ob_1 ob_2 ob_3 ob_x ob_app ob_s1 ob_s2 ob_sx ob_take ob_take0 ex_20 bfsV_length bfsV_set
theorem wipe_0 (l:List (List Rng)) (i j:Int) (h:j≤i):wipe l i j=l:=by
  apply List.ext_getElem?
  intro n
  simp only [wipe,List.getElem?_mapIdx]
  cases l[n]? with
  |none=>rfl
  |some a=>simp only [Option.map_some];rw [if_neg (by omega)]
theorem wipe_s (l:List (List Rng)) (i:Int) (j:Nat) (h:i≤j):(wipe l i j).set j []=wipe l i ((j:Int)+1):=by
  apply List.ext_getElem?
  intro n
  rw [List.getElem?_set]
  by_cases e:j=n
  ·subst e
   rw [if_pos rfl]
   simp only [wipe,List.length_mapIdx,List.getElem?_mapIdx]
   split
   ·rename_i hl
    rw [List.getElem?_eq_getElem hl,Option.map_some,if_pos (by omega)]
   ·rename_i hl
    rw [List.getElem?_eq_none (by omega)];rfl
  ·rw [if_neg e]
   simp only [wipe,List.getElem?_mapIdx]
   cases l[n]? with
   |none=>rfl
   |some a=>
    simp only [Option.map_some]
    by_cases c:i≤n∧(n:Int)<j
    ·rw [if_pos c,if_pos (by omega)]
    ·rw [if_neg c,if_neg (by omega)]
noncomputable def D0:Env:=envJ (P:=Tryz.prog) jkR zer (fun _=>false) (fun _=>false) [] []
theorem D0_ok:EnvOk Tryz.prog D0:=envJOk zer_ok
set_option maxHeartbeats 4000000 in
theorem dead_ec {B:Prg} {mt:List Int} {w:W} {ex:List AObj} {i to:Int} {k:AV→List AObj→Prop} (h0:0≤i) (h1:to≤w.before.length) (hl:w.before.length≤1000000) (hi:i≤1000000)
    (hk:k (.tup []) (objs B mt {w with before:=wipe w.before i to} ex)):EC Tryz.prog 104 [.ref 3 0,.lit (.int .i64 i),.lit (.int .i64 to)] (objs B mt w ex) k:=by
  refine ec_fin fun hbd=>?_
  obtain ⟨n,rfl⟩:∃ n:Nat,i=n:=⟨i.toNat,by omega⟩
  refine ecR D0_ok (kp104) Tryz.func104 [] (h:=fun KF=>?_)
  unfold D0
  with_reducible repeat' first|(refine nx ?_;intros)|apply And.intro|intro vr|(refine ny ?_;intros;simp only [go_sem,kp104,geff])
  all_goals try exact nd
  refine t_loopF (ι:={j:Nat // n≤j∧((j:Int)≤to∨j=n)}) (fun i=>[(6,.lit (.int .i64 i.1))]) (fun i=>objs B mt {w with before:=wipe w.before n i.1} ex) (fun i=>to.toNat - i.1) ⟨n,Nat.le_refl _,.inr rfl⟩ ?_ ?_
  ·simp only [wipe_0,Int.le_refl]
   exact lf
  rintro ⟨j,hj,hq⟩ K0
  have hwl:(wipe w.before n j).length=w.before.length:=wipe_length _ _ _
  rcases Int.lt_or_le (j:Int) to with hc|hc
  ·have g3:decide ((j:Int)<to)=true:=decide_eq_true hc
   with_reducible repeat' first|(refine nx ?_;intros)|apply And.intro|intro vr|(refine ny ?_;intros;simp only [go_sem,kp104,geff,g3,Int.toNat_natCast])
   all_goals try exact nd
   have hws:(wipe w.before n j).set j []=wipe w.before n ((j+1:Nat):Int):=by rw [wipe_s _ _ _ (by omega)];rfl
   refine ⟨⟨j+1,by omega,.inl (by omega)⟩,by simp only;omega,?_⟩
   refine (le_bef (w:=⟨wipe w.before n j,w.heads⟩)).trans ?_
   simp only [hws]
   exact lg
  ·have g3:decide ((j:Int)<to)=false:=decide_eq_false (by omega)
   have hwe:wipe w.before n j=wipe w.before n to:=by
     rcases hq with hq|rfl
     ·rw [show (j:Int)=to by omega]
     ·rw [wipe_0 _ _ _ (Int.le_refl _),wipe_0 _ _ _ hc]
   with_reducible repeat' first|(refine nx ?_;intros)|apply And.intro|intro vr|(refine ny ?_;intros;simp only [go_sem,kp104,geff,g3,hwe])
   all_goals try exact nd
   all_goals (refine nl ?_;simp only [go_sem,finE])
   exact ⟨_,_,rfl,LeA.refl _,ob_bds hbd,hk⟩
end Go.Proofs.YtnlimcijgpaegaaGreat

namespace Go.Proofs.YtnlimcijgpaegaaGreat.Bm
open Go.Proofs.YtnlimcijgpaegaaGreat
open Go Go.Fw
structure Gd (n A:Nat) (c:Int) (s:St):Prop where
  regs:s.regs.length=n
  arena:s.arena.length=A
  rv:∀ r∈s.regs, -maxC≤r∧r≤maxC
  words:Words s
  pos:0≤s.reads∧0≤s.writes∧0≤s.ops∧0≤s.peak∧0≤s.left
  sum:s.reads+s.writes+s.ops+s.viol.length+s.left≤c
  peak:s.peak≤A
variable {n A:Nat} {c:Int} {s:St} {x:Ins} {B:Prg} {mt:List Int} {seen:List (List Rng)}
theorem Gd.gt (h:Gd n A c s) (i:Int): -maxC≤Bm.gt s.regs i∧Bm.gt s.regs i≤maxC:=by
  unfold Bm.gt
  rw [List.getD_eq_getElem?_getD]
  cases e:s.regs[i.toNat]? with
  |none=>exact ⟨by simp [maxC],by simp [maxC]⟩
  |some r=>exact h.rv r (List.mem_of_getElem? e)
theorem Gd.word (h:Gd n A c s) (i:Int): -2147483648≤Bm.gt s.arena i∧Bm.gt s.arena i≤2147483647:=by
  unfold Bm.gt
  rw [List.getD_eq_getElem?_getD]
  cases e:s.arena[i.toNat]? with
  |none=>exact ⟨by simp,by simp⟩
  |some r=>
   have:=h.words r (List.mem_of_getElem? e)
   have e2:vld sInt r=decide (-2147483648≤r∧r≤2147483647):=rfl
   rw [e2] at this
   exact of_decide_eq_true this
theorem Gd.put (h:Gd n A c s) {i v:Int} (hv: -maxC≤v∧v≤maxC):Gd n A c (s.put i v):=by
  obtain ⟨h1,h2,h3,h4,h5,h6,h7⟩:=h
  refine ⟨by simp only [St.put,List.length_set];exact h1,h2,fun r hr=>?_,h4,h5,h6,h7⟩
  rcases List.mem_or_eq_of_mem_set hr with hr|rfl
  ·exact h3 r hr
  ·exact hv
theorem Gd.le (h:Gd n A (c - 1) s):Gd n A c s:=⟨h.regs,h.arena,h.rv,h.words,h.pos,by have:=h.sum;omega,h.peak⟩
theorem noteS_length (l:List Int) (k:Int):(noteS l k).length≤l.length+1:=by
  unfold noteS
  simp only
  split
  ·omega
  ·simp only [List.length_append,List.length_take,List.length_drop,List.length_singleton];omega
theorem w32_in (k:Int): -2147483648≤El.w32 k∧El.w32 k≤2147483647:=by
  have:=El.w32_el k
  unfold El.el at this;omega
theorem Gd.fail (h:Gd n A (c - 1) s):Gd n A c {s with failed:=true}:=⟨h.regs,h.arena,h.rv,h.words,h.pos,h.le.sum,h.peak⟩
theorem wide_cases (op:ByteArray):wideR op=boolR∨wideR op=intsR:=by
  unfold wideR
  split
  ·split
   ·exact .inl rfl
   ·exact .inr rfl
  ·exact .inr rfl
theorem Gd.simple (h:Gd n A (c - 1) s) (hx:Regs x n):Gd n A c (simpleS x s):=by
  have hs:=h.sum
  have hp:=h.pos
  have hg:=h.gt
  have mc:maxC=1099511627776:=rfl
  unfold simpleS
  rcases hx.code with e|e|e|e|e|e|e|e|e|e|e|e|e|e|e
  ·rw [if_pos e]
   exact (h.le).put (hx.k1 e)
  ·rw [if_neg (by omega),if_pos e]
   split
   ·rename_i hm
    exact (h.le).put (by simpa [inMc] using hm)
   ·exact h.fail
  ·rw [if_neg (by omega),if_neg (by omega),if_pos e]
   refine (h.le).put ?_
   have h1:=hg x.b;have h2:=hg x.c
   unfold minI;split<;>assumption
  ·rw [if_neg (by omega),if_neg (by omega),if_neg (by omega),if_pos e]
   refine (h.le).put ?_
   have h1:=hg x.b;have h2:=hg x.c
   unfold maxI;split<;>assumption
  ·rw [if_neg (by omega),if_neg (by omega),if_neg (by omega),if_neg (by omega),if_pos e]
   split
   ·exact h.fail
   ·rename_i k hk
    have hw:=apply_wide hk
    have hb: -maxC≤k∧k≤maxC:=by
      rcases wide_cases x.prim with q|q<;>(rw [q] at hw;simp only [Rng.has,intsR,boolR] at hw;omega)
    have:=(h.put (i:=x.a) hb)
    exact ⟨this.regs,this.arena,this.rv,this.words,⟨hp.1,hp.2.1,by simp only [St.put];omega,hp.2.2.2⟩,by simp only [St.put];omega,this.peak⟩
  ·rw [if_neg (by omega),if_neg (by omega),if_neg (by omega),if_neg (by omega),if_neg (by omega),if_pos e]
   split
   ·have hw:=h.word (Bm.gt s.regs x.b)
    have:=h.put (i:=x.a) (v:=Bm.gt s.arena (Bm.gt s.regs x.b)) (by omega)
    exact ⟨this.regs,this.arena,this.rv,this.words,⟨by simp only [St.put];omega,hp.2⟩,by simp only [St.put];omega,this.peak⟩
   ·exact h.fail
  ·rw [if_neg (by omega),if_neg (by omega),if_neg (by omega),if_neg (by omega),if_neg (by omega),if_neg (by omega),if_pos e]
   split
   ·rename_i hc
    have hA:=h.arena
    have hpk:=h.peak
    refine ⟨h.regs,by simp only [List.length_set];exact hA,h.rv,fun k hk=>?_,⟨hp.1,by simp only;omega,hp.2.2.1,?_,hp.2.2.2.2⟩,by simp only;omega,?_⟩
    ·rcases List.mem_or_eq_of_mem_set hk with hk|rfl
     ·exact h.words k hk
     ·exact hc.2
    ·simp only [maxI];split<;>omega
    ·simp only [maxI];split<;>omega
   ·exact h.fail
  ·rw [if_neg (by omega),if_neg (by omega),if_neg (by omega),if_neg (by omega),if_neg (by omega),if_neg (by omega),if_neg (by omega),if_neg (by omega),if_neg (by omega),if_pos e]
   have:=h.put (i:=x.a) (v:=0) (by omega)
   exact ⟨this.regs,this.arena,this.rv,this.words,⟨by simp only [St.put];omega,hp.2⟩,by simp only [St.put];omega,this.peak⟩
  ·rw [if_neg (by omega),if_neg (by omega),if_neg (by omega),if_neg (by omega),if_neg (by omega),if_neg (by omega),if_neg (by omega),if_neg (by omega),if_neg (by omega),if_neg (by omega),if_pos e]
   split
   ·have:=noteS_length s.viol x.a
    exact ⟨h.regs,h.arena,h.rv,h.words,h.pos,by simp only;omega,h.peak⟩
   ·exact h.le
  all_goals try (rw [if_neg (by omega),if_neg (by omega),if_neg (by omega),if_neg (by omega),if_neg (by omega),if_neg (by omega),if_neg (by omega),if_neg (by omega),if_neg (by omega),if_neg (by omega),if_neg (by omega)];exact h.le)
  ·rw [if_neg (by omega),if_neg (by omega),if_neg (by omega),if_neg (by omega),if_neg (by omega),if_neg (by omega),if_neg (by omega),if_pos e]
   have:=w32_in (Bm.gt s.regs x.b)
   exact (h.le).put (by omega)
  ·rw [if_neg (by omega),if_neg (by omega),if_neg (by omega),if_neg (by omega),if_neg (by omega),if_neg (by omega),if_neg (by omega),if_neg (by omega),if_pos e]
   exact ⟨h.regs,h.arena,h.rv,h.words,⟨hp.1,by simp only;omega,hp.2.2⟩,by simp only;omega,h.peak⟩
theorem Gd.tick (h:Gd n A c s) (hs:stpS s=false) (i:Int):Gd n A (c - 1) (Bm.tick (look seen i s)):=by
  obtain ⟨o,ho⟩:=look_eq (seen:=seen) i s
  rw [ho]
  obtain ⟨h1,h2,h3,h4,h5,h6,h7⟩:=h
  have hl: ¬ s.left≤0:=by
    simp only [stpS,Bool.or_eq_false_iff,decide_eq_false_iff_not] at hs
    exact hs.1.1
  exact ⟨h1,h2,h3,h4,⟨h5.1,h5.2.1,h5.2.2.1,h5.2.2.2.1,by simp only [Bm.tick];omega⟩,by simp only [Bm.tick];omega,h7⟩
theorem Gd.turn (h:Gd n A c s) (hs:stpS s=false) {i v:Int} (hv: -maxC≤v∧v≤maxC):Gd n A c ((Bm.tick s).put i v):=by
  have hl: ¬ s.left≤0:=by
    simp only [stpS,Bool.or_eq_false_iff,decide_eq_false_iff_not] at hs
    exact hs.1.1
  obtain ⟨h1,h2,h3,h4,h5,h6,h7⟩:=h
  have:Gd n A c (Bm.tick s):=⟨h1,h2,h3,h4,⟨h5.1,h5.2.1,h5.2.2.1,h5.2.2.2.1,by simp only [Bm.tick];omega⟩,by simp only [Bm.tick];omega,h7⟩
  exact this.put hv
end Go.Proofs.YtnlimcijgpaegaaGreat.Bm

namespace Go.Fw
open Go
variable {P:Program} {n0:Nat}
theorem le_swapM {τ m:List AObj} {x y:AObj} {f:Nat→AV} {S:AS} (hn:n0≤τ.length) (hτ:BdS τ.length τ) (hx:flatO x=true) (hy:flatO y=true) (hm:m.all flatO=true) (hf:∀ j,flat1 (f j)=true)
    (hs:Le n0 ⟨renF (sw τ.length) f,τ++(renO (sw τ.length) y::renO (sw τ.length) x::m.map (renO (sw τ.length)))⟩ S):Le n0 ⟨f,τ++(x::y::m)⟩ S:=by
  have hbig:∀ k,2≤k→sw τ.length (τ.length+k)=τ.length+k:=fun k hk=>by unfold sw;rw [if_neg (by omega),if_neg (by omega)]
  have h0:sw τ.length (τ.length+0)=τ.length+1:=by simp [sw]
  have h1:sw τ.length (τ.length+1)=τ.length+0:=by simp [sw]
  refine Le.trans (le_ren (l:=x::y::m) (l':=renO (sw τ.length) y::renO (sw τ.length) x::m.map (renO (sw τ.length))) (sw τ.length) (sw τ.length) hn hτ (by simp) ?_ ?_ ?_ ?_ fun j=>⟨hf j,rfl⟩) hs
  ·intro o ho;unfold sw;rw [if_neg (by omega),if_neg (by omega)];exact ⟨rfl,rfl⟩
  ·intro k hk
   rcases (show k=0∨k=1∨2≤k by omega) with rfl|rfl|h2
   ·rw [h0,h1];simp
   ·rw [h1,h0];simp
   ·rw [hbig k h2,hbig k h2];exact ⟨by omega,by omega,rfl⟩
  ·intro k hk
   rcases (show k=0∨k=1∨2≤k by omega) with rfl|rfl|h2
   ·rw [h0,h1];simp
   ·rw [h1,h0];simp
   ·rw [hbig k h2,hbig k h2];exact ⟨by omega,by omega,rfl⟩
  ·intro k hk
   rcases (show k=0∨k=1∨2≤k by omega) with rfl|rfl|h2
   ·rw [h0];simp [hx]
   ·rw [h1];simp [hy]
   ·rw [hbig k h2]
    obtain ⟨k,rfl⟩:∃ j,k=j+2:=⟨k - 2,by omega⟩
    simp only [List.length_cons] at hk
    have hkm:k<m.length:=by omega
    rw [show τ.length+(k+2) - τ.length=k+2 by omega]
    have e1:(x::y::m).getD (k+2) .gone=m[k]:=by simp [List.getD,hkm]
    rw [e1]
    refine ⟨List.all_eq_true.1 hm _ (List.getElem_mem hkm),?_⟩
    simp [hkm]
theorem EC.frz1 {f:FuncId} {pre post:List AV} {o ver e sz:Nat} {xs:List AV} {σ:List AObj} {k:AV→List AObj→Prop} (ho:σ[o]? =some (.arr e sz xs ver false))
    (hk:EC P f (pre++ .sl false sz xs::post) (σ.set o (.arr e sz xs ver true)) k):EC P f (pre++ .arr o ver::post) σ k:=by
  intro cx G w vs hr hl
  obtain ⟨G1,hG1,hr1⟩:=Rel.freezeO hr o
  have e1:Fw.freezeO σ o=σ.set o (.arr e sz xs ver true):=by unfold Fw.freezeO;rw [ho]
  rw [e1] at hr1
  refine (hk cx G1 w vs hr1 ⟨by rw [hl.1];simp,fun i hi=>?_⟩).mono ?_
  ·have hi':i<(pre++ .arr o ver::post).length:=by simpa using hi
   have hj:=(hl.2 i hi').mono hG1
   by_cases hip:i=pre.length
   ·subst hip
    have a1:(pre++AV.arr o ver::post).getD pre.length .top= .arr o ver:=by simp [List.getD]
    have a2:(pre++AV.sl false sz xs::post).getD pre.length .top= .sl false sz xs:=by simp [List.getD]
    rw [a1] at hj
    rw [a2]
    have hc:Fw.arrOf false (σ.set o (.arr e sz xs ver true)) o ver=some (.sl false sz xs):=by unfold Fw.arrOf;rw [get_set ho];simp
    have:=arrOf_sound (live:=false) hr1 hj hc
    exact .clo _ _ (by simpa using this)
   ·have a3:(pre++AV.sl false sz xs::post).getD i .top=(pre++AV.arr o ver::post).getD i .top:=by
      simp only [List.getD]
      congr 1
      by_cases h:i<pre.length
      ·rw [List.getElem?_append_left h,List.getElem?_append_left h]
      ·rw [List.getElem?_append_right (by omega),List.getElem?_append_right (by omega)]
       obtain ⟨q,hq⟩:∃ q,i - pre.length=q+1:=⟨i - pre.length - 1,by omega⟩
       rw [hq];rfl
    rw [a3];exact hj
  ·rintro en w' ⟨v,G',σ',x,h1,h2,h3⟩
   exact ⟨v,G',σ',x,h1,hG1.trans h2,h3⟩
end Go.Fw

namespace Go.Fw
open Go
variable {P:Program} {σ:List AObj}
def finK (n:Nat) (x:AV) (σ:List AObj) (k:AV→List AObj→Prop):Prop:=
  ∃ r,LeR x r∧Bd n r∧BdS n (σ.take n)∧k r (σ.take n)
theorem ec_finK {f:FuncId} {args:List AV} {k:AV→List AObj→Prop} (h:BdS σ.length σ→EC P f args σ fun x σ'=>finK σ.length x σ' k):EC P f args σ k:=by
  intro cx G w vs hr hl
  refine (h hr.bds cx G w vs hr hl).mono ?_
  rintro e w' ⟨v,G',σ',x,rfl,hle,hr',hx,r,hLe,hbx,hbd,hk⟩
  have hlen:σ.length≤σ'.length:=by rw [←hr.n,←hr'.n];exact hle.n
  have h0:cx.G0.n≤σ.length:=by rw [←hr.n];exact hr.le0.n
  have hn:σ.length≤G'.n:=by rw [hr'.n];exact hlen
  exact ⟨v,{G' with n:=σ.length},_,r,rfl,⟨hle.C,by rw [hr.n];exact Nat.le_refl _,hle.ver,hle.b,hle.p⟩,hr'.trunc hlen h0 hbd,hbx G' v hn (hLe _ _ hx),hk⟩
end Go.Fw

namespace Go.Proofs.YtnlimcijgpaegaaGreat.Mm
open Go.Proofs.YtnlimcijgpaegaaGreat
open Go Go.Fw Bm
set_option maxRecDepth 20000
theorem ag79:aggT Tryz.prog 79=some false:=by kernel_rfl
theorem sz79:szT Tryz.prog 79=1:=by kernel_rfl
theorem ag129:aggT Tryz.prog 129=some false:=by kernel_rfl
theorem sz129:szT Tryz.prog 129=1:=by kernel_rfl
theorem ag130:aggT Tryz.prog 130=some false:=by kernel_rfl
theorem sz130:szT Tryz.prog 130=1:=by kernel_rfl
theorem ag170:aggT Tryz.prog 170=some false:=by kernel_rfl
attribute [go_sem] ag79 sz79 ag129 sz129 ag130 sz130 ag170
structure MS where
  regs:List Int
  arena:List Int
  viol:List Int
  vv:Nat
  vb:Nat
  reads:Int
  writes:Int
  ops:Int
  peak:Int
  steps:Int
  at_:Int
  e:Int
def stO (B:Prg) (mt:List Int) (m:MS):AObj:= .box 62 [.lit (.int .i64 B.regs),.lit (.int .i64 B.arena),.sl false 6 (opsV B.ops),.sl false 2 (plsV B.ins),.sl false 2 (plsV B.outs),.sl false 3 (arrs B.types),.sl false 1 (ints .i64 mt),.arr 3 0,.arr 4 0,
  .lit (.int .i64 m.reads),.lit (.int .i64 m.writes),.lit (.int .i64 m.ops),.lit (.int .i64 m.peak),.arr 6 m.vb,.lit (.int .i64 m.steps),.lit (.int .i64 m.at_),.lit (.int .i64 m.e)]
def mobj (x y:AObj) (B:Prg) (mt:List Int) (m:MS) (ex:List AObj):List AObj:=
  x::y::bxB B:: .arr 3 1 (ints .i64 m.regs) 0 false:: .arr 3 1 (ints .i64 m.arena) 0 false::stO B mt m:: .arr 3 1 (ints .i64 m.viol) m.vv false::ex
def tabL:List AV:=[.lit .nilFunc,.fn (.func 148) [] [.ref 11 0,.ref 10 0],.fn (.func 117) [.ref 5 0] [],.fn (.func 148) [] [.ref 13 0,.ref 12 0],.fn (.func 148) [] [.ref 15 0,.ref 14 0],.fn (.func 120) [.ref 5 0] [],.fn (.func 121) [.ref 5 0] [],.fn (.func 122) [.ref 5 0] [],
  .fn (.func 123) [] [.ref 8 0],.fn (.func 124) [.ref 5 0] [],.lit .nilFunc,.lit .nilFunc,.lit .nilFunc,.lit .nilFunc,.fn (.func 148) [] [.ref 17 0,.ref 16 0],.fn (.func 127) [] [.ref 8 0]]
def blkF:AV:= .fn (.func 77) [] [.ref 7 0,.ref 20 0,.ref 19 0,.ref 18 0]
def lopF:AV:= .fn (.func 75) [] [.ref 7 0,.ref 19 0]
def clos:List AObj:=[.box 57 [.ref 5 0],.box 57 [.ref 5 0],.box 127 tabL,.box 57 [.ref 5 0],.box 170 [.fn (.func 116) [] []],.box 57 [.ref 5 0],.box 170 [.fn (.func 118) [] [.ref 8 0]],.box 57 [.ref 5 0],.box 170 [.fn (.func 119) [] [.ref 8 0]],
  .box 57 [.ref 5 0],.box 170 [.fn (.func 125) [] [.ref 8 0]],.box 127 tabL,.box 129 [blkF],.box 130 [lopF]]
def robj (x y:AObj) (B:Prg) (mt:List Int) (m:MS) (ex:List AObj):List AObj:=mobj x y B mt m (clos++ex)
section
variable {x y u v:AObj} {B:Prg} {mt:List Int} {m m':MS} {ex:List AObj}
theorem ro_len:(robj x y B mt m ex).length=ex.length+21:=rfl
theorem ro_3:(robj x y B mt m ex)[3]? =some (.arr 3 1 (ints .i64 m.regs) 0 false):=rfl
theorem ro_4:(robj x y B mt m ex)[4]? =some (.arr 3 1 (ints .i64 m.arena) 0 false):=rfl
theorem ro_5:(robj x y B mt m ex)[5]? =some (.box 62 [.lit (.int .i64 B.regs),.lit (.int .i64 B.arena),.sl false 6 (opsV B.ops),.sl false 2 (plsV B.ins),.sl false 2 (plsV B.outs),.sl false 3 (arrs B.types),.sl false 1 (ints .i64 mt),.arr 3 0,.arr 4 0,
  .lit (.int .i64 m.reads),.lit (.int .i64 m.writes),.lit (.int .i64 m.ops),.lit (.int .i64 m.peak),.arr 6 m.vb,.lit (.int .i64 m.steps),.lit (.int .i64 m.at_),.lit (.int .i64 m.e)]):=rfl
theorem ro_6:(robj x y B mt m ex)[6]? =some (.arr 3 1 (ints .i64 m.viol) m.vv false):=rfl
theorem ro_7:(robj x y B mt m ex)[7]? =some (.box 57 [.ref 5 0]):=rfl
theorem ro_8:(robj x y B mt m ex)[8]? =some (.box 57 [.ref 5 0]):=rfl
theorem ro_10:(robj x y B mt m ex)[10]? =some (.box 57 [.ref 5 0]):=rfl
theorem ro_11:(robj x y B mt m ex)[11]? =some (.box 170 [.fn (.func 116) [] []]):=rfl
theorem ro_12:(robj x y B mt m ex)[12]? =some (.box 57 [.ref 5 0]):=rfl
theorem ro_13:(robj x y B mt m ex)[13]? =some (.box 170 [.fn (.func 118) [] [.ref 8 0]]):=rfl
theorem ro_14:(robj x y B mt m ex)[14]? =some (.box 57 [.ref 5 0]):=rfl
theorem ro_15:(robj x y B mt m ex)[15]? =some (.box 170 [.fn (.func 119) [] [.ref 8 0]]):=rfl
theorem ro_16:(robj x y B mt m ex)[16]? =some (.box 57 [.ref 5 0]):=rfl
theorem ro_17:(robj x y B mt m ex)[17]? =some (.box 170 [.fn (.func 125) [] [.ref 8 0]]):=rfl
theorem ro_18:(robj x y B mt m ex)[18]? =some (.box 127 tabL):=rfl
theorem ro_19:(robj x y B mt m ex)[19]? =some (.box 129 [.fn (.func 77) [] [.ref 7 0,.ref 20 0,.ref 19 0,.ref 18 0]]):=rfl
theorem ro_20:(robj x y B mt m ex)[20]? =some (.box 130 [.fn (.func 75) [] [.ref 7 0,.ref 19 0]]):=rfl
theorem ro_x {n:Nat}:(robj x y B mt m ex)[n+21]? =ex[n]? :=rfl
theorem ro_app {l:List AObj}:robj x y B mt m ex++l=robj x y B mt m (ex++l):=rfl
theorem ro_s3 {l:List Int}:(robj x y B mt m ex).set 3 (.arr 3 1 (ints .i64 l) 0 false)=robj x y B mt {m with regs:=l} ex:=rfl
theorem ro_s4 {l:List Int}:(robj x y B mt m ex).set 4 (.arr 3 1 (ints .i64 l) 0 false)=robj x y B mt {m with arena:=l} ex:=rfl
theorem ro_s6 {l:List Int} {k:Nat}:(robj x y B mt m ex).set 6 (.arr 3 1 (ints .i64 l) k false)=robj x y B mt {m with viol:=l,vv:=k} ex:=rfl
theorem ro_s5 {c1 c2 c3 c4 c5 c6 c7:Int} {k:Nat}:(robj x y B mt m ex).set 5 (.box 62 [.lit (.int .i64 B.regs),.lit (.int .i64 B.arena),.sl false 6 (opsV B.ops),.sl false 2 (plsV B.ins),.sl false 2 (plsV B.outs),.sl false 3 (arrs B.types),.sl false 1 (ints .i64 mt),.arr 3 0,.arr 4 0,
  .lit (.int .i64 c1),.lit (.int .i64 c2),.lit (.int .i64 c3),.lit (.int .i64 c4),.arr 6 k,.lit (.int .i64 c5),.lit (.int .i64 c6),.lit (.int .i64 c7)])=robj x y B mt {m with reads:=c1,writes:=c2,ops:=c3,peak:=c4,vb:=k,steps:=c5,at_:=c6,e:=c7} ex:=rfl
theorem ro_sx {n:Nat}:(robj x y B mt m ex).set (n+21) u=robj x y B mt m (ex.set n u):=rfl
theorem ro_take {l:List AObj}:(robj x y B mt m (ex++l)).take (ex.length+21)=robj x y B mt m ex:=by
  have h:robj x y B mt m (ex++l)=robj x y B mt m ex++l:=rfl
  rw [h,←ro_len (x:=x) (y:=y) (B:=B) (mt:=mt) (m:=m),List.take_left'];rfl
theorem ro_take0:(robj x y B mt m ex).take (ex.length+21)=robj x y B mt m ex:=by
  rw [←ro_len (x:=x) (y:=y) (B:=B) (mt:=mt) (m:=m),List.take_length]
theorem tabL_len:tabL.length=16:=rfl
theorem stO_bd {n:Nat} (hn:7≤n):BdS n [stO B mt m]:=bds_low (by
  have h3:3<n:=by omega
  have h4:4<n:=by omega
  have h6:6<n:=by omega
  simp [stO,lowO,low_lit,low_sl,low_arr,h3,h4,h6])
theorem ro_bds {n:Nat} (hn:7≤n) (h:BdS n (robj x y B mt m ex)):BdS n (robj x y B mt m' ex):=fun o t cs ho=>by
  rcases o with _|_|_|_|_|_|_|o
  ·exact h 0 t cs ho
  ·exact h 1 t cs ho
  ·exact h 2 t cs ho
  ·cases ho
  ·cases ho
  ·exact stO_bd (m:=m') hn 0 t cs ho
  ·cases ho
  ·exact h (o+7) t cs ho
theorem kp_ro {D:Nat→Bool} {l l':List AObj} (h5:D 5=false) (h:∀ (o:Nat) (t:TypeId) (cs:List AV),D (o+21)=true→l[o]? =some (AObj.box t cs)→l'[o]? =some (AObj.box t cs)):Kp D (robj x y B mt m l) (robj x y B mt m' l'):=fun o t cs hD ho=>by
  rcases o with _|_|_|_|_|_|_|o
  ·exact ho
  ·exact ho
  ·exact ho
  ·cases ho
  ·cases ho
  ·rw [h5] at hD;cases hD
  ·cases ho
  ·rcases Nat.lt_or_ge o 14 with c|c
   ·have e1:(clos++l)[o]? =some (AObj.box t cs):=ho
    show (clos++l')[o]? =_
    rw [List.getElem?_append_left (by exact c)] at e1 ⊢
    exact e1
   ·obtain ⟨q,rfl⟩:∃ q,o=q+14:=⟨o - 14,by omega⟩
    exact h q t cs hD ho
theorem kp_fls {σ τ:List AObj}:Kp (fun _=>false) σ τ:=fun o t cs h=>by cases h
end
attribute [go_sem] ro_len ro_3 ro_4 ro_5 ro_6 ro_7 ro_8 ro_10 ro_11 ro_12 ro_13 ro_14 ro_15 ro_16 ro_17 ro_18 ro_19 ro_20 ro_x ro_app ro_s3 ro_s4 ro_s6 ro_s5 ro_sx ro_take ro_take0 tabL_len
def failM (m:MS) (i e:Int):MS:=if m.e=0 then {m with at_:=i,e:=e} else m
def stepM (m:MS):MS:=if m.steps+1>200000 then failM {m with steps:=m.steps+1} 0 3 else {m with steps:=m.steps+1}
section
variable {x y:AObj} {B:Prg} {mt:List Int} {m:MS} {ex:List AObj} {k:AV→List AObj→Prop}
noncomputable def M0:Env:=envJ (P:=Tryz.prog) jkR zer (fun _=>false) (fun _=>false) [] []
theorem M0_ok:EnvOk Tryz.prog M0:=envJOk zer_ok
set_option maxHeartbeats 4000000 in
theorem fail_ec {i e:Int} (hk:k (.tup []) (robj x y B mt (failM m i e) ex)):EC Tryz.prog 78 [.ref 5 0,.lit (.int .i64 i),.lit (.int .i64 e)] (robj x y B mt m ex) k:=by
  refine ec_fin fun hbd=>?_
  by_cases h:m.e=0
  ·have g1:decide (m.e=0)=true:=decide_eq_true h
   unfold failM at hk;rw [if_pos h] at hk
   refine ecR M0_ok (kp78) Tryz.func78 [] (h:=fun KF=>?_)
   unfold M0
   with_reducible repeat' first|(refine nx ?_;intros)|refine t_br (fun hc=>?_) fun hc=>?_|apply And.intro|intro vr|(refine ny ?_;intros;simp only [go_sem,kp78,geff,g1,yes])
   all_goals try exact nd
   all_goals (refine nl ?_;simp only [go_sem,finE])
   exact ⟨_,_,rfl,LeA.refl _,ro_bds (by omega) hbd,hk⟩
  ·have g1:decide (m.e=0)=false:=decide_eq_false h
   unfold failM at hk;rw [if_neg h] at hk
   refine ecR M0_ok (kp78) Tryz.func78 [] (h:=fun KF=>?_)
   unfold M0
   with_reducible repeat' first|(refine nx ?_;intros)|refine t_br (fun hc=>?_) fun hc=>?_|apply And.intro|intro vr|(refine ny ?_;intros;simp only [go_sem,kp78,geff,g1,yes])
   all_goals try exact nd
   all_goals (refine nl ?_;simp only [go_sem,finE])
   exact ⟨_,_,rfl,LeA.refl _,ro_bds (by omega) hbd,hk⟩
noncomputable def ecn78:ECon Tryz.prog where
  f:=78
  c:=fun args σ k=>∃ (x y:AObj) (B:Prg) (mt:List Int) (m:MS) (ex:List AObj) (i e:Int),args=[.ref 5 0,.lit (.int .i64 i),.lit (.int .i64 e)]∧σ=robj x y B mt m ex∧k (.tup []) (robj x y B mt (failM m i e) ex)
  ok:=by
   rintro _ _ k ⟨x,y,B,mt,m,ex,i,e,rfl,rfl,h⟩
   exact fail_ec h
  fk:=fk78
theorem ecn78_f:ecn78.f=78:=rfl
theorem ecn78_i {i e:Int} {σ:List AObj} (hσ:σ=robj x y B mt m ex) (h:k (.tup []) (robj x y B mt (failM m i e) ex)):ecn78.c [.ref 5 0,.lit (.int .i64 i),.lit (.int .i64 e)] σ k:=⟨x,y,B,mt,m,ex,i,e,rfl,hσ,h⟩
attribute [go_sem] ecn78_f
noncomputable def M1:Env:=envJ (P:=Tryz.prog) jkR zer (fun _=>false) (fun _=>false) [] [ecn78]
theorem M1_ok:EnvOk Tryz.prog M1:=envJOk zer_ok
set_option maxHeartbeats 4000000 in
theorem step_ec (hs:0≤m.steps∧m.steps≤1000000) (hk:k (.tup []) (robj x y B mt (stepM m) ex)):EC Tryz.prog 76 [.ref 5 0] (robj x y B mt m ex) k:=by
  refine ec_fin fun hbd=>?_
  by_cases h:m.steps+1>200000
  ·have g1:decide (m.steps+1>200000)=true:=decide_eq_true h
   unfold stepM at hk;rw [if_pos h] at hk
   refine ecR M1_ok (kp76) Tryz.func76 [] (h:=fun KF=>?_)
   unfold M1
   with_reducible repeat' first|(refine nx ?_;intros)|apply And.intro|intro vr|(refine ny ?_;intros;simp only [go_sem,kp76,geff,g1,yes])
   all_goals try exact nd
   refine ecn78_i rfl ?_
   with_reducible repeat' first|(refine nx ?_;intros)|apply And.intro|intro vr|(refine ny ?_;intros;simp only [go_sem,kp76,geff,yes])
   all_goals try exact nd
   all_goals (refine nl ?_;simp only [go_sem,finE])
   exact ⟨_,_,rfl,LeA.refl _,ro_bds (by omega) hbd,hk⟩
  ·have g1:decide (m.steps+1>200000)=false:=decide_eq_false h
   unfold stepM at hk;rw [if_neg h] at hk
   refine ecR M1_ok (kp76) Tryz.func76 [] (h:=fun KF=>?_)
   unfold M1
   with_reducible repeat' first|(refine nx ?_;intros)|apply And.intro|intro vr|(refine ny ?_;intros;simp only [go_sem,kp76,geff,g1,yes])
   all_goals try exact nd
   all_goals (refine nl ?_;simp only [go_sem,finE])
   exact ⟨_,_,rfl,LeA.refl _,ro_bds (by omega) hbd,hk⟩
set_option maxHeartbeats 4000000 in
theorem inside_ec {n:Int} (hl:m.arena.length≤1048576) (hk:k (.lit (.bool (decide (0≤n∧n<m.arena.length)))) (robj x y B mt m ex)):EC Tryz.prog 150 [.ref 5 0,.lit (.int .i64 n)] (robj x y B mt m ex) k:=by
  refine ec_fin fun hbd=>?_
  by_cases h:n≥0
  ·have g1:decide (n≥0)=true:=decide_eq_true h
   have g2:decide (0≤n∧n<m.arena.length)=decide (n<m.arena.length):=by
     by_cases h2:n<m.arena.length
     ·rw [decide_eq_true h2];exact decide_eq_true ⟨h,h2⟩
     ·rw [decide_eq_false h2];exact decide_eq_false (fun q=>h2 q.2)
   rw [g2] at hk
   refine ecR M0_ok (kp150) Tryz.func150 [.tmp 4] (h:=fun KF=>?_)
   unfold M0
   with_reducible repeat' first|(refine nx ?_;intros)|apply And.intro|intro vr|(refine ny ?_;intros;simp only [go_sem,kp150,geff,g1,yes])
   all_goals try exact nd
   all_goals (refine nl ?_;simp only [go_sem,finE])
   exact ⟨_,_,rfl,LeA.refl _,ro_bds (by omega) hbd,hk⟩
  ·have g1:decide (n≥0)=false:=decide_eq_false h
   have g2:decide (0≤n∧n<m.arena.length)=false:=decide_eq_false (fun q=>h q.1)
   rw [g2] at hk
   refine ecR M0_ok (kp150) Tryz.func150 [.tmp 4] (h:=fun KF=>?_)
   unfold M0
   with_reducible repeat' first|(refine nx ?_;intros)|apply And.intro|intro vr|(refine ny ?_;intros;simp only [go_sem,kp150,geff,g1,yes])
   all_goals try exact nd
   all_goals (refine nl ?_;simp only [go_sem,finE])
   exact ⟨_,_,rfl,LeA.refl _,ro_bds (by omega) hbd,hk⟩
end
end Go.Proofs.YtnlimcijgpaegaaGreat.Mm

namespace Go.Proofs.YtnlimcijgpaegaaGreat
open Go Go.Fw Bm
set_option maxRecDepth 20000
structure PreW (B:Prg) (n:Nat) (w:W):Prop where
  len:w.before.length=B.ops.length
  hd:HOk n w
structure Wk (B:Prg) (mt:List Int) (n:Nat):Prop where
  nest:Nest B.ops mt
  rights:Rights B n
  len:B.ops.length≤1000000
  n:n≤1000000
  mtl:mt.length=B.ops.length
abbrev oVc1_0:List (Nat×Nat):=[(0,1),(1,1),(2,1),(3,1),(4,1),(5,1),(6,1),(7,1),(8,1),(9,1),(10,1),(11,1),(12,1),(13,1),(14,1),(15,1),(16,1),(17,1),(18,0),(19,1)]
abbrev oVc1_1:List (Nat×Nat):=[(0,1),(1,1),(2,1),(3,1),(4,1),(5,1),(6,1),(7,1),(8,1),(9,1),(10,1),(11,1),(12,1),(13,1),(14,1),(15,1),(16,1),(17,1),(18,1),(19,1),(20,0),(21,1)]
attribute [go_sem] oVc1_0 oVc1_1
def BlkH (B:Prg) (mt:List Int) (n N:Nat):Prop:=∀ (i to:Int) (s:List Rng) (w:W) (ex:List AObj) (k:AV→List AObj→Prop),to - i≤N→Cl B mt i to→OkS n s→PreW B n w→
  (∀ t w',VR B mt (.blk i to) s w t w'→k (.sl false 2 (rgsV t)) (objs B mt w' ex))→EC Tryz.prog 37 [.ref 3 0,.lit (.int .i64 i),.lit (.int .i64 to),.sl false 2 (rgsV s)] (objs B mt w ex) k
noncomputable def ecnB {B:Prg} {mt:List Int} {n N:Nat} (h:BlkH B mt n N):ECon Tryz.prog where
  f:=37
  c:=fun args σ k=>∃ (i to:Int) (s:List Rng) (w:W) (ex:List AObj),args=[.ref 3 0,.lit (.int .i64 i),.lit (.int .i64 to),.sl false 2 (rgsV s)]∧σ=objs B mt w ex∧to - i≤N∧Cl B mt i to∧OkS n s∧PreW B n w∧
   ∀ t w',VR B mt (.blk i to) s w t w'→k (.sl false 2 (rgsV t)) (objs B mt w' ex)
  ok:=by
   rintro _ _ k ⟨i,to,s,w,ex,rfl,rfl,h1,h2,h3,h4,h5⟩
   exact h i to s w ex k h1 h2 h3 h4 h5
  fk:=fk37
theorem ecnB_f {B:Prg} {mt:List Int} {n N:Nat} (h:BlkH B mt n N):(ecnB h).f=37:=rfl
theorem ecnB_i {B:Prg} {mt:List Int} {n N:Nat} {h:BlkH B mt n N} {i to:Int} {s:List Rng} {w:W} {ex:List AObj} {k:AV→List AObj→Prop} (h1:to - i≤N) (h2:Cl B mt i to) (h3:OkS n s) (h4:PreW B n w)
    (h5:∀ t w',VR B mt (.blk i to) s w t w'→k (.sl false 2 (rgsV t)) (objs B mt w' ex)):(ecnB h).c [.ref 3 0,.lit (.int .i64 i),.lit (.int .i64 to),.sl false 2 (rgsV s)] (objs B mt w ex) k:=
  ⟨i,to,s,w,ex,rfl,rfl,h1,h2,h3,h4,h5⟩
noncomputable def ecn104 (B:Prg) (mt:List Int):ECon Tryz.prog where
  f:=104
  c:=fun args σ k=>∃ (i to:Int) (w:W) (ex:List AObj),args=[.ref 3 0,.lit (.int .i64 i),.lit (.int .i64 to)]∧σ=objs B mt w ex∧(0≤i∧to≤w.before.length∧w.before.length≤1000000∧i≤1000000)∧k (.tup []) (objs B mt {w with before:=wipe w.before i to} ex)
  ok:=by
   rintro _ _ k ⟨i,to,w,ex,rfl,rfl,⟨h1,h2,h3,h4⟩,h5⟩
   exact dead_ec h1 h2 h3 h4 h5
  fk:=fk104
theorem ecn104_f {B:Prg} {mt:List Int}:(ecn104 B mt).f=104:=rfl
theorem ecn104_i {B:Prg} {mt:List Int} {i to:Int} {w:W} {ex:List AObj} {k:AV→List AObj→Prop} (h:0≤i∧to≤w.before.length∧w.before.length≤1000000∧i≤1000000) (h5:k (.tup []) (objs B mt {w with before:=wipe w.before i to} ex)):
    (ecn104 B mt).c [.ref 3 0,.lit (.int .i64 i),.lit (.int .i64 to)] (objs B mt w ex) k:=⟨i,to,w,ex,rfl,rfl,h,h5⟩
attribute [go_sem] ecnB_f ecn104_f
noncomputable def D1 {B:Prg} {mt:List Int} {n N:Nat} (h:BlkH B mt n N):Env:=envJ (P:=Tryz.prog) jkR zer (fun _=>false) (fun _=>false) [con67] [ecn104 B mt,ecnB h]
theorem D1_ok {B:Prg} {mt:List Int} {n N:Nat} (h:BlkH B mt n N):EnvOk Tryz.prog (D1 h):=envJOk zer_ok
theorem PreW.wipe {B:Prg} {n:Nat} {w:W} (h:PreW B n w) (i to:Int):PreW B n {w with before:=wipe w.before i to}:=⟨by rw [wipe_length];exact h.len,h.hd⟩
theorem vr_ok {B:Prg} {mt:List Int} {n:Nat} (hK:Wk B mt n) {i to:Int} {s t:List Rng} {w w':W} (h:VR B mt (.blk i to) s w t w') (hc:Cl B mt i to) (hs:OkS n s) (hw:PreW B n w):OkS n t∧PreW B n w':=by
  obtain ⟨f,hf⟩:=h
  have h1:=vrun_ok hK.nest hK.rights f _ _ _ _ _ hf hc hs hw.hd (fun i v e=>by cases e)
  have h2:=vrun_wr hK.nest f (.blk i to) _ _ _ _ hc hf
  exact ⟨h1.1,⟨h2.1.trans hw.len,h1.2⟩⟩
theorem pv_ok {B:Prg} {mt:List Int} {n:Nat} (hK:Wk B mt n) {i to:Int} {s:List Rng} {o:Option (List Rng)} {r:Int} {x:Rng} {w w':W} (h:PV B mt i to s r x w o w') (hc:Cl B mt i to) (hs:OkS n s) (hx: ¬ x.lo>x.hi→OkR x) (hw:PreW B n w):
    (∀ l,o=some l→OkS n l)∧PreW B n w':=by
  rcases h with ⟨_,rfl,rfl⟩|⟨h0,t,rfl,hv⟩
  ·exact ⟨fun l h=>(by cases h),hw.wipe i to⟩
  ·obtain ⟨h1,h2⟩:=vr_ok hK hv hc (hs.with (hx h0)) hw
   exact ⟨fun l h=>(by cases h;exact h1),h2⟩
theorem part_ec {B:Prg} {mt:List Int} {n N:Nat} (hK:Wk B mt n) (hB:BlkH B mt n N) {i to r:Int} {s:List Rng} {x:Rng} {w:W} {ex:List AObj} {k:AV→List AObj→Prop} (h1:to - i≤N) (h2:Cl B mt i to) (h3:OkS n s) (h4:PreW B n w)
    (hr:0≤r∧r<n) (hx: ¬ x.lo>x.hi→OkR x) (hi:i≤1000000) (h5:∀ o w',PV B mt i to s r x w o w'→k (orV o) (objs B mt w' ex)):
    EC Tryz.prog 102 [.ref 3 0,.lit (.int .i64 i),.lit (.int .i64 to),.sl false 2 (rgsV s),.lit (.int .i64 r),rgV x] (objs B mt w ex) k:=by
  refine ec_fin fun hbd=>?_
  have hl:=h4.len
  have hL:=hK.len
  have hN:=hK.n
  have hsl:=h3.1
  have h20:=h2.1
  have h21:=h2.2.1
  obtain ⟨x,x'⟩:=x
  by_cases hc:x>x'
  ·have g1:decide (x>x')=true:=decide_eq_true hc
   simp only [rgV_mk]
   refine ecR (D1_ok hB) (kp102) Tryz.func102 [.tmp 12] (h:=fun KF=>?_)
   unfold D1
   with_reducible repeat' first|(refine nx ?_;intros)|apply And.intro|intro vr|(refine ny ?_;intros;simp only [go_sem,kp102,geff,g1])
   all_goals try exact nd
   refine ecn104_i ⟨h20,by omega,by omega,hi⟩ ?_
   with_reducible repeat' first|(refine nx ?_;intros)|apply And.intro|intro vr|(refine ny ?_;intros;simp only [go_sem,kp102,geff])
   all_goals try exact nd
   all_goals (refine nl ?_;simp only [go_sem,finE])
   exact ⟨_,_,rfl,LeA.refl _,ob_bds hbd,h5 none _ (.inl ⟨hc,rfl,rfl⟩)⟩
  ·have g1:decide (x>x')=false:=decide_eq_false hc
   simp only [rgV_mk]
   refine ecR (D1_ok hB) (kp102) Tryz.func102 [.tmp 12] (h:=fun KF=>?_)
   unfold D1
   with_reducible repeat' first|(refine nx ?_;intros)|apply And.intro|intro vr|(refine ny ?_;intros;simp only [go_sem,kp102,geff,g1])
   all_goals try exact nd
   refine ecnB_i h1 h2 (h3.with (hx hc)) h4 fun t w' hv=>?_
   with_reducible repeat' first|(refine nx ?_;intros)|apply And.intro|intro vr|(refine ny ?_;intros;simp only [go_sem,kp102,geff])
   all_goals try exact nd
   all_goals (refine nl ?_;simp only [go_sem,finE])
   exact ⟨_,_,rfl,LeA.refl _,ob_bds hbd,h5 (some t) _ (.inr ⟨hc,t,rfl,hv⟩)⟩
noncomputable def ecnP {B:Prg} {mt:List Int} {n N:Nat} (hK:Wk B mt n) (hB:BlkH B mt n N):ECon Tryz.prog where
  f:=102
  c:=fun args σ k=>∃ (i to r:Int) (s:List Rng) (x:Rng) (w:W) (ex:List AObj),args=[.ref 3 0,.lit (.int .i64 i),.lit (.int .i64 to),.sl false 2 (rgsV s),.lit (.int .i64 r),rgV x]∧σ=objs B mt w ex∧to - i≤N∧Cl B mt i to∧OkS n s∧PreW B n w∧
   (0≤r∧r<n)∧(¬ x.lo>x.hi→OkR x)∧i≤1000000∧∀ o w',PV B mt i to s r x w o w'→k (orV o) (objs B mt w' ex)
  ok:=by
   rintro _ _ k ⟨i,to,r,s,x,w,ex,rfl,rfl,h1,h2,h3,h4,h5,h6,h7,h8⟩
   exact part_ec hK hB h1 h2 h3 h4 h5 h6 h7 h8
  fk:=fk102
theorem ecnP_f {B:Prg} {mt:List Int} {n N:Nat} (hK:Wk B mt n) (hB:BlkH B mt n N):(ecnP hK hB).f=102:=rfl
theorem ecnP_i {B:Prg} {mt:List Int} {n N:Nat} {hK:Wk B mt n} {hB:BlkH B mt n N} {i to r:Int} {s:List Rng} (x:Rng) {w:W} {ex:List AObj} {k:AV→List AObj→Prop} (h1:to - i≤N) (h2:Cl B mt i to) (h3:OkS n s) (h4:PreW B n w)
    (h5:0≤r∧r<n) (h6: ¬ x.lo>x.hi→OkR x) (h7:i≤1000000) (h8:∀ o w',PV B mt i to s r x w o w'→k (orV o) (objs B mt w' ex)):
    (ecnP hK hB).c [.ref 3 0,.lit (.int .i64 i),.lit (.int .i64 to),.sl false 2 (rgsV s),.lit (.int .i64 r),.agg [.lit (.int .i64 x.lo),.lit (.int .i64 x.hi)]] (objs B mt w ex) k:=
  ⟨i,to,r,s,x,w,ex,rfl,rfl,h1,h2,h3,h4,h5,h6,h7,h8⟩
attribute [go_sem] ecnP_f
theorem kp_obs {B:Prg} {mt:List Int} {w w':W} {ex:List AObj} {D:Nat→Bool}:Kp D (objs B mt w ex) (objs B mt w' ex):=kp_ob fun _ _ _ h=>h
noncomputable def D2 {B:Prg} {mt:List Int} {n N:Nat} (hK:Wk B mt n) (hB:BlkH B mt n N):Env:=envJ (P:=Tryz.prog) jkR zer (fun _=>false) (fun _=>false) [con103] [ecnP hK hB]
theorem D2_ok {B:Prg} {mt:List Int} {n N:Nat} (hK:Wk B mt n) (hB:BlkH B mt n N):EnvOk Tryz.prog (D2 hK hB):=envJOk zer_ok
theorem orV_some {l:List Rng}:orV (some l)= .sl false 2 (rgsV l):=rfl
theorem orV_none:orV none= .lit (.slice none 0 0):=rfl
set_option maxHeartbeats 8000000 in
theorem branch_ec {B:Prg} {mt:List Int} {n N:Nat} (hK:Wk B mt n) (hB:BlkH B mt n N) {i to:Int} {s:List Rng} {w:W} {ex:List AObj} {k:AV→List AObj→Prop} (h1:to - i≤N+1) (h2:Cl B mt i to) (hi:i<to) (ho:(B.op i).code=11) (h3:OkS n s) (h4:PreW B n w)
    (h5:∀ yes no w1 w2 u,PV B mt (i+1) (gt mt i) s (B.op i).a ⟨maxI (gR s (B.op i).a).lo 0,(gR s (B.op i).a).hi⟩ w yes w1→
      PV B mt (minI (gt mt i+1) (gt mt (gt mt i))) (gt mt (gt mt i)) s (B.op i).a ⟨(gR s (B.op i).a).lo,minI (gR s (B.op i).a).hi (-1)⟩ w1 no w2→hullsR yes no=some u→k (.tup [.sl false 2 (rgsV u),.lit (.int .i64 (gt mt (gt mt i)))]) (objs B mt w2 ex)):
    EC Tryz.prog 64 [.ref 3 0,.lit (.int .i64 i),.sl false 2 (rgsV s)] (objs B mt w ex) k:=by
  refine ec_fin fun hbd=>?_
  have hL:=hK.len
  have hn:=hK.n
  have hml:=hK.mtl
  have h20:=h2.1
  have h21:=h2.2.1
  have hsl:=h3.1
  have hin:=hK.nest.inner h20 (by omega) (.inr (.inl ho))
  obtain ⟨e1,e2,e3,_,e5,_⟩:=hK.nest.end_ h2 hi ho
  have hreg:=(right_regs (hK.rights i h20 (by omega))).a (.inr ho)
  have hr:=h3.at (B.op i).a
  have hopd:B.ops.getD i.toNat nilI=B.op i:=rfl
  have gm:mt.getD i.toNat 0=gt mt i:=rfl
  have gf:mt.getD (gt mt i).toNat 0=gt mt (gt mt i):=rfl
  generalize gt mt (gt mt i)=f at*
  generalize gt mt i=m at*
  generalize B.op i=X at*
  obtain ⟨q,p,a,b,c,d⟩:=X
  simp only at ho hreg hr h5
  have gs:s.getD a.toNat nilR=gR s a:=rfl
  generalize gR s a=r at*
  obtain ⟨r,r'⟩:=r
  simp only at h5 hr
  have hmn:minI (m+1) f≤f∧0≤minI (m+1) f∧i+1≤minI (m+1) f:=by unfold minI;split<;>omega
  refine ecR (D2_ok hK hB) (kp64) Tryz.func64 [.tmp 6,.tmp 7] (h:=fun KF=>?_)
  unfold D2
  repeat' first|(with_reducible first|(refine nx ?_;intros)|apply And.intro|intro vr)|exact kp_obs|exact kpd|((with_reducible first|refine ny ?_|refine t_kLF ?_ ?_|refine t_dO 3 (fun _=>true) oVc1_0 fun K=>?_|refine t_dO 5 (fun _=>true) oVc1_1 fun K=>?_);intros;simp only [go_sem,kp64,geff,hopd,gm,gf,gs,yes])
  all_goals try exact nd
  refine ecnP_i ⟨maxI r 0,r'⟩ (by omega) hin h3 h4 hreg (fun h=>ok_yes hr h) (by omega) fun o1 w1 hy=>?_
  obtain ⟨y1,y2⟩:=pv_ok hK hy hin h3 (fun h=>ok_yes hr h) h4
  repeat' first|(with_reducible first|(refine nx ?_;intros)|apply And.intro|intro vr)|exact kp_obs|exact kpd|((with_reducible first|refine ny ?_|refine t_kLF ?_ ?_|refine t_dO 3 (fun _=>true) oVc1_0 fun K=>?_|refine t_dO 5 (fun _=>true) oVc1_1 fun K=>?_);intros;simp only [go_sem,kp64,geff,hopd,gm,gf,gs,yes])
  all_goals try exact nd
  refine ecnP_i ⟨r,minI r' (-1)⟩ (by omega) e5 h3 y2 hreg (fun h=>ok_no hr h) (by omega) fun o2 w2 hn=>?_
  obtain ⟨z1,z2⟩:=pv_ok hK hn e5 h3 (fun h=>ok_no hr h) y2
  cases o1 with
  |none=>
   cases o2 with
   |none=>
    exfalso
    rcases hy with ⟨q1,_,_⟩|⟨_,_,q2,_⟩
    ·rcases hn with ⟨q3,_,_⟩|⟨_,_,q4,_⟩
     ·obtain ⟨q5,_⟩:=hr
      simp only [maxI,minI] at q1 q3
      simp only at q5
      split at q1<;>split at q3<;>omega
     ·cases q4
    ·cases q2
   |some v=>
    simp only [orV_some,orV_none]
    repeat' first|(with_reducible first|(refine nx ?_;intros)|apply And.intro|intro vr)|exact kp_obs|exact kpd|((with_reducible first|refine ny ?_|refine t_kLF ?_ ?_|refine t_dO 3 (fun _=>true) oVc1_0 fun K=>?_|refine t_dO 5 (fun _=>true) oVc1_1 fun K=>?_);intros;simp only [go_sem,kp64,geff,yes])
    all_goals try exact nd
    all_goals (refine nl ?_;simp only [go_sem,finE])
    exact ⟨_,_,rfl,LeA.refl _,ob_bds hbd,h5 _ _ _ _ v hy hn rfl⟩
  |some u=>
   have u1:=(y1 u rfl).1
   cases o2 with
   |none=>
    simp only [orV_some,orV_none]
    repeat' first|(with_reducible first|(refine nx ?_;intros)|apply And.intro|intro vr)|exact kp_obs|exact kpd|((with_reducible first|refine ny ?_|refine t_kLF ?_ ?_|refine t_dO 3 (fun _=>true) oVc1_0 fun K=>?_|refine t_dO 5 (fun _=>true) oVc1_1 fun K=>?_);intros;simp only [go_sem,kp64,geff,yes])
    all_goals try exact nd
    all_goals (refine nl ?_;simp only [go_sem,finE])
    exact ⟨_,_,rfl,LeA.refl _,ob_bds hbd,h5 _ _ _ _ u hy hn rfl⟩
   |some v=>
    have v1:=(z1 v rfl).1
    simp only [orV_some]
    repeat' first|(with_reducible first|(refine nx ?_;intros)|apply And.intro|intro vr)|exact kp_obs|exact kpd|((with_reducible first|refine ny ?_|refine t_kLF ?_ ?_|refine t_dO 3 (fun _=>true) oVc1_0 fun K=>?_|refine t_dO 5 (fun _=>true) oVc1_1 fun K=>?_);intros;simp only [go_sem,kp64,geff,yes])
    all_goals try exact nd
    all_goals (refine nl ?_;simp only [go_sem,finE])
    exact ⟨_,_,rfl,LeA.refl _,ob_bds hbd,h5 _ _ _ _ (List.zipWith hullR u v) hy hn rfl⟩
end Go.Proofs.YtnlimcijgpaegaaGreat

namespace Go.Proofs.YtnlimcijgpaegaaGreat
open Go Go.Fw Bm
set_option maxRecDepth 20000
abbrev oVc2_0:List (Nat×Nat):=[(0,1),(1,1),(2,1),(3,1),(4,1),(5,1),(6,1),(7,1),(8,1),(9,1),(10,1),(11,1),(12,1),(13,1),(14,1),(15,1),(16,0),(17,1),(18,1)]
attribute [go_sem] oVc2_0
theorem kp_o1 {B:Prg} {mt:List Int} {w w':W} {ex:List AObj} {x y:AObj} {D:Nat→Bool}:Kp D (objs B mt w (ex++[x])) (objs B mt w' (ex++[x,y])):=kp_ob fun o t cs h=>by
  rw [show ex++[x,y]=(ex++[x])++[y] by simp]
  exact get_app_of h _
theorem kp_o2 {B:Prg} {mt:List Int} {w:W} {ex:List AObj} {x y z:AObj}:Kp (fun i=>i==ex.length+4) (objs B mt w (ex++[x,y])) (objs B mt w (ex++[x,z])):=fun o t cs hD ho=>by
  have e:o=ex.length+4:=by simpa using hD
  subst e
  rw [ob_x] at ho ⊢
  rw [ex_20] at ho ⊢
  exact ho
theorem find_hds (l:List (Int×List Rng)) (i:Int):findA (.int .i64) (.int .i64 i) (hdsV l)=some ((lookH l i).map fun s=> .sl false 2 (rgsV s)):=by
  induction l with
  |nil=>rfl
  |cons e l ih=>
   show findA (.int .i64) (.int .i64 i) ((.int .i64 e.1,.sl false 2 (rgsV e.2))::hdsV l)=_
   rw [findA]
   show (match (if IntKind.i64=IntKind.i64 then some (i==e.1) else none) with|some true=>_|some false=>_|none=>_)=_
   rw [if_pos rfl]
   by_cases h:i=e.1
   ·have hb:(i==e.1)=true:=by simpa using h
    rw [hb];simp only [lookH];rw [if_pos h];rfl
   ·have hb:(i==e.1)=false:=by simpa using h
    rw [hb];simp only [lookH];rw [if_neg h];exact ih
theorem put_hds (l:List (Int×List Rng)) (i:Int) (s:List Rng):putA (.int .i64) (.int .i64 i) (.sl false 2 (rgsV s)) (hdsV l)=some (hdsV (putH l i s)):=by
  induction l with
  |nil=>rfl
  |cons e l ih=>
   show putA (.int .i64) (.int .i64 i) (.sl false 2 (rgsV s)) ((.int .i64 e.1,.sl false 2 (rgsV e.2))::hdsV l)=_
   rw [putA]
   show (match (if IntKind.i64=IntKind.i64 then some (i==e.1) else none) with|some true=>_|some false=>_|none=>_)=_
   rw [if_pos rfl]
   by_cases h:i=e.1
   ·have hb:(i==e.1)=true:=by simpa using h
    rw [hb];simp only [putH];rw [if_pos h];rfl
   ·have hb:(i==e.1)=false:=by simpa using h
    rw [hb];simp only [putH];rw [if_neg h];simp only [ih];rfl
theorem und104:Tryz.prog.underlying 84=some (.map 3 53):=by kernel_rfl
theorem keyT_i:keyT (.int .i64)=true:=rfl
theorem zeroT26:(zeroT Tryz.prog 53).isSome=true:=by kernel_rfl
theorem hok_put {n:Nat} {w:W} {i:Int} {s:List Rng} (h:HOk n w) (hs:OkS n s):HOk n {w with heads:=putH w.heads i s}:=fun j l hl=>by
  rw [lookH_put] at hl
  split at hl
  ·cases hl;exact hs
  ·exact h j l hl
noncomputable def D3 {B:Prg} {mt:List Int} {n N:Nat} (hK:Wk B mt n) (hB:BlkH B mt n N):Env:=envJ (P:=Tryz.prog) jkR zer (fun _=>false) (fun _=>false) [con105,con67,con106] [ecn104 B mt,ecnB hB]
theorem D3_ok {B:Prg} {mt:List Int} {n N:Nat} (hK:Wk B mt n) (hB:BlkH B mt n N):EnvOk Tryz.prog (D3 hK hB):=envJOk zer_ok
attribute [go_sem] con106_f con106_c
structure Lp (B:Prg) (mt:List Int) (n:Nat) (i:Int) (v:Rng) (h0:List Rng) (w0:W) where
  head:List Rng
  w:W
  hs:OkS n head
  hw:PreW B n w
  hv:∀ u w1,VR B mt (.lop i v) head w u w1→VR B mt (.lop i v) h0 w0 u w1
set_option maxHeartbeats 8000000 in
theorem loop_ec {B:Prg} {mt:List Int} {n N:Nat} (hK:Wk B mt n) (hB:BlkH B mt n N) {i to:Int} {s:List Rng} {w:W} {ex:List AObj} {k:AV→List AObj→Prop} (h1:to - i≤N+1) (h2:Cl B mt i to) (hi:i<to) (ho:(B.op i).code=10) (h3:OkS n s) (h4:PreW B n w)
    (h5:(gR s (B.op i).b).lo>(gR s (B.op i).c).hi - 1→k (.sl false 2 (rgsV s)) (objs B mt {w with before:=wipe w.before (i+1) (gt mt i)} ex))
    (h6: ¬ (gR s (B.op i).b).lo>(gR s (B.op i).c).hi - 1→∀ u w1,VR B mt (.lop i ⟨(gR s (B.op i).b).lo,(gR s (B.op i).c).hi - 1⟩) (grownR ((lookH w.heads i).getD s) s) w u w1→k (.sl false 2 (rgsV u)) (objs B mt w1 ex)):
    EC Tryz.prog 65 [.ref 3 0,.lit (.int .i64 i),.sl false 2 (rgsV s)] (objs B mt w ex) k:=by
  refine ec_fin fun hbd=>?_
  have hL:=hK.len
  have hn:=hK.n
  have hml:=hK.mtl
  have h20:=h2.1
  have h21:=h2.2.1
  have hsl:=h3.1
  have hwl:=h4.len
  have hin:=hK.nest.inner h20 (by omega) (.inl ho)
  obtain ⟨e1,e2,_,_⟩:=hK.nest.at h20 (by omega) (.inl ho)
  have hmt:=h2.2.2 i (Int.le_refl _) hi (.inl ho)
  have hright:=right_regs (hK.rights i h20 (by omega))
  have hrb:=hright.b (by omega)
  have hrc:=hright.c (by omega)
  have hra:=hright.w (by rw [ho];rfl)
  have hb:=okR_bd (h3.at (B.op i).b)
  have hc:=okR_bd (h3.at (B.op i).c)
  have ob:=h3.at (B.op i).b
  have oc:=h3.at (B.op i).c
  have hX:(B.op i).a=(B.op i).a:=rfl
  have hopd:B.ops.getD i.toNat nilI=B.op i:=rfl
  have gm:mt.getD i.toNat 0=gt mt i:=rfl
  generalize hA:(B.op i).a=a at*
  have hA':∀ hd:List Rng,withR hd (B.op i).a=withR hd a:=fun hd=>by rw [hA]
  generalize hm:gt mt i=m at*
  have gb:s.getD (B.op i).b.toNat nilR=gR s (B.op i).b:=rfl
  have gc:s.getD (B.op i).c.toNat nilR=gR s (B.op i).c:=rfl
  generalize hXX:B.op i=X at*
  obtain ⟨q,p,a',b,c,d⟩:=X
  simp only at ho hrb hrc hA hb hc gb gc h5 h6 ob oc
  subst hA
  generalize gR s b=rb at*
  generalize gR s c=rc at*
  obtain ⟨rb,rb'⟩:=rb
  obtain ⟨rc,rc'⟩:=rc
  simp only at h5 h6 hb hc
  have n0:0<s.length:=by omega
  by_cases hv:rb>rc' - 1
  ·have g1:decide (rb>rc' - 1)=true:=decide_eq_true hv
   refine ecR (D3_ok hK hB) (kp65) Tryz.func65 [.tmp 6] (h:=fun KF=>?_)
   unfold D3
   repeat' first|(with_reducible first|(refine nx ?_;intros)|apply And.intro|intro vr)|exact kp_obs|exact kp_o1|exact kp_o2|exact kpd|((with_reducible refine t_drawG (id:=2) (fun i=>i==ex.length+4) 14 [(0,1),(1,1),(2,1),(3,1),(4,1),(5,1),(6,1),(7,1),(8,1),(9,1),(10,1),(11,1),(12,1),(13,1),(14,3),(15,0)] (by kernel_rfl) (by kernel_rfl) (by kernel_rfl) fun K=>?_);simp only [noA,List.filter_cons,List.filter_nil,Nat.reduceBEq,Bool.not_false,Bool.not_true,reduceIte,if_true,Bool.false_eq_true];simp only [pickO,List.getElem?_toArray,List.getElem?_cons_zero,List.getElem?_cons_succ,Nat.reduceAdd,Nat.reduceSub,fo_some];refine nh ?_;intro KL;simp only [go_sem,kp65,geff,hopd,gm,gb,gc,g1,yes])|((with_reducible first|refine ny ?_|refine t_kLF ?_ ?_|refine t_dO 11 (fun _=>true) oVc2_0 fun K=>?_);intros;simp only [go_sem,kp65,geff,hopd,gm,gb,gc,g1,yes])
   all_goals try exact nd
   refine ecn104_i ⟨by omega,by omega,by omega,by omega⟩ ?_
   repeat' first|(with_reducible first|(refine nx ?_;intros)|apply And.intro|intro vr)|exact kp_obs|exact kp_o1|exact kp_o2|exact kpd|((with_reducible refine t_drawG (id:=2) (fun i=>i==ex.length+4) 14 [(0,1),(1,1),(2,1),(3,1),(4,1),(5,1),(6,1),(7,1),(8,1),(9,1),(10,1),(11,1),(12,1),(13,1),(14,3),(15,0)] (by kernel_rfl) (by kernel_rfl) (by kernel_rfl) fun K=>?_);simp only [noA,List.filter_cons,List.filter_nil,Nat.reduceBEq,Bool.not_false,Bool.not_true,reduceIte,if_true,Bool.false_eq_true];simp only [pickO,List.getElem?_toArray,List.getElem?_cons_zero,List.getElem?_cons_succ,Nat.reduceAdd,Nat.reduceSub,fo_some];refine nh ?_;intro KL;simp only [go_sem,kp65,geff,yes])|((with_reducible first|refine ny ?_|refine t_kLF ?_ ?_|refine t_dO 11 (fun _=>true) oVc2_0 fun K=>?_);intros;simp only [go_sem,kp65,geff,yes])
   all_goals try exact nd
   all_goals (refine nl ?_;simp only [go_sem,finE])
   exact ⟨_,_,rfl,LeA.refl _,ob_bds hbd,h5 hv⟩
  ·have g1:decide (rb>rc' - 1)=false:=decide_eq_false hv
   have h6:=h6 hv
   have hvo:OkR ⟨rb,rc' - 1⟩:=by
     obtain ⟨k1,k2,k3⟩:=ob
     obtain ⟨k4,k5,k6⟩:=oc
     simp only [machR,maxC] at k2 k3 k5 k6
     refine ⟨by simp only;omega,?_,?_⟩<;>simp only [machR,maxC]<;>omega
   have hg0:OkS n (grownR ((lookH w.heads i).getD s) s):=by
     cases hq:lookH w.heads i with
     |none=>exact h3.grown h3
     |some l=>exact (h4.hd i l hq).grown h3
   have hgl:=hg0.1
   cases hq:lookH w.heads i with
   |none=>
    rw [hq] at h6 hg0 hgl
    simp only [Option.getD_none] at h6 hg0 hgl
    have hf:=find_hds w.heads i
    rw [hq] at hf
    simp only [Option.map_none] at hf
    refine ecR (D3_ok hK hB) (kp65) Tryz.func65 [.tmp 6] (h:=fun KF=>?_)
    unfold D3
    repeat' first|(with_reducible first|(refine nx ?_;intros)|apply And.intro|intro vr)|exact kp_obs|exact kp_o1|exact kp_o2|exact kpd|((with_reducible refine t_drawG (id:=2) (fun i=>i==ex.length+4) 14 [(0,1),(1,1),(2,1),(3,1),(4,1),(5,1),(6,1),(7,1),(8,1),(9,1),(10,1),(11,1),(12,1),(13,1),(14,3),(15,0)] (by kernel_rfl) (by kernel_rfl) (by kernel_rfl) fun K=>?_);simp only [noA,List.filter_cons,List.filter_nil,Nat.reduceBEq,Bool.not_false,Bool.not_true,reduceIte,if_true,Bool.false_eq_true];simp only [pickO,List.getElem?_toArray,List.getElem?_cons_zero,List.getElem?_cons_succ,Nat.reduceAdd,Nat.reduceSub,fo_some];refine nh ?_;intro KL;simp only [go_sem,kp65,geff,hopd,gm,gb,gc,g1,yes,und104,und3,keyT_i,zeroT26,hf,Bool.not_false,Bool.not_true])|((with_reducible first|refine ny ?_|refine t_kLF ?_ ?_|refine t_dO 11 (fun _=>true) oVc2_0 fun K=>?_);intros;simp only [go_sem,kp65,geff,hopd,gm,gb,gc,g1,yes,und104,und3,keyT_i,zeroT26,hf,Bool.not_false,Bool.not_true])
    all_goals try exact nd
    refine t_loopF (ι:=Lp B mt n i ⟨rb,rc' - 1⟩ (grownR s s) w) (fun q=>[(9,.sl false 2 (rgsV q.head))]) (fun q'=>objs B mt q'.w (ex++[.box 56 [.lit (.int .i64 q),.lit (.string p),.lit (.int .i64 a'),.lit (.int .i64 b),.lit (.int .i64 c),.lit (.int .i64 d)],.box 89 [.lit (.int .i64 rb),.lit (.int .i64 (rc' - 1))]])) (fun q=>rkS q.head) ⟨grownR s s,w,hg0,h4,fun u w1 h=>h⟩ ?_ ?_
    ·exact lf
    rintro ⟨head,w2,hs,hw,hvv⟩ K0
    have hfp:=put_hds w2.heads i head
    have hsl2:=hs.1
    repeat' first|(with_reducible first|(refine nx ?_;intros)|apply And.intro|intro vr)|exact kp_obs|exact kp_o1|exact kp_o2|exact kpd|((with_reducible refine t_drawG (id:=2) (fun i=>i==ex.length+4) 14 [(0,1),(1,1),(2,1),(3,1),(4,1),(5,1),(6,1),(7,1),(8,1),(9,1),(10,1),(11,1),(12,1),(13,1),(14,3),(15,0)] (by kernel_rfl) (by kernel_rfl) (by kernel_rfl) fun K=>?_);simp only [noA,List.filter_cons,List.filter_nil,Nat.reduceBEq,Bool.not_false,Bool.not_true,reduceIte,if_true,Bool.false_eq_true];simp only [pickO,List.getElem?_toArray,List.getElem?_cons_zero,List.getElem?_cons_succ,Nat.reduceAdd,Nat.reduceSub,fo_some];refine nh ?_;intro KL;simp only [go_sem,kp65,geff,gm,und104,und3,keyT_i,hfp,yes])|((with_reducible first|refine ny ?_|refine t_kLF ?_ ?_|refine t_dO 11 (fun _=>true) oVc2_0 fun K=>?_);intros;simp only [go_sem,kp65,geff,gm,und104,und3,keyT_i,hfp,yes])
    all_goals try exact nd
    refine ecnB_i (by omega) hin (hs.with hvo) ⟨hw.len,hok_put hw.hd hs⟩ fun t w3 hr=>?_
    obtain ⟨t1,t2⟩:=vr_ok hK hr hin (hs.with hvo) ⟨hw.len,hok_put hw.hd hs⟩
    have t1l:=t1.1
    have hrun:VR B mt (.blk (i+1) (gt mt i)) (withR head (B.op i).a ⟨rb,rc' - 1⟩) {w2 with heads:=putH w2.heads i head} t w3:=by rw [hXX,hm];exact hr
    have hgl2:=(hs.grown t1).1
    by_cases hq2:grownR head t=head
    ·have gd:=decide_eq_true hq2
     repeat' first|(with_reducible first|(refine nx ?_;intros)|apply And.intro|intro vr)|exact kp_obs|exact kp_o1|exact kp_o2|exact kpd|((with_reducible refine t_drawG (id:=2) (fun i=>i==ex.length+4) 14 [(0,1),(1,1),(2,1),(3,1),(4,1),(5,1),(6,1),(7,1),(8,1),(9,1),(10,1),(11,1),(12,1),(13,1),(14,3),(15,0)] (by kernel_rfl) (by kernel_rfl) (by kernel_rfl) fun K=>?_);simp only [noA,List.filter_cons,List.filter_nil,Nat.reduceBEq,Bool.not_false,Bool.not_true,reduceIte,if_true,Bool.false_eq_true];simp only [pickO,List.getElem?_toArray,List.getElem?_cons_zero,List.getElem?_cons_succ,Nat.reduceAdd,Nat.reduceSub,fo_some];refine nh ?_;intro KL;simp only [go_sem,kp65,geff,gd,yes])|((with_reducible first|refine ny ?_|refine t_kLF ?_ ?_|refine t_dO 11 (fun _=>true) oVc2_0 fun K=>?_);intros;simp only [go_sem,kp65,geff,gd,yes])
     all_goals try exact nd
     all_goals (refine nl ?_;simp only [go_sem,finE])
     exact ⟨_,_,rfl,LeA.refl _,ob_bds hbd,h6 head w3 (hvv _ _ (vr_lopE hrun hq2))⟩
    ·have gd:=decide_eq_false hq2
     repeat' first|(with_reducible first|(refine nx ?_;intros)|apply And.intro|intro vr)|exact kp_obs|exact kp_o1|exact kp_o2|exact kpd|((with_reducible refine t_drawG (id:=2) (fun i=>i==ex.length+4) 14 [(0,1),(1,1),(2,1),(3,1),(4,1),(5,1),(6,1),(7,1),(8,1),(9,1),(10,1),(11,1),(12,1),(13,1),(14,3),(15,0)] (by kernel_rfl) (by kernel_rfl) (by kernel_rfl) fun K=>?_);simp only [noA,List.filter_cons,List.filter_nil,Nat.reduceBEq,Bool.not_false,Bool.not_true,reduceIte,if_true,Bool.false_eq_true];simp only [pickO,List.getElem?_toArray,List.getElem?_cons_zero,List.getElem?_cons_succ,Nat.reduceAdd,Nat.reduceSub,fo_some];refine nh ?_;intro KL;simp only [go_sem,kp65,geff,gd,yes])|((with_reducible first|refine ny ?_|refine t_kLF ?_ ?_|refine t_dO 11 (fun _=>true) oVc2_0 fun K=>?_);intros;simp only [go_sem,kp65,geff,gd,yes])
     all_goals try exact nd
     refine ⟨⟨grownR head t,w3,hs.grown t1,t2,fun u w1 h=>hvv _ _ (vr_lop hrun hq2 h)⟩,(grown_rk hs t1).resolve_left hq2,?_⟩
     exact lf
   |some l=>
    have hll:=(h4.hd i l hq).1
    rw [hq] at h6 hg0 hgl
    simp only [Option.getD_some] at h6 hg0 hgl
    have hf:=find_hds w.heads i
    rw [hq] at hf
    simp only [Option.map_some] at hf
    refine ecR (D3_ok hK hB) (kp65) Tryz.func65 [.tmp 6] (h:=fun KF=>?_)
    unfold D3
    repeat' first|(with_reducible first|(refine nx ?_;intros)|apply And.intro|intro vr)|exact kp_obs|exact kp_o1|exact kp_o2|exact kpd|((with_reducible refine t_drawG (id:=2) (fun i=>i==ex.length+4) 14 [(0,1),(1,1),(2,1),(3,1),(4,1),(5,1),(6,1),(7,1),(8,1),(9,1),(10,1),(11,1),(12,1),(13,1),(14,3),(15,0)] (by kernel_rfl) (by kernel_rfl) (by kernel_rfl) fun K=>?_);simp only [noA,List.filter_cons,List.filter_nil,Nat.reduceBEq,Bool.not_false,Bool.not_true,reduceIte,if_true,Bool.false_eq_true];simp only [pickO,List.getElem?_toArray,List.getElem?_cons_zero,List.getElem?_cons_succ,Nat.reduceAdd,Nat.reduceSub,fo_some];refine nh ?_;intro KL;simp only [go_sem,kp65,geff,hopd,gm,gb,gc,g1,yes,und104,und3,keyT_i,zeroT26,hf,Bool.not_false,Bool.not_true])|((with_reducible first|refine ny ?_|refine t_kLF ?_ ?_|refine t_dO 11 (fun _=>true) oVc2_0 fun K=>?_);intros;simp only [go_sem,kp65,geff,hopd,gm,gb,gc,g1,yes,und104,und3,keyT_i,zeroT26,hf,Bool.not_false,Bool.not_true])
    all_goals try exact nd
    refine t_loopF (ι:=Lp B mt n i ⟨rb,rc' - 1⟩ (grownR l s) w) (fun q=>[(9,.sl false 2 (rgsV q.head))]) (fun q'=>objs B mt q'.w (ex++[.box 56 [.lit (.int .i64 q),.lit (.string p),.lit (.int .i64 a'),.lit (.int .i64 b),.lit (.int .i64 c),.lit (.int .i64 d)],.box 89 [.lit (.int .i64 rb),.lit (.int .i64 (rc' - 1))]])) (fun q=>rkS q.head) ⟨grownR l s,w,hg0,h4,fun u w1 h=>h⟩ ?_ ?_
    ·exact lf
    rintro ⟨head,w2,hs,hw,hvv⟩ K0
    have hfp:=put_hds w2.heads i head
    have hsl2:=hs.1
    repeat' first|(with_reducible first|(refine nx ?_;intros)|apply And.intro|intro vr)|exact kp_obs|exact kp_o1|exact kp_o2|exact kpd|((with_reducible refine t_drawG (id:=2) (fun i=>i==ex.length+4) 14 [(0,1),(1,1),(2,1),(3,1),(4,1),(5,1),(6,1),(7,1),(8,1),(9,1),(10,1),(11,1),(12,1),(13,1),(14,3),(15,0)] (by kernel_rfl) (by kernel_rfl) (by kernel_rfl) fun K=>?_);simp only [noA,List.filter_cons,List.filter_nil,Nat.reduceBEq,Bool.not_false,Bool.not_true,reduceIte,if_true,Bool.false_eq_true];simp only [pickO,List.getElem?_toArray,List.getElem?_cons_zero,List.getElem?_cons_succ,Nat.reduceAdd,Nat.reduceSub,fo_some];refine nh ?_;intro KL;simp only [go_sem,kp65,geff,gm,und104,und3,keyT_i,hfp,yes])|((with_reducible first|refine ny ?_|refine t_kLF ?_ ?_|refine t_dO 11 (fun _=>true) oVc2_0 fun K=>?_);intros;simp only [go_sem,kp65,geff,gm,und104,und3,keyT_i,hfp,yes])
    all_goals try exact nd
    refine ecnB_i (by omega) hin (hs.with hvo) ⟨hw.len,hok_put hw.hd hs⟩ fun t w3 hr=>?_
    obtain ⟨t1,t2⟩:=vr_ok hK hr hin (hs.with hvo) ⟨hw.len,hok_put hw.hd hs⟩
    have t1l:=t1.1
    have hrun:VR B mt (.blk (i+1) (gt mt i)) (withR head (B.op i).a ⟨rb,rc' - 1⟩) {w2 with heads:=putH w2.heads i head} t w3:=by rw [hXX,hm];exact hr
    have hgl2:=(hs.grown t1).1
    by_cases hq2:grownR head t=head
    ·have gd:=decide_eq_true hq2
     repeat' first|(with_reducible first|(refine nx ?_;intros)|apply And.intro|intro vr)|exact kp_obs|exact kp_o1|exact kp_o2|exact kpd|((with_reducible refine t_drawG (id:=2) (fun i=>i==ex.length+4) 14 [(0,1),(1,1),(2,1),(3,1),(4,1),(5,1),(6,1),(7,1),(8,1),(9,1),(10,1),(11,1),(12,1),(13,1),(14,3),(15,0)] (by kernel_rfl) (by kernel_rfl) (by kernel_rfl) fun K=>?_);simp only [noA,List.filter_cons,List.filter_nil,Nat.reduceBEq,Bool.not_false,Bool.not_true,reduceIte,if_true,Bool.false_eq_true];simp only [pickO,List.getElem?_toArray,List.getElem?_cons_zero,List.getElem?_cons_succ,Nat.reduceAdd,Nat.reduceSub,fo_some];refine nh ?_;intro KL;simp only [go_sem,kp65,geff,gd,yes])|((with_reducible first|refine ny ?_|refine t_kLF ?_ ?_|refine t_dO 11 (fun _=>true) oVc2_0 fun K=>?_);intros;simp only [go_sem,kp65,geff,gd,yes])
     all_goals try exact nd
     all_goals (refine nl ?_;simp only [go_sem,finE])
     exact ⟨_,_,rfl,LeA.refl _,ob_bds hbd,h6 head w3 (hvv _ _ (vr_lopE hrun hq2))⟩
    ·have gd:=decide_eq_false hq2
     repeat' first|(with_reducible first|(refine nx ?_;intros)|apply And.intro|intro vr)|exact kp_obs|exact kp_o1|exact kp_o2|exact kpd|((with_reducible refine t_drawG (id:=2) (fun i=>i==ex.length+4) 14 [(0,1),(1,1),(2,1),(3,1),(4,1),(5,1),(6,1),(7,1),(8,1),(9,1),(10,1),(11,1),(12,1),(13,1),(14,3),(15,0)] (by kernel_rfl) (by kernel_rfl) (by kernel_rfl) fun K=>?_);simp only [noA,List.filter_cons,List.filter_nil,Nat.reduceBEq,Bool.not_false,Bool.not_true,reduceIte,if_true,Bool.false_eq_true];simp only [pickO,List.getElem?_toArray,List.getElem?_cons_zero,List.getElem?_cons_succ,Nat.reduceAdd,Nat.reduceSub,fo_some];refine nh ?_;intro KL;simp only [go_sem,kp65,geff,gd,yes])|((with_reducible first|refine ny ?_|refine t_kLF ?_ ?_|refine t_dO 11 (fun _=>true) oVc2_0 fun K=>?_);intros;simp only [go_sem,kp65,geff,gd,yes])
     all_goals try exact nd
     refine ⟨⟨grownR head t,w3,hs.grown t1,t2,fun u w1 h=>hvv _ _ (vr_lop hrun hq2 h)⟩,(grown_rk hs t1).resolve_left hq2,?_⟩
     exact lf
noncomputable def ecnR {B:Prg} {mt:List Int} {n N:Nat} (hK:Wk B mt n) (hB:BlkH B mt n N):ECon Tryz.prog where
  f:=64
  c:=fun args σ k=>∃ (i to:Int) (s:List Rng) (w:W) (ex:List AObj),args=[.ref 3 0,.lit (.int .i64 i),.sl false 2 (rgsV s)]∧σ=objs B mt w ex∧to - i≤N+1∧Cl B mt i to∧i<to∧(B.op i).code=11∧OkS n s∧PreW B n w∧
   ∀ yes no w1 w2 u,PV B mt (i+1) (gt mt i) s (B.op i).a ⟨maxI (gR s (B.op i).a).lo 0,(gR s (B.op i).a).hi⟩ w yes w1→
     PV B mt (minI (gt mt i+1) (gt mt (gt mt i))) (gt mt (gt mt i)) s (B.op i).a ⟨(gR s (B.op i).a).lo,minI (gR s (B.op i).a).hi (-1)⟩ w1 no w2→hullsR yes no=some u→k (.tup [.sl false 2 (rgsV u),.lit (.int .i64 (gt mt (gt mt i)))]) (objs B mt w2 ex)
  ok:=by
   rintro _ _ k ⟨i,to,s,w,ex,rfl,rfl,h1,h2,h3,h4,h5,h6,h7⟩
   exact branch_ec hK hB h1 h2 h3 h4 h5 h6 h7
  fk:=fk64
theorem ecnR_f {B:Prg} {mt:List Int} {n N:Nat} (hK:Wk B mt n) (hB:BlkH B mt n N):(ecnR hK hB).f=64:=rfl
theorem ecnR_i {B:Prg} {mt:List Int} {n N:Nat} {hK:Wk B mt n} {hB:BlkH B mt n N} {i:Int} (to:Int) {s:List Rng} {w:W} {ex:List AObj} {k:AV→List AObj→Prop} (h1:to - i≤N+1) (h2:Cl B mt i to) (h3:i<to) (h4:(B.op i).code=11) (h5:OkS n s) (h6:PreW B n w)
    (h7:∀ yes no w1 w2 u,PV B mt (i+1) (gt mt i) s (B.op i).a ⟨maxI (gR s (B.op i).a).lo 0,(gR s (B.op i).a).hi⟩ w yes w1→
      PV B mt (minI (gt mt i+1) (gt mt (gt mt i))) (gt mt (gt mt i)) s (B.op i).a ⟨(gR s (B.op i).a).lo,minI (gR s (B.op i).a).hi (-1)⟩ w1 no w2→hullsR yes no=some u→k (.tup [.sl false 2 (rgsV u),.lit (.int .i64 (gt mt (gt mt i)))]) (objs B mt w2 ex)):
    (ecnR hK hB).c [.ref 3 0,.lit (.int .i64 i),.sl false 2 (rgsV s)] (objs B mt w ex) k:=⟨i,to,s,w,ex,rfl,rfl,h1,h2,h3,h4,h5,h6,h7⟩
noncomputable def ecnL {B:Prg} {mt:List Int} {n N:Nat} (hK:Wk B mt n) (hB:BlkH B mt n N):ECon Tryz.prog where
  f:=65
  c:=fun args σ k=>∃ (i to:Int) (s:List Rng) (w:W) (ex:List AObj),args=[.ref 3 0,.lit (.int .i64 i),.sl false 2 (rgsV s)]∧σ=objs B mt w ex∧to - i≤N+1∧Cl B mt i to∧i<to∧(B.op i).code=10∧OkS n s∧PreW B n w∧
   ((gR s (B.op i).b).lo>(gR s (B.op i).c).hi - 1→k (.sl false 2 (rgsV s)) (objs B mt {w with before:=wipe w.before (i+1) (gt mt i)} ex))∧
   (¬ (gR s (B.op i).b).lo>(gR s (B.op i).c).hi - 1→∀ u w1,VR B mt (.lop i ⟨(gR s (B.op i).b).lo,(gR s (B.op i).c).hi - 1⟩) (grownR ((lookH w.heads i).getD s) s) w u w1→k (.sl false 2 (rgsV u)) (objs B mt w1 ex))
  ok:=by
   rintro _ _ k ⟨i,to,s,w,ex,rfl,rfl,h1,h2,h3,h4,h5,h6,h7,h8⟩
   exact loop_ec hK hB h1 h2 h3 h4 h5 h6 h7 h8
  fk:=fk65
theorem ecnL_f {B:Prg} {mt:List Int} {n N:Nat} (hK:Wk B mt n) (hB:BlkH B mt n N):(ecnL hK hB).f=65:=rfl
theorem ecnL_i {B:Prg} {mt:List Int} {n N:Nat} {hK:Wk B mt n} {hB:BlkH B mt n N} {i:Int} (to:Int) {s:List Rng} {w:W} {ex:List AObj} {k:AV→List AObj→Prop} (h1:to - i≤N+1) (h2:Cl B mt i to) (h3:i<to) (h4:(B.op i).code=10) (h5:OkS n s) (h6:PreW B n w)
    (h7:(gR s (B.op i).b).lo>(gR s (B.op i).c).hi - 1→k (.sl false 2 (rgsV s)) (objs B mt {w with before:=wipe w.before (i+1) (gt mt i)} ex))
    (h8: ¬ (gR s (B.op i).b).lo>(gR s (B.op i).c).hi - 1→∀ u w1,VR B mt (.lop i ⟨(gR s (B.op i).b).lo,(gR s (B.op i).c).hi - 1⟩) (grownR ((lookH w.heads i).getD s) s) w u w1→k (.sl false 2 (rgsV u)) (objs B mt w1 ex)):
    (ecnL hK hB).c [.ref 3 0,.lit (.int .i64 i),.sl false 2 (rgsV s)] (objs B mt w ex) k:=⟨i,to,s,w,ex,rfl,rfl,h1,h2,h3,h4,h5,h6,h7,h8⟩
attribute [go_sem] ecnR_f ecnL_f
end Go.Proofs.YtnlimcijgpaegaaGreat

namespace Go.Proofs.YtnlimcijgpaegaaGreat
open Go Go.Fw Bm
set_option maxRecDepth 20000
attribute [go_sem] con66_f con66_c con68_f con68_c
abbrev oVc3_0:List (Nat×Nat):=[(0,1),(1,1),(2,1),(3,1),(4,1),(5,1),(6,1),(7,2),(8,0)]
attribute [go_sem] oVc3_0
noncomputable def D4 {B:Prg} {mt:List Int} {n N:Nat} (hK:Wk B mt n) (hB:BlkH B mt n N):Env:=envJ (P:=Tryz.prog) jkR zer (fun _=>false) (fun _=>false) [con63,con66,con67,con68] [ecnR hK hB,ecnL hK hB]
theorem D4_ok {B:Prg} {mt:List Int} {n N:Nat} (hK:Wk B mt n) (hB:BlkH B mt n N):EnvOk Tryz.prog (D4 hK hB):=envJOk zer_ok
structure Bk (B:Prg) (mt:List Int) (n:Nat) (i0 to:Int) (s0:List Rng) (w0:W) where
  i:Int
  s:List Rng
  w:W
  hi:i0≤i
  hu:i≤to∨i=i0
  hs:OkS n s
  hw:PreW B n w
  hv:∀ t w1,VR B mt (.blk i to) s w t w1→VR B mt (.blk i0 to) s0 w0 t w1
theorem kp_os {B:Prg} {mt:List Int} {w:W} {ex:List AObj} {y:AObj} {D:Nat→Bool} (h:∀ t cs,y≠ .box t cs:=by intro _ _ h;cases h):Kp D (objs B mt w ex) ((objs B mt w ex).set 1 y):=fun o t cs _ ho=>by
  rcases o with _|_|o
  ·exact ho
  ·cases ho
  ·exact ho
theorem lop_ok {B:Prg} {mt:List Int} {n:Nat} (hK:Wk B mt n) {i:Int} {v:Rng} {s t:List Rng} {w w':W} (h:VR B mt (.lop i v) s w t w') (hc:VTk.ok B mt (.lop i v)) (hs:OkS n s) (hw:PreW B n w) (hv:OkR v):OkS n t∧PreW B n w':=by
  obtain ⟨f,hf⟩:=h
  have h1:=vrun_ok hK.nest hK.rights f _ _ _ _ _ hf hc hs hw.hd (fun i' v' e=>by cases e;exact hv)
  have h2:=vrun_wr hK.nest f (.lop i v) _ _ _ _ hc hf
  exact ⟨h1.1,⟨h2.1.trans hw.len,h1.2⟩⟩
theorem le_obB {n0:Nat} {f g:Nat→AV} {B:Prg} {mt:List Int} {w:W} {ex m:List AObj} (hn:n0≤(objs B mt w ex).length) (hb:BdS (objs B mt w ex).length (objs B mt w ex)) (hg:∀ j,low1 (objs B mt w ex).length (g j)=true) (h:∀ j,LeR (f j) (g j)):Le n0 ⟨f,objs B mt w (ex++m)⟩ ⟨g,objs B mt w ex⟩:=
  le_backB (m:=m) (by rw [ob_app]) hn hb hg h
theorem lg_w {n0:Nat} {f:Nat→AV} {i o k:Nat} (h:∀ j,low1 n0 (f j)=true) (ho:o<n0):∀ j,low1 n0 (upd f i (.ref o k) j)=true:=low_upd (by simp [low1,low0,ho]) h
set_option maxHeartbeats 8000000 in
theorem block_step {B:Prg} {mt:List Int} {n N:Nat} (hK:Wk B mt n) (hB:BlkH B mt n N):BlkH B mt n (N+1):=by
  intro i0 to s0 w0 ex k h1 h2 h3 h4 h5
  refine ec_fin fun hbd=>?_
  have hL:=hK.len
  have hn:=hK.n
  have hml:=hK.mtl
  have h20:=h2.1
  have h21:=h2.2.1
  refine ecR (D4_ok hK hB) (kp37) Tryz.func37 [.tmp 8] (h:=fun KF=>?_)
  unfold D4
  repeat' first|(with_reducible first|(refine nx ?_;intros)|apply And.intro|intro vr)|exact kp_obs|exact kp_os|exact kpd|((with_reducible first|refine ny ?_|refine t_kLF ?_ ?_|refine t_dO 5 (fun _=>true) oVc3_0 fun K=>?_);intros;simp only [go_sem,kp37,geff])
  all_goals try exact nd
  refine t_loopF (ι:=Bk B mt n i0 to s0 w0) (fun q=>[(9,.lit (.int .i64 q.i)),(3,.sl false 2 (rgsV q.s))]) (fun q=>objs B mt q.w ex) (fun q=>(to - q.i).toNat) ⟨i0,s0,w0,Int.le_refl _,.inr rfl,h3,h4,fun _ _ h=>h⟩ ?_ ?_
  ·exact lf
  rintro ⟨i,s,w,hi,hu,hs,hw,hv⟩ K0
  have hsl:=hs.1
  have hwl:=hw.len
  rcases Int.lt_or_le i to with hc|hc
  ·have g3:decide (i<to)=true:=decide_eq_true hc
   have hcl:Cl B mt i to:=h2.next hi
   have hopd:B.ops.getD i.toNat nilI=B.op i:=rfl
   have hright:=hK.rights i (by omega) (by omega)
   have hw':PreW B n {w with before:=w.before.set i.toNat s}:=⟨by simp only [List.length_set];exact hw.len,hw.hd⟩
   have hX:(B.op i)=B.op i:=rfl
   generalize hXX:B.op i=X at hopd hright
   obtain ⟨q,p,a,b,c,d⟩:=X
   by_cases q11:q=11
   ·subst q11
    repeat' first|(with_reducible first|(refine nx ?_;intros)|apply And.intro|intro vr)|exact kp_obs|exact kp_os|exact kpd|((with_reducible first|refine ny ?_|refine t_kLF ?_ ?_|refine t_dO 5 (fun _=>true) oVc3_0 fun K=>?_);intros;simp only [go_sem,kp37,geff,g3,hopd,yes])
    all_goals try exact nd
    refine ecnR_i (N:=N) to (by omega) hcl hc (by rw [hXX]) hs hw' fun o1 o2 w1 w2 u hy hn hh=>?_
    obtain ⟨k1,k2,k3,_,k5,_⟩:=hK.nest.end_ hcl hc (by rw [hXX])
    have hin:=hK.nest.inner (show 0≤i by omega) (by omega) (.inr (.inl (by rw [hXX])))
    have hra:=hs.at (B.op i).a
    obtain ⟨y1,y2⟩:=pv_ok hK hy hin hs (fun h=>ok_yes hra h) hw'
    obtain ⟨z1,z2⟩:=pv_ok hK hn k5 hs (fun h=>ok_no hra h) y2
    have hu2:=hulls_ok hh y1 z1
    generalize hM:gt mt (gt mt i)=M at*
    repeat' first|(with_reducible first|(refine nx ?_;intros)|apply And.intro|intro vr)|exact kp_obs|exact kp_os|exact kpd|((with_reducible first|refine ny ?_|refine t_kLF ?_ ?_|refine t_dO 5 (fun _=>true) oVc3_0 fun K=>?_);intros;simp only [go_sem,kp37,geff,yes])
    all_goals try exact nd
    refine ⟨⟨M+1,u,w2,by omega,.inl (by omega),hu2,z2,fun t w3 h=>hv _ _ (vr_if hc (by rw [hXX]) hy (by rw [hM];exact hn) hh (by rw [hM];exact h))⟩,by simp only;omega,?_⟩
    try simp only [updL_nil,updL_cons,delF_top,delF_upd,Nat.reduceEqDiff,reduceIte]
    refine le_obB (m:=[.box 56 [.lit (.int .i64 11),.lit (.string p),.lit (.int .i64 a),.lit (.int .i64 b),.lit (.int .i64 c),.lit (.int .i64 d)]]) (Nat.le_refl _) (ob_bds hbd) ?_ ?_
    ·repeat' (first|exact low_top|(refine low_upd rfl ?_)|(refine lg_w ?_ (by rw [ob_len];omega)))
    exact lq
   ·by_cases q10:q=10
    ·subst q10
     repeat' first|(with_reducible first|(refine nx ?_;intros)|apply And.intro|intro vr)|exact kp_obs|exact kp_os|exact kpd|((with_reducible first|refine ny ?_|refine t_kLF ?_ ?_|refine t_dO 5 (fun _=>true) oVc3_0 fun K=>?_);intros;simp only [go_sem,kp37,geff,g3,hopd,yes])
     all_goals try exact nd
     have hin:=hK.nest.inner (show 0≤i by omega) (by omega) (.inl (by rw [hXX]))
     obtain ⟨k1,k2,_,_⟩:=hK.nest.at (show 0≤i by omega) (by omega) (.inl (by rw [hXX]))
     have k3:=hcl.2.2 i (Int.le_refl _) hc (.inl (by rw [hXX]))
     have gm:mt.getD i.toNat 0=gt mt i:=rfl
     have hrg:=right_regs hright
     have ob:=hs.at (B.op i).b
     have oc:=hs.at (B.op i).c
     refine ecnL_i (N:=N) to (by omega) hcl hc (by rw [hXX]) hs hw' (fun hq=>?_) fun hq u w1 hr=>?_
     ·generalize hM:gt mt i=M at*
      repeat' first|(with_reducible first|(refine nx ?_;intros)|apply And.intro|intro vr)|exact kp_obs|exact kp_os|exact kpd|((with_reducible first|refine ny ?_|refine t_kLF ?_ ?_|refine t_dO 5 (fun _=>true) oVc3_0 fun K=>?_);intros;simp only [go_sem,kp37,geff,gm,yes])
      all_goals try exact nd
      refine ⟨⟨M+1,s,{w with before:=wipe (w.before.set i.toNat s) (i+1) M},by omega,.inl (by omega),hs,hw'.wipe _ _,fun t w3 h=>hv _ _ (vr_for0 hc (by rw [hXX]) hq (by rw [hM];exact h))⟩,by simp only;omega,?_⟩
      try simp only [updL_nil,updL_cons,delF_top,delF_upd,Nat.reduceEqDiff,reduceIte]
      refine le_obB (m:=[.box 56 [.lit (.int .i64 10),.lit (.string p),.lit (.int .i64 a),.lit (.int .i64 b),.lit (.int .i64 c),.lit (.int .i64 d)]]) (Nat.le_refl _) (ob_bds hbd) ?_ ?_
      ·repeat' (first|exact low_top|(refine low_upd rfl ?_)|(refine lg_w ?_ (by rw [ob_len];omega)))
      exact lq
     ·have hvo:OkR ⟨(gR s (B.op i).b).lo,(gR s (B.op i).c).hi - 1⟩:=by
        obtain ⟨j1,j2,j3⟩:=ob
        obtain ⟨j4,j5,j6⟩:=oc
        simp only [machR,maxC] at j2 j3 j5 j6
        refine ⟨by simp only;omega,?_,?_⟩<;>simp only [machR,maxC]<;>omega
      have hg0:OkS n (grownR ((lookH w.heads i).getD s) s):=by
        cases hq:lookH w.heads i with
        |none=>exact hs.grown hs
        |some l=>exact (hw.hd i l hq).grown hs
      have hl0:=lop_ok hK hr ⟨by omega,by omega,by rw [hXX]⟩ hg0 hw' hvo
      generalize hM:gt mt i=M at*
      repeat' first|(with_reducible first|(refine nx ?_;intros)|apply And.intro|intro vr)|exact kp_obs|exact kp_os|exact kpd|((with_reducible first|refine ny ?_|refine t_kLF ?_ ?_|refine t_dO 5 (fun _=>true) oVc3_0 fun K=>?_);intros;simp only [go_sem,kp37,geff,gm,yes])
      all_goals try exact nd
      refine ⟨⟨M+1,u,w1,by omega,.inl (by omega),hl0.1,hl0.2,fun t w3 h=>hv _ _ (vr_for hc (by rw [hXX]) hq hr (by rw [hM];exact h))⟩,by simp only;omega,?_⟩
      try simp only [updL_nil,updL_cons,delF_top,delF_upd,Nat.reduceEqDiff,reduceIte]
      refine le_obB (m:=[.box 56 [.lit (.int .i64 10),.lit (.string p),.lit (.int .i64 a),.lit (.int .i64 b),.lit (.int .i64 c),.lit (.int .i64 d)]]) (Nat.le_refl _) (ob_bds hbd) ?_ ?_
      ·repeat' (first|exact low_top|(refine low_upd rfl ?_)|(refine lg_w ?_ (by rw [ob_len];omega)))
      exact lq
    ·have e1:(q==11)=false:=by simpa using q11
     have e2:(q==10)=false:=by simpa using q10
     have hrg:=right_regs hright
     have hcd:=hrg.code
     simp only at hcd
     have hres:=okR_result hs hrg
     have hwr:=hrg.w
     simp only at hwr
     cases hwB:wrtB q with
     |true=>
      have hro:ResOk ⟨q,p,a,b,c,d⟩ s:=⟨by omega,by rw [hsl];exact hs,by rw [hsl];exact hright,by simp [wrtB] at hwB;simp only;omega⟩
      have hwr:=hwr hwB
      repeat' first|(with_reducible first|(refine nx ?_;intros)|apply And.intro|intro vr)|exact kp_obs|exact kp_os|exact kpd|((with_reducible first|refine ny ?_|refine t_kLF ?_ ?_|refine t_dO 5 (fun _=>true) oVc3_0 fun K=>?_);intros;simp only [go_sem,kp37,geff,g3,hopd,e1,e2,hwB,if_true,yes])
      all_goals try exact nd
      refine ⟨⟨i+1,withR s a (resultR ⟨q,p,a,b,c,d⟩ s),{w with before:=w.before.set i.toNat s},by omega,.inl (by omega),hs.with hres,hw',fun t w3 h=>hv _ _ (vr_plain hc (by rw [hXX];exact q11) (by rw [hXX];exact q10) (by rw [hXX];simp only [hwB,if_true];exact h))⟩,by simp only;omega,?_⟩
      try simp only [updL_nil,updL_cons,delF_top,delF_upd,Nat.reduceEqDiff,reduceIte]
      refine le_obB (m:=[.box 56 [.lit (.int .i64 q),.lit (.string p),.lit (.int .i64 a),.lit (.int .i64 b),.lit (.int .i64 c),.lit (.int .i64 d)]]) (Nat.le_refl _) (ob_bds hbd) ?_ ?_
      ·repeat' (first|exact low_top|(refine low_upd rfl ?_)|(refine lg_w ?_ (by rw [ob_len];omega)))
      exact lq
     |false=>
      repeat' first|(with_reducible first|(refine nx ?_;intros)|apply And.intro|intro vr)|exact kp_obs|exact kp_os|exact kpd|((with_reducible first|refine ny ?_|refine t_kLF ?_ ?_|refine t_dO 5 (fun _=>true) oVc3_0 fun K=>?_);intros;simp only [go_sem,kp37,geff,g3,hopd,e1,e2,hwB,Bool.false_eq_true,if_false,yes])
      all_goals try exact nd
      refine ⟨⟨i+1,s,{w with before:=w.before.set i.toNat s},by omega,.inl (by omega),hs,hw',fun t w3 h=>hv _ _ (vr_plain hc (by rw [hXX];exact q11) (by rw [hXX];exact q10) (by rw [hXX];simp only [hwB,Bool.false_eq_true,if_false];exact h))⟩,by simp only;omega,?_⟩
      try simp only [updL_nil,updL_cons,delF_top,delF_upd,Nat.reduceEqDiff,reduceIte]
      refine le_obB (m:=[.box 56 [.lit (.int .i64 q),.lit (.string p),.lit (.int .i64 a),.lit (.int .i64 b),.lit (.int .i64 c),.lit (.int .i64 d)]]) (Nat.le_refl _) (ob_bds hbd) ?_ ?_
      ·repeat' (first|exact low_top|(refine low_upd rfl ?_)|(refine lg_w ?_ (by rw [ob_len];omega)))
      exact lq
  ·have g3:decide (i<to)=false:=decide_eq_false (by omega)
   repeat' first|(with_reducible first|(refine nx ?_;intros)|apply And.intro|intro vr)|exact kp_obs|exact kp_os|exact kpd|((with_reducible first|refine ny ?_|refine t_kLF ?_ ?_|refine t_dO 5 (fun _=>true) oVc3_0 fun K=>?_);intros;simp only [go_sem,kp37,geff,g3])
   all_goals try exact nd
   all_goals (refine nl ?_;simp only [go_sem,finE])
   exact ⟨_,_,rfl,LeA.refl _,ob_bds hbd,h5 _ _ (hv _ _ (vr_end (by omega)))⟩
end Go.Proofs.YtnlimcijgpaegaaGreat

namespace Go.Proofs.YtnlimcijgpaegaaGreat
open Go Go.Fw Bm
set_option maxRecDepth 20000
abbrev oVc4_0:List (Nat×Nat):=[(0,1),(1,1),(2,1),(3,1),(4,1),(5,1),(6,0),(7,0)]
attribute [go_sem] oVc4_0
theorem blk_base {B:Prg} {mt:List Int} {n:Nat}:BlkH B mt n 0:=by
  intro i to s w ex k h1 h2 h3 h4 h5
  refine ec_fin fun hbd=>?_
  have h20:=h2.1
  refine ecR D0_ok (kp37) Tryz.func37 [.tmp 8] (h:=fun KF=>?_)
  unfold D0
  with_reducible repeat' first|(refine nx ?_;intros)|apply And.intro|intro vr|(refine ny ?_;intros;simp only [go_sem,kp37,geff])
  all_goals try exact nd
  refine t_loopF (ι:=Unit) (fun _=>[(9,.lit (.int .i64 i)),(3,.sl false 2 (rgsV s))]) (fun _=>objs B mt w ex) (fun _=>0) () ?_ ?_
  ·exact lf
  rintro ⟨⟩ K0
  have g3:decide (i<to)=false:=decide_eq_false (by omega)
  with_reducible repeat' first|(refine nx ?_;intros)|apply And.intro|intro vr|(refine ny ?_;intros;simp only [go_sem,kp37,geff,g3])
  all_goals try exact nd
  all_goals (refine nl ?_;simp only [go_sem,finE])
  exact ⟨_,_,rfl,LeA.refl _,ob_bds hbd,h5 _ _ (vr_end (by omega))⟩
theorem blk_all {B:Prg} {mt:List Int} {n:Nat} (hK:Wk B mt n):∀ N,BlkH B mt n N
  |0=>blk_base
  |N+1=>block_step hK (blk_all hK N)
theorem vr_det {B:Prg} {mt:List Int} {tk:VTk} {s t t':List Rng} {w w' w'':W} (h:VR B mt tk s w t w') (k:VR B mt tk s w t' w''):t=t'∧w'=w'':=by
  obtain ⟨f,hf⟩:=h
  obtain ⟨g,hg⟩:=k
  have h1:=vrun_le (Nat.le_max_left f g) hf
  have h2:=vrun_le (Nat.le_max_right f g) hg
  rw [h1] at h2
  cases h2
  exact ⟨rfl,rfl⟩
def beg (B:Prg):List Rng:=List.replicate B.regs.toNat nilR
def w0 (B:Prg):W:=⟨List.replicate B.ops.length [],[]⟩
def EndV (B:Prg) (mt:List Int):Prop:=∃ p:List Rng×W,VR B mt (.blk 0 B.ops.length) (beg B) (w0 B) p.1 p.2
noncomputable def endV (B:Prg) (mt:List Int):W:= @dite _ (EndV B mt) (Classical.propDecidable _) (fun h=>h.choose.2) (fun _=>⟨[],[]⟩)
theorem endV_eq {B:Prg} {mt:List Int} {t:List Rng} {w:W} (h:VR B mt (.blk 0 B.ops.length) (beg B) (w0 B) t w):endV B mt=w:=by
  have hE:EndV B mt:=⟨(t,w),h⟩
  unfold endV
  rw [dif_pos hE]
  exact (vr_det hE.choose_spec h).2
def wipeU (ops:List Ins) (l:List (List Rng)) (j:Nat):List (List Rng):=l.mapIdx fun q s=>if q<j∧(cd ops q=12∨cd ops q=13) then [] else s
theorem wipeU_0 {ops:List Ins} {l:List (List Rng)}:wipeU ops l 0=l:=by
  apply List.ext_getElem?
  intro n
  simp only [wipeU,List.getElem?_mapIdx]
  cases l[n]? with
  |none=>rfl
  |some a=>simp only [Option.map_some];rw [if_neg (by omega)]
theorem wipeU_len {ops:List Ins} {l:List (List Rng)} {j:Nat}:(wipeU ops l j).length=l.length:=by simp [wipeU]
theorem wipeU_y {ops:List Ins} {l:List (List Rng)} {j:Nat} (h:cd ops j=12∨cd ops j=13):(wipeU ops l j).set j []=wipeU ops l (j+1):=by
  apply List.ext_getElem?
  intro n
  rw [List.getElem?_set]
  by_cases e:j=n
  ·subst e
   rw [if_pos rfl,wipeU_len]
   simp only [wipeU,List.getElem?_mapIdx]
   split
   ·rename_i hl
    rw [List.getElem?_eq_getElem hl,Option.map_some,if_pos ⟨by omega,h⟩]
   ·rename_i hl
    rw [List.getElem?_eq_none (by omega)];rfl
  ·rw [if_neg e]
   simp only [wipeU,List.getElem?_mapIdx]
   cases l[n]? with
   |none=>rfl
   |some a=>
    simp only [Option.map_some]
    by_cases c:n<j
    ·simp only [c,show n<j+1 by omega]
    ·simp only [c,show ¬ n<j+1 by omega]
theorem wipeU_n {ops:List Ins} {l:List (List Rng)} {j:Nat} (h: ¬ (cd ops j=12∨cd ops j=13)):wipeU ops l j=wipeU ops l (j+1):=by
  apply List.ext_getElem?
  intro n
  simp only [wipeU,List.getElem?_mapIdx]
  cases l[n]? with
  |none=>rfl
  |some a=>
   simp only [Option.map_some]
   by_cases e:j=n
   ·subst e;rw [if_neg (by omega),if_neg (fun k=>h k.2)]
   ·by_cases c:n<j
    ·simp only [c,show n<j+1 by omega]
    ·simp only [c,show ¬ n<j+1 by omega]
noncomputable def beforeL (B:Prg):List (List Rng):=if validS B=true then (match matchS B.ops with
  |some mt=>wipeU B.ops (endV B mt).before B.ops.length
  |none=>[]) else []
theorem okS_beg (B:Prg):OkS B.regs.toNat (beg B):=⟨by simp [beg],fun i hi=>by
  have:(beg B).getD i nilR=nilR:=by simp [beg,List.getD,hi]
  rw [this];exact okR_nil⟩
theorem valid_inv {B:Prg} (h:validS B=true):(0≤B.regs∧B.regs≤200)∧(0≤B.arena∧B.arena≤1048576)∧(∃ mt,matchS B.ops=some mt)∧Rights B B.regs.toNat∧B.types.length=B.ins.length+B.outs.length∧typesOk B.arena B.types (B.ins++B.outs)=true:=by
  rw [valid_eq,Bool.and_eq_true,Bool.not_eq_true'] at h
  obtain ⟨h1,h2⟩:=h
  simp only [headB,formedB,Bool.or_eq_false_iff,decide_eq_false_iff_not,bne_eq_false_iff_eq,Bool.not_eq_false',Bool.and_eq_true] at h1
  obtain ⟨⟨⟨⟨⟨k1,k2⟩,k3⟩,k4⟩,k5,k6⟩,k7⟩:=h1
  refine ⟨⟨by omega,by omega⟩,⟨by omega,by omega⟩,?_,?_,by omega,h2⟩
  ·cases hm:matchS B.ops with
   |none=>rw [hm] at k6;cases k6
   |some mt=>exact ⟨mt,rfl⟩
  ·intro i i0 i1
   rw [List.all_eq_true] at k5
   have hmem:B.op i∈B.ops:=by
     unfold Prg.op
     rw [List.getD_eq_getElem?_getD,List.getElem?_eq_getElem (by omega)]
     exact List.getElem_mem _
   have:=k5 _ hmem
   rw [show ((B.regs.toNat:Nat):Int)=B.regs by omega]
   exact this
theorem wk_of {B:Prg} {mt:List Int} (h:validS B=true) (hm:matchS B.ops=some mt) (hl:B.ops.length≤1000000):Wk B mt B.regs.toNat:=by
  obtain ⟨h1,_,_,h3,_⟩:=valid_inv h
  have hn:=match_nest hm
  exact ⟨hn,h3,hl,by omega,hn.len⟩
noncomputable def ecnW:ECon Tryz.prog where
  f:=37
  c:=fun args σ k=>∃ (B:Prg) (mt:List Int) (ver:Nat),args=[.ref 3 0,.lit (.int .i64 0),.lit (.int .i64 B.ops.length),.arr 4 ver]∧σ=objs B mt (w0 B) [.arr 89 2 (rgsV (beg B)) ver false]∧Wk B mt B.regs.toNat∧
   ∀ t w',VR B mt (.blk 0 B.ops.length) (beg B) (w0 B) t w'→k (.sl false 2 (rgsV t)) (objs B mt w' [.arr 89 2 (rgsV (beg B)) ver true])
  ok:=by
   rintro _ _ k ⟨B,mt,ver,rfl,rfl,hK,h5⟩
   refine EC.frz1 (pre:=[.ref 3 0,.lit (.int .i64 0),.lit (.int .i64 B.ops.length)]) (post:=[]) (e:=89) (sz:=2) (xs:=rgsV (beg B)) rfl ?_
   exact blk_all hK B.ops.length 0 B.ops.length (beg B) (w0 B) [.arr 89 2 (rgsV (beg B)) ver true] k (by omega) ⟨Int.le_refl _,Int.le_refl _,fun j j0 j1 j2=>(hK.nest.at j0 j1 j2).2.1⟩ (okS_beg B)
     ⟨by simp [w0],fun i l hl=>by cases hl⟩ h5
  fk:=fk37
theorem ecnW_f:ecnW.f=37:=rfl
theorem ecnW_i {B:Prg} {mt:List Int} {ver:Nat} {k:AV→List AObj→Prop} (hK:Wk B mt B.regs.toNat) (h5:∀ t w',VR B mt (.blk 0 B.ops.length) (beg B) (w0 B) t w'→k (.sl false 2 (rgsV t)) (objs B mt w' [.arr 89 2 (rgsV (beg B)) ver true])):
    ecnW.c [.ref 3 0,.lit (.int .i64 0),.lit (.int .i64 B.ops.length),.arr 4 ver] (objs B mt (w0 B) [.arr 89 2 (rgsV (beg B)) ver false]) k:=⟨B,mt,ver,rfl,rfl,hK,h5⟩
theorem bvalid_pc2 {B:Prg} (h:OkB B∧B.ins.length≤100000∧B.outs.length≤100000):PC Tryz.prog 20 [bcV B] (.lit (.bool (validS B))):=bvalid_pc h.1 h.2
noncomputable def con20:PCon Tryz.prog where
  f:=20
  c:=fun
   |[xB]=>match bcOf xB with|some B=>some ((OkB B∧B.ins.length≤100000∧B.outs.length≤100000),.lit (.bool (validS B)))|_=>none
   |_=>none
  ok:=by
   intro args p r hc hp
   split at hc
   ·split at hc
    ·rename_i hB
     cases hc
     exact PC.weak (bvalid_pc2 hp) ⟨bcOf_le hB,trivial⟩
    ·cases hc
   ·cases hc
  fk:=fk20
theorem con20_f:con20.f=20:=rfl
theorem con20_c {xB:AV}:con20.c [xB]=match bcOf xB with|some B=>some ((OkB B∧B.ins.length≤100000∧B.outs.length≤100000),.lit (.bool (validS B)))|_=>none:=rfl
attribute [go_sem] ecnW_f con20_f con20_c
noncomputable def D5:Env:=envJ (P:=Tryz.prog) jkR zer (fun _=>false) (fun _=>false) [con20,con31] [ecnW]
theorem D5_ok:EnvOk Tryz.prog D5:=envJOk zer_ok
theorem rz_beg (B:Prg):List.replicate B.regs.toNat (AV.agg [.lit (.int .i64 0),.lit (.int .i64 0)])=rgsV (beg B):=rz_rgs _
theorem bcOf_B {B:Prg}:bcOf (.agg [.lit (.int .i64 B.regs),.lit (.int .i64 B.arena),.sl false 6 (opsV B.ops),.sl false 2 (plsV B.ins),.sl false 2 (plsV B.outs),.sl false 3 (arrs B.types)])=some B:=bcOf_mk
theorem le_bef0 {n0:Nat} {f:Nat→AV} {σ:List AObj} {n:Nat} (h:σ[1]? =some (.arr 53 1 (List.replicate n (.sl true 2 [])) 0 false)):Le n0 ⟨f,σ⟩ ⟨f,σ.set 1 (.arr 53 1 (bfsV (List.replicate n [])) 0 false)⟩:=by
  have e2:bfsV (List.replicate n [])=List.replicate n (.sl false 2 []):=by simp [bfsV,rgsV]
  have e3:∀ b n,flat (List.replicate n (AV.sl b 2 []))=List.replicate n (.sl b 2 []):=fun b n=>by
    induction n with
    |zero=>rfl
    |succ n ih=>show AV.cells _++flat _=_;rw [ih];rfl
  refine le_arrE h ?_ ?_ ?_ ?_
  ·rw [e2];simp
  ·intro y hy
   rw [e2] at hy
   obtain rfl:=(List.mem_replicate.1 hy).2
   rfl
  ·rw [e2,e3,e3];simp
  ·intro i hi
   rw [e2,e3,e3]
   rw [e3] at hi
   simp only [List.length_replicate] at hi
   have a1:∀ b,(List.replicate n (AV.sl b 2 [])).getD i .top= .sl b 2 []:=fun b=>by simp [List.getD,hi]
   rw [a1,a1]
   exact LeA.full _ _ _
theorem kp_oz {B:Prg} {mt:List Int} {w w':W} {e sz ver:Nat} {xs:List AV} {fz fz':Bool} {D:Nat→Bool}:Kp D (objs B mt w [.arr e sz xs ver fz]) (objs B mt w' [.arr e sz xs ver fz']):=kp_ob fun o t cs h=>by
  rcases o with _|o
  ·cases h
  ·cases h
theorem kp_on {B:Prg} {mt:List Int} {w w':W} {m:List AObj} {D:Nat→Bool}:Kp D (objs B mt w []) (objs B mt w' m):=kp_ob fun o t cs h=>by cases h
theorem ob_bd1 {B:Prg} {mt:List Int} {w:W} {e sz ver:Nat} {xs:List AV} {fz:Bool}:BdS (objs B mt w [.arr e sz xs ver fz]).length (objs B mt w [.arr e sz xs ver fz]):=bds_low (by
  simp [objs,bxB,wkO,lowO,low1,low0])
set_option maxHeartbeats 8000000 in
theorem before_pc {B:Prg} (h:OkB B) (hi:B.ins.length≤100000∧B.outs.length≤100000):PC Tryz.prog 21 [bcV B] (.sl false 1 (bfsV (beforeL B))):=by
  have hh:OkB B∧B.ins.length≤100000∧B.outs.length≤100000:=⟨h,hi⟩
  have hO:=h.ops
  obtain ⟨hi1,hi2⟩:=hi
  cases hv:validS B with
  |false=>
   have e:beforeL B=[]:=by unfold beforeL;rw [hv];rfl
   rw [e]
   simp only [bcV]
   refine pcR D5_ok (kp21) Tryz.func21 [.tmp 2] (h:=fun KF=>?_)
   unfold D5
   repeat' first|(with_reducible first|(refine nx ?_;intros)|apply And.intro|intro vr)|exact kp_oz|exact kp_on|exact kpd|((with_reducible first|refine ny ?_|refine t_kLF ?_ ?_|refine t_dO 5 (fun _=>true) oVc4_0 fun K=>?_);intros;simp only [go_sem,kp21,geff,bcOf_B,hv,Bool.not_false])
   all_goals try exact nd
   all_goals (refine nl ?_;simp only [go_sem])
   exact LeA.nil _ _
  |true=>
   obtain ⟨v1,v2,⟨mt,hm⟩,_,_,_⟩:=valid_inv hv
   have hK:=wk_of hv hm hO
   have e:beforeL B=wipeU B.ops (endV B mt).before B.ops.length:=by unfold beforeL;rw [hv,hm];rfl
   have hmv:matchV B.ops= .tup [.sl false 1 (ints .i64 mt),.lit (.bool true)]:=by unfold matchV;rw [hm]
   generalize beforeL B=R at e
   simp only [bcV]
   refine pcR D5_ok (kp21) Tryz.func21 [.tmp 2] (h:=fun KF=>?_)
   unfold D5
   repeat' first|(with_reducible first|(refine nx ?_;intros)|apply And.intro|intro vr)|exact kp_oz|exact kp_on|exact kpd|((with_reducible first|refine ny ?_|refine t_kLF ?_ ?_|refine t_dO 5 (fun _=>true) oVc4_0 fun K=>?_);intros;simp only [go_sem,kp21,geff,bcOf_B,hv,hmv,Bool.not_true])
   all_goals try exact nd
   refine t_drawP ⟨upd (upd topF 5 (.ref 3 0)) 1 (.ref 0 0),objs B mt (w0 B) []⟩ (fun i=>i==0) [(0,1),(1,1),(2,1),(3,1),(4,1)] [5,6] [(7,1),(8,0),(9,1)] (by kernel_rfl) ?_ ?_
   rotate_left
   ·skip
    intro K
    simp only [pickO,pickG,List.getElem?_toArray,List.getElem?_cons_zero,List.getElem?_cons_succ,List.length_cons,List.length_nil,Nat.reduceAdd,lp_some]
    simp only [go_sem,pickO,pickG,geff,kp21]
    repeat' first|(with_reducible first|(refine nx ?_;intros)|apply And.intro|intro vr)|exact kp_oz|exact kp_on|exact kpd|((with_reducible first|refine ny ?_|refine t_kLF ?_ ?_|refine t_kPE ?_ ?_|refine t_dO 5 (fun _=>true) oVc4_0 fun K=>?_);intros;simp only [go_sem,kp21,geff])
    all_goals try exact Int.le_refl _
    all_goals try exact nd
    ·refine (le_bef0 (n:=B.ops.length) rfl).trans ?_
     exact lg
    ·refine le_swapM (τ:=[_]) (m:=[_]) (Nat.zero_le _) (bds_low (by simp [lowO,low_lit,low_sl])) rfl rfl rfl ?_ ?_
     ·repeat' (first|exact flatF_top|(refine flatF_upd rfl ?_))
     simp only [renF_upd,renF_top,ren1,renA,renO,sw,List.map_cons,List.map_nil,List.length_cons,List.length_nil,Nat.reduceAdd,Nat.reduceEqDiff,reduceIte,List.cons_append,List.nil_append]
     refine (le_bef0 (n:=B.ops.length) rfl).trans ?_
     exact lg
   repeat' first|(with_reducible first|(refine nx ?_;intros)|apply And.intro|intro vr)|exact kp_oz|exact kp_on|exact kpd|((with_reducible first|refine ny ?_|refine t_kLF ?_ ?_|refine t_dO 5 (fun _=>true) oVc4_0 fun K=>?_);intros;simp only [go_sem,kp21,geff,bcOf_B,bxB,rz_beg,List.nil_append,List.length_nil,Nat.zero_add])
   all_goals try exact Int.le_refl _
   all_goals try exact nd
   refine ecnW_i hK fun t w' hr=>?_
   have he:=endV_eq hr
   have hcl:Cl B mt 0 B.ops.length:=⟨Int.le_refl _,Int.le_refl _,fun j j0 j1 j2=>(hK.nest.at j0 j1 j2).2.1⟩
   obtain ⟨_,hw⟩:=vr_ok hK hr hcl (okS_beg B) ⟨by simp [w0],fun i l hl=>(by cases hl)⟩
   have hwl:=hw.len
   rw [he] at e
   repeat' first|(with_reducible first|(refine nx ?_;intros)|apply And.intro|intro vr)|exact kp_oz|exact kp_on|exact kpd|((with_reducible first|refine ny ?_|refine t_kLF ?_ ?_|refine t_dO 5 (fun _=>true) oVc4_0 fun K=>?_);intros;simp only [go_sem,kp21,geff,bxB])
   all_goals try exact nd
   refine t_loopF (ι:={j:Nat // j≤B.ops.length}) (fun i=>[(37,.lit (.int .i64 i.1))]) (fun i=>objs B mt ⟨wipeU B.ops w'.before i.1,w'.heads⟩ [.arr 89 2 (rgsV (beg B)) 0 true]) (fun i=>B.ops.length - i.1) ⟨0,by omega⟩ ?_ ?_
   ·simp only [wipeU_0]
    exact lf
   rintro ⟨j,hj⟩ K0
   have hwu:(wipeU B.ops w'.before j).length=B.ops.length:=by rw [wipeU_len,hwl]
   rcases Nat.lt_or_ge j B.ops.length with hc|hc
   ·have g3:decide ((j:Int)<(B.ops.length:Int))=true:=decide_eq_true (by omega)
    have hcd:cd B.ops j=(B.ops.getD j nilI).code:=rfl
    generalize hx:B.ops.getD j nilI=x at hcd
    obtain ⟨q,p,a,b,c,d⟩:=x
    simp only at hcd
    by_cases hq:q=12∨q=13
    ·have hw2:=wipeU_y (ops:=B.ops) (l:=w'.before) (j:=j) (by rw [hcd];exact hq)
     have gq:(q==12||q==13)=true:=by simpa using hq
     repeat' first|(with_reducible first|(refine nx ?_;intros)|apply And.intro|intro vr)|exact kp_oz|exact kp_on|exact kpd|((with_reducible first|refine ny ?_|refine t_kLF ?_ ?_|refine t_dO 5 (fun _=>true) oVc4_0 fun K=>?_);intros;simp only [go_sem,kp21,geff,g3,hx,gq,Int.toNat_natCast,yes])
     all_goals try exact nd
     refine ⟨⟨j+1,by omega⟩,by simp only;omega,?_⟩
     refine (le_bef (w:=⟨wipeU B.ops w'.before j,w'.heads⟩)).trans ?_
     simp only [hw2]
     try simp only [updL_nil,updL_cons,delF_top,delF_upd,Nat.reduceEqDiff,reduceIte]
     refine le_obB (m:=[.box 56 [.lit (.int .i64 q),.lit (.string p),.lit (.int .i64 a),.lit (.int .i64 b),.lit (.int .i64 c),.lit (.int .i64 d)]]) (ex:=[.arr 89 2 (rgsV (beg B)) 0 true]) (Nat.zero_le _) ob_bd1 ?_ ?_
     ·repeat' (first|exact low_top|(refine low_upd rfl ?_)|(refine lg_w ?_ (by rw [ob_len];omega)))
     exact lq
    ·have hw2:=wipeU_n (ops:=B.ops) (l:=w'.before) (j:=j) (by rw [hcd];exact hq)
     have gq:(q==12||q==13)=false:=by simpa using hq
     repeat' first|(with_reducible first|(refine nx ?_;intros)|apply And.intro|intro vr)|exact kp_oz|exact kp_on|exact kpd|((with_reducible first|refine ny ?_|refine t_kLF ?_ ?_|refine t_dO 5 (fun _=>true) oVc4_0 fun K=>?_);intros;simp only [go_sem,kp21,geff,g3,hx,gq,Int.toNat_natCast,yes])
     all_goals try exact nd
     refine ⟨⟨j+1,by omega⟩,by simp only;omega,?_⟩
     rw [hw2]
     try simp only [updL_nil,updL_cons,delF_top,delF_upd,Nat.reduceEqDiff,reduceIte]
     refine le_obB (m:=[.box 56 [.lit (.int .i64 q),.lit (.string p),.lit (.int .i64 a),.lit (.int .i64 b),.lit (.int .i64 c),.lit (.int .i64 d)]]) (ex:=[.arr 89 2 (rgsV (beg B)) 0 true]) (Nat.zero_le _) ob_bd1 ?_ ?_
     ·repeat' (first|exact low_top|(refine low_upd rfl ?_)|(refine lg_w ?_ (by rw [ob_len];omega)))
     exact lq
   ·have g3:decide ((j:Int)<(B.ops.length:Int))=false:=decide_eq_false (by omega)
    obtain rfl:j=B.ops.length:=by omega
    repeat' first|(with_reducible first|(refine nx ?_;intros)|apply And.intro|intro vr)|exact kp_oz|exact kp_on|exact kpd|((with_reducible first|refine ny ?_|refine t_kLF ?_ ?_|refine t_dO 5 (fun _=>true) oVc4_0 fun K=>?_);intros;simp only [go_sem,kp21,geff,g3])
    all_goals try exact nd
    all_goals (refine nl ?_;simp only [go_sem])
    exact ⟨_,rfl,LeA.of_eq (by rw [e])⟩
theorem before_pc2 {B:Prg} (h:OkB B∧B.ins.length≤100000∧B.outs.length≤100000):PC Tryz.prog 21 [bcV B] (.sl false 1 (bfsV (beforeL B))):=before_pc h.1 h.2
noncomputable def con21:PCon Tryz.prog where
  f:=21
  c:=fun
   |[xB]=>match bcOf xB with|some B=>some ((OkB B∧B.ins.length≤100000∧B.outs.length≤100000),.sl false 1 (bfsV (beforeL B)))|_=>none
   |_=>none
  ok:=by
   intro args p r hc hp
   split at hc
   ·split at hc
    ·rename_i hB
     cases hc
     exact PC.weak (before_pc2 hp) ⟨bcOf_le hB,trivial⟩
    ·cases hc
   ·cases hc
  fk:=fk21
theorem con21_f:con21.f=21:=rfl
theorem con21_c {xB:AV}:con21.c [xB]=match bcOf xB with|some B=>some ((OkB B∧B.ins.length≤100000∧B.outs.length≤100000),.sl false 1 (bfsV (beforeL B)))|_=>none:=rfl
attribute [go_sem] con21_f con21_c
end Go.Proofs.YtnlimcijgpaegaaGreat

namespace Go.Proofs.YtnlimcijgpaegaaGreat.Bm
open Go.Proofs.YtnlimcijgpaegaaGreat
open Go Go.Fw
variable {B:Prg} {mt:List Int}
def Ent (n:Nat) (l:List (List Rng)):Prop:=∀ j:Nat,l.getD j []=[]∨OkS n (l.getD j [])
theorem Ent.wipe {n:Nat} {l:List (List Rng)} (h:Ent n l) (i to:Int):Ent n (wipe l i to):=fun j=>by
  rw [wipe_getD]
  split
  ·exact .inl rfl
  ·exact h j
theorem Ent.set {n:Nat} {l:List (List Rng)} (h:Ent n l) (i:Nat) {s:List Rng} (hs:OkS n s):Ent n (l.set i s):=fun j=>by
  rw [List.getD_eq_getElem?_getD,List.getElem?_set]
  split
  ·split
   ·exact .inr hs
   ·exact .inl rfl
  ·have:=h j
   rwa [List.getD_eq_getElem?_getD] at this
theorem vrun_ent (hN:Nest B.ops mt) {n:Nat} (hR:Rights B n):∀ (f:Nat) (tk:VTk) (s:List Rng) (w:W) (t:List Rng) (w':W),vrun B mt f tk s w=some (t,w')→tk.ok B mt→OkS n s→HOk n w→(∀ i v,tk= .lop i v→OkR v)→Ent n w.before→Ent n w'.before
  |0,_,_,_,_,_,h,_,_,_,_,_=>by simp [vrun] at h
  |f+1,.blk i to,s,w,t,w',h,hk,hs,hw,_,he=>by
   have hk':Cl B mt i to:=hk
   by_cases hi:i<to
   ·have hlt:i<B.ops.length:=by have:=hk'.2.1;omega
    have he1:Ent n (w.before.set i.toNat s):=he.set _ hs
    rcases step1_of h hi with ⟨yes,no,w1,w2,t1,hc,h1,h2,h3,h4⟩|⟨hc,hv,h1⟩|⟨t1,w1,hc,hv,h1,h2⟩|⟨_,_,h3⟩
    ·obtain ⟨k1,k2,k3,_,k5,_⟩:=hN.end_ hk' hi hc
     have hin:=hN.inner hk'.1 hlt (.inr (.inl hc))
     have e1:(∀ l,yes=some l→OkS n l)∧HOk n w1∧Ent n w1.before:=by
       rcases part_inv h1 with ⟨_,rfl,rfl⟩|⟨hx,u,rfl,hr⟩
       ·exact ⟨(by intro l h;cases h),hw,he1.wipe _ _⟩
       ·have hx1:=hs.with (i:=(B.op i).a) (ok_yes (hs.at _) hx)
        obtain ⟨q1,q2⟩:=vrun_ok hN hR f (.blk (i+1) (gt mt i)) _ _ _ _ hr hin hx1 hw (by intro i v h;cases h)
        exact ⟨(by intro l h;cases h;exact q1),q2,vrun_ent hN hR f (.blk (i+1) (gt mt i)) _ _ _ _ hr hin hx1 hw (by intro i v h;cases h) he1⟩
     have e2:(∀ l,no=some l→OkS n l)∧HOk n w2∧Ent n w2.before:=by
       rcases part_inv h2 with ⟨_,rfl,rfl⟩|⟨hx,u,rfl,hr⟩
       ·exact ⟨(by intro l h;cases h),e1.2.1,e1.2.2.wipe _ _⟩
       ·have hx1:=hs.with (i:=(B.op i).a) (ok_no (hs.at _) hx)
        obtain ⟨q1,q2⟩:=vrun_ok hN hR f (.blk _ _) _ _ _ _ hr k5 hx1 e1.2.1 (by intro i v h;cases h)
        exact ⟨(by intro l h;cases h;exact q1),q2,vrun_ent hN hR f (.blk _ _) _ _ _ _ hr k5 hx1 e1.2.1 (by intro i v h;cases h) e1.2.2⟩
     exact vrun_ent hN hR f (.blk _ _) _ _ _ _ h4 (hk'.next (by omega)) (hulls_ok h3 e1.1 e2.1) e2.2.1 (by intro i v h;cases h) e2.2.2
    ·obtain ⟨k1,_,_,_⟩:=hN.at hk'.1 hlt (.inl hc)
     exact vrun_ent hN hR f (.blk _ _) _ _ _ _ h1 (hk'.next (by omega)) hs hw (by intro i v h;cases h) (he1.wipe _ _)
    ·obtain ⟨k1,_,_,_⟩:=hN.at hk'.1 hlt (.inl hc)
     have hh:OkS n ((lookH w.heads i).getD s):=by
       cases e:lookH w.heads i with
       |none=>exact hs
       |some l=>exact hw i l e
     have hb:=hs.at (B.op i).b
     have hcc:=hs.at (B.op i).c
     have hvv:∀ (j:Int) (v:Rng),VTk.lop i ⟨(gR s (B.op i).b).lo,(gR s (B.op i).c).hi - 1⟩= .lop j v→OkR v:=by
       intro j v hj
       cases hj
       obtain ⟨b1,b2,b3⟩:=hb
       obtain ⟨c1,c2,c3⟩:=hcc
       refine ⟨?_,?_,?_⟩<;>simp only [machR,maxC] at* <;>omega
     obtain ⟨q1,q2⟩:=vrun_ok hN hR f (.lop i _) _ _ _ _ h1 ⟨hk'.1,hlt,hc⟩ (hh.grown hs) hw hvv
     have q3:=vrun_ent hN hR f (.lop i _) _ _ _ _ h1 ⟨hk'.1,hlt,hc⟩ (hh.grown hs) hw hvv he1
     exact vrun_ent hN hR f (.blk _ _) _ _ _ _ h2 (hk'.next (by omega)) q1 q2 (by intro i v h;cases h) q3
    ·refine vrun_ent hN hR f (.blk _ _) _ _ _ _ h3 (hk'.next (by omega)) ?_ hw (by intro i v h;cases h) he1
     split
     ·exact hs.with (okR_result hs (right_regs (hR i hk'.1 hlt)))
     ·exact hs
   ·simp only [vrun] at h
    rw [if_neg hi] at h
    cases h
    exact he
  |f+1,.lop i v,s,w,t,w',h,hk,hs,hw,hv,he=>by
   obtain ⟨h0,h1,hc⟩:=hk
   have hin:=hN.inner h0 h1 (.inl hc)
   simp only [vrun] at h
   split at h
   ·rename_i t1 w1 hr
    have hp:HOk n {w with heads:=putH w.heads i s}:=by
      intro j l hj
      simp only [lookH_put] at hj
      split at hj
      ·cases hj;exact hs
      ·exact hw j l hj
    obtain ⟨q1,q2⟩:=vrun_ok hN hR f (.blk (i+1) (gt mt i)) _ _ _ _ hr hin (hs.with (hv i v rfl)) hp (by intro i v h;cases h)
    have q3:=vrun_ent hN hR f (.blk (i+1) (gt mt i)) _ _ _ _ hr hin (hs.with (hv i v rfl)) hp (by intro i v h;cases h) he
    split at h
    ·cases h;exact q3
    ·exact vrun_ent hN hR f (.lop i v) _ _ _ _ h ⟨h0,h1,hc⟩ (hs.grown q1) q2 hv q3
   ·cases h
end Go.Proofs.YtnlimcijgpaegaaGreat.Bm

namespace Go.Proofs.YtnlimcijgpaegaaGreat
open Go Go.Fw Bm
set_option maxRecDepth 20000
noncomputable def F0:Env:=envJ (P:=Tryz.prog) jkR zer (fun _=>false) (fun _=>false) [con38,con40,con39,con43,con42,con41] []
theorem F0_ok:EnvOk Tryz.prog F0:=envJOk zer_ok
structure FailOk (x:Ins) (s:List Rng) (a:Int):Prop where
  len:s.length≤1000000
  ok:OkS s.length s
  right:rightS x s.length=true
  ar:0≤a∧a≤1048576
set_option maxHeartbeats 8000000 in
theorem fails_pc {x:Ins} {s:List Rng} {ar:Int} (h:FailOk x s ar):PC Tryz.prog 22 [opV x,.sl false 2 (rgsV s),.lit (.int .i64 ar)] (.lit (.bool (failR x s ar))):=by
  obtain ⟨hl,hok,hr,ha1,ha2⟩:=h
  have hx:=right_regs hr
  have hrd:∀ n∈readsS x,0≤n∧n<s.length:=fun n hn=>reads_reg hr hn
  have hpl:=picked_len (x:=x) (s:=s)
  have hfi:=fits_is x.prim (pickedR x s)
  obtain ⟨k,p,a,b,c,d⟩:=x
  have gb:s.getD b.toNat nilR=gR s b:=rfl
  have ga:s.getD a.toNat nilR=gR s a:=rfl
  have xb:=hx.b
  have xc:=hx.c
  have xd:=hx.k2
  have xa:=hx.a
  simp only at xb xc xd xa hfi
  have ob:=hok.at b
  have oc:=hok.at c
  by_cases k2:k=2
  ·subst k2
   have hS:SumOk ⟨2,p,a,b,c,d⟩ s:=⟨hl,xb (by omega),xc (by omega),xd rfl,ob,oc⟩
   have e:failR ⟨2,p,a,b,c,d⟩ s ar= !decide ((sumR ⟨2,p,a,b,c,d⟩ s).within machR):=rfl
   rw [e]
   generalize hq:sumR ⟨2,p,a,b,c,d⟩ s=q
   obtain ⟨q,q'⟩:=q
   simp only [opV]
   refine pcR F0_ok (kp22) Tryz.func22 [.tmp 6] (h:=fun KF=>?_)
   unfold F0
   with_reducible repeat' first|(refine nx ?_;intros)|apply And.intro|intro vr|((first|refine ny ?_|refine t_dwh (h:=fun K KL=>?_));intros;simp only [go_sem,kp22,geff,hq])
   all_goals try exact nd
   all_goals (refine nl ?_;simp only [go_sem])
   exact LeA.refl _
  by_cases k5:k=5
  ·subst k5
   have e:failR ⟨5,p,a,b,c,d⟩ s ar= !fitsB p (pickedR ⟨5,p,a,b,c,d⟩ s):=by
     rw [hfi]
     show (fitsR p (pickedR ⟨5,p,a,b,c,d⟩ s)).isNone=_
     cases fitsR p (pickedR ⟨5,p,a,b,c,d⟩ s)<;>rfl
   rw [e]
   simp only [opV]
   refine pcR F0_ok (kp22) Tryz.func22 [.tmp 6] (h:=fun KF=>?_)
   unfold F0
   with_reducible repeat' first|(refine nx ?_;intros)|apply And.intro|intro vr|((first|refine ny ?_|refine t_dwh (h:=fun K KL=>?_));intros;simp only [go_sem,kp22,geff])
   all_goals try exact (hrd _ (by assumption)).1
   all_goals try exact (hrd _ (by assumption)).2
   all_goals try exact nd
   all_goals (refine nl ?_;simp only [go_sem])
   exact LeA.refl _
  by_cases k6:k=6
  ·subst k6
   have yb:=xb (by omega)
   have e:failR ⟨6,p,a,b,c,d⟩ s ar= !decide ((gR s b).within ⟨0,ar - 1⟩):=rfl
   rw [e]
   clear xb xc xd hx ob oc hrd hpl hr hok hfi
   generalize gR s b=q at gb
   obtain ⟨q,q'⟩:=q
   simp only [opV]
   refine pcR F0_ok (kp22) Tryz.func22 [.tmp 6] (h:=fun KF=>?_)
   unfold F0
   with_reducible repeat' first|(refine nx ?_;intros)|apply And.intro|intro vr|((first|refine ny ?_|refine t_dwh (h:=fun K KL=>?_));intros;simp only [go_sem,kp22,geff,gb])
   all_goals try exact nd
   all_goals (refine nl ?_;simp only [go_sem])
   exact LeA.refl _
  by_cases k7:k=7
  ·subst k7
   have yb:=xb (by omega)
   have ya:=xa (by omega)
   have e:failR ⟨7,p,a,b,c,d⟩ s ar=(!decide ((gR s a).within ⟨0,ar - 1⟩)|| !decide ((gR s b).within intsR)):=rfl
   rw [e]
   clear xb xc xd hx ob oc hrd hpl hr hok hfi
   generalize gR s b=q at gb
   generalize gR s a=r at ga
   obtain ⟨q,q'⟩:=q
   obtain ⟨r,r'⟩:=r
   simp only [opV]
   refine pcR F0_ok (kp22) Tryz.func22 [.tmp 6] (h:=fun KF=>?_)
   unfold F0
   with_reducible repeat' first|(refine nx ?_;intros)|apply And.intro|intro vr|((first|refine ny ?_|refine t_dwh (h:=fun K KL=>?_));intros;simp only [go_sem,kp22,geff,ga,gb])
   all_goals try exact nd
   all_goals (refine nl ?_;simp only [go_sem])
   exact LeA.refl _
  ·have e:failR ⟨k,p,a,b,c,d⟩ s ar=false:=by unfold failR;rw [if_neg k2,if_neg k5,if_neg k6,if_neg k7]
   have e2:(k==2)=false:=by simpa using k2
   have e5:(k==5)=false:=by simpa using k5
   have e6:(k==6)=false:=by simpa using k6
   have e7:(k==7)=false:=by simpa using k7
   rw [e]
   clear xb xc xd hx ob oc hrd hpl hr hok hfi
   simp only [opV]
   refine pcR F0_ok (kp22) Tryz.func22 [.tmp 6] (h:=fun KF=>?_)
   unfold F0
   with_reducible repeat' first|(refine nx ?_;intros)|apply And.intro|intro vr|((first|refine ny ?_|refine t_dwh (h:=fun K KL=>?_));intros;simp only [go_sem,kp22,geff,e2,e5,e6,e7])
   all_goals try exact nd
   all_goals (refine nl ?_;simp only [go_sem])
   exact LeA.refl _
noncomputable def con22:PCon Tryz.prog where
  f:=22
  c:=fun
   |[xx,xs,.lit (.int .i64 a)]=>match opOf xx,rngsOf xs with|some x,some s=>some (FailOk x s a,.lit (.bool (failR x s a)))|_,_=>none
   |_=>none
  ok:=by
   intro args p r hc hp
   split at hc
   ·split at hc
    ·rename_i hx hs
     cases hc
     exact PC.weak (fails_pc hp) ⟨opOf_le hx,rngsOf_le hs,LeA.refl _,trivial⟩
    ·cases hc
   ·cases hc
  fk:=fk22
theorem con22_f:con22.f=22:=rfl
theorem con22_c {xx:AV} {xs:AV} {a:Int}:con22.c [xx,xs,.lit (.int .i64 a)]=match opOf xx,rngsOf xs with|some x,some s=>some (FailOk x s a,.lit (.bool (failR x s a)))|_,_=>none:=rfl
attribute [go_sem] con22_f con22_c
def verG (B:Prg):List (List Rng)→Nat→Int×Int
  |[],_=>(B.ops.length,0)
  |s::l,i=>if s≠[]∧failR (B.ops.getD i nilI) s B.arena=true then (i,22) else verG B l (i+1)
noncomputable def verS (B:Prg):Int×Int:=if validS B=true then verG B (beforeL B) 0 else (0,1)
def erV (p:Int×Int):AV:= .tup [.lit (.int .i64 p.1),.lit (.int .i64 p.2)]
end Go.Proofs.YtnlimcijgpaegaaGreat

namespace Go.Proofs.YtnlimcijgpaegaaGreat
open Go Go.Fw Bm
set_option maxRecDepth 20000
theorem endV_inv {B:Prg} {mt:List Int} (hv:validS B=true) (hm:matchS B.ops=some mt) (hl:B.ops.length≤1000000):Ent B.regs.toNat (endV B mt).before∧((endV B mt).before=[]∨(endV B mt).before.length=B.ops.length):=by
  have hK:=wk_of hv hm hl
  have hcl:Cl B mt 0 B.ops.length:=⟨Int.le_refl _,Int.le_refl _,fun j j0 j1 j2=>(hK.nest.at j0 j1 j2).2.1⟩
  have hw0:PreW B B.regs.toNat (w0 B):=⟨by simp [w0],fun i l hl=>(by cases hl)⟩
  by_cases hE:EndV B mt
  ·obtain ⟨⟨t,w⟩,hr⟩:=hE
   rw [endV_eq hr]
   refine ⟨?_,.inr (vr_ok hK hr hcl (okS_beg B) hw0).2.len⟩
   obtain ⟨f,hf⟩:=hr
   refine vrun_ent hK.nest hK.rights f (.blk 0 B.ops.length) _ _ _ _ hf hcl (okS_beg B) hw0.hd (fun i v e=>by cases e) (fun j=>?_)
   left
   show (List.replicate B.ops.length ([]:List Rng)).getD j []=[]
   simp only [List.getD_eq_getElem?_getD,List.getElem?_replicate]
   split<;>rfl
  ·have:endV B mt=⟨[],[]⟩:=by unfold endV;rw [dif_neg hE]
   rw [this]
   exact ⟨fun j=> .inl (by simp),.inl rfl⟩
theorem wipeU_ent {n:Nat} {ops:List Ins} {l:List (List Rng)} {j:Nat} (h:Ent n l):Ent n (wipeU ops l j):=fun i=>by
  have e:(wipeU ops l j).getD i []=if i<j∧(cd ops i=12∨cd ops i=13) then [] else l.getD i []:=by
    simp only [wipeU,List.getD_eq_getElem?_getD,List.getElem?_mapIdx]
    cases l[i]? with
    |none=>simp
    |some a=>simp only [Option.map_some,Option.getD_some]
  rw [e]
  split
  ·exact .inl rfl
  ·exact h i
theorem before_inv {B:Prg} (hv:validS B=true) (hl:B.ops.length≤1000000):Ent B.regs.toNat (beforeL B)∧((beforeL B)=[]∨(beforeL B).length=B.ops.length):=by
  obtain ⟨_,_,⟨mt,hm⟩,_⟩:=valid_inv hv
  have e:beforeL B=wipeU B.ops (endV B mt).before B.ops.length:=by unfold beforeL;rw [hv,hm];rfl
  obtain ⟨h1,h2⟩:=endV_inv hv hm hl
  rw [e]
  refine ⟨wipeU_ent h1,?_⟩
  rcases h2 with h2|h2
  ·left;rw [h2];rfl
  ·right;rw [wipeU_len,h2]
theorem bfsV_at {l:List (List Rng)} {i:Nat} (h:i<l.length) (z:AV):(bfsV l).getD i z= .sl false 2 (rgsV (l.getD i [])):=by
  simp [bfsV,List.getD,h]
theorem drop_getL {l:List (List Rng)} {i:Nat} (h:i<l.length):l.drop i=l.getD i []::l.drop (i+1):=drop_getD _ h
noncomputable def F1:Env:=envJ (P:=Tryz.prog) jkR zer (fun _=>false) (fun _=>false) [con20,con21,con22] []
theorem F1_ok:EnvOk Tryz.prog F1:=envJOk zer_ok
set_option maxHeartbeats 8000000 in
theorem verify_pc {B:Prg} (h:OkB B∧B.ins.length≤100000∧B.outs.length≤100000):PC Tryz.prog 8 [bcV B] (erV (verS B)):=by
  obtain ⟨h,hi1,hi2⟩:=h
  have hO:=h.ops
  cases hv:validS B with
  |false=>
   have e:verS B=(0,1):=by unfold verS;rw [hv];rfl
   rw [e]
   simp only [bcV]
   refine pcR F1_ok (kp8) Tryz.func8 [.tmp 2,.tmp 3] (h:=fun KF=>?_)
   unfold F1
   with_reducible repeat' first|(refine nx ?_;intros)|apply And.intro|intro vr|((first|refine ny ?_|refine t_dwh (h:=fun K KL=>?_));intros;simp only [go_sem,kp8,geff,bcOf_B,hv,Bool.not_false])
   all_goals try exact nd
   all_goals (refine nl ?_;simp only [go_sem])
   exact LeA.refl _
  |true=>
   obtain ⟨v1,v2,_,hR,_,_⟩:=valid_inv hv
   obtain ⟨hE,hL⟩:=before_inv hv hO
   have e:verS B=verG B (beforeL B) 0:=by unfold verS;rw [hv];rfl
   rw [e]
   have hlen:(beforeL B).length≤B.ops.length:=by rcases hL with h|h<;>rw [h]<;>simp
   generalize hG:verG B (beforeL B) 0=G
   generalize hLe:beforeL B=L at hE hlen hG
   simp only [bcV]
   refine pcR F1_ok (kp8) Tryz.func8 [.tmp 2,.tmp 3] (h:=fun KF=>?_)
   unfold F1
   with_reducible repeat' first|(refine nx ?_;intros)|apply And.intro|intro vr|((first|refine ny ?_|refine t_dwh (h:=fun K KL=>?_));intros;simp only [go_sem,kp8,geff,bcOf_B,hv,hLe,Bool.not_true])
   all_goals try exact nd
   refine t_loopF (ι:={i:Nat // i≤L.length∧verG B (L.drop i) i=G}) (fun i=>[(12,.lit (.int .i64 i.1))]) (fun i=>[.box 26 [.lit (.int .i64 B.regs),.lit (.int .i64 B.arena),.sl false 6 (opsV B.ops),.sl false 2 (plsV B.ins),.sl false 2 (plsV B.outs),.sl false 3 (arrs B.types)]]) (fun i=>L.length - i.1) ⟨0,by omega,hG⟩ ?_ ?_
   ·exact lf
   rintro ⟨i,hi,hF⟩ K0
   rcases Nat.lt_or_ge i L.length with hc|hc
   ·have g3:decide ((i:Int)<(L.length:Int))=true:=decide_eq_true (by omega)
    have hat:=bfsV_at hc
    have hEi:=hE i
    rw [drop_getL hc,verG] at hF
    generalize hs:L.getD i []=s at hat hEi hF
    have hri:=hR i (by omega) (by omega)
    have hopi:B.ops.getD i nilI=B.op (i:Int):=rfl
    generalize hx:B.ops.getD i nilI=x at hF hopi
    rw [←hopi] at hri
    obtain ⟨q,p,a,b,c,d⟩:=x
    rcases hEi with rfl|hEi
    ·rw [if_neg (fun h=>h.1 rfl)] at hF
     have g0:decide ((((rgsV []).length:Nat):Int)>0)=false:=rfl
     have g0':decide ((0:Int)>0)=false:=rfl
     with_reducible repeat' first|(refine nx ?_;intros)|apply And.intro|intro vr|((first|refine ny ?_|refine t_dwh (h:=fun K KL=>?_));intros;simp only [go_sem,kp8,geff,g3,hat,hx,g0,g0',rgsV_length,List.length_nil,Int.toNat_natCast,Int.natCast_zero,yes])
     all_goals try exact nd
     exact ⟨⟨i+1,by omega,hF⟩,wf,lf⟩
    ·have hsl:=hEi.1
     by_cases hn:s=[]
     ·subst hn
      rw [if_neg (fun h=>h.1 rfl)] at hF
      have g0:decide ((((rgsV []).length:Nat):Int)>0)=false:=rfl
      have g0':decide ((0:Int)>0)=false:=rfl
      with_reducible repeat' first|(refine nx ?_;intros)|apply And.intro|intro vr|((first|refine ny ?_|refine t_dwh (h:=fun K KL=>?_));intros;simp only [go_sem,kp8,geff,g3,hat,hx,g0,g0',rgsV_length,List.length_nil,Int.toNat_natCast,Int.natCast_zero,yes])
      all_goals try exact nd
      exact ⟨⟨i+1,by omega,hF⟩,wf,lf⟩
     ·have hpos:0<s.length:=List.length_pos_iff.2 hn
      have g0:decide ((s.length:Int)>0)=true:=decide_eq_true (by omega)
      have hfo:FailOk ⟨q,p,a,b,c,d⟩ s B.arena:=⟨by omega,by rw [hsl];exact hEi,by rw [hsl];exact hri,v2⟩
      cases hf:failR ⟨q,p,a,b,c,d⟩ s B.arena with
      |true=>
       rw [if_pos ⟨hn,hf⟩] at hF
       subst hF
       with_reducible repeat' first|(refine nx ?_;intros)|apply And.intro|intro vr|((first|refine ny ?_|refine t_dwh (h:=fun K KL=>?_));intros;simp only [go_sem,kp8,geff,g3,hat,hx,g0,hf,Int.toNat_natCast,yes])
       all_goals try exact nd
       all_goals (refine nl ?_;simp only [go_sem])
       exact LeA.refl _
      |false=>
       rw [if_neg (fun h=>by rw [hf] at h;cases h.2)] at hF
       with_reducible repeat' first|(refine nx ?_;intros)|apply And.intro|intro vr|((first|refine ny ?_|refine t_dwh (h:=fun K KL=>?_));intros;simp only [go_sem,kp8,geff,g3,hat,hx,g0,hf,Int.toNat_natCast,yes])
       all_goals try exact nd
       exact ⟨⟨i+1,by omega,hF⟩,wf,lf⟩
   ·have g3:decide ((i:Int)<(L.length:Int))=false:=decide_eq_false (by omega)
    rw [List.drop_eq_nil_of_le hc,verG] at hF
    subst hF
    with_reducible repeat' first|(refine nx ?_;intros)|apply And.intro|intro vr|((first|refine ny ?_|refine t_dwh (h:=fun K KL=>?_));intros;simp only [go_sem,kp8,geff,g3])
    all_goals try exact nd
    all_goals (refine nl ?_;simp only [go_sem])
    exact LeA.refl _
noncomputable def con8:PCon Tryz.prog where
  f:=8
  c:=fun
   |[xB]=>match bcOf xB with|some B=>some ((OkB B∧B.ins.length≤100000∧B.outs.length≤100000),erV (verS B))|_=>none
   |_=>none
  ok:=by
   intro args p r hc hp
   split at hc
   ·split at hc
    ·rename_i hB
     cases hc
     exact PC.weak (verify_pc hp) ⟨bcOf_le hB,trivial⟩
    ·cases hc
   ·cases hc
  fk:=fk8
theorem con8_f:con8.f=8:=rfl
theorem con8_c {xB:AV}:con8.c [xB]=match bcOf xB with|some B=>some ((OkB B∧B.ins.length≤100000∧B.outs.length≤100000),erV (verS B))|_=>none:=rfl
theorem erV_def {p:Int×Int}:erV p= .tup [.lit (.int .i64 p.1),.lit (.int .i64 p.2)]:=rfl
attribute [go_sem] con8_f con8_c erV_def
end Go.Proofs.YtnlimcijgpaegaaGreat

namespace Go.Proofs.YtnlimcijgpaegaaGreat
open Go Go.Fw Bm
set_option maxRecDepth 20000
end Go.Proofs.YtnlimcijgpaegaaGreat

namespace Go.Proofs.YtnlimcijgpaegaaGreat
open Go Go.Fw Bm
set_option maxRecDepth 20000
end Go.Proofs.YtnlimcijgpaegaaGreat

namespace Go.Proofs.YtnlimcijgpaegaaGreat
open Go Go.Fw Bm
set_option maxRecDepth 20000
section
variable {pre ex:List AObj} {R A R' A':List Int} {x y z u:AObj}
end
end Go.Proofs.YtnlimcijgpaegaaGreat

namespace Go.Proofs.YtnlimcijgpaegaaGreat
open Go Go.Fw Bm
set_option maxRecDepth 20000
theorem take_mapI {M:List Int} {f:Int→Int} {i:Nat} (h:i<M.length):(M.take i).map f++[f (M.getD i 0)]=(M.take (i+1)).map f:=by
  have e:M.take (i+1)=M.take i++[M.getD i 0]:=by
    rw [List.take_add_one,List.getElem?_eq_getElem h,List.getD_eq_getElem?_getD,List.getElem?_eq_getElem h];rfl
  rw [e,List.map_append];rfl
theorem mul_in {d v:Int} (hd: -1048576≤d∧d≤1048576) (hv: -1099511627776≤v∧v≤1099511627776): -1152921504606846976≤d*v∧d*v≤1152921504606846976:=by
  have h1:=Int.natAbs_mul d v
  have h2:d.natAbs*v.natAbs≤1048576*1099511627776:=Nat.mul_le_mul (by omega) (by omega)
  omega
end Go.Proofs.YtnlimcijgpaegaaGreat

namespace Go.Proofs.YtnlimcijgpaegaaGreat.Mm
open Go.Proofs.YtnlimcijgpaegaaGreat
open Go Go.Fw Bm
set_option maxRecDepth 20000
structure OkM (n A:Nat) (m:MS):Prop where
  regs:m.regs.length=n
  arena:m.arena.length=A
  rv:∀ i, -maxC≤gt m.regs i∧gt m.regs i≤maxC
  word:∀ i, -2147483648≤gt m.arena i∧gt m.arena i≤2147483647
  pos:0≤m.reads∧0≤m.writes∧0≤m.ops∧0≤m.peak∧0≤m.steps
  top:m.reads≤1000000∧m.writes≤1000000∧m.ops≤1000000∧m.peak≤1048576∧m.steps≤1000000
  vl:m.viol.length≤1000000
  n:n≤1000000
  A:A≤1048576
  ver:m.vb=m.vv
abbrev oMm1_0:List (Nat×Nat):=[(0,1),(1,1),(2,1),(3,1),(4,1),(5,1),(6,1),(7,1),(8,0),(9,2),(10,0)]
attribute [go_sem] oMm1_0
def putM (m:MS) (i v:Int):MS:={m with regs:=m.regs.set i.toNat v}
section
variable {x y:AObj} {B:Prg} {mt:List Int} {m m':MS} {ex l l':List AObj} {D:Nat→Bool}
theorem kp_ror {R:List Int} {h:∀ (o:Nat) (t:TypeId) (cs:List AV),l[o]? =some (AObj.box t cs)→l'[o]? =some (AObj.box t cs)}:Kp D (robj x y B mt m l) (robj x y B mt {m with regs:=R} l'):=fun o t cs hD ho=>by
  rcases o with _|_|_|_|_|_|_|o
  ·exact ho
  ·exact ho
  ·exact ho
  ·cases ho
  ·cases ho
  ·exact ho
  ·cases ho
  ·rcases Nat.lt_or_ge o 14 with c|c
   ·have e1:(clos++l)[o]? =some (AObj.box t cs):=ho
    show (clos++l')[o]? =_
    rw [List.getElem?_append_left (by exact c)] at e1 ⊢
    exact e1
   ·obtain ⟨q,rfl⟩:∃ q,o=q+14:=⟨o - 14,by omega⟩
    exact h q t cs ho
theorem kp_rox {j:Nat}:Kp (fun i=>i==j+21) (robj x y B mt m l) (robj x y B mt m' l):=kp_ro (by simp) fun _ _ _ _ h=>h
theorem kp_self {σ:List AObj} {D:Nat→Bool}:Kp D σ σ:=Kp.refl σ
theorem kp_ro1 {R:List Int}:Kp D (robj x y B mt m l) (robj x y B mt {m with regs:=R} l):=kp_ror (h:=fun _ _ _ h=>h)
end
noncomputable def ecn150:ECon Tryz.prog where
  f:=150
  c:=fun args σ k=>∃ (x y:AObj) (B:Prg) (mt:List Int) (m:MS) (ex:List AObj) (n:Int),args=[.ref 5 0,.lit (.int .i64 n)]∧σ=robj x y B mt m ex∧m.arena.length≤1048576∧k (.lit (.bool (decide (0≤n∧n<m.arena.length)))) (robj x y B mt m ex)
  ok:=by
   rintro _ _ k ⟨x,y,B,mt,m,ex,n,rfl,rfl,h1,h2⟩
   exact inside_ec h1 h2
  fk:=fk150
theorem ecn150_f:ecn150.f=150:=rfl
theorem ecn150_i {x y:AObj} {B:Prg} {mt:List Int} {m:MS} {ex:List AObj} {n:Int} {σ:List AObj} {k:AV→List AObj→Prop} (hσ:σ=robj x y B mt m ex) (hl:m.arena.length≤1048576) (h:k (.lit (.bool (decide (0≤n∧n<m.arena.length)))) (robj x y B mt m ex)):ecn150.c [.ref 5 0,.lit (.int .i64 n)] σ k:=⟨x,y,B,mt,m,ex,n,rfl,hσ,hl,h⟩
attribute [go_sem] ecn150_f El.con149_f El.con149_c con147_f con147_c El.con126_f El.con126_c con71_f con71_c
noncomputable def M2:Env:=envJ (P:=Tryz.prog) jkR zer (fun _=>false) (fun _=>false) [con71,El.con149,con147,El.con126] [ecn150]
theorem M2_ok:EnvOk Tryz.prog M2:=envJOk zer_ok
section
variable {x y:AObj} {B:Prg} {mt:List Int} {m:MS} {ex:List AObj} {k:AV→List AObj→Prop} {n A:Nat} {X:Ins}
set_option maxHeartbeats 4000000 in
theorem p1_ec (hk:k (.lit (.int .i64 X.b)) (robj x y B mt m ex)):EC Tryz.prog 116 [opV X] (robj x y B mt m ex) k:=by
  refine ec_fin fun hbd=>?_
  obtain ⟨q,p,a,b,c,d⟩:=X
  simp only [opV_mk]
  refine ecR M2_ok (kp116) Tryz.func116 [.tmp 2] (h:=fun KF=>?_)
  unfold M2
  with_reducible repeat' first|(refine nx ?_;intros)|apply And.intro|intro vr|(refine ny ?_;intros;simp only [go_sem,kp116,geff,yes])
  all_goals try exact nd
  all_goals (refine nl ?_;simp only [go_sem,finE])
  exact ⟨_,_,rfl,LeA.refl _,ro_bds (by omega) hbd,hk⟩
set_option maxHeartbeats 4000000 in
theorem p2_ec (h:OkM n A m) (hb:0≤X.b∧X.b<n) (hc:0≤X.c∧X.c<n) (hk:k (.lit (.int .i64 (minI (gt m.regs X.b) (gt m.regs X.c)))) (robj x y B mt m ex)):EC Tryz.prog 118 [opV X,.ref 8 0] (robj x y B mt m ex) k:=by
  refine ec_fin fun hbd=>?_
  obtain ⟨q,p,a,b,c,d⟩:=X
  have hr:=h.regs
  have hn:=h.n
  simp only at hb hc
  simp only [opV_mk]
  have gb:m.regs.getD b.toNat 0=gt m.regs b:=rfl
  have gc:m.regs.getD c.toNat 0=gt m.regs c:=rfl
  refine ecR M2_ok (kp118) Tryz.func118 [.tmp 3] (h:=fun KF=>?_)
  unfold M2
  with_reducible repeat' first|(refine nx ?_;intros)|apply And.intro|intro vr|((first|refine ny ?_|refine t_dwh (h:=fun K KL=>?_));intros;simp only [go_sem,kp118,geff,gb,gc,yes])
  all_goals try exact nd
  all_goals (refine nl ?_;simp only [go_sem,finE])
  exact ⟨_,_,rfl,LeA.refl _,ro_bds (by omega) hbd,hk⟩
set_option maxHeartbeats 4000000 in
theorem p3_ec (h:OkM n A m) (hb:0≤X.b∧X.b<n) (hc:0≤X.c∧X.c<n) (hk:k (.lit (.int .i64 (maxI (gt m.regs X.b) (gt m.regs X.c)))) (robj x y B mt m ex)):EC Tryz.prog 119 [opV X,.ref 8 0] (robj x y B mt m ex) k:=by
  refine ec_fin fun hbd=>?_
  obtain ⟨q,p,a,b,c,d⟩:=X
  have hr:=h.regs
  have hn:=h.n
  simp only at hb hc
  simp only [opV_mk]
  have gb:m.regs.getD b.toNat 0=gt m.regs b:=rfl
  have gc:m.regs.getD c.toNat 0=gt m.regs c:=rfl
  refine ecR M2_ok (kp119) Tryz.func119 [.tmp 3] (h:=fun KF=>?_)
  unfold M2
  with_reducible repeat' first|(refine nx ?_;intros)|apply And.intro|intro vr|((first|refine ny ?_|refine t_dwh (h:=fun K KL=>?_));intros;simp only [go_sem,kp119,geff,gb,gc,yes])
  all_goals try exact nd
  all_goals (refine nl ?_;simp only [go_sem,finE])
  exact ⟨_,_,rfl,LeA.refl _,ro_bds (by omega) hbd,hk⟩
set_option maxHeartbeats 4000000 in
theorem p5_ec (h:OkM n A m) (hb:0≤X.b∧X.b<n) (hk:k (.lit (.int .i64 (El.w32 (gt m.regs X.b)))) (robj x y B mt m ex)):EC Tryz.prog 125 [opV X,.ref 8 0] (robj x y B mt m ex) k:=by
  refine ec_fin fun hbd=>?_
  obtain ⟨q,p,a,b,c,d⟩:=X
  have hr:=h.regs
  have hn:=h.n
  simp only at hb
  simp only [opV_mk]
  have gb:m.regs.getD b.toNat 0=gt m.regs b:=rfl
  refine ecR M2_ok (kp125) Tryz.func125 [.tmp 3] (h:=fun KF=>?_)
  unfold M2
  with_reducible repeat' first|(refine nx ?_;intros)|apply And.intro|intro vr|((first|refine ny ?_|refine t_dwh (h:=fun K KL=>?_));intros;simp only [go_sem,kp125,geff,gb,yes])
  all_goals try exact nd
  all_goals (refine nl ?_;simp only [go_sem,finE])
  exact ⟨_,_,rfl,LeA.refl _,ro_bds (by omega) hbd,hk⟩
def ValF (x y:AObj) (B:Prg) (mt:List Int) (m:MS) (X:Ins) (f:FuncId) (ys:List AV) (v:Int):Prop:=∀ (ex:List AObj) (k:AV→List AObj→Prop),k (.lit (.int .i64 v)) (robj x y B mt m ex)→EC Tryz.prog f (opV X::ys) (robj x y B mt m ex) k
noncomputable def ecnV {x y:AObj} {B:Prg} {mt:List Int} {m:MS} {X:Ins} {f:FuncId} {ys:List AV} {v:Int} (hf:fok Tryz.prog f=true) (h:ValF x y B mt m X f ys v):ECon Tryz.prog where
  f:=f
  c:=fun args σ k=>∃ (ex:List AObj),args=opV X::ys∧σ=robj x y B mt m ex∧k (.lit (.int .i64 v)) (robj x y B mt m ex)
  ok:=by
   rintro _ _ k ⟨ex,rfl,rfl,h1⟩
   exact h ex k h1
  fk:=hf
theorem ecnV_f {f:FuncId} {ys:List AV} {v:Int} {hf:fok Tryz.prog f=true} {h:ValF x y B mt m X f ys v}:(ecnV hf h).f=f:=rfl
theorem ecnV_i {f:FuncId} {ys args:List AV} {v:Int} {hf:fok Tryz.prog f=true} {h:ValF x y B mt m X f ys v} {σ:List AObj} (ha:args=opV X::ys) (hσ:σ=robj x y B mt m ex) (hk:k (.lit (.int .i64 v)) (robj x y B mt m ex)):(ecnV hf h).c args σ k:=⟨ex,ha,hσ,hk⟩
attribute [go_sem] ecnV_f
noncomputable def M3 {f:FuncId} {ys:List AV} {v:Int} (hf:fok Tryz.prog f=true) (h:ValF x y B mt m X f ys v):Env:=envJ (P:=Tryz.prog) jkR zer (fun _=>false) (fun _=>false) [] [ecnV hf h]
theorem M3_ok {f:FuncId} {ys:List AV} {v:Int} (hf:fok Tryz.prog f=true) (h:ValF x y B mt m X f ys v):EnvOk Tryz.prog (M3 hf h):=envJOk zer_ok
set_option maxHeartbeats 4000000 in
theorem setF_ec {f:FuncId} {ys:List AV} {v:Int} {jm jv:Nat} (hf:fok Tryz.prog f=true) (hv:ValF x y B mt m X f ys v) (hys:(∀ σ,closeL1 true σ ys=none)∨ys=[]) (h:OkM n A m) (ha:0≤X.a∧X.a<n)
    (h1:∀ ex:List AObj,(robj x y B mt m ex)[jm]? =some (.box 57 [.ref 5 0])) (h2:∀ ex:List AObj,(robj x y B mt m ex)[jv]? =some (.box 170 [.fn (.func f) [] ys]))
    (hk:k (.lit (.bool true)) (robj x y B mt (putM m X.a v) ex)):EC Tryz.prog 148 [opV X,.ref jv 0,.ref jm 0] (robj x y B mt m ex) k:=by
  refine ec_fin fun hbd=>?_
  obtain ⟨q,p,a,b,c,d⟩:=X
  have hr:=h.regs
  have hn:=h.n
  simp only at ha
  simp only [opV_mk]
  rcases hys with hN|rfl
  ·skip
   refine ecR (M3_ok hf hv) (kp148) Tryz.func148 [.tmp 4] (h:=fun KF=>?_)
   unfold M3
   repeat' first|(with_reducible first|(refine nx ?_;intros)|apply And.intro|intro vr)|exact kp_fls|exact kp_ro1|exact kp_self|exact kpd|((with_reducible first|refine ny ?_|refine t_kLF ?_ ?_|refine t_dO 1 (fun _=>true) oMm1_0 fun K=>?_);intros;simp only [go_sem,kp148,geff,h1,h2,hN,yes])
   all_goals try exact nd
   refine ecnV_i rfl rfl ?_
   repeat' first|(with_reducible first|(refine nx ?_;intros)|apply And.intro|intro vr)|exact kp_fls|exact kp_ro1|exact kp_self|exact kpd|((with_reducible first|refine ny ?_|refine t_kLF ?_ ?_|refine t_dO 1 (fun _=>true) oMm1_0 fun K=>?_);intros;simp only [go_sem,kp148,geff,yes])
   all_goals try exact nd
   all_goals (refine nl ?_;simp only [go_sem,finE])
   exact ⟨_,_,rfl,LeA.refl _,ro_bds (by omega) hbd,hk⟩
  ·skip
   refine ecR (M3_ok hf hv) (kp148) Tryz.func148 [.tmp 4] (h:=fun KF=>?_)
   unfold M3
   repeat' first|(with_reducible first|(refine nx ?_;intros)|apply And.intro|intro vr)|exact kp_fls|exact kp_ro1|exact kp_self|exact kpd|((with_reducible first|refine ny ?_|refine t_kLF ?_ ?_|refine t_dO 1 (fun _=>true) oMm1_0 fun K=>?_);intros;simp only [go_sem,kp148,geff,h1,h2,yes])
   all_goals try exact nd
   refine ecnV_i rfl rfl ?_
   repeat' first|(with_reducible first|(refine nx ?_;intros)|apply And.intro|intro vr)|exact kp_fls|exact kp_ro1|exact kp_self|exact kpd|((with_reducible first|refine ny ?_|refine t_kLF ?_ ?_|refine t_dO 1 (fun _=>true) oMm1_0 fun K=>?_);intros;simp only [go_sem,kp148,geff,yes])
   all_goals try exact nd
   all_goals (refine nl ?_;simp only [go_sem,finE])
   exact ⟨_,_,rfl,LeA.refl _,ro_bds (by omega) hbd,hk⟩
end
end Go.Proofs.YtnlimcijgpaegaaGreat.Mm

namespace Go.Proofs.YtnlimcijgpaegaaGreat.Mm
open Go.Proofs.YtnlimcijgpaegaaGreat
open Go Go.Fw Bm
set_option maxRecDepth 20000
section
variable {x y:AObj} {B:Prg} {mt:List Int} {m:MS} {ex:List AObj} {k:AV→List AObj→Prop} {n A:Nat} {X:Ins}
abbrev oMm2_0:List (Nat×Nat):=[(0,1),(1,2),(2,2),(3,2),(4,2),(5,2),(6,1),(7,2),(8,0)]
abbrev oMm2_1:List (Nat×Nat):=[(0,1),(1,2),(2,2),(3,2),(4,2),(5,2),(6,1),(7,2),(8,2),(9,2),(10,1),(11,2),(12,2),(13,2),(14,2),(15,2),(16,2),(17,2),(18,2),(19,2),(20,2),(21,0)]
abbrev oMm2_2:List (Nat×Nat):=[(0,1),(1,1),(2,2),(3,2),(4,2),(5,2),(6,2),(7,2),(8,2),(9,0),(10,1)]
abbrev oMm2_3:List (Nat×Nat):=[(0,2),(1,2),(2,2),(3,2),(4,2),(5,2),(6,2),(7,0)]
abbrev oMm2_4:List (Nat×Nat):=[(0,1),(5,1),(6,1),(7,1),(1,2),(2,2),(3,2),(4,2),(8,0),(9,2),(10,2),(11,0)]
attribute [go_sem] oMm2_0 oMm2_1 oMm2_2 oMm2_3 oMm2_4
set_option maxHeartbeats 4000000 in
theorem add_ec (h:OkM n A m) (ha:0≤X.a∧X.a<n) (hb:0≤X.b∧X.b<n) (hc:0≤X.c∧X.c<n) (hd: -1048576≤X.d∧X.d≤1048576)
    (hk:k (.lit (.bool (inMc (gt m.regs X.b+X.d*gt m.regs X.c)))) (robj x y B mt (putM m X.a (gt m.regs X.b+X.d*gt m.regs X.c)) ex)):EC Tryz.prog 117 [.ref 5 0,opV X] (robj x y B mt m ex) k:=by
  refine ec_fin fun hbd=>?_
  obtain ⟨q,p,a,b,c,d⟩:=X
  have hr:=h.regs
  have hn:=h.n
  have vb:=h.rv b
  have vc:=h.rv c
  have mc:maxC=1099511627776:=rfl
  simp only at ha hb hc hd hk
  simp only [opV_mk]
  have gb:m.regs.getD b.toNat 0=gt m.regs b:=rfl
  have gc:m.regs.getD c.toNat 0=gt m.regs c:=rfl
  generalize gt m.regs b=u at*
  generalize gt m.regs c=v at*
  have hdv: -1152921504606846976≤d*v∧d*v≤1152921504606846976:=mul_in hd (by omega)
  generalize hw:d*v=w at*
  have hI:inMc (u+w)=(decide (u+w≥ -1099511627776)&&decide (u+w≤1099511627776)):=by
    unfold inMc
    by_cases h1:u+w≥ -1099511627776
    ·by_cases h2:u+w≤1099511627776
     ·rw [decide_eq_true h1,decide_eq_true h2];exact decide_eq_true (by omega)
     ·rw [decide_eq_false h2,Bool.and_false];exact decide_eq_false (by omega)
    ·rw [decide_eq_false h1,Bool.false_and];exact decide_eq_false (by omega)
  rw [hI] at hk
  cases g1:decide (u+w≥ -1099511627776) with
  |true=>
   rw [g1,Bool.true_and] at hk
   refine ecR M2_ok (kp117) Tryz.func117 [.tmp 4] (h:=fun KF=>?_)
   unfold M2
   repeat' first|(with_reducible first|(refine nx ?_;intros)|apply And.intro|intro vr)|exact kp_fls|exact kp_rox|exact kpd|((with_reducible first|refine ny ?_|refine t_kLF ?_ ?_|refine t_dO 2 (fun _=>false) oMm2_0 fun K=>?_|refine t_dwh (h:=fun K KL=>?_));intros;simp only [go_sem,kp117,geff,gb,gc,hw,g1,yes])
   all_goals try exact nd
   all_goals (refine nl ?_;simp only [go_sem,finE])
   exact ⟨_,_,rfl,LeA.refl _,ro_bds (by omega) hbd,hk⟩
  |false=>
   rw [g1,Bool.false_and] at hk
   refine ecR M2_ok (kp117) Tryz.func117 [.tmp 4] (h:=fun KF=>?_)
   unfold M2
   repeat' first|(with_reducible first|(refine nx ?_;intros)|apply And.intro|intro vr)|exact kp_fls|exact kp_rox|exact kpd|((with_reducible first|refine ny ?_|refine t_kLF ?_ ?_|refine t_dO 2 (fun _=>false) oMm2_0 fun K=>?_|refine t_dwh (h:=fun K KL=>?_));intros;simp only [go_sem,kp117,geff,gb,gc,hw,g1,yes])
   all_goals try exact nd
   all_goals (refine nl ?_;simp only [go_sem,finE])
   exact ⟨_,_,rfl,LeA.refl _,ro_bds (by omega) hbd,hk⟩
set_option maxHeartbeats 4000000 in
theorem load_ec (h:OkM n A m) (ha:0≤X.a∧X.a<n) (hb:0≤X.b∧X.b<n)
    (hk1:(0≤gt m.regs X.b∧gt m.regs X.b<m.arena.length)→k (.lit (.bool true)) (robj x y B mt {putM m X.a (gt m.arena (gt m.regs X.b)) with reads:=m.reads+1} ex))
    (hk2: ¬ (0≤gt m.regs X.b∧gt m.regs X.b<m.arena.length)→k (.lit (.bool false)) (robj x y B mt m ex)):EC Tryz.prog 121 [.ref 5 0,opV X] (robj x y B mt m ex) k:=by
  refine ec_fin fun hbd=>?_
  obtain ⟨q,p,a,b,c,d⟩:=X
  have hr:=h.regs
  have hn:=h.n
  have hA:=h.arena
  have hA2:=h.A
  have ht:=h.top
  have hp:=h.pos
  simp only at ha hb hk1 hk2
  simp only [opV_mk]
  have gb:m.regs.getD b.toNat 0=gt m.regs b:=rfl
  have gw:m.arena.getD (gt m.regs b).toNat 0=gt m.arena (gt m.regs b):=rfl
  generalize gt m.regs b=u at*
  by_cases hin:0≤u∧u<m.arena.length
  ·have g1:=decide_eq_true hin
   refine ecR M2_ok (kp121) Tryz.func121 [.tmp 4] (h:=fun KF=>?_)
   unfold M2
   repeat' first|(with_reducible first|(refine nx ?_;intros)|apply And.intro|intro vr)|exact kp_fls|exact kp_rox|exact kpd|((with_reducible first|refine ny ?_|refine t_kLF ?_ ?_|refine t_dO 3 (fun _=>false) oMm2_1 fun K=>?_|refine t_dO 1 (fun _=>false) oMm2_2 fun K=>?_);intros;simp only [go_sem,kp121,geff,gb,yes])
   all_goals try exact nd
   refine ecn150_i rfl (by omega) ?_
   repeat' first|(with_reducible first|(refine nx ?_;intros)|apply And.intro|intro vr)|exact kp_fls|exact kp_rox|exact kpd|((with_reducible first|refine ny ?_|refine t_kLF ?_ ?_|refine t_dO 3 (fun _=>false) oMm2_1 fun K=>?_|refine t_dO 1 (fun _=>false) oMm2_2 fun K=>?_);intros;simp only [go_sem,kp121,geff,gb,g1,gw,yes])
   all_goals try exact nd
   all_goals (refine nl ?_;simp only [go_sem,finE])
   exact ⟨_,_,rfl,LeA.refl _,ro_bds (by omega) hbd,hk1 hin⟩
  ·have g1:=decide_eq_false hin
   refine ecR M2_ok (kp121) Tryz.func121 [.tmp 4] (h:=fun KF=>?_)
   unfold M2
   repeat' first|(with_reducible first|(refine nx ?_;intros)|apply And.intro|intro vr)|exact kp_fls|exact kp_rox|exact kpd|((with_reducible first|refine ny ?_|refine t_kLF ?_ ?_|refine t_dO 3 (fun _=>false) oMm2_1 fun K=>?_|refine t_dO 1 (fun _=>false) oMm2_2 fun K=>?_);intros;simp only [go_sem,kp121,geff,gb,yes])
   all_goals try exact nd
   refine ecn150_i rfl (by omega) ?_
   repeat' first|(with_reducible first|(refine nx ?_;intros)|apply And.intro|intro vr)|exact kp_fls|exact kp_rox|exact kpd|((with_reducible first|refine ny ?_|refine t_kLF ?_ ?_|refine t_dO 3 (fun _=>false) oMm2_1 fun K=>?_|refine t_dO 1 (fun _=>false) oMm2_2 fun K=>?_);intros;simp only [go_sem,kp121,geff,gb,g1,gw,yes])
   all_goals try exact nd
   all_goals (refine nl ?_;simp only [go_sem,finE])
   exact ⟨_,_,rfl,LeA.refl _,ro_bds (by omega) hbd,hk2 hin⟩
set_option maxHeartbeats 4000000 in
theorem miss_ec (h:OkM n A m) (ha:0≤X.a∧X.a<n) (hk:k (.lit (.bool true)) (robj x y B mt {putM m X.a 0 with reads:=m.reads+1} ex)):EC Tryz.prog 123 [opV X,.ref 8 0] (robj x y B mt m ex) k:=by
  refine ec_fin fun hbd=>?_
  obtain ⟨q,p,a,b,c,d⟩:=X
  have hr:=h.regs
  have hn:=h.n
  have ht:=h.top
  have hp:=h.pos
  simp only at ha hk
  simp only [opV_mk]
  refine ecR M2_ok (kp123) Tryz.func123 [.tmp 3] (h:=fun KF=>?_)
  unfold M2
  repeat' first|(with_reducible first|(refine nx ?_;intros)|apply And.intro|intro vr)|exact kp_fls|exact kp_rox|exact kpd|((with_reducible first|refine ny ?_|refine t_kLF ?_ ?_|refine t_dO 1 (fun _=>false) oMm2_3 fun K=>?_);intros;simp only [go_sem,kp123,geff,yes])
  all_goals try exact nd
  all_goals (refine nl ?_;simp only [go_sem,finE])
  exact ⟨_,_,rfl,LeA.refl _,ro_bds (by omega) hbd,hk⟩
set_option maxHeartbeats 4000000 in
theorem skip_ec (h:OkM n A m) (hk:k (.lit (.bool true)) (robj x y B mt {m with writes:=m.writes+1} ex)):EC Tryz.prog 127 [opV X,.ref 8 0] (robj x y B mt m ex) k:=by
  refine ec_fin fun hbd=>?_
  obtain ⟨q,p,a,b,c,d⟩:=X
  have ht:=h.top
  have hp:=h.pos
  simp only [opV_mk]
  refine ecR M2_ok (kp127) Tryz.func127 [.tmp 3] (h:=fun KF=>?_)
  unfold M2
  with_reducible repeat' first|(refine nx ?_;intros)|apply And.intro|intro vr|(refine ny ?_;intros;simp only [go_sem,kp127,geff,yes])
  all_goals try exact nd
  all_goals (refine nl ?_;simp only [go_sem,finE])
  exact ⟨_,_,rfl,LeA.refl _,ro_bds (by omega) hbd,hk⟩
set_option maxHeartbeats 4000000 in
theorem check_ec (h:OkM n A m) (hb:0≤X.b∧X.b<n)
    (hk1:gt m.regs X.b=0→k (.lit (.bool true)) (robj x y B mt {m with viol:=m.viol++[X.a],vv:=m.vv+1,vb:=m.vv+1} ex))
    (hk2: ¬ gt m.regs X.b=0→k (.lit (.bool true)) (robj x y B mt m ex)):EC Tryz.prog 124 [.ref 5 0,opV X] (robj x y B mt m ex) k:=by
  refine ec_fin fun hbd=>?_
  obtain ⟨q,p,a,b,c,d⟩:=X
  have hr:=h.regs
  have hn:=h.n
  have hvl:=h.vl
  have hver:=h.ver
  simp only at hb hk1 hk2
  simp only [opV_mk]
  have gb:m.regs.getD b.toNat 0=gt m.regs b:=rfl
  generalize gt m.regs b=u at*
  by_cases hu:u=0
  ·have g1:=decide_eq_true hu
   refine ecR M2_ok (kp124) Tryz.func124 [.tmp 4] (h:=fun KF=>?_)
   unfold M2
   repeat' first|(with_reducible first|(refine nx ?_;intros)|refine t_br (fun hc=>?_) fun hc=>?_|apply And.intro|intro vr)|exact kp_fls|exact kp_rox|exact kpd|((with_reducible first|refine ny ?_|refine t_kLF ?_ ?_|refine t_dO 2 (fun i=>i==ex.length+21) oMm2_4 fun K=>?_|refine t_dwh (h:=fun K KL=>?_));intros;simp only [go_sem,kp124,geff,gb,g1,hver,yes])
   all_goals try exact nd
   all_goals (refine nl ?_;simp only [go_sem,finE])
   exact ⟨_,_,rfl,LeA.refl _,ro_bds (by omega) hbd,hk1 hu⟩
  ·have g1:=decide_eq_false hu
   refine ecR M2_ok (kp124) Tryz.func124 [.tmp 4] (h:=fun KF=>?_)
   unfold M2
   repeat' first|(with_reducible first|(refine nx ?_;intros)|refine t_br (fun hc=>?_) fun hc=>?_|apply And.intro|intro vr)|exact kp_fls|exact kp_rox|exact kpd|((with_reducible first|refine ny ?_|refine t_kLF ?_ ?_|refine t_dO 2 (fun i=>i==ex.length+21) oMm2_4 fun K=>?_|refine t_dwh (h:=fun K KL=>?_));intros;simp only [go_sem,kp124,geff,gb,g1,yes])
   all_goals try exact nd
   all_goals (refine nl ?_;simp only [go_sem,finE])
   exact ⟨_,_,rfl,LeA.refl _,ro_bds (by omega) hbd,hk2 hu⟩
end
end Go.Proofs.YtnlimcijgpaegaaGreat.Mm

namespace Go.Proofs.YtnlimcijgpaegaaGreat.Mm
open Go.Proofs.YtnlimcijgpaegaaGreat
open Go Go.Fw Bm
set_option maxRecDepth 20000
section
variable {x y:AObj} {B:Prg} {mt:List Int} {m:MS} {ex:List AObj} {k:AV→List AObj→Prop} {n A:Nat} {X:Ins}
abbrev oMm3_0:List (Nat×Nat):=[(0,1),(1,1),(2,0),(3,1),(4,1),(9,1),(10,1),(5,1),(6,1),(7,1),(8,1),(11,0),(12,0),(13,1),(14,1),(15,1)]
abbrev oMm3_1:List (Nat×Nat):=[(0,2),(1,2),(2,2),(3,2),(4,2),(5,2),(6,2),(7,2),(8,2),(9,2),(10,2),(11,2),(12,2),(13,2),(14,0)]
abbrev oMm3_2:List (Nat×Nat):=[(0,1),(1,2),(2,2),(3,2),(4,2),(5,2),(6,1),(7,2),(8,0)]
attribute [go_sem] oMm3_0 oMm3_1 oMm3_2
set_option maxHeartbeats 4000000 in
theorem store_ec (h:OkM n A m) (ha:0≤X.a∧X.a<n) (hb:0≤X.b∧X.b<n)
    (hk1:(0≤gt m.regs X.a∧gt m.regs X.a<m.arena.length)∧vld sInt (gt m.regs X.b)=true→k (.lit (.bool true)) (robj x y B mt {m with arena:=m.arena.set (gt m.regs X.a).toNat (gt m.regs X.b),writes:=m.writes+1,peak:=maxI m.peak (gt m.regs X.a+1)} ex))
    (hk2: ¬ ((0≤gt m.regs X.a∧gt m.regs X.a<m.arena.length)∧vld sInt (gt m.regs X.b)=true)→k (.lit (.bool false)) (robj x y B mt m ex)):EC Tryz.prog 122 [.ref 5 0,opV X] (robj x y B mt m ex) k:=by
  refine ec_fin fun hbd=>?_
  obtain ⟨q,p,a,b,c,d⟩:=X
  have hr:=h.regs
  have hn:=h.n
  have hA:=h.arena
  have hA2:=h.A
  have ht:=h.top
  have hp:=h.pos
  simp only at ha hb hk1 hk2
  simp only [opV_mk]
  have ga:m.regs.getD a.toNat 0=gt m.regs a:=rfl
  have gb:m.regs.getD b.toNat 0=gt m.regs b:=rfl
  have hvl:vld ⟨#[105,110,116]⟩ (gt m.regs b)=vld sInt (gt m.regs b):=rfl
  have va:=h.rv a
  have mc:maxC=1099511627776:=rfl
  generalize gt m.regs a=u at*
  generalize gt m.regs b=w at*
  by_cases hin:0≤u∧u<m.arena.length
  ·have g1:=decide_eq_true hin
   cases hv:vld sInt w with
   |true=>
    refine ecR M2_ok (kp122) Tryz.func122 [.tmp 4] (h:=fun KF=>?_)
    unfold M2
    repeat' first|(with_reducible first|(refine nx ?_;intros)|apply And.intro|intro vr)|exact kp_fls|exact kp_self|exact kpd|((with_reducible first|refine ny ?_|refine t_kLF ?_ ?_|refine t_dO 2 (fun _=>true) oMm3_0 fun K=>?_|refine t_dO 4 (fun _=>false) oMm3_1 fun K=>?_|refine t_dwh (h:=fun K KL=>?_));intros;simp only [go_sem,kp122,geff,ga,yes])
    all_goals try exact nd
    refine ecn150_i rfl (by omega) ?_
    repeat' first|(with_reducible first|(refine nx ?_;intros)|apply And.intro|intro vr)|exact kp_fls|exact kp_self|exact kpd|((with_reducible first|refine ny ?_|refine t_kLF ?_ ?_|refine t_dO 2 (fun _=>true) oMm3_0 fun K=>?_|refine t_dO 4 (fun _=>false) oMm3_1 fun K=>?_|refine t_dwh (h:=fun K KL=>?_));intros;simp only [go_sem,kp122,geff,ga,gb,g1,hvl,hv,yes])
    all_goals try exact nd
    all_goals (refine nl ?_;simp only [go_sem,finE])
    exact ⟨_,_,rfl,LeA.refl _,ro_bds (by omega) hbd,hk1 ⟨hin,hv⟩⟩
   |false=>
    refine ecR M2_ok (kp122) Tryz.func122 [.tmp 4] (h:=fun KF=>?_)
    unfold M2
    repeat' first|(with_reducible first|(refine nx ?_;intros)|apply And.intro|intro vr)|exact kp_fls|exact kp_self|exact kpd|((with_reducible first|refine ny ?_|refine t_kLF ?_ ?_|refine t_dO 2 (fun _=>true) oMm3_0 fun K=>?_|refine t_dO 4 (fun _=>false) oMm3_1 fun K=>?_|refine t_dwh (h:=fun K KL=>?_));intros;simp only [go_sem,kp122,geff,ga,yes])
    all_goals try exact nd
    refine ecn150_i rfl (by omega) ?_
    repeat' first|(with_reducible first|(refine nx ?_;intros)|apply And.intro|intro vr)|exact kp_fls|exact kp_self|exact kpd|((with_reducible first|refine ny ?_|refine t_kLF ?_ ?_|refine t_dO 2 (fun _=>true) oMm3_0 fun K=>?_|refine t_dO 4 (fun _=>false) oMm3_1 fun K=>?_|refine t_dwh (h:=fun K KL=>?_));intros;simp only [go_sem,kp122,geff,ga,gb,g1,hvl,hv,yes])
    all_goals try exact nd
    all_goals (refine nl ?_;simp only [go_sem,finE])
    exact ⟨_,_,rfl,LeA.refl _,ro_bds (by omega) hbd,hk2 (fun q=>by rw [hv] at q;cases q.2)⟩
  ·have g1:=decide_eq_false hin
   refine ecR M2_ok (kp122) Tryz.func122 [.tmp 4] (h:=fun KF=>?_)
   unfold M2
   repeat' first|(with_reducible first|(refine nx ?_;intros)|apply And.intro|intro vr)|exact kp_fls|exact kp_self|exact kpd|((with_reducible first|refine ny ?_|refine t_kLF ?_ ?_|refine t_dO 2 (fun _=>true) oMm3_0 fun K=>?_|refine t_dO 4 (fun _=>false) oMm3_1 fun K=>?_|refine t_dwh (h:=fun K KL=>?_));intros;simp only [go_sem,kp122,geff,ga,yes])
   all_goals try exact nd
   refine ecn150_i rfl (by omega) ?_
   repeat' first|(with_reducible first|(refine nx ?_;intros)|apply And.intro|intro vr)|exact kp_fls|exact kp_self|exact kpd|((with_reducible first|refine ny ?_|refine t_kLF ?_ ?_|refine t_dO 2 (fun _=>true) oMm3_0 fun K=>?_|refine t_dO 4 (fun _=>false) oMm3_1 fun K=>?_|refine t_dwh (h:=fun K KL=>?_));intros;simp only [go_sem,kp122,geff,ga,gb,g1,hvl,yes])
   all_goals try exact nd
   all_goals (refine nl ?_;simp only [go_sem,finE])
   exact ⟨_,_,rfl,LeA.refl _,ro_bds (by omega) hbd,hk2 (fun q=>hin q.1)⟩
set_option maxHeartbeats 4000000 in
theorem prim_ec (h:OkM n A m) (hx:X.code=5) (ha:0≤X.a∧X.a<n) (hrd:∀ r∈readsS X,0≤r∧r<n)
    (hk1:∀ v,El.applyS X.prim ((readsS X).map (gt m.regs))=some v→k (.lit (.bool true)) (robj x y B mt {putM m X.a v with ops:=m.ops+1} ex))
    (hk2:El.applyS X.prim ((readsS X).map (gt m.regs))=none→k (.lit (.bool false)) (robj x y B mt {putM m X.a 0 with ops:=m.ops+1} ex)):EC Tryz.prog 120 [.ref 5 0,opV X] (robj x y B mt m ex) k:=by
  refine ec_fin fun hbd=>?_
  have h3:=reads_len X
  have hr:=h.regs
  have hn:=h.n
  have ht:=h.top
  have hp:=h.pos
  generalize hM:readsS X=M at*
  obtain ⟨q,p,a,b,cc,d⟩:=X
  simp only at ha hk1 hk2 hx
  simp only [opV_mk]
  have av0:El.applyV none= .tup [.lit (.int .i64 0),.lit (.bool false)]:=rfl
  have av1:∀ y,El.applyV (some y)= .tup [.lit (.int .i64 y),.lit (.bool true)]:=fun _=>rfl
  generalize hap:El.applyS p (M.map (gt m.regs))=Y at hk1 hk2
  refine ecR M2_ok (kp120) Tryz.func120 [.tmp 4] (h:=fun KF=>?_)
  unfold M2
  repeat' first|(with_reducible first|(refine nx ?_;intros)|apply And.intro|intro vr)|exact kp_fls|exact kp_self|exact kpd|((with_reducible first|refine ny ?_|refine t_kLF ?_ ?_|refine t_dO 8 (fun _=>false) oMm3_2 fun K=>?_);intros;simp only [go_sem,kp120,geff,yes,hM])
  all_goals try exact nd
  refine t_loopF (ι:={q:Nat×Nat // q.1≤M.length}) (fun i=>[(13,.lit (.int .i64 i.1.1)),(5,.arr (ex.length+22) i.1.2)]) (fun i=>robj x y B mt m (ex++[.box 56 [.lit (.int .i64 q),.lit (.string p),.lit (.int .i64 a),.lit (.int .i64 b),.lit (.int .i64 cc),.lit (.int .i64 d)],.arr 3 1 (ints .i64 ((M.take i.1.1).map (gt m.regs))) i.1.2 false])) (fun i=>M.length - i.1.1) ⟨(0,0),by simp⟩ ?_ ?_
  ·refine (le_nil 5 3 1 rfl).trans ?_
   exact lf
  rintro ⟨⟨i,v⟩,hi⟩ K0
  simp only at hi
  rcases Nat.lt_or_ge i M.length with hc'|hc'
  ·have g3:decide ((i:Int)<(M.length:Int))=true:=decide_eq_true (by omega)
   have hmm:=hrd _ (mem_getD hc')
   have ht:=take_mapI (f:=gt m.regs) hc'
   have hln:((M.take i).map (gt m.regs)).length=i:=by rw [List.length_map,List.length_take];omega
   generalize hxx:M.getD i 0=z at hmm ht
   have gz:m.regs.getD z.toNat 0=gt m.regs z:=rfl
   repeat' first|(with_reducible first|(refine nx ?_;intros)|apply And.intro|intro vr)|exact kp_fls|exact kp_self|exact kpd|((with_reducible first|refine ny ?_|refine t_kLF ?_ ?_|refine t_dO 8 (fun _=>false) oMm3_2 fun K=>?_);intros;simp only [go_sem,kp120,geff,g3,hxx,gz,ht,hln,ints_length,Int.toNat_natCast,yes])
   all_goals try exact nd
   exact ⟨⟨(i+1,v+1),by simp only;omega⟩,wf,lf⟩
  ·have g3:decide ((i:Int)<(M.length:Int))=false:=decide_eq_false (by omega)
   have eM:M.take i=M:=List.take_of_length_le hc'
   cases Y with
   |none=>
    repeat' first|(with_reducible first|(refine nx ?_;intros)|apply And.intro|intro vr)|exact kp_fls|exact kp_self|exact kpd|((with_reducible first|refine ny ?_|refine t_kLF ?_ ?_|refine t_dO 8 (fun _=>false) oMm3_2 fun K=>?_);intros;simp only [go_sem,kp120,geff,g3,eM,hap,av0,slK_sl,Option.map_some,yes])
    all_goals try exact nd
    all_goals (refine nl ?_;simp only [go_sem,finE])
    exact ⟨_,_,rfl,LeA.refl _,ro_bds (by omega) hbd,hk2 rfl⟩
   |some y=>
    repeat' first|(with_reducible first|(refine nx ?_;intros)|apply And.intro|intro vr)|exact kp_fls|exact kp_self|exact kpd|((with_reducible first|refine ny ?_|refine t_kLF ?_ ?_|refine t_dO 8 (fun _=>false) oMm3_2 fun K=>?_);intros;simp only [go_sem,kp120,geff,g3,eM,hap,av1,slK_sl,Option.map_some,yes])
    all_goals try exact nd
    all_goals (refine nl ?_;simp only [go_sem,finE])
    exact ⟨_,_,rfl,LeA.refl _,ro_bds (by omega) hbd,hk1 y rfl⟩
end
end Go.Proofs.YtnlimcijgpaegaaGreat.Mm

namespace Go.Proofs.YtnlimcijgpaegaaGreat.Bm
open Go.Proofs.YtnlimcijgpaegaaGreat
open Go Go.Fw
def clsr (c:Int):Bool:=decide (c=12)||decide (c=13)
structure Prt (ops:List Ins) (n:Nat) (out:List Int) (st:List Nat):Prop where
  len:out.length=n
  lt:∀ j∈st,j<n
  asc:st.Pairwise (fun a b=>b<a)
  prt:∀ e,e<n→clsr (cd ops e)=true→∃ j,j<e∧j ∉ st∧opnr (cd ops j)=true∧out.getD j 0=e
  opn:∀ j∈st,opnr (cd ops j)=true
theorem Prt.plain {ops:List Ins} {n:Nat} {out:List Int} {st:List Nat} (h:Prt ops n out st) (hc:clsr (cd ops n)=false):Prt ops (n+1) (out++[(n:Int)]) st:=by
  have hl:=h.len
  refine ⟨by simp [hl],fun j hj=>Nat.lt_succ_of_lt (h.lt j hj),h.asc,fun e he hce=>?_,h.opn⟩
  have hen:e≠n:=fun q=>by subst q;rw [hc] at hce;cases hce
  obtain ⟨j,q1,q2,q3,q4⟩:=h.prt e (by omega) hce
  exact ⟨j,q1,q2,q3,by rw [getD_append_l (by omega)];exact q4⟩
theorem Prt.push {ops:List Ins} {n:Nat} {out:List Int} {st:List Nat} (h:Prt ops n out st) (hc:clsr (cd ops n)=false) (ho:opnr (cd ops n)=true):Prt ops (n+1) (out++[(n:Int)]) (n::st):=by
  have hp:=h.plain hc
  refine ⟨hp.len,fun j hj=>?_,List.pairwise_cons.2 ⟨fun b hb=>h.lt b hb,h.asc⟩,fun e he hce=>?_,fun j hj=>?_⟩
  ·rcases List.mem_cons.1 hj with rfl|hj
   ·omega
   ·exact hp.lt j hj
  ·have hen:e≠n:=fun q=>by subst q;rw [hc] at hce;cases hce
   obtain ⟨j,q1,q2,q3,q4⟩:=hp.prt e he hce
   refine ⟨j,q1,fun hm=>?_,q3,q4⟩
   rcases List.mem_cons.1 hm with rfl|hm
   ·omega
   ·exact q2 hm
  ·rcases List.mem_cons.1 hj with rfl|hj
   ·exact ho
   ·exact h.opn j hj
theorem Prt.close {ops:List Ins} {n j:Nat} {out:List Int} {st st2:List Nat} (h:Prt ops n out (j::st)) (h2:st2=st∨(st2=n::st∧opnr (cd ops n)=true)):Prt ops (n+1) ((out++[(n:Int)]).set j n) st2:=by
  have hl:=h.len
  have hjn:=h.lt j (by simp)
  have hasc:=List.pairwise_cons.1 h.asc
  have hst:∀ k∈st,k<j:=fun k hk=>hasc.1 k hk
  have hj0:j<(out++[(n:Int)]).length:=by simp;omega
  have mem:∀ {k},k∈st2→k=n∨k∈st:=fun {k} hk=>by
    rcases h2 with rfl|⟨rfl,_⟩
    ·exact .inr hk
    ·exact List.mem_cons.1 hk
  refine ⟨by simp [hl],fun k hk=>?_,?_,fun e he hce=>?_,fun k hk=>?_⟩
  ·rcases mem hk with rfl|hk
   ·omega
   ·have:=hst k hk;omega
  ·rcases h2 with rfl|⟨rfl,_⟩
   ·exact hasc.2
   ·exact List.pairwise_cons.2 ⟨fun b hb=>by have:=hst b hb;omega,hasc.2⟩
  ·by_cases q:e=n
   ·subst q
    refine ⟨j,hjn,fun hm=>?_,h.opn j (by simp),getD_set_eq hj0⟩
    rcases mem hm with rfl|hm
    ·omega
    ·exact Nat.lt_irrefl _ (hst j hm)
   ·obtain ⟨k,q1,q2,q3,q4⟩:=h.prt e (by omega) hce
    have hkj:j≠k:=fun q=>q2 (by simp [q])
    refine ⟨k,q1,fun hm=>?_,q3,by rw [getD_set_ne hkj,getD_append_l (by omega)];exact q4⟩
    rcases mem hm with rfl|hm
    ·omega
    ·exact q2 (by simp [hm])
  ·rcases mem hk with rfl|hk
   ·rcases h2 with rfl|⟨rfl,ho⟩
    ·exact h.opn k (by simp [hk])
    ·exact ho
   ·exact h.opn k (by simp [hk])
theorem matchG_prt {ops:List Ins}:∀ (l:List Ins) (i:Nat) (out:List Int) (st:List Nat) (mt:List Int),ops.drop i=l→i≤ops.length→Prt ops i out st→matchG ops l i out st=some mt→Prt ops ops.length mt []
  |[],i,out,st,mt,hl,hi,h,e=>by
   have hn:i=ops.length:=by
     have:=congrArg List.length hl
     simp at this;omega
   subst hn
   cases st with
   |nil=>cases e;exact h
   |cons j st=>cases e
  |x::l,i,out,st,mt,hl,hi,h,e=>by
   have hlt:i<ops.length:=by
     rcases Nat.lt_or_ge i ops.length with h|h
     ·exact h
     ·rw [List.drop_eq_nil_of_le h] at hl;cases hl
   have hd:=List.drop_eq_getElem_cons hlt
   rw [hl] at hd
   simp only [List.cons.injEq] at hd
   have hl':ops.drop (i+1)=l:=hd.2.symm
   have hx:cd ops i=x.code:=by unfold cd;rw [hd.1];simp [List.getD,hlt]
   simp only [matchG] at e
   split at e
   ·rename_i hc
    split at e
    ·cases e
    ·exact matchG_prt l (i+1) _ _ mt hl' hlt (h.push (by rw [hx];rcases hc with hc|hc<;>rw [hc]<;>decide) (by rw [hx];rcases hc with hc|hc<;>rw [hc]<;>decide)) e
   ·rename_i h1
    split at e
    ·rename_i h2
     split at e
     ·cases e
     ·rename_i j st'
      split at e
      ·exact matchG_prt l (i+1) _ _ mt hl' hlt (h.close (.inr ⟨rfl,by rw [hx,h2];decide⟩)) e
      ·cases e
    ·rename_i h2
     split at e
     ·split at e
      ·cases e
      ·exact matchG_prt l (i+1) _ _ mt hl' hlt (h.close (.inl rfl)) e
     ·rename_i h3
      exact matchG_prt l (i+1) _ _ mt hl' hlt (h.plain (by
        rw [hx]
        simp only [clsr,Bool.or_eq_false_iff,decide_eq_false_iff_not]
        omega)) e
def Fre (B:Prg) (mt:List Int) (i to:Int):Prop:=∀ e:Int,i≤e→e<to→((B.op e).code=12∨(B.op e).code=13)→∃ j:Int,i≤j∧j<e∧((B.op j).code=10∨(B.op j).code=11∨(B.op j).code=12)∧gt mt j=e
theorem match_fre {B:Prg} {mt:List Int} (h:matchS B.ops=some mt):Fre B mt 0 B.ops.length:=by
  unfold matchS at h
  split at h
  ·cases h
  ·have hp:=matchG_prt B.ops 0 [] [] mt (by simp) (Nat.zero_le _) ⟨rfl,by simp,by simp,by simp,by simp⟩ h
   intro e h0 h1 hc
   obtain ⟨n,rfl⟩:∃ n:Nat,e=n:=⟨e.toNat,by omega⟩
   obtain ⟨j,q1,_,q3,q4⟩:=hp.prt n (by omega) (by
     rw [←op_cd]
     simp only [clsr,Bool.or_eq_true,decide_eq_true_eq];exact hc)
   rw [←op_cd] at q3
   simp only [opnr,Bool.or_eq_true,decide_eq_true_eq] at q3
   exact ⟨(j:Int),by omega,by omega,by omega,by simp only [gt,Int.toNat_natCast];exact q4⟩
section
variable {B:Prg} {mt:List Int}
theorem Fre.here {i to:Int} (h:Fre B mt i to) (hi:i<to):(B.op i).code≠12∧(B.op i).code≠13:=by
  refine ⟨fun c=>?_,fun c=>?_⟩
  ·obtain ⟨j,q1,q2,_⟩:=h i (Int.le_refl _) hi (.inl c);omega
  ·obtain ⟨j,q1,q2,_⟩:=h i (Int.le_refl _) hi (.inr c);omega
theorem Nest.in_lt (hN:Nest B.ops mt) {i j:Int} (h0:0≤i) (h1:i<B.ops.length) (ho:(B.op i).code=10∨(B.op i).code=11∨(B.op i).code=12) (hij:i<j) (hj:j<gt mt i) (hoj:(B.op j).code=10∨(B.op j).code=11∨(B.op j).code=12):gt mt j<gt mt i:=
  (hN.inner h0 h1 ho).2.2 j (by omega) hj hoj
theorem Fre.skip (hN:Nest B.ops mt) {i k to:Int} (h:Fre B mt i to) (h0:0≤i) (h1:i<B.ops.length) (ho:(B.op i).code=10∨(B.op i).code=11∨(B.op i).code=12) (hk:k=gt mt i+1):∀ e:Int,k≤e→e<to→((B.op e).code=12∨(B.op e).code=13)→∃ j:Int,k≤j+1∧j<e∧((B.op j).code=10∨(B.op j).code=11∨(B.op j).code=12)∧gt mt j=e:=by
  intro e k1 k2 hc
  obtain ⟨k3,k4,_,_⟩:=hN.at h0 h1 ho
  obtain ⟨j,q1,q2,q3,q4⟩:=h e (by omega) k2 hc
  refine ⟨j,?_,q2,q3,q4⟩
  rcases Int.lt_or_le j (gt mt i) with c|c
  ·rcases Int.lt_or_le i j with c2|c2
   ·have:=hN.in_lt h0 h1 ho c2 c q3
    omega
   ·have:j=i:=by omega
    subst this;omega
  ·omega
theorem Fre.for_ (hN:Nest B.ops mt) {i to:Int} (h:Fre B mt i to) (h0:0≤i) (h1:i<B.ops.length) (ho:(B.op i).code=10):Fre B mt (gt mt i+1) to:=by
  intro e k1 k2 hc
  obtain ⟨k3,k4,k5,k6⟩:=hN.at h0 h1 (.inl ho)
  obtain ⟨j,q1,q2,q3,q4⟩:=h.skip hN h0 h1 (.inl ho) rfl e k1 k2 hc
  refine ⟨j,?_,q2,q3,q4⟩
  rcases Int.lt_or_le j (gt mt i+1) with c|c
  ·have hj:j=gt mt i:=by omega
   exfalso
   subst hj
   rcases q3 with q|q|q
   ·rcases k5 with k5|k5<;>omega
   ·rcases k5 with k5|k5<;>omega
   ·have:=k6 q;omega
  ·exact c
theorem Fre.if_ (hN:Nest B.ops mt) {i to:Int} (h:Fre B mt i to) (hcl:Cl B mt i to) (hi:i<to) (ho:(B.op i).code=11):Fre B mt (gt mt (gt mt i)+1) to:=by
  intro e k1 k2 hc
  have h0:=hcl.1
  have h1:i<B.ops.length:=by have:=hcl.2.1;omega
  obtain ⟨k3,k4,k5,k6⟩:=hN.at h0 h1 (.inr (.inl ho))
  obtain ⟨_,e1,e2,_,_,e6⟩:=hN.end_ hcl hi ho
  obtain ⟨j,q1,q2,q3,q4⟩:=h.skip hN h0 h1 (.inr (.inl ho)) rfl e (by omega) k2 hc
  refine ⟨j,?_,q2,q3,q4⟩
  rcases Int.lt_or_le j (gt mt (gt mt i)+1) with c|c
  ·exfalso
   by_cases c12:(B.op (gt mt i)).code=12
   ·obtain ⟨m1,m2,m3,m4⟩:=hN.at (i:=gt mt i) (by omega) k4 (.inr (.inr c12))
    rcases Int.lt_or_le j (gt mt (gt mt i)) with d|d
    ·rcases Int.lt_or_le (gt mt i) j with d2|d2
     ·have:=hN.in_lt (i:=gt mt i) (by omega) k4 (.inr (.inr c12)) d2 d q3;omega
     ·have:j=gt mt i:=by omega
      subst this;omega
    ·have hj:j=gt mt (gt mt i):=by omega
     subst hj
     rcases q3 with q|q|q
     ·rcases m3 with m3|m3<;>omega
     ·rcases m3 with m3|m3<;>omega
     ·have:=m4 q;omega
   ·rw [e6 c12] at c
    have hj:j=gt mt i:=by omega
    subst hj
    rcases q3 with q|q|q
    ·rcases k5 with k5|k5<;>omega
    ·rcases k5 with k5|k5<;>omega
    ·exact c12 q
  ·exact c
theorem Fre.step {i to:Int} (h:Fre B mt i to) (ho:(B.op i).code≠10∧(B.op i).code≠11) (hi:i<to):Fre B mt (i+1) to:=by
  intro e k1 k2 hc
  obtain ⟨j,q1,q2,q3,q4⟩:=h e (by omega) k2 hc
  have hh:=h.here hi
  refine ⟨j,?_,q2,q3,q4⟩
  rcases Int.lt_or_le i j with c|c
  ·omega
  ·have:j=i:=by omega
   subst this
   rcases q3 with q|q|q
   ·exact absurd q ho.1
   ·exact absurd q ho.2
   ·exact absurd q hh.1
theorem Fre.inner (hN:Nest B.ops mt) (h:Fre B mt 0 B.ops.length) {i:Int} (h0:0≤i) (h1:i<B.ops.length) (ho:(B.op i).code=10∨(B.op i).code=11∨(B.op i).code=12):Fre B mt (i+1) (gt mt i):=by
  intro e k1 k2 hc
  obtain ⟨k3,k4,_,_⟩:=hN.at h0 h1 ho
  obtain ⟨j,q1,q2,q3,q4⟩:=h e (by omega) (by omega) hc
  refine ⟨j,?_,q2,q3,q4⟩
  rcases Int.lt_or_le i j with c|c
  ·omega
  ·exfalso
   by_cases c2:j=i
   ·subst c2;omega
   ·have:=hN.in_lt (i:=j) (j:=i) q1 (by omega) q3 (by omega) (by omega) ho
    omega
end
end Go.Proofs.YtnlimcijgpaegaaGreat.Bm

namespace Go.Proofs.YtnlimcijgpaegaaGreat.Mm
open Go.Proofs.YtnlimcijgpaegaaGreat
open Go Go.Fw Bm
structure Live (m:MS) (s:St):Prop where
  left:0<s.left
  fl:s.failed=false
  out:s.out=false
  regs:m.regs=s.regs
  arena:m.arena=s.arena
  reads:m.reads=s.reads
  writes:m.writes=s.writes
  ops:m.ops=s.ops
  peak:m.peak=s.peak
  viol:m.viol.foldl noteS []=s.viol
  steps:m.steps+s.left=200001
  vl:(m.viol.length:Int)≤m.steps
structure Rp (n:Nat) (m:MS) (s:St):Prop where
  len:m.regs.length=n
  ver:m.vb=m.vv
  st:0≤m.steps∧m.steps≤200001
  rel:(m.e=0∧Live m s)∨(m.e=3∧s.left≤0)∨(m.e=22∧0<s.left∧s.failed=true∧m.at_=s.at_)
variable {n A:Nat} {c:Int} {m:MS} {s:St} {x:Ins}
theorem Live.okM (h:Live m s) (hg:Gd n A c s) (hc:c≤1000000) (hn:n≤1000000) (hA:A≤1048576) (hv:m.vb=m.vv):OkM n A m:=by
  have hs:=hg.sum
  have hp:=hg.pos
  have hk:=hg.peak
  have h1:=h.steps
  have h2:=h.left
  have h3:=h.vl
  refine ⟨by rw [h.regs];exact hg.regs,by rw [h.arena];exact hg.arena,fun i=>by rw [h.regs];exact hg.gt i,fun i=>by rw [h.arena];exact hg.word i,?_,?_,by omega,hn,hA,hv⟩
  ·rw [h.reads,h.writes,h.ops,h.peak];omega
  ·rw [h.reads,h.writes,h.ops,h.peak];omega
theorem Rp.step (h:Rp n m s) (hl:Live m s) (he:m.e=0):Rp n (stepM m) (tick s)∧((stepM m).e=0→Live (stepM m) (tick s))∧((stepM m).regs=m.regs):=by
  obtain ⟨q1,q2,q3,q4,q5,q6,q7,q8,q9,q10,q11,q12⟩:=hl
  obtain ⟨h1,h2,h3,_⟩:=h
  unfold stepM failM
  split
  ·rename_i hc
   simp only [he,if_true]
   exact ⟨⟨h1,h2,by simp only;omega,.inr (.inl ⟨rfl,by simp only [tick];omega⟩)⟩,fun e=>(by cases e),trivial⟩
  ·rename_i hc
   have L:Live {m with steps:=m.steps+1} (tick s):=⟨by simp only [tick];omega,q2,q3,q4,q5,q6,q7,q8,q9,q10,by simp only [tick];omega,by simp only;omega⟩
   exact ⟨⟨h1,h2,by simp only;omega,.inl ⟨he,L⟩⟩,fun _=>L,rfl⟩
theorem Rp.stop (h:Rp n m s) (he: ¬ m.e=0):stpS s=true:=by
  rcases h.rel with q|q|q
  ·exact absurd q.1 he
  ·simp [stpS,q.2]
  ·simp [stpS,q.2.2.1]
theorem Live.go (h:Live m s):stpS s=false:=by
  simp only [stpS,h.fl,h.out,Bool.or_false,decide_eq_false_iff_not]
  have:=h.left;omega
def plainS (x:Ins) (m:MS):MS×Bool:=
  if x.code=1 then (putM m x.a x.b,true)
  else if x.code=2 then (putM m x.a (gt m.regs x.b+x.d*gt m.regs x.c),inMc (gt m.regs x.b+x.d*gt m.regs x.c))
  else if x.code=3 then (putM m x.a (minI (gt m.regs x.b) (gt m.regs x.c)),true)
  else if x.code=4 then (putM m x.a (maxI (gt m.regs x.b) (gt m.regs x.c)),true)
  else if x.code=5 then (match El.applyS x.prim ((readsS x).map (gt m.regs)) with
    |none=>({putM m x.a 0 with ops:=m.ops+1},false)
    |some v=>({putM m x.a v with ops:=m.ops+1},true))
  else if x.code=6 then (if 0≤gt m.regs x.b∧gt m.regs x.b<m.arena.length then ({putM m x.a (gt m.arena (gt m.regs x.b)) with reads:=m.reads+1},true) else (m,false))
  else if x.code=7 then (if (0≤gt m.regs x.a∧gt m.regs x.a<m.arena.length)∧vld sInt (gt m.regs x.b)=true then
    ({m with arena:=m.arena.set (gt m.regs x.a).toNat (gt m.regs x.b),writes:=m.writes+1,peak:=maxI m.peak (gt m.regs x.a+1)},true) else (m,false))
  else if x.code=14 then (putM m x.a (El.w32 (gt m.regs x.b)),true)
  else if x.code=15 then ({m with writes:=m.writes+1},true)
  else if x.code=8 then ({putM m x.a 0 with reads:=m.reads+1},true)
  else if x.code=9 then (if gt m.regs x.b=0 then ({m with viol:=m.viol++[x.a],vv:=m.vv+1,vb:=m.vv+1},true) else (m,true))
  else (m,true)
structure Aft (n:Nat) (x:Ins) (m:MS) (s:St):Prop where
  len:(plainS x m).1.regs.length=n
  ver:(plainS x m).1.vb=(plainS x m).1.vv
  st:(plainS x m).1.steps=m.steps
  e:(plainS x m).1.e=m.e
  ok:(simpleS x s).failed= !(plainS x m).2
  left:(simpleS x s).left=s.left
  live:(plainS x m).2=true→(simpleS x s).out=false∧(plainS x m).1.regs=(simpleS x s).regs∧(plainS x m).1.arena=(simpleS x s).arena∧(plainS x m).1.reads=(simpleS x s).reads∧(plainS x m).1.writes=(simpleS x s).writes∧(plainS x m).1.ops=(simpleS x s).ops∧
    (plainS x m).1.peak=(simpleS x s).peak∧(plainS x m).1.viol.foldl noteS []=(simpleS x s).viol∧(plainS x m).1.viol.length≤m.viol.length+1
theorem plain_simple (h:Live m s) (hn:m.regs.length=n) (hv:m.vb=m.vv):Aft n x m s:=by
  obtain ⟨R,A,V,vv,vb,rd,wr,op,pk,st,at_,e⟩:=m
  obtain ⟨R',A',rd',wr',op',pk',V',l',f',at',o'⟩:=s
  obtain ⟨q1,q2,q3,q4,q5,q6,q7,q8,q9,q10,q11,q12⟩:=h
  simp only at q1 q2 q3 q4 q5 q6 q7 q8 q9 q10 q11 q12 hn hv
  subst q2 q3 q4 q5 q6 q7 q8 q9 q10 hv
  have hp:∀ i v,(R.set i v).length=n:=fun i v=>by simp [hn]
  by_cases c1:x.code=1
  ·constructor<;>simp [plainS,simpleS,c1,putM,St.put,hn]
  by_cases c2:x.code=2
  ·cases hi:inMc (gt R x.b+x.d*gt R x.c)<;>(constructor<;>simp [plainS,simpleS,c2,putM,St.put,hn,hi])
  by_cases c3:x.code=3
  ·constructor<;>simp [plainS,simpleS,c3,putM,St.put,hn]
  by_cases c4:x.code=4
  ·constructor<;>simp [plainS,simpleS,c4,putM,St.put,hn]
  by_cases c5:x.code=5
  ·cases hi:El.applyS x.prim ((readsS x).map (gt R))<;>(constructor<;>simp [plainS,simpleS,c5,putM,St.put,hn,hi])
  by_cases c6:x.code=6
  ·by_cases hi:0≤gt R x.b∧gt R x.b<A.length<;>(constructor<;>simp [plainS,simpleS,c6,putM,St.put,hn,hi])
  by_cases c7:x.code=7
  ·by_cases hi:(0≤gt R x.a∧gt R x.a<A.length)∧vld sInt (gt R x.b)=true<;>(constructor<;>simp [plainS,simpleS,c7,putM,St.put,hn,hi])
  by_cases c14:x.code=14
  ·constructor<;>simp [plainS,simpleS,c14,putM,St.put,hn]
  by_cases c15:x.code=15
  ·constructor<;>simp [plainS,simpleS,c15,putM,St.put,hn]
  by_cases c8:x.code=8
  ·constructor<;>simp [plainS,simpleS,c8,putM,St.put,hn]
  by_cases c9:x.code=9
  ·by_cases hi:gt R x.b=0<;>(constructor<;>simp [plainS,simpleS,c9,putM,St.put,hn,hi])
  ·constructor<;>simp [plainS,simpleS,c1,c2,c3,c4,c5,c6,c7,c8,c9,c14,c15,hn]
theorem Rp.plain (h:Rp n m s) (hl:Live m s) (he:m.e=0) (hvl:(m.viol.length:Int)+1≤m.steps) (i:Int):
    Rp n (if (plainS x m).2=true then (plainS x m).1 else failM (plainS x m).1 i 22) (if (simpleS x s).failed=true then {simpleS x s with at_:=i} else simpleS x s):=by
  have ha:=plain_simple (x:=x) hl h.len h.ver
  have hst:=h.st
  have q1:=hl.left
  have q2:=hl.steps
  have q4:=ha.left
  have q5:=ha.st
  cases hq:(plainS x m).2 with
  |true=>
   have hf:(simpleS x s).failed=false:=by rw [ha.ok,hq];rfl
   rw [if_pos rfl,if_neg (by rw [hf];simp)]
   obtain ⟨k1,k2,k3,k4,k5,k6,k7,k8,k9⟩:=ha.live hq
   exact ⟨ha.len,ha.ver,by rw [q5];exact hst,.inl ⟨ha.e.trans he,⟨by omega,hf,k1,k2,k3,k4,k5,k6,k7,k8,by omega,by omega⟩⟩⟩
  |false=>
   have hf:(simpleS x s).failed=true:=by rw [ha.ok,hq];rfl
   have h0:(plainS x m).1.e=0:=ha.e.trans he
   rw [if_neg (by simp),if_pos hf]
   unfold failM
   rw [if_pos h0]
   exact ⟨ha.len,ha.ver,by show 0≤(plainS x m).1.steps∧(plainS x m).1.steps≤200001;rw [q5];exact hst,.inr (.inr ⟨rfl,by show 0<(simpleS x s).left;omega,hf,rfl⟩)⟩
end Go.Proofs.YtnlimcijgpaegaaGreat.Mm

namespace Go.Proofs.YtnlimcijgpaegaaGreat.Mm
open Go.Proofs.YtnlimcijgpaegaaGreat
open Go Go.Fw Bm
set_option maxRecDepth 20000
section
variable {x y:AObj} {B:Prg} {mt:List Int} {m:MS} {s:St} {n A:Nat} {X:Ins}
abbrev oMm4_0:List (Nat×Nat):=[(0,2),(1,2),(2,2),(3,2),(4,2),(5,2),(6,2),(7,2),(8,0)]
abbrev oMm4_1:List (Nat×Nat):=[(0,2),(1,1),(2,1),(3,2),(4,2),(5,2),(6,2),(7,2),(8,2),(9,2),(10,0)]
attribute [go_sem] oMm4_0 oMm4_1
theorem clN1 {o:Nat} {l:List AV}:∀ (σ:List AObj) (z:AV),closeL1 true σ ([]++z:: .ref o 0::l)=none:=fun σ z=>by
  have h:closeL1 true σ (.ref o 0::l)=none:=rfl
  show (match close1 true σ z,closeL1 true σ (.ref o 0::l) with
    |some y,some ys=>some (y::ys)
    |_,_=>none)=none
  rw [h]
  cases close1 true σ z<;>rfl
theorem clN2 {o:Nat} {l:List AV}:∀ (σ:List AObj) (z:AV),closeL1 true σ ([.ref o 0]++z::l)=none:=fun σ z=>rfl
theorem tab_ok (h:OkM n A m) (hx:Regs X n) (hr:∀ r∈readsS X,0≤r∧r<n) (hc:X.code≠10∧X.code≠11∧X.code≠12∧X.code≠13):∃ (f:FuncId) (xs ys:List AV),tabL.getD X.code.toNat .top= .fn (.func f) xs ys∧fok Tryz.prog f=true∧(f≠75∧f≠76∧f≠77∧f≠78)∧(0≤X.code∧X.code<16)∧(∀ σ z,closeL1 true σ (xs++z::ys)=none)∧
    ∀ (ex:List AObj) (k:AV→List AObj→Prop),k (.lit (.bool (plainS X m).2)) (robj x y B mt (plainS X m).1 ex)→EC Tryz.prog f (xs++opV X::ys) (robj x y B mt m ex) k:=by
  have hw:=hx.w
  have xa:=hx.a
  have xb:=hx.b
  have xc:=hx.c
  have mA:maxA=1048576:=rfl
  rcases hx.code with e|e|e|e|e|e|e|e|e|e|e|e|e|e|e
  ·refine ⟨148,[],[.ref 11 0,.ref 10 0],by rw [e];rfl,fk148,by decide,by omega,by first|exact clN1|exact clN2,fun ex k hk=>?_⟩
   have q:plainS X m=(putM m X.a X.b,true):=by unfold plainS;rw [if_pos e]
   rw [q] at hk
   exact setF_ec (jm:=10) (jv:=11) (f:=116) (ys:=[]) (v:=X.b) fk116 (fun ex k h=>p1_ec h) (.inr rfl) h (hw (by rw [e];rfl)) (fun _=>rfl) (fun _=>rfl) hk
  ·refine ⟨117,[.ref 5 0],[],by rw [e];rfl,fk117,by decide,by omega,by first|exact clN1|exact clN2,fun ex k hk=>?_⟩
   have q:plainS X m=(putM m X.a (gt m.regs X.b+X.d*gt m.regs X.c),inMc (gt m.regs X.b+X.d*gt m.regs X.c)):=by unfold plainS;rw [if_neg (by omega),if_pos e]
   rw [q] at hk
   exact add_ec h (hw (by rw [e];rfl)) (xb (by omega)) (xc (by omega)) (by have:=hx.k2 e;omega) hk
  ·refine ⟨148,[],[.ref 13 0,.ref 12 0],by rw [e];rfl,fk148,by decide,by omega,by first|exact clN1|exact clN2,fun ex k hk=>?_⟩
   have q:plainS X m=(putM m X.a (minI (gt m.regs X.b) (gt m.regs X.c)),true):=by unfold plainS;rw [if_neg (by omega),if_neg (by omega),if_pos e]
   rw [q] at hk
   exact setF_ec (jm:=12) (jv:=13) (f:=118) (ys:=[.ref 8 0]) (v:=minI (gt m.regs X.b) (gt m.regs X.c)) fk118 (fun ex k h'=>p2_ec h (xb (by omega)) (xc (by omega)) h') (.inl fun _=>rfl) h (hw (by rw [e];rfl)) (fun _=>rfl) (fun _=>rfl) hk
  ·refine ⟨148,[],[.ref 15 0,.ref 14 0],by rw [e];rfl,fk148,by decide,by omega,by first|exact clN1|exact clN2,fun ex k hk=>?_⟩
   have q:plainS X m=(putM m X.a (maxI (gt m.regs X.b) (gt m.regs X.c)),true):=by unfold plainS;rw [if_neg (by omega),if_neg (by omega),if_neg (by omega),if_pos e]
   rw [q] at hk
   exact setF_ec (jm:=14) (jv:=15) (f:=119) (ys:=[.ref 8 0]) (v:=maxI (gt m.regs X.b) (gt m.regs X.c)) fk119 (fun ex k h'=>p3_ec h (xb (by omega)) (xc (by omega)) h') (.inl fun _=>rfl) h (hw (by rw [e];rfl)) (fun _=>rfl) (fun _=>rfl) hk
  ·refine ⟨120,[.ref 5 0],[],by rw [e];rfl,fk120,by decide,by omega,by first|exact clN1|exact clN2,fun ex k hk=>?_⟩
   have q:plainS X m=(match El.applyS X.prim ((readsS X).map (gt m.regs)) with
     |none=>({putM m X.a 0 with ops:=m.ops+1},false)
     |some v=>({putM m X.a v with ops:=m.ops+1},true)):=by unfold plainS;rw [if_neg (by omega),if_neg (by omega),if_neg (by omega),if_neg (by omega),if_pos e];try rfl
   rw [q] at hk
   exact prim_ec h e (hw (by rw [e];rfl)) hr (fun v hv=>by rw [hv] at hk;exact hk) (fun hv=>by rw [hv] at hk;exact hk)
  ·refine ⟨121,[.ref 5 0],[],by rw [e];rfl,fk121,by decide,by omega,by first|exact clN1|exact clN2,fun ex k hk=>?_⟩
   have q:plainS X m=if 0≤gt m.regs X.b∧gt m.regs X.b<m.arena.length then ({putM m X.a (gt m.arena (gt m.regs X.b)) with reads:=m.reads+1},true) else (m,false):=by
     unfold plainS;rw [if_neg (by omega),if_neg (by omega),if_neg (by omega),if_neg (by omega),if_neg (by omega),if_pos e]
   rw [q] at hk
   exact load_ec h (hw (by rw [e];rfl)) (xb (by omega)) (fun hv=>by rw [if_pos hv] at hk;exact hk) (fun hv=>by rw [if_neg hv] at hk;exact hk)
  ·refine ⟨122,[.ref 5 0],[],by rw [e];rfl,fk122,by decide,by omega,by first|exact clN1|exact clN2,fun ex k hk=>?_⟩
   have q:plainS X m=if (0≤gt m.regs X.a∧gt m.regs X.a<m.arena.length)∧vld sInt (gt m.regs X.b)=true then
     ({m with arena:=m.arena.set (gt m.regs X.a).toNat (gt m.regs X.b),writes:=m.writes+1,peak:=maxI m.peak (gt m.regs X.a+1)},true) else (m,false):=by
     unfold plainS;rw [if_neg (by omega),if_neg (by omega),if_neg (by omega),if_neg (by omega),if_neg (by omega),if_neg (by omega),if_pos e]
   rw [q] at hk
   exact store_ec h (xa (by omega)) (xb (by omega)) (fun hv=>by rw [if_pos hv] at hk;exact hk) (fun hv=>by rw [if_neg hv] at hk;exact hk)
  ·refine ⟨123,[],[.ref 8 0],by rw [e];rfl,fk123,by decide,by omega,by first|exact clN1|exact clN2,fun ex k hk=>?_⟩
   have q:plainS X m=({putM m X.a 0 with reads:=m.reads+1},true):=by
     unfold plainS;rw [if_neg (by omega),if_neg (by omega),if_neg (by omega),if_neg (by omega),if_neg (by omega),if_neg (by omega),if_neg (by omega),if_neg (by omega),if_neg (by omega),if_pos e]
   rw [q] at hk
   exact miss_ec h (hw (by rw [e];rfl)) hk
  ·refine ⟨124,[.ref 5 0],[],by rw [e];rfl,fk124,by decide,by omega,by first|exact clN1|exact clN2,fun ex k hk=>?_⟩
   have q:plainS X m=if gt m.regs X.b=0 then ({m with viol:=m.viol++[X.a],vv:=m.vv+1,vb:=m.vv+1},true) else (m,true):=by
     unfold plainS;rw [if_neg (by omega),if_neg (by omega),if_neg (by omega),if_neg (by omega),if_neg (by omega),if_neg (by omega),if_neg (by omega),if_neg (by omega),if_neg (by omega),if_neg (by omega),if_pos e]
   rw [q] at hk
   exact check_ec h (xb (by omega)) (fun hv=>by rw [if_pos hv] at hk;exact hk) (fun hv=>by rw [if_neg hv] at hk;exact hk)
  ·exact absurd e hc.1
  ·exact absurd e hc.2.1
  ·exact absurd e hc.2.2.1
  ·exact absurd e hc.2.2.2
  ·refine ⟨148,[],[.ref 17 0,.ref 16 0],by rw [e];rfl,fk148,by decide,by omega,by first|exact clN1|exact clN2,fun ex k hk=>?_⟩
   have q:plainS X m=(putM m X.a (El.w32 (gt m.regs X.b)),true):=by
     unfold plainS;rw [if_neg (by omega),if_neg (by omega),if_neg (by omega),if_neg (by omega),if_neg (by omega),if_neg (by omega),if_neg (by omega),if_pos e]
   rw [q] at hk
   exact setF_ec (jm:=16) (jv:=17) (f:=125) (ys:=[.ref 8 0]) (v:=El.w32 (gt m.regs X.b)) fk125 (fun ex k h'=>p5_ec h (xb (by omega)) h') (.inl fun _=>rfl) h (hw (by rw [e];rfl)) (fun _=>rfl) (fun _=>rfl) hk
  ·refine ⟨127,[],[.ref 8 0],by rw [e];rfl,fk127,by decide,by omega,by first|exact clN1|exact clN2,fun ex k hk=>?_⟩
   have q:plainS X m=({m with writes:=m.writes+1},true):=by
     unfold plainS;rw [if_neg (by omega),if_neg (by omega),if_neg (by omega),if_neg (by omega),if_neg (by omega),if_neg (by omega),if_neg (by omega),if_neg (by omega),if_pos e]
   rw [q] at hk
   exact skip_ec h hk
end
def BlkM (x y:AObj) (B:Prg) (mt:List Int) (n A:Nat) (c:Int) (N:Nat):Prop:=∀ (i to:Int) (m:MS) (s:St) (ex:List AObj) (k:AV→List AObj→Prop),to - i≤N→Cl B mt i to→Fre B mt i to→(m.e=0→Gd n A c s)→Rp n m s→
  (∀ m' s',Runs B mt [] (.blk i to) s s'→(m'.e=0→Gd n A c s')→Rp n m' s'→k (.tup []) (robj x y B mt m' ex))→EC Tryz.prog 77 [.lit (.int .i64 i),.lit (.int .i64 to),.ref 7 0,.ref 20 0,.ref 19 0,.ref 18 0] (robj x y B mt m ex) k
section
variable {x y:AObj} {B:Prg} {mt:List Int} {n A:Nat} {c:Int} {N:Nat} {m:MS} {s:St} {ex:List AObj} {σ:List AObj} {args:List AV} {k:AV→List AObj→Prop} {i to:Int}
noncomputable def ecnBk (h:BlkM x y B mt n A c N):ECon Tryz.prog where
  f:=77
  c:=fun args σ k=>∃ (i to:Int) (m:MS) (s:St) (ex:List AObj),args=[.lit (.int .i64 i),.lit (.int .i64 to),.ref 7 0,.ref 20 0,.ref 19 0,.ref 18 0]∧σ=robj x y B mt m ex∧to - i≤N∧Cl B mt i to∧Fre B mt i to∧(m.e=0→Gd n A c s)∧Rp n m s∧
   ∀ m' s',Runs B mt [] (.blk i to) s s'→(m'.e=0→Gd n A c s')→Rp n m' s'→k (.tup []) (robj x y B mt m' ex)
  ok:=by
   rintro _ _ k ⟨i,to,m,s,ex,rfl,rfl,h1,h2,h3,h4,h5,h6⟩
   exact h i to m s ex k h1 h2 h3 h4 h5 h6
  fk:=fk77
theorem ecnBk_f {h:BlkM x y B mt n A c N}:(ecnBk h).f=77:=rfl
theorem ecnBk_i {h:BlkM x y B mt n A c N} (s:St) (ha:args=[.lit (.int .i64 i),.lit (.int .i64 to),.ref 7 0,.ref 20 0,.ref 19 0,.ref 18 0]) (hσ:σ=robj x y B mt m ex) (h1:to - i≤N) (h2:Cl B mt i to) (h3:Fre B mt i to) (h4:m.e=0→Gd n A c s) (h5:Rp n m s)
    (h6:∀ m' s',Runs B mt [] (.blk i to) s s'→(m'.e=0→Gd n A c s')→Rp n m' s'→k (.tup []) (robj x y B mt m' ex)):(ecnBk h).c args σ k:=⟨i,to,m,s,ex,ha,hσ,h1,h2,h3,h4,h5,h6⟩
noncomputable def ecn76:ECon Tryz.prog where
  f:=76
  c:=fun args σ k=>∃ (x y:AObj) (B:Prg) (mt:List Int) (m:MS) (ex:List AObj),args=[.ref 5 0]∧σ=robj x y B mt m ex∧(0≤m.steps∧m.steps≤1000000)∧k (.tup []) (robj x y B mt (stepM m) ex)
  ok:=by
   rintro _ _ k ⟨x,y,B,mt,m,ex,rfl,rfl,h1,h2⟩
   exact step_ec h1 h2
  fk:=fk76
theorem ecn76_f:ecn76.f=76:=rfl
theorem ecn76_i (hσ:σ=robj x y B mt m ex) (h1:0≤m.steps∧m.steps≤1000000) (h:k (.tup []) (robj x y B mt (stepM m) ex)):ecn76.c [.ref 5 0] σ k:=⟨x,y,B,mt,m,ex,rfl,hσ,h1,h⟩
attribute [go_sem] ecnBk_f ecn76_f
theorem le_ro1 {n0:Nat} {f g:Nat→AV} {u:AObj} (hn:n0≤ex.length+21) (hb:BdS (ex.length+21) (robj x y B mt m ex)) (hg:∀ j,low1 (ex.length+21) (g j)=true) (h:∀ j,LeR (f j) (g j)):Le n0 ⟨f,robj x y B mt m (ex++[u])⟩ ⟨g,robj x y B mt m ex⟩:=
  le_backB (m:=[u]) rfl hn hb hg h
theorem look_nil {i:Int} {s:St}:Bm.look [] i s=s:=rfl
theorem Rp.putt (h:Rp n m s) {i v:Int} (hl:m.e=0→Live m s):Rp n (putM m i v) (s.put i v):=by
  refine ⟨by simp [putM,h.len],h.ver,h.st,?_⟩
  rcases h.rel with q|q|q
  ·have L:=q.2
   exact .inl ⟨q.1,⟨L.left,L.fl,L.out,by simp only [putM,St.put];rw [L.regs],L.arena,L.reads,L.writes,L.ops,L.peak,L.viol,L.steps,L.vl⟩⟩
  ·exact .inr (.inl q)
  ·exact .inr (.inr q)
theorem Rp.live (h:Rp n m s) (he:m.e=0):Live m s:=by
  rcases h.rel with q|q|q
  ·exact q.2
  ·exact absurd q.1 (by rw [he];decide)
  ·exact absurd q.1 (by rw [he];decide)
noncomputable def M4 (hB:BlkM x y B mt n A c N):Env:=envJ (P:=Tryz.prog) jkR zer (fun _=>false) (fun _=>false) [] [ecn76,ecnBk hB]
theorem M4_ok (hB:BlkM x y B mt n A c N):EnvOk Tryz.prog (M4 hB):=envJOk zer_ok
structure Lq (B:Prg) (mt:List Int) (n A:Nat) (c:Int) (i lo hi:Int) (s0:St) where
  k:Int
  m:MS
  s:St
  hl:lo≤k
  hk:k≤hi+1048576∨k=lo
  hg:m.e=0→Gd n A c s
  hr:Rp n m s
  hv:∀ s',Runs B mt [] (.lop i k hi) s s'→Runs B mt [] (.lop i lo hi) s0 s'
set_option maxHeartbeats 8000000 in
theorem lop_ec (hK:Wk B mt n) (hF0:Fre B mt 0 B.ops.length) (hcb:c≤1000000) (hA:A≤1048576) (hB:BlkM x y B mt n A c N) (h1:to - i≤N+1) (h2:Cl B mt i to) (hi:i<to) (ho:(B.op i).code=10) (he:m.e=0) (hg:Gd n A c s) (hr:Rp n m s)
    (hk:∀ m' s',Runs B mt [] (.lop i (gt s.regs (B.op i).b) (gt s.regs (B.op i).c)) s s'→(m'.e=0→Gd n A c s')→Rp n m' s'→k (.tup []) (robj x y B mt m' ex)):
    EC Tryz.prog 75 [.lit (.int .i64 i),opV (B.op i),.ref 7 0,.ref 19 0] (robj x y B mt m ex) k:=by
  refine ec_fin fun hbd=>?_
  rw [ro_len] at hbd
  have hL:=hK.len
  have hn:=hK.n
  have hml:=hK.mtl
  have h20:=h2.1
  have h21:=h2.2.1
  have hin:=hK.nest.inner h20 (by omega) (.inl ho)
  have hfi:=hF0.inner hK.nest h20 (by omega) (.inl ho)
  obtain ⟨k1,k2,k3,k4⟩:=hK.nest.at h20 (show i<B.ops.length by omega) (.inl ho)
  have k5:=h2.2.2 i (Int.le_refl _) hi (.inl ho)
  have hrg:=right_regs (hK.rights i h20 (by omega))
  have hra:=hrg.w (by rw [ho];rfl)
  have hrb:=hrg.b (by omega)
  have hrc:=hrg.c (by omega)
  have hrd:=hrg.k10 ho
  have L0:=hr.live he
  have hrl:=hr.len
  have vb:=hg.gt (B.op i).b
  have vc:=hg.gt (B.op i).c
  rw [←L0.regs] at vb vc hk
  have mc:maxC=1099511627776:=rfl
  have ma:maxA=1048576:=rfl
  have gm:mt.getD i.toNat 0=gt mt i:=rfl
  have gb:m.regs.getD (B.op i).b.toNat 0=gt m.regs (B.op i).b:=rfl
  have gc:m.regs.getD (B.op i).c.toNat 0=gt m.regs (B.op i).c:=rfl
  have rT:=fun {k hh:Int} {s2 s3 s':St} hc hs hj hk=>runs_turn (B:=B) (mt:=mt) (seen:=[]) (i:=i) (n:=k) (hi:=hh) (s:=s2) (s':=s3) (s'':=s') ⟨hc,hs⟩ hj hk
  generalize hXX:B.op i=X at*
  obtain ⟨q,p,a,b,cc,d⟩:=X
  simp only at ho hra hrb hrc hrd vb vc gb gc hk rT
  generalize gt m.regs b=lo at*
  generalize gt m.regs cc=hh at*
  generalize hM:gt mt i=M at*
  simp only [opV_mk]
  refine ecR (M4_ok hB) (kp75) Tryz.func75 [] (h:=fun KF=>?_)
  unfold M4
  repeat' first|(with_reducible first|(refine nx ?_;intros)|refine t_br (fun hc=>?_) fun hc=>?_|apply And.intro|intro vr)|exact kp_fls|exact kp_ro1|exact kpd|((with_reducible first|refine ny ?_|refine t_kLF ?_ ?_|refine t_dO 6 (fun _=>false) oMm4_0 fun K=>?_|refine t_dO 7 (fun _=>false) oMm4_1 fun K=>?_|refine t_dwh (h:=fun K KL=>?_));intros;simp only [go_sem,kp75,geff,gb,gc,yes])
  all_goals try exact nd
  refine t_loopF (ι:=Lq B mt n A c i lo hh s) (fun q=>[(8,.lit (.int .i64 q.k))]) (fun q'=>robj x y B mt q'.m (ex++[.box 56 [.lit (.int .i64 q),.lit (.string p),.lit (.int .i64 a),.lit (.int .i64 b),.lit (.int .i64 cc),.lit (.int .i64 d)]])) (fun q=>(hh - q.k).toNat) ⟨lo,m,s,Int.le_refl _,.inr rfl,fun _=>hg,hr,fun _ h=>h⟩ ?_ ?_
  ·exact lf
  rintro ⟨k0,m2,s2,hl2,hk2,hg2,hr2,hv2⟩ K0
  have hrl2:=hr2.len
  have hst2:=hr2.st
  rcases Int.lt_or_le k0 hh with hc2|hc2
  ·have g5:decide (k0<hh)=true:=decide_eq_true hc2
   by_cases he2:m2.e=0
   ·have g6:decide (m2.e=0)=true:=decide_eq_true he2
    have L2:=hr2.live he2
    obtain ⟨R1,R2,R3⟩:=hr2.step L2 he2
    have Rq:=R1.putt (i:=a) (v:=k0) R2
    have hgq:=(hg2 he2).turn L2.go (i:=a) (v:=k0) (by omega)
    have hrl3:(stepM m2).regs.length=n:=by rw [R3];exact hrl2
    repeat' first|(with_reducible first|(refine nx ?_;intros)|refine t_br (fun hc=>?_) fun hc=>?_|apply And.intro|intro vr)|exact kp_fls|exact kp_ro1|exact kpd|((with_reducible first|refine ny ?_|refine t_kLF ?_ ?_|refine t_dO 6 (fun _=>false) oMm4_0 fun K=>?_|refine t_dO 7 (fun _=>false) oMm4_1 fun K=>?_|refine t_dwh (h:=fun K KL=>?_));intros;simp only [go_sem,kp75,geff,g5,g6,yes])
    all_goals try exact nd
    refine ecn76_i rfl (by omega) ?_
    generalize stepM m2=m3 at*
    repeat' first|(with_reducible first|(refine nx ?_;intros)|refine t_br (fun hc=>?_) fun hc=>?_|apply And.intro|intro vr)|exact kp_fls|exact kp_ro1|exact kpd|((with_reducible first|refine ny ?_|refine t_kLF ?_ ?_|refine t_dO 6 (fun _=>false) oMm4_0 fun K=>?_|refine t_dO 7 (fun _=>false) oMm4_1 fun K=>?_|refine t_dwh (h:=fun K KL=>?_));intros;simp only [go_sem,kp75,geff,gm,hM,yes])
    all_goals try exact nd
    refine ecnBk_i ((tick s2).put a k0) rfl rfl (by omega) hin hfi (fun _=>hgq) Rq fun m4 s4 hr4 hg4 h4=>?_
    repeat' first|(with_reducible first|(refine nx ?_;intros)|refine t_br (fun hc=>?_) fun hc=>?_|apply And.intro|intro vr)|exact kp_fls|exact kp_ro1|exact kpd|((with_reducible first|refine ny ?_|refine t_kLF ?_ ?_|refine t_dO 6 (fun _=>false) oMm4_0 fun K=>?_|refine t_dO 7 (fun _=>false) oMm4_1 fun K=>?_|refine t_dwh (h:=fun K KL=>?_));intros;simp only [go_sem,kp75,geff,yes])
    all_goals try exact nd
    have hw:(hh - (k0+d)).toNat<(hh - k0).toNat:=by omega
    refine ⟨⟨k0+d,m4,s4,by omega,.inl (by omega),hg4,h4,fun s' h=>hv2 _ (rT hc2 L2.go hr4 h)⟩,hw,?_⟩
    exact lf
   ·have g6:decide (m2.e=0)=false:=decide_eq_false he2
    repeat' first|(with_reducible first|(refine nx ?_;intros)|refine t_br (fun hc=>?_) fun hc=>?_|apply And.intro|intro vr)|exact kp_fls|exact kp_ro1|exact kpd|((with_reducible first|refine ny ?_|refine t_kLF ?_ ?_|refine t_dO 6 (fun _=>false) oMm4_0 fun K=>?_|refine t_dO 7 (fun _=>false) oMm4_1 fun K=>?_|refine t_dwh (h:=fun K KL=>?_));intros;simp only [go_sem,kp75,geff,g5,g6,yes])
    all_goals try exact nd
    all_goals (refine nl ?_;simp only [go_sem,finE])
    exact ⟨_,_,rfl,LeA.refl _,ro_bds (by omega) hbd,hk m2 s2 (hv2 _ (runs_lend (fun q=>by rw [hr2.stop he2] at q;cases q.2))) hg2 hr2⟩
  ·have g5:decide (k0<hh)=false:=decide_eq_false (by omega)
   repeat' first|(with_reducible first|(refine nx ?_;intros)|refine t_br (fun hc=>?_) fun hc=>?_|apply And.intro|intro vr)|exact kp_fls|exact kp_ro1|exact kpd|((with_reducible first|refine ny ?_|refine t_kLF ?_ ?_|refine t_dO 6 (fun _=>false) oMm4_0 fun K=>?_|refine t_dO 7 (fun _=>false) oMm4_1 fun K=>?_|refine t_dwh (h:=fun K KL=>?_));intros;simp only [go_sem,kp75,geff,g5,yes])
   all_goals try exact nd
   all_goals (refine nl ?_;simp only [go_sem,finE])
   exact ⟨_,_,rfl,LeA.refl _,ro_bds (by omega) hbd,hk m2 s2 (hv2 _ (runs_lend (fun q=>by omega))) hg2 hr2⟩
end
end Go.Proofs.YtnlimcijgpaegaaGreat.Mm

namespace Go.Fw
open Go
variable {P:Program}
structure CallU (P:Program) (f:FuncId) (args:List AV) (σ:List AObj) (k:AV→List AObj→Prop):Prop where
  fk:fok P f=true
  ec:EC P f args σ k
def envU (P:Program) (jk:TypeId→AV) (zer:TypeId→AV) (wr eg:Nat→Bool) (ps:List (PCon P)):Env:=⟨zer,wr,eg,jk,pcL ps,fun f args σ k=>CallU P f args σ k,fun _ _=>False⟩
theorem envUOk {jk:TypeId→AV} {zer:TypeId→AV} {wr eg:Nat→Bool} {ps:List (PCon P)} (hz:∀ t v,zeroT P t=some v→RC (fun _ _=>none) (zer t) v):EnvOk P (envU P jk zer wr eg ps) where
  zero:=hz
  pc:=(envJOk (jk:=jk) (wr:=wr) (eg:=eg) (ps:=ps) (es:=[]) hz).pc
  ec:=fun f args σ k h=>⟨h.fk,h.ec.xec⟩
section
variable {jk zer:TypeId→AV} {wr eg:Nat→Bool} {ps:List (PCon P)}
theorem envu_zero {t:TypeId}:(envU P jk zer wr eg ps).zero t=zer t:=rfl
theorem envu_wr {t:Nat}:(envU P jk zer wr eg ps).wr t=wr t:=rfl
theorem envu_eg {t:Nat}:(envU P jk zer wr eg ps).eg t=eg t:=rfl
theorem envu_jk {t:TypeId}:(envU P jk zer wr eg ps).jk t=jk t:=rfl
theorem envu_pc {f:FuncId} {args:List AV}:(envU P jk zer wr eg ps).pc f args=pcL ps f args:=rfl
theorem envu_ec {f:FuncId} {args:List AV} {σ:List AObj} {k:AV→List AObj→Prop}:(envU P jk zer wr eg ps).ec f args σ k=CallU P f args σ k:=rfl
end
attribute [go_sem] envu_zero envu_wr envu_eg envu_jk envu_pc envu_ec
end Go.Fw

namespace Go.Proofs.YtnlimcijgpaegaaGreat.Mm
open Go.Proofs.YtnlimcijgpaegaaGreat
open Go Go.Fw Bm
set_option maxRecDepth 20000
section
variable {x y:AObj} {B:Prg} {mt:List Int} {n A:Nat} {c:Int} {N:Nat} {m:MS} {s:St} {ex:List AObj} {σ:List AObj} {args:List AV} {k:AV→List AObj→Prop} {i to:Int}
abbrev oMm5_0:List (Nat×Nat):=[(0,2),(1,2),(2,2),(3,2),(4,2),(5,0),(6,1)]
attribute [go_sem] oMm5_0
noncomputable def M5:Env:=envU Tryz.prog jkR zer (fun _=>false) (fun _=>false) []
theorem M5_ok:EnvOk Tryz.prog M5:=envUOk zer_ok
theorem lop2 (hK:Wk B mt n) (hF0:Fre B mt 0 B.ops.length) (hcb:c≤1000000) (hA:A≤1048576) (hB:BlkM x y B mt n A c N) {X:Ins} (hX:B.op i=X) (h1:to - i≤N+1) (h2:Cl B mt i to) (hi:i<to) (ho:X.code=10) (he:m.e=0) (hg:Gd n A c s) (hr:Rp n m s)
    (hk:∀ m' s',Runs B mt [] (.lop i (gt s.regs X.b) (gt s.regs X.c)) s s'→(m'.e=0→Gd n A c s')→Rp n m' s'→k (.tup []) (robj x y B mt m' ex)):EC Tryz.prog 75 [.lit (.int .i64 i),opV X,.ref 7 0,.ref 19 0] (robj x y B mt m ex) k:=by
  subst hX
  exact lop_ec hK hF0 hcb hA hB h1 h2 hi ho he hg hr hk
theorem runs_tick (h1:i<to) (h2:stpS s=false) {s':St} (h:Runs B mt [] (.blk i to) s s'):s'.left≤s.left - 1:=by
  obtain ⟨F,hF⟩:=h
  have h:=hF (F+1) (by omega)
  rw [←h]
  simp only [exec]
  rw [if_pos ⟨h1,h2⟩]
  have e:(tick (Bm.look [] i s)).left=s.left - 1:=rfl
  split
  ·exact Int.le_trans (exec_left _ _ _) (Int.le_trans (exec_left _ _ _) (Int.le_of_eq e))
  ·split
   ·refine Int.le_trans (exec_left _ _ _) ?_
    split
    ·exact Int.le_trans (exec_left _ _ _) (Int.le_of_eq e)
    ·split
     ·exact Int.le_trans (exec_left _ _ _) (Int.le_of_eq e)
     ·exact Int.le_of_eq e
   ·refine Int.le_trans (exec_left _ _ _) ?_
    split
    ·show (simpleS _ _).left≤_;rw [simple_left];exact Int.le_of_eq e
    ·rw [simple_left];exact Int.le_of_eq e
structure Xq (B:Prg) (mt:List Int) (n A:Nat) (c:Int) (i0 to:Int) (s0:St) where
  i:Int
  m:MS
  s:St
  hi:i0≤i
  hu:i≤to∨i=i0
  hF:Fre B mt i to
  hg:m.e=0→Gd n A c s
  hr:Rp n m s
  hv:∀ s',Runs B mt [] (.blk i to) s s'→Runs B mt [] (.blk i0 to) s0 s'
set_option maxHeartbeats 8000000 in
theorem blk_step (hK:Wk B mt n) (hF0:Fre B mt 0 B.ops.length) (hcb:c≤1000000) (hA:A≤1048576) (hB:BlkM x y B mt n A c N):BlkM x y B mt n A c (N+1):=by
  intro i0 to m0 s0 ex k h1 h2 hF1 hg0 hr0 h5
  refine ec_fin fun hbd=>?_
  rw [ro_len] at hbd
  have hL:=hK.len
  have hn:=hK.n
  have hml:=hK.mtl
  have h20:=h2.1
  have h21:=h2.2.1
  refine ecR M5_ok (kp77) Tryz.func77 [] (h:=fun KF=>?_)
  unfold M5
  repeat' first|(with_reducible first|(refine nx ?_;intros)|refine t_br (fun hc=>?_) fun hc=>?_|apply And.intro|intro vr)|exact kp_fls|exact kpd|((with_reducible first|refine ny ?_|refine t_kLF ?_ ?_|refine t_dO 7 (fun _=>false) oMm5_0 fun K=>?_|refine t_dwh (h:=fun K KL=>?_));intros;simp only [go_sem,kp77,geff])
  all_goals try exact nd
  refine t_loopF (ι:=Xq B mt n A c i0 to s0) (fun q=>[(8,.lit (.int .i64 q.i))]) (fun q=>robj x y B mt q.m ex) (fun q=>(to - q.i).toNat) ⟨i0,m0,s0,Int.le_refl _,.inr rfl,hF1,hg0,hr0,fun _ h=>h⟩ ?_ ?_
  ·exact lf
  rintro ⟨i,m,s,hi,hu,hF,hg,hr,hv⟩ K0
  have hst:=hr.st
  have hrl:=hr.len
  rcases Int.lt_or_le i to with hit|hit
  ·have g3:decide (i<to)=true:=decide_eq_true hit
   by_cases he:m.e=0
   ·have g4:decide (m.e=0)=true:=decide_eq_true he
    have hcl:Cl B mt i to:=h2.next hi
    have L:=hr.live he
    have hst:=L.go
    obtain ⟨R1,R2,R3⟩:=hr.step L he
    have hvl:(stepM m).e=0→((stepM m).viol.length:Int)+1≤(stepM m).steps:=fun e=>by
      have:=L.vl
      unfold stepM failM at e ⊢
      split
      ·rename_i q;rw [if_pos q] at e;simp only [he,if_true] at e;cases e
      ·simp only;omega
    have hopd:B.ops.getD i.toNat nilI=B.op i:=rfl
    have hright:=hK.rights i (by omega) (by omega)
    have hrg:=right_regs hright
    have hrd:∀ r∈readsS (B.op i),0≤r∧r<n:=fun r hr=>reads_reg hright hr
    have hgT:Gd n A (c - 1) (tick s):=(hg he).tick (seen:=[]) hst i
    generalize hXX:B.op i=X at hopd hright hrg hrd
    have hX1:X.code=X.code:=rfl
    obtain ⟨q,p,a,b,cc,d⟩:=X
    by_cases he1:(stepM m).e=0
    ·have g5:decide ((stepM m).e=0)=true:=decide_eq_true he1
     have L1:=R2 he1
     have hvl:=hvl he1
     have hrl1:(stepM m).regs.length=n:=by rw [R3];exact hrl
     by_cases q10:q=10
     ·subst q10
      have ho:(B.op i).code=10:=by rw [hXX]
      obtain ⟨k1,k2,k3,k4⟩:=hK.nest.at (show 0≤i by omega) (by omega) (.inl ho)
      have k5:=hcl.2.2 i (Int.le_refl _) hit (.inl ho)
      have hFn:=hF.for_ hK.nest (show 0≤i by omega) (by omega) ho
      have gm:mt.getD i.toNat 0=gt mt i:=rfl
      have rF:=fun {s2 s':St} hj hk=>runs_for (B:=B) (mt:=mt) (seen:=[]) (i:=i) (to:=to) (s:=s) (s':=s2) (s'':=s') ⟨hit,hst⟩ ho hj hk
      rw [look_nil,hXX] at rF
      repeat' first|(with_reducible first|(refine nx ?_;intros)|refine t_br (fun hc=>?_) fun hc=>?_|apply And.intro|intro vr)|exact kp_fls|exact kpd|((with_reducible first|refine ny ?_|refine t_kLF ?_ ?_|refine t_dO 7 (fun _=>false) oMm5_0 fun K=>?_|refine t_dwh (h:=fun K KL=>?_));intros;simp only [go_sem,kp77,geff,g3,g4,hopd,yes])
      all_goals try exact nd
      refine ⟨fk76,step_ec (by omega) ?_⟩
      generalize stepM m=m1 at*
      repeat' first|(with_reducible first|(refine nx ?_;intros)|refine t_br (fun hc=>?_) fun hc=>?_|apply And.intro|intro vr)|exact kp_fls|exact kpd|((with_reducible first|refine ny ?_|refine t_kLF ?_ ?_|refine t_dO 7 (fun _=>false) oMm5_0 fun K=>?_|refine t_dwh (h:=fun K KL=>?_));intros;simp only [go_sem,kp77,geff,g5,he1,yes])
      all_goals try exact nd
      refine ⟨fk75,lop2 (to:=to) (s:=tick s) hK hF0 hcb hA hB hXX (by omega) hcl hit rfl he1 hgT.le R1 fun m2 s2 hr2 hg2 h3=>?_⟩
      repeat' first|(with_reducible first|(refine nx ?_;intros)|refine t_br (fun hc=>?_) fun hc=>?_|apply And.intro|intro vr)|exact kp_fls|exact kpd|((with_reducible first|refine ny ?_|refine t_kLF ?_ ?_|refine t_dO 7 (fun _=>false) oMm5_0 fun K=>?_|refine t_dwh (h:=fun K KL=>?_));intros;simp only [go_sem,kp77,geff,gm,yes])
      all_goals try exact nd
      refine ⟨⟨gt mt i+1,m2,s2,by omega,.inl (by omega),hFn,hg2,h3,fun s' h=>hv _ (rF hr2 h)⟩,by simp only;omega,?_⟩
      try simp only [updL_nil,updL_cons,delF_top,delF_upd,Nat.reduceEqDiff,reduceIte]
      refine le_ro1 (Nat.le_refl _) (ro_bds (by omega) hbd) ?_ ?_
      ·repeat' (first|exact low_top|(refine low_upd rfl ?_))
      exact lq
     by_cases q11:q=11
     ·subst q11
      have ho:(B.op i).code=11:=by rw [hXX]
      have hra:=hrg.a (.inr rfl)
      simp only at hra
      have hi0:0≤i:=by omega
      have hil:i<B.ops.length:=by omega
      have hin:=hK.nest.inner hi0 hil (.inr (.inl ho))
      have hfi:=hF0.inner hK.nest hi0 hil (.inr (.inl ho))
      obtain ⟨k1,k2,k3,k4⟩:=hK.nest.at hi0 hil (.inr (.inl ho))
      obtain ⟨k5,k6,k7,k8,k9,k10⟩:=hK.nest.end_ hcl hit ho
      have hFn:=hF.if_ hK.nest hcl hit ho
      have hin2:(B.op (gt mt i)).code=12→Cl B mt (gt mt i+1) (gt mt (gt mt i))∧Fre B mt (gt mt i+1) (gt mt (gt mt i))∧gt mt i<gt mt (gt mt i):=fun e=>⟨hK.nest.inner (by omega) k2 (.inr (.inr e)),hF0.inner hK.nest (by omega) k2 (.inr (.inr e)),(hK.nest.at (i:=gt mt i) (by omega) k2 (.inr (.inr e))).1⟩
      have gm:mt.getD i.toNat 0=gt mt i:=rfl
      have gm2:mt.getD (gt mt i).toNat 0=gt mt (gt mt i):=rfl
      have rY:=fun {s2 s':St} hp hj hk=>runs_yes (B:=B) (mt:=mt) (seen:=[]) (i:=i) (to:=to) (s:=s) (s':=s2) (s'':=s') ⟨hit,hst⟩ ho hp hj hk
      have rN:=fun {s2 s':St} hp he hj hk=>runs_no (B:=B) (mt:=mt) (seen:=[]) (i:=i) (to:=to) (s:=s) (s':=s2) (s'':=s') ⟨hit,hst⟩ ho hp he hj hk
      have rO:=fun {s':St} hp he hk=>runs_none (B:=B) (mt:=mt) (seen:=[]) (i:=i) (to:=to) (s:=s) (s'':=s') ⟨hit,hst⟩ ho hp he hk
      rw [look_nil,hXX,k8] at rY rN rO
      have hre:(stepM m).regs=(tick s).regs:=L1.regs
      generalize gt mt (gt mt i)=E at*
      generalize gt mt i=M at*
      repeat' first|(with_reducible first|(refine nx ?_;intros)|refine t_br (fun hc=>?_) fun hc=>?_|apply And.intro|intro vr)|exact kp_fls|exact kpd|((with_reducible first|refine ny ?_|refine t_kLF ?_ ?_|refine t_dO 7 (fun _=>false) oMm5_0 fun K=>?_|refine t_dwh (h:=fun K KL=>?_));intros;simp only [go_sem,kp77,geff,g3,g4,hopd,yes])
      all_goals try exact nd
      refine ⟨fk76,step_ec (by omega) ?_⟩
      generalize stepM m=m1 at*
      have ga:m1.regs.getD a.toNat 0=gt m1.regs a:=rfl
      cases gp:decide (gt m1.regs a≥0) with
      |true=>
       have gp':=of_decide_eq_true gp
       rw [hre] at gp'
       repeat' first|(with_reducible first|(refine nx ?_;intros)|refine t_br (fun hc=>?_) fun hc=>?_|apply And.intro|intro vr)|exact kp_fls|exact kpd|((with_reducible first|refine ny ?_|refine t_kLF ?_ ?_|refine t_dO 7 (fun _=>false) oMm5_0 fun K=>?_|refine t_dwh (h:=fun K KL=>?_));intros;simp only [go_sem,kp77,geff,g5,he1,gm,gm2,ga,gp,yes])
       all_goals try exact nd
       refine ⟨fk77,hB _ _ _ (tick s) _ _ (by omega) hin hfi (fun _=>hgT.le) R1 fun m2 s2 hr2 hg2 h3=>?_⟩
       repeat' first|(with_reducible first|(refine nx ?_;intros)|refine t_br (fun hc=>?_) fun hc=>?_|apply And.intro|intro vr)|exact kp_fls|exact kpd|((with_reducible first|refine ny ?_|refine t_kLF ?_ ?_|refine t_dO 7 (fun _=>false) oMm5_0 fun K=>?_|refine t_dwh (h:=fun K KL=>?_));intros;simp only [go_sem,kp77,geff,yes])
       all_goals try exact nd
       refine ⟨⟨E+1,m2,s2,by omega,.inl (by omega),hFn,hg2,h3,fun s' h=>hv _ (rY gp' hr2 h)⟩,by simp only;omega,?_⟩
       try simp only [updL_nil,updL_cons,delF_top,delF_upd,Nat.reduceEqDiff,reduceIte]
       refine le_ro1 (Nat.le_refl _) (ro_bds (by omega) hbd) ?_ ?_
       ·repeat' (first|exact low_top|(refine low_upd rfl ?_))
       exact lq
      |false=>
       have gp':=of_decide_eq_false gp
       rw [hre] at gp'
       by_cases y12:(B.op M).code=12
       ·obtain ⟨c1,c2,c3⟩:=hin2 y12
        have gmin:minI (M+1) E=M+1:=by unfold minI;split<;>omega
        repeat' first|(with_reducible first|(refine nx ?_;intros)|refine t_br (fun hc=>?_) fun hc=>?_|apply And.intro|intro vr)|exact kp_fls|exact kpd|((with_reducible first|refine ny ?_|refine t_kLF ?_ ?_|refine t_dO 7 (fun _=>false) oMm5_0 fun K=>?_|refine t_dwh (h:=fun K KL=>?_));intros;simp only [go_sem,kp77,geff,g5,he1,gm,gm2,ga,gp,gmin,yes])
        all_goals try exact nd
        refine ⟨fk77,hB _ _ _ (tick s) _ _ (by omega) c1 c2 (fun _=>hgT.le) R1 fun m2 s2 hr2 hg2 h3=>?_⟩
        repeat' first|(with_reducible first|(refine nx ?_;intros)|refine t_br (fun hc=>?_) fun hc=>?_|apply And.intro|intro vr)|exact kp_fls|exact kpd|((with_reducible first|refine ny ?_|refine t_kLF ?_ ?_|refine t_dO 7 (fun _=>false) oMm5_0 fun K=>?_|refine t_dwh (h:=fun K KL=>?_));intros;simp only [go_sem,kp77,geff,yes])
        all_goals try exact nd
        refine ⟨⟨E+1,m2,s2,by omega,.inl (by omega),hFn,hg2,h3,fun s' h=>hv _ (rN gp' y12 hr2 h)⟩,by simp only;omega,?_⟩
        try simp only [updL_nil,updL_cons,delF_top,delF_upd,Nat.reduceEqDiff,reduceIte]
        refine le_ro1 (Nat.le_refl _) (ro_bds (by omega) hbd) ?_ ?_
        ·repeat' (first|exact low_top|(refine low_upd rfl ?_))
        exact lq
       ·have hEM:E=M:=k10 y12
        have gmin:minI (M+1) E=E:=by unfold minI;split<;>omega
        repeat' first|(with_reducible first|(refine nx ?_;intros)|refine t_br (fun hc=>?_) fun hc=>?_|apply And.intro|intro vr)|exact kp_fls|exact kpd|((with_reducible first|refine ny ?_|refine t_kLF ?_ ?_|refine t_dO 7 (fun _=>false) oMm5_0 fun K=>?_|refine t_dwh (h:=fun K KL=>?_));intros;simp only [go_sem,kp77,geff,g5,he1,gm,gm2,ga,gp,gmin,yes])
        all_goals try exact nd
        refine ⟨fk77,hB _ _ _ (tick s) _ _ (by omega) ⟨by omega,by omega,fun j j0 j1 _=>by omega⟩ (fun e e0 e1 _=>by omega) (fun _=>hgT.le) R1 fun m2 s2 hr2 hg2 h3=>?_⟩
        have e2:s2=tick s:=hr2.det (runs_end (fun q=>by omega))
        subst e2
        repeat' first|(with_reducible first|(refine nx ?_;intros)|refine t_br (fun hc=>?_) fun hc=>?_|apply And.intro|intro vr)|exact kp_fls|exact kpd|((with_reducible first|refine ny ?_|refine t_kLF ?_ ?_|refine t_dO 7 (fun _=>false) oMm5_0 fun K=>?_|refine t_dwh (h:=fun K KL=>?_));intros;simp only [go_sem,kp77,geff,yes])
        all_goals try exact nd
        refine ⟨⟨E+1,m2,tick s,by omega,.inl (by omega),hFn,hg2,h3,fun s' h=>hv _ (rO gp' y12 h)⟩,by simp only;omega,?_⟩
        try simp only [updL_nil,updL_cons,delF_top,delF_upd,Nat.reduceEqDiff,reduceIte]
        refine le_ro1 (Nat.le_refl _) (ro_bds (by omega) hbd) ?_ ?_
        ·repeat' (first|exact low_top|(refine low_upd rfl ?_))
        exact lq
     ·have hh:=hF.here hit
      rw [hXX] at hh
      have e10:(q==10)=false:=by simpa using q10
      have e11:(q==11)=false:=by simpa using q11
      have hok:=L1.okM hgT.le hcb hn hA R1.ver
      have Rn:=R1.plain (x:=⟨q,p,a,b,cc,d⟩) L1 he1 hvl i
      have hgn:=hgT.simple hrg
      have haf:=plain_simple (x:=⟨q,p,a,b,cc,d⟩) L1 R1.len R1.ver
      obtain ⟨f,xs,ys,t1,t2,⟨t3,t4,t5,t6⟩,⟨t7,t8⟩,t9,t10⟩:=tab_ok (x:=x) (y:=y) (B:=B) (mt:=mt) hok hrg hrd ⟨q10,q11,hh.1,hh.2⟩
      simp only at t1 t7 t8
      have e0:0+q.toNat*1=q.toNat:=by omega
      have u5:(q.toNat<16)=True:=eq_true (by omega)
      have hsl:=haf.left
      have t9':∀ σ z,closeL1 true σ (xs++[z]++ys)=none:=fun σ z=>by rw [List.append_assoc];exact t9 σ z
      have t11:∀ (ex:List AObj) (k:AV→List AObj→Prop),k (.lit (.bool (plainS ⟨q,p,a,b,cc,d⟩ (stepM m)).2)) (robj x y B mt (plainS ⟨q,p,a,b,cc,d⟩ (stepM m)).1 ex)→EC Tryz.prog f (xs++[opV ⟨q,p,a,b,cc,d⟩]++ys) (robj x y B mt (stepM m) ex) k:=fun ex k h=>by rw [List.append_assoc];exact t10 ex k h
      repeat' first|(with_reducible first|(refine nx ?_;intros)|refine t_br (fun hc=>?_) fun hc=>?_|apply And.intro|intro vr)|exact kp_fls|exact kpd|((with_reducible first|refine ny ?_|refine t_kLF ?_ ?_|refine t_dO 7 (fun _=>false) oMm5_0 fun K=>?_|refine t_dwh (h:=fun K KL=>?_));intros;simp only [go_sem,kp77,geff,g3,g4,hopd,yes])
      all_goals try exact nd
      refine ⟨fk76,step_ec (by omega) ?_⟩
      generalize stepM m=m1 at*
      repeat' first|(with_reducible first|(refine nx ?_;intros)|refine t_br (fun hc=>?_) fun hc=>?_|apply And.intro|intro vr)|exact kp_fls|exact kpd|((with_reducible first|refine ny ?_|refine t_kLF ?_ ?_|refine t_dO 7 (fun _=>false) oMm5_0 fun K=>?_|refine t_dwh (h:=fun K KL=>?_));intros;simp only [go_sem,kp77,geff,g5,he1,e10,e11,e0,t1,t9',u5,yes])
      all_goals try exact nd
      refine ⟨t2,t11 _ _ ?_⟩
      cases hq:(plainS ⟨q,p,a,b,cc,d⟩ m1).2 with
      |true=>
       have hf:(simpleS ⟨q,p,a,b,cc,d⟩ (tick s)).failed=false:=by rw [haf.ok,hq];rfl
       rw [hq,if_pos rfl,hf,if_neg (by simp)] at Rn
       have rS:=fun {s':St} hk=>runs_simple (B:=B) (mt:=mt) (seen:=[]) (i:=i) (to:=to) (s:=s) (s':=s') ⟨hit,hst⟩ (by rw [hXX];exact q10) (by rw [hXX];exact q11) hk
       rw [look_nil,hXX,hf,if_neg (by simp)] at rS
       generalize (plainS ⟨q,p,a,b,cc,d⟩ m1).1=m2 at*
       generalize simpleS ⟨q,p,a,b,cc,d⟩ (tick s)=s2 at*
       repeat' first|(with_reducible first|(refine nx ?_;intros)|refine t_br (fun hc=>?_) fun hc=>?_|apply And.intro|intro vr)|exact kp_fls|exact kpd|((with_reducible first|refine ny ?_|refine t_kLF ?_ ?_|refine t_dO 7 (fun _=>false) oMm5_0 fun K=>?_|refine t_dwh (h:=fun K KL=>?_));intros;simp only [go_sem,kp77,geff,hq,yes])
       all_goals try exact nd
       refine ⟨⟨i+1,m2,s2,by omega,.inl (by omega),hF.step ⟨by rw [hXX];exact q10,by rw [hXX];exact q11⟩ hit,fun _=>hgn,Rn,fun s' h=>hv _ (rS h)⟩,by simp only;omega,?_⟩
       try simp only [updL_nil,updL_cons,delF_top,delF_upd,Nat.reduceEqDiff,reduceIte]
       refine le_ro1 (Nat.le_refl _) (ro_bds (by omega) hbd) ?_ ?_
       ·repeat' (first|exact low_top|(refine low_upd rfl ?_))
       exact lq
      |false=>
       have hf:(simpleS ⟨q,p,a,b,cc,d⟩ (tick s)).failed=true:=by rw [haf.ok,hq];rfl
       rw [hq,if_neg (by simp),if_pos hf] at Rn
       have rS:=fun {s':St} hk=>runs_simple (B:=B) (mt:=mt) (seen:=[]) (i:=i) (to:=to) (s:=s) (s':=s') ⟨hit,hst⟩ (by rw [hXX];exact q10) (by rw [hXX];exact q11) hk
       rw [look_nil,hXX,if_pos hf] at rS
       have hgn':Gd n A c {simpleS ⟨q,p,a,b,cc,d⟩ (tick s) with at_:=i}:=⟨hgn.1,hgn.2,hgn.3,hgn.4,hgn.5,hgn.6,hgn.7⟩
       generalize (plainS ⟨q,p,a,b,cc,d⟩ m1).1=m2 at*
       generalize simpleS ⟨q,p,a,b,cc,d⟩ (tick s)=s2 at*
       repeat' first|(with_reducible first|(refine nx ?_;intros)|refine t_br (fun hc=>?_) fun hc=>?_|apply And.intro|intro vr)|exact kp_fls|exact kpd|((with_reducible first|refine ny ?_|refine t_kLF ?_ ?_|refine t_dO 7 (fun _=>false) oMm5_0 fun K=>?_|refine t_dwh (h:=fun K KL=>?_));intros;simp only [go_sem,kp77,geff,hq,yes])
       all_goals try exact nd
       refine ⟨fk78,fail_ec ?_⟩
       repeat' first|(with_reducible first|(refine nx ?_;intros)|refine t_br (fun hc=>?_) fun hc=>?_|apply And.intro|intro vr)|exact kp_fls|exact kpd|((with_reducible first|refine ny ?_|refine t_kLF ?_ ?_|refine t_dO 7 (fun _=>false) oMm5_0 fun K=>?_|refine t_dwh (h:=fun K KL=>?_));intros;simp only [go_sem,kp77,geff,yes])
       all_goals try exact nd
       refine ⟨⟨i+1,failM m2 i 22,{s2 with at_:=i},by omega,.inl (by omega),hF.step ⟨by rw [hXX];exact q10,by rw [hXX];exact q11⟩ hit,fun _=>hgn',Rn,fun s' h=>hv _ (rS h)⟩,by simp only;omega,?_⟩
       try simp only [updL_nil,updL_cons,delF_top,delF_upd,Nat.reduceEqDiff,reduceIte]
       refine le_ro1 (Nat.le_refl _) (ro_bds (by omega) hbd) ?_ ?_
       ·repeat' (first|exact low_top|(refine low_upd rfl ?_))
       exact lq
    ·have g5:decide ((stepM m).e=0)=false:=decide_eq_false he1
     have hrel:=R1.rel
     have e3:(stepM m).e=3:=by
       rcases hrel with q|q|q
       ·exact absurd q.1 he1
       ·exact q.1
       ·have:=L.fl
        have q2:s.failed=true:=q.2.2.1
        rw [this] at q2;cases q2
     have hl0:(tick s).left≤0:=by
       rcases hrel with q|q|q
       ·exact absurd q.1 he1
       ·exact q.2
       ·rw [e3] at q;exact absurd q.1 (by decide)
     have hrun:=endR_runs (B:=B) (mt:=mt) (seen:=[]) (t:= .blk i to) (s:=s)
     have hlt:=runs_tick hit hst hrun
     have hl1:(endR B mt [] (.blk i to) s).left≤0:=by
       have:(tick s).left=s.left - 1:=rfl
       omega
     repeat' first|(with_reducible first|(refine nx ?_;intros)|refine t_br (fun hc=>?_) fun hc=>?_|apply And.intro|intro vr)|exact kp_fls|exact kpd|((with_reducible first|refine ny ?_|refine t_kLF ?_ ?_|refine t_dO 7 (fun _=>false) oMm5_0 fun K=>?_|refine t_dwh (h:=fun K KL=>?_));intros;simp only [go_sem,kp77,geff,g3,g4,hopd,yes])
     all_goals try exact nd
     refine ⟨fk76,step_ec (by omega) ?_⟩
     generalize stepM m=m1 at*
     repeat' first|(with_reducible first|(refine nx ?_;intros)|refine t_br (fun hc=>?_) fun hc=>?_|apply And.intro|intro vr)|exact kp_fls|exact kpd|((with_reducible first|refine ny ?_|refine t_kLF ?_ ?_|refine t_dO 7 (fun _=>false) oMm5_0 fun K=>?_|refine t_dwh (h:=fun K KL=>?_));intros;simp only [go_sem,kp77,geff,g5,yes])
     all_goals try exact nd
     all_goals (refine nl ?_;simp only [go_sem,finE])
     exact ⟨_,_,rfl,LeA.refl _,ro_bds (by omega) hbd,h5 m1 _ (hv _ hrun) (fun e=>absurd e he1) ⟨R1.len,R1.ver,R1.st,.inr (.inl ⟨e3,hl1⟩)⟩⟩
   ·have g4:decide (m.e=0)=false:=decide_eq_false he
    repeat' first|(with_reducible first|(refine nx ?_;intros)|refine t_br (fun hc=>?_) fun hc=>?_|apply And.intro|intro vr)|exact kp_fls|exact kpd|((with_reducible first|refine ny ?_|refine t_kLF ?_ ?_|refine t_dO 7 (fun _=>false) oMm5_0 fun K=>?_|refine t_dwh (h:=fun K KL=>?_));intros;simp only [go_sem,kp77,geff,g3,g4,yes])
    all_goals try exact nd
    all_goals (refine nl ?_;simp only [go_sem,finE])
    exact ⟨_,_,rfl,LeA.refl _,ro_bds (by omega) hbd,h5 m s (hv _ (runs_end (fun q=>by rw [hr.stop he] at q;cases q.2))) hg hr⟩
  ·have g3:decide (i<to)=false:=decide_eq_false (by omega)
   repeat' first|(with_reducible first|(refine nx ?_;intros)|refine t_br (fun hc=>?_) fun hc=>?_|apply And.intro|intro vr)|exact kp_fls|exact kpd|((with_reducible first|refine ny ?_|refine t_kLF ?_ ?_|refine t_dO 7 (fun _=>false) oMm5_0 fun K=>?_|refine t_dwh (h:=fun K KL=>?_));intros;simp only [go_sem,kp77,geff,g3,yes])
   all_goals try exact nd
   all_goals (refine nl ?_;simp only [go_sem,finE])
   exact ⟨_,_,rfl,LeA.refl _,ro_bds (by omega) hbd,h5 m s (hv _ (runs_end (fun q=>by omega))) hg hr⟩
set_option maxHeartbeats 4000000 in
theorem blk_base:BlkM x y B mt n A c 0:=by
  intro i to m s ex k h1 h2 hF hg hr h5
  refine ec_fin fun hbd=>?_
  rw [ro_len] at hbd
  have h20:=h2.1
  refine ecR M5_ok (kp77) Tryz.func77 [] (h:=fun KF=>?_)
  unfold M5
  with_reducible repeat' first|(refine nx ?_;intros)|apply And.intro|intro vr|(refine ny ?_;intros;simp only [go_sem,kp77,geff])
  all_goals try exact nd
  refine t_loopF (ι:=Unit) (fun _=>[(8,.lit (.int .i64 i))]) (fun _=>robj x y B mt m ex) (fun _=>0) () ?_ ?_
  ·exact lf
  rintro ⟨⟩ K0
  have g3:decide (i<to)=false:=decide_eq_false (by omega)
  with_reducible repeat' first|(refine nx ?_;intros)|apply And.intro|intro vr|(refine ny ?_;intros;simp only [go_sem,kp77,geff,g3])
  all_goals try exact nd
  all_goals (refine nl ?_;simp only [go_sem,finE])
  exact ⟨_,_,rfl,LeA.refl _,ro_bds (by omega) hbd,h5 m s (runs_end (fun q=>by omega)) hg hr⟩
theorem blk_all (hK:Wk B mt n) (hF0:Fre B mt 0 B.ops.length) (hcb:c≤1000000) (hA:A≤1048576):∀ N:Nat,BlkM x y B mt n A c N
  |0=>blk_base
  |N+1=>blk_step hK hF0 hcb hA (blk_all hK hF0 hcb hA N)
end
end Go.Proofs.YtnlimcijgpaegaaGreat.Mm

namespace Go.Proofs.YtnlimcijgpaegaaGreat.Mm
open Go.Proofs.YtnlimcijgpaegaaGreat
open Go Go.Fw Bm
set_option maxRecDepth 20000
section
variable {x y:AObj} {B:Prg} {mt:List Int} {n A:Nat} {c:Int} {m:MS} {s:St} {ex:List AObj} {σ:List AObj} {k:AV→List AObj→Prop}
abbrev oMm6_0:List (Nat×Nat):=[(0,1),(2,1),(3,1),(4,1),(5,1),(7,1),(8,1),(10,1),(11,1),(12,1),(13,1),(14,1),(15,1),(16,1),(17,1),(18,1),(19,1),(20,1),(22,1),(1,0),(6,0),(9,0),(21,0),(23,1),(24,0)]
abbrev oMm6_1:List (Nat×Nat):=[(0,2),(1,2),(2,2),(3,2),(4,2),(5,2),(6,2),(7,0)]
attribute [go_sem] oMm6_0 oMm6_1
set_option maxHeartbeats 4000000 in
theorem set_ec {g:FuncId} {ys:List AV} (hk:k (.fn (.func 148) [] [.ref (σ.length+1) 0,.ref σ.length 0]) (σ++[.box 57 [.ref 5 0],.box 170 [.fn (.func g) [] ys]])):EC Tryz.prog 115 [.ref 5 0,.fn (.func g) [] ys] σ k:=by
  refine ecR M5_ok (kp115) Tryz.func115 [.tmp 4] (h:=fun KF=>?_)
  unfold M5
  with_reducible repeat' first|(refine nx ?_;intros)|refine t_br (fun hc=>?_) fun hc=>?_|refine t_bx ?_|apply And.intro|intro vr|((first|refine ny ?_|refine t_dwh (h:=fun K KL=>?_));intros;simp only [go_sem,kp115,geff,List.append_assoc,List.cons_append,List.nil_append,List.length_append,List.length_cons,List.length_nil,yes])
  all_goals try exact nd
  all_goals (refine nl ?_;simp only [go_sem,List.append_assoc,List.cons_append,List.nil_append])
  exact hk
theorem kp_8 {a0 a1 a2 a3 a4 a5 a6 a7:AObj} {a8:AObj} {l l':List AObj}:Kp (fun i=>i==8) (a0::a1::a2::a3::a4::a5::a6::a7::a8::l) (a0::a1::a2::a3::a4::a5::a6::a7::a8::l'):=fun o t cs hD ho=>by
  have e:o=8:=by simpa using hD
  subst e
  exact ho
set_option maxHeartbeats 8000000 in
theorem plain_ec (hk:k (.agg tabL) (mobj x y B mt m [.box 57 [.ref 5 0],.box 57 [.ref 5 0],.box 127 tabL,.box 57 [.ref 5 0],.box 170 [.fn (.func 116) [] []],.box 57 [.ref 5 0],.box 170 [.fn (.func 118) [] [.ref 8 0]],.box 57 [.ref 5 0],.box 170 [.fn (.func 119) [] [.ref 8 0]],.box 57 [.ref 5 0],.box 170 [.fn (.func 125) [] [.ref 8 0]]])):
    EC Tryz.prog 74 [.ref 5 0] (mobj x y B mt m [.box 57 [.ref 5 0]]) k:=by
  unfold mobj
  refine ecR M5_ok (kp74) Tryz.func74 [.cell 2 127] (h:=fun KF=>?_)
  unfold M5
  repeat' first|(with_reducible first|(refine nx ?_;intros)|apply And.intro|intro vr)|exact kp_8|exact kpd|((with_reducible first|refine ny ?_|refine t_kLF ?_ ?_|refine t_dO 1 (fun i=>i==8) oMm6_0 fun K=>?_);intros;simp only [go_sem,kp74,geff,yes])
  all_goals try exact nd
  refine ⟨fk115,set_ec ?_⟩
  repeat' first|(with_reducible first|(refine nx ?_;intros)|apply And.intro|intro vr)|exact kp_8|exact kpd|((with_reducible first|refine ny ?_|refine t_kLF ?_ ?_|refine t_dO 1 (fun i=>i==8) oMm6_0 fun K=>?_);intros;simp only [go_sem,kp74,geff,List.cons_append,List.nil_append,yes])
  all_goals try exact nd
  refine ⟨fk115,set_ec ?_⟩
  repeat' first|(with_reducible first|(refine nx ?_;intros)|apply And.intro|intro vr)|exact kp_8|exact kpd|((with_reducible first|refine ny ?_|refine t_kLF ?_ ?_|refine t_dO 1 (fun i=>i==8) oMm6_0 fun K=>?_);intros;simp only [go_sem,kp74,geff,List.cons_append,List.nil_append,yes])
  all_goals try exact nd
  refine ⟨fk115,set_ec ?_⟩
  repeat' first|(with_reducible first|(refine nx ?_;intros)|apply And.intro|intro vr)|exact kp_8|exact kpd|((with_reducible first|refine ny ?_|refine t_kLF ?_ ?_|refine t_dO 1 (fun i=>i==8) oMm6_0 fun K=>?_);intros;simp only [go_sem,kp74,geff,List.cons_append,List.nil_append,yes])
  all_goals try exact nd
  refine ⟨fk115,set_ec ?_⟩
  repeat' first|(with_reducible first|(refine nx ?_;intros)|apply And.intro|intro vr)|exact kp_8|exact kpd|((with_reducible first|refine ny ?_|refine t_kLF ?_ ?_|refine t_dO 1 (fun i=>i==8) oMm6_0 fun K=>?_);intros;simp only [go_sem,kp74,geff,List.cons_append,List.nil_append,yes])
  all_goals try exact nd
  all_goals (refine nl ?_;simp only [go_sem])
  exact hk
theorem mo_bds {n:Nat} {m':MS} (hn:7≤n) (h:BdS n (mobj x y B mt m ex)):BdS n (mobj x y B mt m' ex):=fun o t cs ho=>by
  rcases o with _|_|_|_|_|_|_|o
  ·exact h 0 t cs ho
  ·exact h 1 t cs ho
  ·exact h 2 t cs ho
  ·cases ho
  ·cases ho
  ·exact stO_bd (m:=m') hn 0 t cs ho
  ·cases ho
  ·exact h (o+7) t cs ho
def zerM (t:TypeId):AV:=if t=129 then .lit .nilFunc else if t=130 then .lit .nilFunc else zer t
theorem zM172:zerM 129= .lit .nilFunc:=rfl
theorem zM182:zerM 130= .lit .nilFunc:=rfl
theorem zM180:zerM 127=zer 127:=rfl
theorem iz129:(zeroT Tryz.prog 129).isSome=true:=by kernel_rfl
theorem iz130:(zeroT Tryz.prog 130).isSome=true:=by kernel_rfl
theorem zerM_ok:∀ t v,zeroT Tryz.prog t=some v→RC (fun _ _=>none) (zerM t) v:=fun t v h=>by
  unfold zerM
  by_cases e:t=129
  ·subst e
   rw [if_pos rfl]
   rw [show zeroT Tryz.prog 129=some .nilFunc from by kernel_rfl] at h
   cases h;exact .lit _
  ·rw [if_neg e]
   by_cases e2:t=130
   ·subst e2
    rw [if_pos rfl]
    rw [show zeroT Tryz.prog 130=some .nilFunc from by kernel_rfl] at h
    cases h;exact .lit _
   ·rw [if_neg e2];exact zer_ok t v h
attribute [go_sem] zM172 zM182 zM180 iz129 iz130
noncomputable def M6:Env:=envU Tryz.prog jkR zerM (fun _=>false) (fun _=>false) []
theorem M6_ok:EnvOk Tryz.prog M6:=envUOk zerM_ok
theorem setT:setRange [.lit .nilFunc,.lit .nilFunc,.lit .nilFunc,.lit .nilFunc,.lit .nilFunc,.lit .nilFunc,.lit .nilFunc,.lit .nilFunc,.lit .nilFunc,.lit .nilFunc,.lit .nilFunc,.lit .nilFunc,.lit .nilFunc,.lit .nilFunc,.lit .nilFunc,.lit .nilFunc] 0 tabL=tabL:=rfl
theorem solNil:(AV.lit Value.nilFunc).solid=true:=rfl
theorem stO_eq:stO B mt m= .box 62 [.lit (.int .i64 B.regs),.lit (.int .i64 B.arena),.sl false 6 (opsV B.ops),.sl false 2 (plsV B.ins),.sl false 2 (plsV B.outs),.sl false 3 (arrs B.types),.sl false 1 (ints .i64 mt),.arr 3 0,.arr 4 0,
  .lit (.int .i64 m.reads),.lit (.int .i64 m.writes),.lit (.int .i64 m.ops),.lit (.int .i64 m.peak),.arr 6 m.vb,.lit (.int .i64 m.steps),.lit (.int .i64 m.at_),.lit (.int .i64 m.e)]:=rfl
set_option maxHeartbeats 8000000 in
theorem run_ec (hK:Wk B mt n) (hF0:Fre B mt 0 B.ops.length) (hcb:c≤1000000) (hA:A≤1048576) (hg:m.e=0→Gd n A c s) (hr:Rp n m s)
    (hk:∀ m' s',Runs B mt [] (.blk 0 B.ops.length) s s'→(m'.e=0→Gd n A c s')→Rp n m' s'→k (.tup []) (mobj x y B mt m' [])):EC Tryz.prog 48 [.ref 5 0] (mobj x y B mt m []) k:=by
  refine ec_fin fun hbd=>?_
  have hL:=hK.len
  have hcl:Cl B mt 0 B.ops.length:=⟨Int.le_refl _,Int.le_refl _,fun j j0 j1 j2=>(hK.nest.at j0 j1 j2).2.1⟩
  refine ecR M6_ok (kp48) Tryz.func48 [] (h:=fun KF=>?_)
  unfold M6
  unfold mobj
  repeat' first|(with_reducible first|(refine nx ?_;intros)|apply And.intro|intro vr)|exact kp_8|exact kp_fls|exact kpd|((with_reducible first|refine ny ?_|refine t_kLF ?_ ?_|refine t_dO 5 (fun _=>false) oMm6_1 fun K=>?_);intros;simp only [go_sem,kp48,geff,yes])
  all_goals try exact nd
  refine ⟨fk74,plain_ec ?_⟩
  unfold mobj
  repeat' first|(with_reducible first|(refine nx ?_;intros)|apply And.intro|intro vr)|exact kp_8|exact kp_fls|exact kpd|((with_reducible first|refine ny ?_|refine t_kLF ?_ ?_|refine t_dO 5 (fun _=>false) oMm6_1 fun K=>?_);intros;simp only [go_sem,kp48,geff,setT,solNil,stO_eq,List.cons_append,List.nil_append,yes])
  all_goals try exact nd
  refine ⟨fk77,blk_all (x:=x) (y:=y) (n:=n) (A:=A) (c:=c) hK hF0 hcb hA B.ops.length 0 B.ops.length m s [] _ (by omega) hcl hF0 hg hr fun m2 s2 hr2 hg2 h2=>?_⟩
  repeat' first|(with_reducible first|(refine nx ?_;intros)|apply And.intro|intro vr)|exact kp_8|exact kp_fls|exact kpd|((with_reducible first|refine ny ?_|refine t_kLF ?_ ?_|refine t_dO 5 (fun _=>false) oMm6_1 fun K=>?_);intros;simp only [go_sem,kp48,geff,yes])
  all_goals try exact nd
  all_goals (refine nl ?_;simp only [go_sem,finE])
  exact ⟨_,_,rfl,LeA.refl _,mo_bds (Nat.le_refl _) hbd,hk m2 s2 hr2 hg2 h2⟩
end
end Go.Proofs.YtnlimcijgpaegaaGreat.Mm

namespace Go.Proofs.YtnlimcijgpaegaaGreat
open Go Go.Fw
set_option maxRecDepth 20000
set_option maxRecDepth 20000
attribute [go_sem] con46_f con46_c arrOf_agg slK_sl
noncomputable def E75:Env:=envJ (P:=Tryz.prog) jk zer (fun _=>false) (fun _=>false) [con46] []
theorem E75_ok:EnvOk Tryz.prog E75:=envJOk zer_ok
theorem inval_pc {a:Arr} (h:okA a):PC Tryz.prog 45 [arrV a] (.lit (.bool (!(ofE a==0)))):=by
  obtain ⟨h1,h2⟩:=h
  simp only [arrV]
  refine pcR E75_ok (kp45) Tryz.func45 [.tmp 2] (h:=fun KF=>?_)
  unfold E75
  with_reducible repeat' first|(refine nx ?_;intros)|apply And.intro|intro vr|(refine ny ?_;intros;simp only [go_sem,kp45,geff])
  all_goals try exact nd
  all_goals (refine nl ?_;simp only [go_sem])
  exact LeA.refl _
noncomputable def con45:PCon Tryz.prog where
  f:=45
  c:=fun
   |[xa]=>match arrOf xa with|some a=>some (okA a,.lit (.bool (!(ofE a==0))))|_=>none
   |_=>none
  ok:=by
   intro args p r hc hp
   split at hc
   ·split at hc
    ·rename_i ha
     cases hc
     exact PC.weak (inval_pc hp) ⟨arrOf_le ha,trivial⟩
    ·cases hc
   ·cases hc
  fk:=fk45
theorem con45_f:con45.f=45:=rfl
theorem con45_c {xa:AV}:con45.c [xa]=match arrOf xa with|some a=>some (okA a,.lit (.bool (!(ofE a==0))))|_=>none:=rfl
def idxA (p:Arr→Bool):List Arr→Int→Int
  |[],_=> -1
  |d::t,i=>if p d=true then i else idxA p t (i+1)
theorem idxA_any (p:Arr→Bool):∀ (l:List Arr) (i:Int),0≤i→decide (idxA p l i≥0)=l.any p
  |[],_,_=>rfl
  |d::t,i,hi=>by
   unfold idxA
   by_cases h:p d=true
   ·rw [if_pos h,List.any_cons,h,decide_eq_true hi];rfl
   ·rw [if_neg h,idxA_any p t (i+1) (by omega),List.any_cons]
    simp only [Bool.not_eq_true] at h
    rw [h];rfl
def invA (a:Arr):Bool:= !(ofE a==0)
noncomputable def E76:Env:=envJ (P:=Tryz.prog) jk zer (fun _=>false) (fun _=>false) [con45] []
theorem E76_ok:EnvOk Tryz.prog E76:=envJOk zer_ok
attribute [go_sem] con45_f con45_c
theorem idxa_pc {l:List Arr} (hl:l.length≤1000000) (hk:∀ a∈l,okA a):PC Tryz.prog 72 [.sl false 3 (arrs l),.fn (.func 45) [] []] (.lit (.int .i64 (idxA invA l 0))):=by
  generalize hR:idxA invA l 0=R
  refine pcR E76_ok (kp72) Tryz.func72 [.tmp 4] (h:=fun KF=>?_)
  unfold E76
  with_reducible repeat' first|(refine nx ?_;intros)|apply And.intro|intro vr|(refine ny ?_;intros;simp only [go_sem,kp72,geff,arrs_length])
  all_goals try exact nd
  refine t_loopF (ι:={i:Nat // i≤l.length∧idxA invA (l.drop i) i=R}) (fun i=>[(8,.lit (.int .i64 i.1))]) (fun i=>[]) (fun i=>l.length - i.1) ⟨0,by omega,hR⟩ ?_ ?_
  ·exact lf
  rintro ⟨i,hi,hF⟩ K0
  rcases Nat.lt_or_ge i l.length with hc|hc
  ·rw [drop_getD nilA hc,idxA] at hF
   have g3:decide ((i:Int)<(l.length:Int))=true:=decide_eq_true (by omega)
   have hm:okA (l.getD i nilA):=hk _ (getD_mem nilA hc)
   cases h4:(ofE (l.getD i nilA)==0) with
   |true=>
    rw [if_neg (by unfold invA;rw [h4];decide)] at hF
    with_reducible repeat' first|(refine nx ?_;intros)|apply And.intro|intro vr|(refine ny ?_;intros;simp only [go_sem,kp72,geff,g3,Int.toNat_natCast,arrs_length,arrV,arrOf_agg,slK_sl,h4,Bool.not_true])
    all_goals try exact nd
    exact ⟨⟨i+1,by omega,by rw [←hF];congr 1⟩,wf,lf⟩
   |false=>
    rw [if_pos (by unfold invA;rw [h4];decide)] at hF
    with_reducible repeat' first|(refine nx ?_;intros)|apply And.intro|intro vr|(refine ny ?_;intros;simp only [go_sem,kp72,geff,g3,Int.toNat_natCast,arrs_length,arrV,arrOf_agg,slK_sl,h4,Bool.not_false])
    all_goals try exact nd
    all_goals (refine nl ?_;simp only [go_sem])
    exact LeA.of_eq (by rw [←hF])
  ·have g3:decide ((i:Int)<(l.length:Int))=false:=decide_eq_false (by omega)
   rw [List.drop_eq_nil_of_le (by omega),idxA] at hF
   with_reducible repeat' first|(refine nx ?_;intros)|apply And.intro|intro vr|(refine ny ?_;intros;simp only [go_sem,kp72,geff,g3,Int.toNat_natCast,arrs_length])
   all_goals try exact nd
   all_goals (refine nl ?_;simp only [go_sem])
   exact LeA.of_eq (by rw [←hF])
noncomputable def con72:PCon Tryz.prog where
  f:=72
  c:=fun
   |[x,.fn (.func 45) [] []]=>match arrsOf x with|some l=>some (l.length≤1000000∧∀ a∈l,okA a,.lit (.int .i64 (idxA invA l 0)))|_=>none
   |_=>none
  ok:=by
   intro args p r hc hp
   split at hc
   ·split at hc
    ·rename_i hx
     cases hc
     exact PC.weak (idxa_pc hp.1 hp.2) ⟨arrsOf_le hx,LeA.refl _,trivial⟩
    ·cases hc
   ·cases hc
  fk:=fk72
theorem con72_f:con72.f=72:=rfl
theorem con72_c {x:AV}:con72.c [x,.fn (.func 45) [] []]=match arrsOf x with|some l=>some (l.length≤1000000∧∀ a∈l,okA a,.lit (.int .i64 (idxA invA l 0)))|_=>none:=rfl
attribute [go_sem] con72_f con72_c
noncomputable def E77:Env:=envJ (P:=Tryz.prog) jk zer (fun _=>false) (fun _=>false) [con72] []
theorem E77_ok:EnvOk Tryz.prog E77:=envJOk zer_ok
theorem anya_pc {l:List Arr} (hl:l.length≤1000000) (hk:∀ a∈l,okA a):PC Tryz.prog 44 [.sl false 3 (arrs l),.fn (.func 45) [] []] (.lit (.bool (l.any invA))):=by
  rw [←idxA_any invA l 0 (by omega)]
  refine pcR E77_ok (kp44) Tryz.func44 [.tmp 4] (h:=fun KF=>?_)
  unfold E77
  with_reducible repeat' first|(refine nx ?_;intros)|apply And.intro|intro vr|(refine ny ?_;intros;simp only [go_sem,kp44,geff,arrsOf_sl])
  all_goals try exact nd
  all_goals try exact hk _ (by assumption)
  all_goals (refine nl ?_;simp only [go_sem])
  exact LeA.refl _
noncomputable def con44:PCon Tryz.prog where
  f:=44
  c:=fun
   |[x,.fn (.func 45) [] []]=>match arrsOf x with|some l=>some (l.length≤1000000∧∀ a∈l,okA a,.lit (.bool (l.any invA)))|_=>none
   |_=>none
  ok:=by
   intro args p r hc hp
   split at hc
   ·split at hc
    ·rename_i hx
     cases hc
     exact PC.weak (anya_pc hp.1 hp.2) ⟨arrsOf_le hx,LeA.refl _,trivial⟩
    ·cases hc
   ·cases hc
  fk:=fk44
theorem con44_f:con44.f=44:=rfl
theorem con44_c {x:AV}:con44.c [x,.fn (.func 45) [] []]=match arrsOf x with|some l=>some (l.length≤1000000∧∀ a∈l,okA a,.lit (.bool (l.any invA)))|_=>none:=rfl
attribute [go_sem] con44_f con44_c
end Go.Proofs.YtnlimcijgpaegaaGreat

namespace Go.Proofs.YtnlimcijgpaegaaGreat.Mm
open Go.Proofs.YtnlimcijgpaegaaGreat
open Go Go.Fw Bm
def fillS (B:Prg):List Arr→Nat→List Int→Int→Int ⊕ (List Int×Int)
  |[],_,ar,pk=> .inr (ar,pk)
  |a::l,i,ar,pk=>if eqS a.e (B.types.getD i nilA).e=false then .inl 12 else if a.d≠(B.types.getD i nilA).d then .inl 14
   else fillS B l (i+1) (putI ar (B.ins.getD i (0,0)).1.toNat a.x) (maxI pk ((B.ins.getD i (0,0)).1+(B.ins.getD i (0,0)).2))
def startS (B:Prg) (ins:List Arr):Int ⊕ (List Int×Int):=
  if (!validS B||(ins.length:Int) !=B.ins.length||ins.any invA)=true then .inl 1 else fillS B ins 0 (List.replicate B.arena.toNat 0) 0
def s0 (B:Prg) (ar:List Int) (pk:Int):St:=⟨List.replicate B.regs.toNat 0,ar,0,0,0,pk,[],200001,false,0,false⟩
def m0 (B:Prg) (ar:List Int) (pk:Int):MS:=⟨List.replicate B.regs.toNat 0,ar,[],0,0,0,0,0,pk,0,0,0⟩
variable {B:Prg} {ar:List Int} {pk:Int} {l:List Arr}
theorem types_at {a:Int}:∀ {l:List Arr} {m:List (Int×Int)} {i:Nat},typesOk a l m=true→i<l.length→i<m.length→typeOk a (l.getD i nilA) (m.getD i (0,0))=true
  |t::ts,p::ps,0,h,_,_=>by
   simp only [typesOk,Bool.and_eq_true] at h;exact h.1
  |t::ts,p::ps,i+1,h,h1,h2=>by
   simp only [typesOk,Bool.and_eq_true] at h
   exact types_at (i:=i) h.2 (by simpa using h1) (by simpa using h2)
  |[],_,_,_,h,_=>by simp at h
  |_::_,[],_,_,_,h=>by simp at h
theorem ofE_inv {a:Arr} (h:invA a=false):(eqS a.e sInt||eqS a.e sBool)=true∧(sizeS a.d).2=0∧(a.x.length:Int)=(sizeS a.d).1∧∀ n∈a.x,vld a.e n=true:=by
  have h:ofE a=0:=by simpa [invA] using h
  unfold ofE at h
  split at h
  ·cases h
  ·rename_i h1
   split at h
   ·rename_i h2;exact absurd h h2
   ·rename_i h2
    split at h
    ·cases h
    ·rename_i h3
     split at h
     ·cases h
     ·rename_i h4
      refine ⟨by revert h1;cases (eqS a.e sInt||eqS a.e sBool)<;>simp,by simpa using h2,by simpa using h3,fun n hn=>?_⟩
      have:a.x.any (fun n=> !vld a.e n)=false:=by simpa using h4
      rw [List.any_eq_false] at this
      simpa using this n hn
theorem vld_int {s:ByteArray} {n:Int} (h:vld s n=true):vld sInt n=true:=by
  unfold vld at h ⊢
  rw [if_pos (by kernel_rfl)]
  split at h
  ·exact h
  ·split at h
   ·have:n=0∨n=1:=by simpa using h
    exact decide_eq_true (by omega)
   ·cases h
theorem putI_mem {P:Int→Prop}:∀ (m l:List Int) (i:Nat),(∀ n∈l,P n)→(∀ n∈m,P n)→∀ n∈putI l i m,P n
  |[],l,i,hl,_=>hl
  |x::m,l,i,hl,hm=>by
   simp only [putI]
   refine putI_mem m _ _ (fun n hn=>?_) (fun n hn=>hm n (by simp [hn]))
   rcases List.mem_or_eq_of_mem_set hn with h|rfl
   ·exact hl n h
   ·exact hm _ (by simp)
structure Fl (B:Prg) (ar:List Int) (pk:Int):Prop where
  len:(ar.length:Int)=B.arena
  words:∀ n∈ar,vld sInt n=true
  pk:0≤pk∧pk≤B.arena
theorem fl_start (h:0≤B.arena):Fl B (List.replicate B.arena.toNat 0) 0:=⟨by simp;omega,fun n hn=>by
  have:=(List.mem_replicate.1 hn).2
  subst this;decide,by omega⟩
structure In1 (B:Prg) (a:Arr) (i:Nat):Prop where
  off:0≤(B.ins.getD i (0,0)).1
  size:(a.x.length:Int)=(B.ins.getD i (0,0)).2
  fit:(B.ins.getD i (0,0)).1+a.x.length≤B.arena
  x:∀ n∈a.x,vld sInt n=true
theorem in1_of {a:Arr} {i:Nat} (hv:validS B=true) (ha:invA a=false) (hi:i<B.ins.length) (hd:a.d=(B.types.getD i nilA).d):In1 B a i:=by
  obtain ⟨_,_,_,_,h5,h6⟩:=valid_inv hv
  obtain ⟨_,a2,a3,a4⟩:=ofE_inv ha
  have ht:=types_at (i:=i) h6 (by omega) (by simp;omega)
  have e:(B.ins++B.outs).getD i (0,0)=B.ins.getD i (0,0):=by simp [List.getD,List.getElem?_append_left hi]
  rw [e] at ht
  simp only [typeOk,Bool.and_eq_true,decide_eq_true_eq] at ht
  obtain ⟨⟨⟨⟨⟨_,t2⟩,t3⟩,t4⟩,t5⟩,t6⟩:=ht
  rw [←hd] at t4 t6
  exact ⟨t5,by omega,by omega,fun n hn=>vld_int (a4 n hn)⟩
theorem Fl.next {a:Arr} {i:Nat} (h:Fl B ar pk) (hi:In1 B a i):Fl B (putI ar (B.ins.getD i (0,0)).1.toNat a.x) (maxI pk ((B.ins.getD i (0,0)).1+(B.ins.getD i (0,0)).2)):=by
  have h1:=hi.off
  have h2:=hi.size
  have h3:=hi.fit
  have h4:=h.pk
  exact ⟨by rw [putI_length];exact h.len,putI_mem _ _ _ h.words hi.x,by unfold maxI;split<;>omega⟩
theorem rp_start (n:Nat) (hn:B.regs.toNat=n):Rp n (m0 B ar pk) (s0 B ar pk):=⟨by simp [m0,hn],rfl,by simp [m0],.inl ⟨rfl,⟨by simp [s0],rfl,rfl,rfl,rfl,rfl,rfl,rfl,rfl,rfl,rfl,by simp [m0]⟩⟩⟩
theorem gd_start (n A:Nat) (hn:B.regs.toNat=n) (hA:B.arena=A) (h:Fl B ar pk):Gd n A 200001 (s0 B ar pk):=by
  have h1:=h.len
  have h2:=h.pk
  refine ⟨by simp [s0,hn],by simp [s0];omega,fun r hr=>?_,h.words,by simp only [s0];omega,by simp [s0],by simp only [s0];omega⟩
  have:=(List.mem_replicate.1 hr).2
  subst this;simp [maxC]
end Go.Proofs.YtnlimcijgpaegaaGreat.Mm

namespace Go.Proofs.YtnlimcijgpaegaaGreat.Mm
open Go.Proofs.YtnlimcijgpaegaaGreat
open Go Go.Fw Bm
set_option maxRecDepth 20000
section
variable {x y u v:AObj} {B:Prg} {mt:List Int} {m:MS} {ex:List AObj}
abbrev oMm7_0:List (Nat×Nat):=[(0,2),(1,2),(2,2),(3,2),(4,2),(5,2),(6,2),(7,2),(8,2),(9,2),(10,2),(11,2),(12,2),(13,0)]
abbrev oMm7_1:List (Nat×Nat):=[(0,1),(1,2),(2,2),(3,2),(4,2),(5,2),(6,2),(7,2),(8,1),(9,2),(10,2),(11,2),(12,2),(13,2),(14,1),(15,2),(16,2),(17,2),(18,1),(19,1),(20,2),(21,2),(22,2),(23,0)]
attribute [go_sem] oMm7_0 oMm7_1
theorem mo_len:(mobj x y B mt m ex).length=ex.length+7:=rfl
theorem mo_2:(mobj x y B mt m ex)[2]? =some (.box 26 [.lit (.int .i64 B.regs),.lit (.int .i64 B.arena),.sl false 6 (opsV B.ops),.sl false 2 (plsV B.ins),.sl false 2 (plsV B.outs),.sl false 3 (arrs B.types)]):=rfl
theorem mo_3:(mobj x y B mt m ex)[3]? =some (.arr 3 1 (ints .i64 m.regs) 0 false):=rfl
theorem mo_4:(mobj x y B mt m ex)[4]? =some (.arr 3 1 (ints .i64 m.arena) 0 false):=rfl
theorem mo_5:(mobj x y B mt m ex)[5]? =some (.box 62 [.lit (.int .i64 B.regs),.lit (.int .i64 B.arena),.sl false 6 (opsV B.ops),.sl false 2 (plsV B.ins),.sl false 2 (plsV B.outs),.sl false 3 (arrs B.types),.sl false 1 (ints .i64 mt),.arr 3 0,.arr 4 0,
  .lit (.int .i64 m.reads),.lit (.int .i64 m.writes),.lit (.int .i64 m.ops),.lit (.int .i64 m.peak),.arr 6 m.vb,.lit (.int .i64 m.steps),.lit (.int .i64 m.at_),.lit (.int .i64 m.e)]):=rfl
theorem mo_6:(mobj x y B mt m ex)[6]? =some (.arr 3 1 (ints .i64 m.viol) m.vv false):=rfl
theorem mo_7:(mobj x y B mt m (u::ex))[7]? =some u:=rfl
theorem mo_8:(mobj x y B mt m (u::v::ex))[8]? =some v:=rfl
theorem mo_app {l:List AObj}:mobj x y B mt m ex++l=mobj x y B mt m (ex++l):=rfl
theorem mo_s4 {l:List Int}:(mobj x y B mt m ex).set 4 (.arr 3 1 (ints .i64 l) 0 false)=mobj x y B mt {m with arena:=l} ex:=rfl
theorem mo_s6 {l:List Int} {k:Nat}:(mobj x y B mt m ex).set 6 (.arr 3 1 (ints .i64 l) k false)=mobj x y B mt {m with viol:=l,vv:=k} ex:=rfl
theorem mo_s5 {c1 c2 c3 c4 c5 c6 c7:Int} {k:Nat}:(mobj x y B mt m ex).set 5 (.box 62 [.lit (.int .i64 B.regs),.lit (.int .i64 B.arena),.sl false 6 (opsV B.ops),.sl false 2 (plsV B.ins),.sl false 2 (plsV B.outs),.sl false 3 (arrs B.types),.sl false 1 (ints .i64 mt),.arr 3 0,.arr 4 0,
  .lit (.int .i64 c1),.lit (.int .i64 c2),.lit (.int .i64 c3),.lit (.int .i64 c4),.arr 6 k,.lit (.int .i64 c5),.lit (.int .i64 c6),.lit (.int .i64 c7)])=mobj x y B mt {m with reads:=c1,writes:=c2,ops:=c3,peak:=c4,vb:=k,steps:=c5,at_:=c6,e:=c7} ex:=rfl
theorem mo_s7:(mobj x y B mt m (u::ex)).set 7 v=mobj x y B mt m (v::ex):=rfl
end
attribute [go_sem] mo_len mo_2 mo_3 mo_4 mo_5 mo_6 mo_7 mo_8 mo_app mo_s4 mo_s6 mo_s5 mo_s7
theorem BdS.app {n n':Nat} {σ l:List AObj} (h:BdS n σ) (hn:n≤n') (hl:l.all (lowO n')=true):BdS n' (σ++l):=fun o t cs ho=>by
  rcases Nat.lt_or_ge o σ.length with c|c
  ·rw [List.getElem?_append_left c] at ho
   intro i hi G v hG hr
   have:=h o t cs ho i hi G v (by omega) hr
   exact this.mono ⟨CLe.refl _,hn,fun _ _=>Nat.le_refl _,fun _ _ _=>rfl,fun _ _ _=>rfl⟩
  ·rw [List.getElem?_append_right c] at ho
   exact bds_low hl (o - σ.length) t cs ho
theorem ec_bds {P:Program} {f:FuncId} {args:List AV} {σ:List AObj} {k:AV→List AObj→Prop} (h:BdS σ.length σ→EC P f args σ k):EC P f args σ k:=fun cx G w vs hr hl=>h hr.bds cx G w vs hr hl
section
variable {x y u:AObj} {B:Prg} {mt:List Int} {m:MS} {k:AV→List AObj→Prop} {ins:List Arr}
theorem bd3 (h:BdS 2 [x,y]):BdS 3 [x,y,bxB B]:=BdS.app (σ:=[x,y]) (l:=[bxB B]) h (by omega) (by simp [lowO,bxB,low_lit,low_sl])
theorem bd7 (h:BdS 2 [x,y]):BdS 7 (mobj x y B mt m []):=BdS.app (σ:=[x,y]) h (by omega) (by simp [lowO,bxB,stO,low_lit,low_sl,low_arr])
theorem le_mo1 {n0:Nat} {f g:Nat→AV} (hn:n0≤7) (hb:BdS 2 [x,y]) (hg:∀ j,low1 7 (g j)=true) (h:∀ j,LeR (f j) (g j)):Le n0 ⟨f,mobj x y B mt m [u]⟩ ⟨g,mobj x y B mt m []⟩:=
  le_backB (l:=mobj x y B mt m []) (m:=[u]) rfl hn (bd7 hb) hg h
theorem rep_ints (n:Nat):List.replicate n (AV.lit (.int .i64 0))=ints .i64 (List.replicate n 0):=by simp [ints]
theorem kp_2 {a0 a1 a2:AObj} {l l':List AObj}:Kp (fun i=>i==2) (a0::a1::a2::l) (a0::a1::a2::l'):=fun o t cs hD ho=>by
  have e:o=2:=by simpa using hD
  subst e
  exact ho
theorem kp_mo2 {m':MS} {l l':List AObj}:Kp (fun i=>i==2) (mobj x y B mt m l) (mobj x y B mt m' l'):=kp_2
noncomputable def M7:Env:=envU Tryz.prog jkR zer (fun _=>false) (fun _=>false) [con20,con31,con44,con47]
theorem M7_ok:EnvOk Tryz.prog M7:=envUOk zer_ok
attribute [go_sem] con47_f con47_c
theorem m0ar {ar:List Int} {pk:Int}:(m0 B ar pk).arena=ar:=rfl
theorem m0pk {ar:List Int} {pk:Int}:(m0 B ar pk).peak=pk:=rfl
structure Fq (B:Prg) (ins:List Arr) where
  i:Nat
  ar:List Int
  pk:Int
  hi:i≤ins.length
  hf:Fl B ar pk
  hq:startS B ins=fillS B (ins.drop i) i ar pk
set_option maxHeartbeats 8000000 in
theorem start_ec (hO:OkB B∧B.ins.length≤100000∧B.outs.length≤100000) (hi:ins.length≤1000000∧∀ a∈ins,okA a)
    (hk1:∀ e σ',startS B ins= .inl e→k (.tup [.lit (.pointer none),.lit (.int .i64 e)]) (x::y::σ'))
    (hk2:∀ mt ar pk m' s',startS B ins= .inr (ar,pk)→validS B=true→matchS B.ops=some mt→Fl B ar pk→Runs B mt [] (.blk 0 B.ops.length) (s0 B ar pk) s'→Rp B.regs.toNat m' s'→(m'.e=0→Gd B.regs.toNat B.arena.toNat 200001 s')→k (.tup [.ref 5 0,.lit (.int .i64 m'.e)]) (mobj x y B mt m' [])):
    EC Tryz.prog 23 [bcV B,.sl false 3 (arrs ins)] [x,y] k:=by
  refine ec_bds fun hbd=>?_
  obtain ⟨hO,hi1,hi2⟩:=hO
  obtain ⟨hn1,hn2⟩:=hi
  simp only [bcV]
  cases hv:validS B with
  |false=>
   have e:startS B ins= .inl 1:=by unfold startS;rw [hv];rfl
   have hk:=fun σ'=>hk1 1 σ' e
   refine ecR M7_ok (kp23) Tryz.func23 [.tmp 4,.tmp 5] (h:=fun KF=>?_)
   unfold M7
   repeat' first|(with_reducible first|(refine nx ?_;intros)|apply And.intro|intro vr)|exact kp_fls|exact kp_2|exact kp_mo2|exact kpd|((with_reducible first|refine ny ?_|refine t_kLF ?_ ?_|refine t_dO 12 (fun _=>false) oMm7_0 fun K=>?_|refine t_dO 13 (fun _=>false) oMm7_1 fun K=>?_|refine t_dwh (h:=fun K KL=>?_));intros;simp only [go_sem,kp23,geff,bcOf_B,hv,Bool.not_false,List.cons_append,List.nil_append,yes])
   all_goals try exact nd
   all_goals (refine nl ?_;simp only [go_sem])
   exact hk _
  |true=>
   cases hl:((ins.length:Int) !=B.ins.length) with
   |true=>
    have e:startS B ins= .inl 1:=by unfold startS;rw [hv,hl];rfl
    have hk:=fun σ'=>hk1 1 σ' e
    refine ecR M7_ok (kp23) Tryz.func23 [.tmp 4,.tmp 5] (h:=fun KF=>?_)
    unfold M7
    repeat' first|(with_reducible first|(refine nx ?_;intros)|apply And.intro|intro vr)|exact kp_fls|exact kp_2|exact kp_mo2|exact kpd|((with_reducible first|refine ny ?_|refine t_kLF ?_ ?_|refine t_dO 12 (fun _=>false) oMm7_0 fun K=>?_|refine t_dO 13 (fun _=>false) oMm7_1 fun K=>?_|refine t_dwh (h:=fun K KL=>?_));intros;simp only [go_sem,kp23,geff,bcOf_B,hv,hl,Bool.not_true,List.cons_append,List.nil_append,yes])
    all_goals try exact nd
    all_goals (refine nl ?_;simp only [go_sem])
    exact hk _
   |false=>
    cases ha:ins.any invA with
    |true=>
     have e:startS B ins= .inl 1:=by unfold startS;rw [hv,hl,ha];rfl
     have hk:=fun σ'=>hk1 1 σ' e
     refine ecR M7_ok (kp23) Tryz.func23 [.tmp 4,.tmp 5] (h:=fun KF=>?_)
     unfold M7
     repeat' first|(with_reducible first|(refine nx ?_;intros)|apply And.intro|intro vr)|exact kp_fls|exact kp_2|exact kp_mo2|exact kpd|((with_reducible first|refine ny ?_|refine t_kLF ?_ ?_|refine t_dO 12 (fun _=>false) oMm7_0 fun K=>?_|refine t_dO 13 (fun _=>false) oMm7_1 fun K=>?_|refine t_dwh (h:=fun K KL=>?_));intros;simp only [go_sem,kp23,geff,bcOf_B,hv,hl,ha,Bool.not_true,List.cons_append,List.nil_append,yes])
     all_goals try exact nd
     all_goals try exact hn2 _ (by assumption)
     all_goals (refine nl ?_;simp only [go_sem])
     exact hk _
    |false=>
     have e:startS B ins=fillS B ins 0 (List.replicate B.arena.toNat 0) 0:=by unfold startS;rw [hv,hl,ha];rfl
     obtain ⟨⟨r0,r1⟩,⟨a0,a1⟩,⟨mt,hm⟩,hR,_,_⟩:=valid_inv hv
     have hO1:=hO.ops
     have hK:=wk_of hv hm hO1
     have hF0:=match_fre hm
     have hll:(ins.length:Int)=B.ins.length:=by simpa using hl
     have hmv:matchV B.ops= .tup [.sl false 1 (ints .i64 mt),.lit (.bool true)]:=by unfold matchV;rw [hm]
     refine ecR M7_ok (kp23) Tryz.func23 [.tmp 4,.tmp 5] (h:=fun KF=>?_)
     unfold M7
     repeat' first|(with_reducible first|(refine nx ?_;intros)|apply And.intro|intro vr)|exact kp_fls|exact kp_2|exact kp_mo2|exact kpd|((with_reducible first|refine ny ?_|refine t_kLF ?_ ?_|refine t_dO 12 (fun _=>false) oMm7_0 fun K=>?_|refine t_dO 13 (fun _=>false) oMm7_1 fun K=>?_);intros;simp only [go_sem,kp23,geff,bcOf_B,hv,hl,ha,hmv,Bool.not_true,List.cons_append,List.nil_append,yes])
     all_goals try exact nd
     all_goals try exact hn2 _ (by assumption)
     refine t_drawP ⟨upd (upd (upd topF 8 (.ref 5 0)) 2 (.ref 2 0)) 1 (.sl false 3 (arrs ins)),mobj x y B mt (m0 B (List.replicate B.arena.toNat 0) 0) []⟩ (fun i=>i==2) [(0,1),(1,1),(2,1),(3,1),(5,1),(6,1)] [4,7] [(8,1),(9,0),(10,1)] (by kernel_rfl) ?_ ?_
     rotate_left
     ·skip
      intro K
      simp only [pickO,pickG,List.getElem?_toArray,List.getElem?_cons_zero,List.getElem?_cons_succ,List.length_cons,List.length_nil,Nat.reduceAdd,lp_some]
      simp only [go_sem,pickO,pickG,geff,kp23,List.cons_append,List.nil_append,rep_ints]
      repeat' first|(with_reducible first|(refine nx ?_;intros)|apply And.intro|intro vr)|exact kp_fls|exact kp_2|exact kp_mo2|exact kpd|((with_reducible first|refine ny ?_|refine t_kLF ?_ ?_|refine t_kPE ?_ ?_|refine t_dO 12 (fun _=>false) oMm7_0 fun K=>?_|refine t_dO 13 (fun _=>false) oMm7_1 fun K=>?_);intros;simp only [go_sem,kp23,geff,List.cons_append,List.nil_append,rep_ints])
      all_goals try exact nd
      ·refine Le.trans (le_nilB 5 13 3 1 rfl ?_ ?_) ?_
       ·simp
       ·exact nil_sl
       exact lg
      ·refine le_swapM (τ:=[x,y,_]) (m:=[_]) (by simp) (bd3 hbd) rfl rfl rfl ?_ ?_
       ·repeat' (first|exact flatF_top|(refine flatF_upd rfl ?_))
       simp only [renF_upd,renF_top,ren1,renA,renO,sw,List.map_cons,List.map_nil,List.length_cons,List.length_nil,Nat.reduceAdd,Nat.reduceEqDiff,reduceIte,List.cons_append,List.nil_append]
       refine Le.trans (le_nilB 5 13 3 1 rfl ?_ ?_) ?_
       ·simp
       ·exact nil_sl
       exact lg
     have hpl:=hK.len
     repeat' first|(with_reducible first|(refine nx ?_;intros)|apply And.intro|intro vr)|exact kp_fls|exact kp_2|exact kp_mo2|exact kpd|((with_reducible first|refine ny ?_|refine t_kLF ?_ ?_|refine t_dO 12 (fun _=>false) oMm7_0 fun K=>?_|refine t_dO 13 (fun _=>false) oMm7_1 fun K=>?_|refine t_dwh (h:=fun K KL=>?_));intros;simp only [go_sem,kp23,geff,hv,yes])
     all_goals try exact nd
     refine t_loopF (ι:=Fq B ins) (fun q=>[(44,.lit (.int .i64 (q.i:Int)))]) (fun q=>mobj x y B mt (m0 B q.ar q.pk) []) (fun q=>ins.length - q.i) ⟨0,List.replicate B.arena.toNat 0,0,Nat.zero_le _,fl_start a0,e⟩ ?_ ?_
     ·exact lf
     rintro ⟨i,ar,pk,hil,hfl,hq⟩ K0
     have f1:=hfl.len
     have f2:=hfl.pk
     rcases Nat.lt_or_ge i ins.length with hc|hc
     ·have g3:decide ((i:Int)<(ins.length:Int))=true:=decide_eq_true (by omega)
      have hib:i<B.ins.length:=by omega
      have hmem:ins.getD i nilA∈ins:=by rw [List.getD_eq_getElem?_getD,List.getElem?_eq_getElem hc];exact List.getElem_mem hc
      have hoa:=hn2 _ hmem
      have hiv:invA (ins.getD i nilA)=false:=by
        have:=List.any_eq_false.1 ha _ hmem
        simpa using this
      have hdr:ins.drop i=ins.getD i nilA::ins.drop (i+1):=drop_getD nilA hc
      rw [hdr,fillS] at hq
      have hin:=fun hd=>in1_of hv hiv hib hd
      have hfn:=fun hd=>hfl.next (hin hd)
      generalize hX:ins.getD i nilA=X at*
      generalize hT:B.types.getD i nilA=T at*
      generalize hP:B.ins.getD i (0,0)=P at*
      obtain ⟨xe,xd,xx⟩:=X
      obtain ⟨te,td,tx⟩:=T
      obtain ⟨po,ps⟩:=P
      obtain ⟨ho1,ho2⟩:=hoa
      have vX:arrV ⟨xe,xd,xx⟩= .agg [.lit (.string xe),.sl false 1 (ints .i64 xd),.sl false 1 (ints .i64 xx)]:=rfl
      have vT:arrV ⟨te,td,tx⟩= .agg [.lit (.string te),.sl false 1 (ints .i64 td),.sl false 1 (ints .i64 tx)]:=rfl
      have vP:plV (po,ps)= .agg [.lit (.int .i64 po),.lit (.int .i64 ps)]:=rfl
      simp only at hq ho1 ho2
      cases he:eqS xe te with
      |false=>
       rw [if_pos he] at hq
       have hk:=fun σ'=>hk1 12 σ' hq
       repeat' first|(with_reducible first|(refine nx ?_;intros)|apply And.intro|intro vr)|exact kp_fls|exact kp_2|exact kp_mo2|exact kpd|((with_reducible first|refine ny ?_|refine t_kLF ?_ ?_|refine t_dO 12 (fun _=>false) oMm7_0 fun K=>?_|refine t_dO 13 (fun _=>false) oMm7_1 fun K=>?_|refine t_dwh (h:=fun K KL=>?_));intros;simp only [go_sem,kp23,geff,g3,hX,hT,vX,vT,he,Int.toNat_natCast,yes])
       all_goals try exact nd
       all_goals (refine nl ?_;simp only [go_sem])
       exact hk _
      |true=>
       rw [if_neg (by rw [he];decide)] at hq
       by_cases hd:xd=td
       ·subst hd
        rw [if_neg (by simp)] at hq
        have h1:=hin rfl
        have h2:=hfn rfl
        have q1:=h1.off
        have q2:=h1.size
        have q3:=h1.fit
        rw [hP] at q1 q2 q3
        simp only at q1 q2 q3 h2
        have g5:decide (xd=xd)=true:=decide_eq_true rfl
        have hmin:min xx.length (ar.length - po.toNat)=xx.length:=by omega
        have hcp:=setRange_ints .i64 xx ar po.toNat
        repeat' first|(with_reducible first|(refine nx ?_;intros)|apply And.intro|intro vr)|exact kp_fls|exact kp_2|exact kp_mo2|exact kpd|((with_reducible first|refine ny ?_|refine t_kLF ?_ ?_|refine t_dO 12 (fun _=>false) oMm7_0 fun K=>?_|refine t_dO 13 (fun _=>false) oMm7_1 fun K=>?_|refine t_dwh (h:=fun K KL=>?_));intros;simp only [go_sem,kp23,geff,g3,hX,hT,hP,vX,vT,vP,he,g5,m0ar,m0pk,Nat.zero_add,Nat.sub_zero,hmin,List.take_length,hcp,Int.toNat_natCast,yes])
        all_goals try exact nd
        refine ⟨⟨i+1,putI ar po.toNat xx,maxI pk (po+ps),by omega,h2,hq⟩,by simp only;omega,?_⟩
        try simp only [updL_nil,updL_cons,delF_top,delF_upd,Nat.reduceEqDiff,reduceIte]
        refine le_mo1 (m:=m0 B (putI ar po.toNat xx) (maxI pk (po+ps))) (by simp) hbd ?_ ?_
        ·repeat' (first|exact low_top|(refine low_upd rfl ?_))
        exact lq
       ·rw [if_pos hd] at hq
        have hk:=fun σ'=>hk1 14 σ' hq
        have g5:decide (xd=td)=false:=decide_eq_false hd
        repeat' first|(with_reducible first|(refine nx ?_;intros)|apply And.intro|intro vr)|exact kp_fls|exact kp_2|exact kp_mo2|exact kpd|((with_reducible first|refine ny ?_|refine t_kLF ?_ ?_|refine t_dO 12 (fun _=>false) oMm7_0 fun K=>?_|refine t_dO 13 (fun _=>false) oMm7_1 fun K=>?_|refine t_dwh (h:=fun K KL=>?_));intros;simp only [go_sem,kp23,geff,g3,hX,hT,vX,vT,he,g5,Int.toNat_natCast,yes])
        all_goals try exact nd
        all_goals (refine nl ?_;simp only [go_sem])
        exact hk _
     ·have g3:decide ((i:Int)<(ins.length:Int))=false:=decide_eq_false (by omega)
      have hq2:startS B ins= .inr (ar,pk):=by rw [hq,List.drop_eq_nil_of_le hc];rfl
      repeat' first|(with_reducible first|(refine nx ?_;intros)|apply And.intro|intro vr)|exact kp_fls|exact kp_2|exact kp_mo2|exact kpd|((with_reducible first|refine ny ?_|refine t_kLF ?_ ?_|refine t_dO 12 (fun _=>false) oMm7_0 fun K=>?_|refine t_dO 13 (fun _=>false) oMm7_1 fun K=>?_|refine t_dwh (h:=fun K KL=>?_));intros;simp only [go_sem,kp23,geff,g3,yes])
      all_goals try exact nd
      refine ⟨fk48,run_ec (s:=s0 B ar pk) (c:=200001) (A:=B.arena.toNat) hK hF0 (by omega) (by omega) (fun _=>gd_start _ _ rfl (by omega) hfl) (rp_start _ rfl) fun m2 s2 hr2 hg2 h2=>?_⟩
      repeat' first|(with_reducible first|(refine nx ?_;intros)|apply And.intro|intro vr)|exact kp_fls|exact kp_2|exact kp_mo2|exact kpd|((with_reducible first|refine ny ?_|refine t_kLF ?_ ?_|refine t_dO 12 (fun _=>false) oMm7_0 fun K=>?_|refine t_dO 13 (fun _=>false) oMm7_1 fun K=>?_|refine t_dwh (h:=fun K KL=>?_));intros;simp only [go_sem,kp23,geff,yes])
      all_goals try exact nd
      all_goals (refine nl ?_;simp only [go_sem])
      exact hk2 mt ar pk m2 s2 hq2 hv hm hfl hr2 h2 hg2
end
end Go.Proofs.YtnlimcijgpaegaaGreat.Mm

namespace Go.Proofs.YtnlimcijgpaegaaGreat.Bm
open Go.Proofs.YtnlimcijgpaegaaGreat
open Go Go.Fw
def SA (l:List Int):Prop:=l.Pairwise (fun a b=>a<b)
theorem sa_eq:∀ {l m:List Int},SA l→SA m→(∀ x,x∈l ↔ x∈m)→l=m
  |[],[],_,_,_=>rfl
  |[],b::m,_,_,h=>absurd ((h b).2 (by simp)) (by simp)
  |a::l,[],_,_,h=>absurd ((h a).1 (by simp)) (by simp)
  |a::l,b::m,h1,h2,h=>by
   obtain ⟨p1,p2⟩:=List.pairwise_cons.1 h1
   obtain ⟨q1,q2⟩:=List.pairwise_cons.1 h2
   have e:a=b:=by
     rcases List.mem_cons.1 ((h a).1 (by simp)) with e|e
     ·exact e
     ·rcases List.mem_cons.1 ((h b).2 (by simp)) with f|f
      ·exact f.symm
      ·have:=q1 a e;have:=p1 b f;omega
   subst e
   congr 1
   refine sa_eq p2 q2 fun x=>⟨fun hx=>?_,fun hx=>?_⟩
   ·rcases List.mem_cons.1 ((h x).1 (by simp [hx])) with e|e
    ·subst e;have:=p1 x hx;omega
    ·exact e
   ·rcases List.mem_cons.1 ((h x).2 (by simp [hx])) with e|e
    ·subst e;have:=q1 x hx;omega
    ·exact e
def noteR (n:Int):List Int→List Int
  |[]=>[n]
  |m::l=>if m<n then m::noteR n l else if m=n then m::l else n::m::l
theorem noteS_eq (n:Int):∀ l,noteS l n=noteR n l
  |[]=>rfl
  |m::l=>by
   have ih:=noteS_eq n l
   unfold noteS at ih ⊢
   unfold noteR
   by_cases h:m<n
   ·rw [if_pos h,←ih]
    simp only [List.takeWhile_cons,h,decide_true,if_true,List.length_cons,List.getD_cons_succ,List.take_succ_cons,List.drop_succ_cons]
    by_cases h2:(List.takeWhile (fun m=>decide (m<n)) l).length<l.length∧l.getD (List.takeWhile (fun m=>decide (m<n)) l).length 0=n
    ·rw [if_pos h2,if_pos ⟨by omega,h2.2⟩]
    ·rw [if_neg h2,if_neg (fun q=>h2 ⟨by omega,q.2⟩)];rfl
   ·rw [if_neg h]
    simp only [List.takeWhile_cons,h,decide_false,Bool.false_eq_true,if_false,List.length_nil,List.length_cons,List.getD_cons_zero,List.take_zero,List.drop_zero,List.nil_append]
    by_cases h2:m=n
    ·rw [if_pos ⟨by omega,h2⟩,if_pos h2]
    ·rw [if_neg (fun q=>h2 q.2),if_neg h2];rfl
theorem noteR_mem (n x:Int):∀ l,x∈noteR n l ↔ x=n∨x∈l
  |[]=>by simp [noteR]
  |m::l=>by
   unfold noteR
   split
   ·rw [List.mem_cons,noteR_mem n x l,List.mem_cons]
    constructor
    ·rintro (h|h|h)<;>simp [h]
    ·rintro (h|h|h)<;>simp [h]
   ·split
    ·rename_i h;subst h
     simp only [List.mem_cons]
     constructor
     ·exact fun h=> .inr h
     ·rintro (h|h)
      ·exact .inl h
      ·exact h
    ·exact List.mem_cons
theorem noteR_sa (n:Int):∀ {l},SA l→SA (noteR n l)
  |[],_=>by simp [noteR,SA]
  |m::l,h=>by
   obtain ⟨p1,p2⟩:=List.pairwise_cons.1 h
   unfold noteR
   split
   ·rename_i hm
    refine List.pairwise_cons.2 ⟨fun x hx=>?_,noteR_sa n p2⟩
    rcases (noteR_mem n x l).1 hx with e|e
    ·omega
    ·exact p1 x e
   ·split
    ·exact h
    ·refine List.pairwise_cons.2 ⟨fun x hx=>?_,h⟩
     rcases List.mem_cons.1 hx with e|e
     ·omega
     ·have:=p1 x e;omega
theorem fold_note:∀ (V l:List Int),SA l→SA (V.foldl noteS l)∧∀ x,x∈V.foldl noteS l ↔ x∈V∨x∈l
  |[],l,h=>⟨h,fun x=>by simp⟩
  |n::V,l,h=>by
   rw [List.foldl_cons,noteS_eq]
   obtain ⟨h1,h2⟩:=fold_note V (noteR n l) (noteR_sa n h)
   refine ⟨h1,fun x=>?_⟩
   rw [h2,noteR_mem,List.mem_cons]
   constructor
   ·rintro (h|h|h)<;>simp [h]
   ·rintro ((h|h)|h)<;>simp [h]
theorem compact_sa {zs:List Int} (h:zs.Pairwise (fun a b=>a≤b)):SA (Lib.compact zs)∧∀ x,x∈Lib.compact zs ↔ x∈zs:=by
  have hget:∀ i j,i≤j→j<zs.length→zs.toArray[i]! ≤zs.toArray[j]! :=fun i j hij hj=>by
    have hi:i<zs.length:=by omega
    have e1:zs.toArray[i]! =zs[i]:=by simp [hi]
    have e2:zs.toArray[j]! =zs[j]:=by simp [hj]
    rw [e1,e2]
    rcases Nat.lt_or_ge i j with c|c
    ·exact List.pairwise_iff_getElem.1 h i j hi hj c
    ·have:i=j:=by omega
     subst this;exact Int.le_refl _
  have key:∀ m,m≤zs.length→SA (Lib.compactUpTo zs.toArray m)∧(∀ x∈Lib.compactUpTo zs.toArray m,x≤zs.toArray[m - 1]!)∧∀ x,x∈Lib.compactUpTo zs.toArray m ↔ ∃ j,j<m∧zs.toArray[j]! =x:=by
    intro m
    induction m with
    |zero=>intro _;exact ⟨by simp [Lib.compactUpTo,SA],by simp [Lib.compactUpTo],by simp [Lib.compactUpTo]⟩
    |succ m ih=>
     intro hm
     obtain ⟨h1,h2,h3⟩:=ih (by omega)
     rw [Lib.compactUpTo_succ]
     by_cases hk:Lib.keeps zs.toArray m=true
     ·rw [if_pos hk]
      have hlt:∀ x∈Lib.compactUpTo zs.toArray m,x<zs.toArray[m]! :=fun x hx=>by
        obtain ⟨j,hj,_⟩:=(h3 x).1 hx
        have q1:=h2 x hx
        have q2:=hget (m - 1) m (by omega) (by omega)
        have q3:zs.toArray[m]! ≠zs.toArray[m - 1]! :=by
          have:=of_decide_eq_true hk
          rcases this with c|c
          ·omega
          ·exact c
        omega
      refine ⟨List.pairwise_append.2 ⟨h1,by simp,fun x hx y hy=>?_⟩,fun x hx=>?_,fun x=>?_⟩
      ·have:y=zs.toArray[m]! :=by simpa using hy
       rw [this];exact hlt x hx
      ·rw [Nat.add_sub_cancel]
       rcases List.mem_append.1 hx with hx|hx
       ·exact Int.le_of_lt (hlt x hx)
       ·have:x=zs.toArray[m]! :=by simpa using hx
        rw [this];exact Int.le_refl _
      ·rw [List.mem_append,h3]
       constructor
       ·rintro (⟨j,hj,e⟩|hx)
        ·exact ⟨j,by omega,e⟩
        ·exact ⟨m,by omega,by have:x=zs.toArray[m]! :=by simpa using hx
                              exact this.symm⟩
       ·rintro ⟨j,hj,e⟩
        by_cases c:j=m
        ·subst c;right;rw [←e];simp
        ·left;exact ⟨j,by omega,e⟩
     ·rw [if_neg hk,List.append_nil]
      have hk': ¬ (m=0∨zs.toArray[m]! ≠zs.toArray[m - 1]!):=fun q=>hk (decide_eq_true q)
      have hm0:m≠0:=fun q=>hk' (.inl q)
      have he:zs.toArray[m]! =zs.toArray[m - 1]! :=Classical.byContradiction fun q=>hk' (.inr q)
      refine ⟨h1,fun x hx=>?_,fun x=>?_⟩
      ·rw [Nat.add_sub_cancel,he];exact h2 x hx
      ·rw [h3]
       constructor
       ·rintro ⟨j,hj,e⟩;exact ⟨j,by omega,e⟩
       ·rintro ⟨j,hj,e⟩
        by_cases c:j=m
        ·subst c;exact ⟨j - 1,by omega,by rw [←he];exact e⟩
        ·exact ⟨j,by omega,e⟩
  obtain ⟨h1,_,h3⟩:=key zs.length (Nat.le_refl _)
  refine ⟨h1,fun x=>?_⟩
  unfold Lib.compact
  rw [h3]
  constructor
  ·rintro ⟨j,hj,e⟩
   have:zs.toArray[j]! =zs[j]:=by simp [hj]
   rw [this] at e;rw [←e];exact List.getElem_mem hj
  ·intro hx
   obtain ⟨j,hj,e⟩:=List.getElem_of_mem hx
   exact ⟨j,hj,by simp [hj,e]⟩
theorem compact_len (zs:List Int):(Lib.compact zs).length≤zs.length:=by
  unfold Lib.compact Lib.compactUpTo
  rw [List.length_map]
  exact Nat.le_trans (List.length_filter_le _ _) (by simp)
theorem sort_compact (V:List Int):Lib.compact (V.mergeSort fun x y=>decide (x≤y))=V.foldl noteS []:=by
  have hs:(V.mergeSort fun x y=>decide (x≤y)).Pairwise (fun a b=>a≤b):=by
    have:=List.pairwise_mergeSort (le:=fun (x y:Int)=>decide (x≤y)) (fun a b c h1 h2=>by simp only [decide_eq_true_eq] at*;omega) (fun a b=>by simp only [Bool.or_eq_true,decide_eq_true_eq];omega) V
    exact this.imp (fun h=>by simpa using h)
  obtain ⟨c1,c2⟩:=compact_sa hs
  obtain ⟨f1,f2⟩:=fold_note V [] (by simp [SA])
  refine sa_eq c1 f1 fun x=>?_
  rw [c2,f2,List.mem_mergeSort]
  simp
theorem compact_pos {zs:List Int} (h:zs≠[]):0<(Lib.compact zs).length:=by
  cases zs with
  |nil=>exact absurd rfl h
  |cons a l=>
   unfold Lib.compact Lib.compactUpTo
   rw [List.length_map]
   refine List.length_pos_of_mem (a:=0) ?_
   rw [List.mem_filter]
   exact ⟨by simp,Lib.keeps_lt_one _ 0 (by omega)⟩
end Go.Proofs.YtnlimcijgpaegaaGreat.Bm

namespace Go.Proofs
open Go.Shelf
def Tryz.lays125_ren:Go.Shelf.Ren:=⟨fun|125=>50|128=>88|129=>89|n=>n,fun|46=>99|3=>3|51=>141|53=>143|4=>4|5=>5|9=>9|n=>n,fun|n=>n⟩
theorem Tryz.lays125:Go.Proofs.Lays.n125 Tryz.prog Tryz.lays125_ren:={
  mixed:=by kernel_rfl
  f125:=Tryz.func50.trans (congrArg some (by kernel_rfl))
  f128:=Tryz.func88.trans (congrArg some (by kernel_rfl))
  f129:=Tryz.func89.trans (congrArg some (by kernel_rfl))
  t3:=Tryz.underlying3
  a3:=Tryz.isAgg3
  z3:=Tryz.sizeOf3
  v3:=Tryz.zeroValue3
  t4:=Tryz.underlying4
  a4:=Tryz.isAgg4
  z4:=Tryz.sizeOf4
  v4:=Tryz.zeroValue4
  t5:=Tryz.underlying5
  a5:=Tryz.isAgg5
  z5:=Tryz.sizeOf5
  v5:=Tryz.zeroValue5
  t9:=Tryz.underlying9
  a9:=Tryz.isAgg9
  z9:=Tryz.sizeOf9
  v9:=Tryz.zeroValue9
  t46:=Tryz.underlying99
  a46:=Tryz.isAgg99
  z46:=Tryz.sizeOf99
  v46:=Tryz.zeroValue99
  t51:=Tryz.underlying141
  a51:=Tryz.isAgg141
  z51:=Tryz.sizeOf141
  v51:=Tryz.zeroValue141
  t53:=Tryz.underlying143
  a53:=Tryz.isAgg143
  z53:=Tryz.sizeOf143
  v53:=Tryz.zeroValue143}
theorem Tryz.bits_Len (x:Int) (w:World) (h0:0≤x) (h1:x≤18446744073709551615):
    Calls Tryz.prog 50 #[.int .u64 x] w fun e w'=>e= .returned (.int .i64 (Lib.bitLen x.toNat))∧w'=w:=Any.bits_Len Tryz.lays125 x w h0 h1
def Tryz.lays189_ren:Go.Shelf.Ren:=⟨fun|189=>24|125=>50|257=>49|128=>88|129=>89|294=>79|295=>80|296=>81|297=>82|298=>83|299=>84|216=>85|300=>86|301=>87|328=>128|329=>129|330=>130|331=>131|332=>132|215=>133|343=>151|n=>n,fun|28=>34|3=>3|46=>99|0=>0|51=>141|53=>143|4=>4|183=>134|182=>133|131=>81|5=>5|9=>9|218=>172|222=>176|228=>191|229=>192|n=>n,fun|n=>n⟩
theorem Tryz.lays189:Go.Proofs.Lays.n189 Tryz.prog Tryz.lays189_ren:={
  mixed:=by kernel_rfl
  f125:=Tryz.func50.trans (congrArg some (by kernel_rfl))
  f128:=Tryz.func88.trans (congrArg some (by kernel_rfl))
  f129:=Tryz.func89.trans (congrArg some (by kernel_rfl))
  f189:=Tryz.func24.trans (congrArg some (by kernel_rfl))
  f215:=Tryz.func133.trans (congrArg some (by kernel_rfl))
  f216:=Tryz.func85.trans (congrArg some (by kernel_rfl))
  f257:=Tryz.func49.trans (congrArg some (by kernel_rfl))
  f294:=Tryz.func79.trans (congrArg some (by kernel_rfl))
  f295:=Tryz.func80.trans (congrArg some (by kernel_rfl))
  f296:=Tryz.func81.trans (congrArg some (by kernel_rfl))
  f297:=Tryz.func82.trans (congrArg some (by kernel_rfl))
  f298:=Tryz.func83.trans (congrArg some (by kernel_rfl))
  f299:=Tryz.func84.trans (congrArg some (by kernel_rfl))
  f300:=Tryz.func86.trans (congrArg some (by kernel_rfl))
  f301:=Tryz.func87.trans (congrArg some (by kernel_rfl))
  f328:=Tryz.func128.trans (congrArg some (by kernel_rfl))
  f329:=Tryz.func129.trans (congrArg some (by kernel_rfl))
  f330:=Tryz.func130.trans (congrArg some (by kernel_rfl))
  f331:=Tryz.func131.trans (congrArg some (by kernel_rfl))
  f332:=Tryz.func132.trans (congrArg some (by kernel_rfl))
  f343:=Tryz.func151.trans (congrArg some (by kernel_rfl))
  t0:=Tryz.underlying0
  a0:=Tryz.isAgg0
  z0:=Tryz.sizeOf0
  v0:=Tryz.zeroValue0
  t3:=Tryz.underlying3
  a3:=Tryz.isAgg3
  z3:=Tryz.sizeOf3
  v3:=Tryz.zeroValue3
  t4:=Tryz.underlying4
  a4:=Tryz.isAgg4
  z4:=Tryz.sizeOf4
  v4:=Tryz.zeroValue4
  t5:=Tryz.underlying5
  a5:=Tryz.isAgg5
  z5:=Tryz.sizeOf5
  v5:=Tryz.zeroValue5
  t9:=Tryz.underlying9
  a9:=Tryz.isAgg9
  z9:=Tryz.sizeOf9
  v9:=Tryz.zeroValue9
  t28:=Tryz.underlying34
  a28:=Tryz.isAgg34
  z28:=Tryz.sizeOf34
  v28:=Tryz.zeroValue34
  t46:=Tryz.underlying99
  a46:=Tryz.isAgg99
  z46:=Tryz.sizeOf99
  v46:=Tryz.zeroValue99
  t51:=Tryz.underlying141
  a51:=Tryz.isAgg141
  z51:=Tryz.sizeOf141
  v51:=Tryz.zeroValue141
  t53:=Tryz.underlying143
  a53:=Tryz.isAgg143
  z53:=Tryz.sizeOf143
  v53:=Tryz.zeroValue143
  t131:=Tryz.underlying81
  a131:=Tryz.isAgg81
  z131:=Tryz.sizeOf81
  v131:=Tryz.zeroValue81
  t182:=Tryz.underlying133
  a182:=Tryz.isAgg133
  z182:=Tryz.sizeOf133
  v182:=Tryz.zeroValue133
  t183:=Tryz.underlying134
  a183:=Tryz.isAgg134
  z183:=Tryz.sizeOf134
  v183:=Tryz.zeroValue134
  t218:=Tryz.underlying172
  a218:=Tryz.isAgg172
  z218:=Tryz.sizeOf172
  v218:=Tryz.zeroValue172
  t222:=Tryz.underlying176
  a222:=Tryz.isAgg176
  z222:=Tryz.sizeOf176
  v222:=Tryz.zeroValue176
  t228:=Tryz.underlying191
  a228:=Tryz.isAgg191
  z228:=Tryz.sizeOf191
  v228:=Tryz.zeroValue191
  t229:=Tryz.underlying192
  a229:=Tryz.isAgg192
  z229:=Tryz.sizeOf192
  v229:=Tryz.zeroValue192}
open Go.Sort Go.RowKit in
theorem Tryz.slices_Sort_int (blk off cap:Nat) (zs:List Int) (w:World) (hH:Holds (Value.int .i64) w blk off zs.toArray) (hblk:blk<w.heap.size) (hsz:zs.length<4611686018427387904):
    Calls Tryz.prog 24 #[.slice (some ⟨blk,off,none⟩) zs.length cap] w fun e w'=>
      e= .returned (.tuple #[])∧∃ n os,w'=grow (putRow (Value.int .i64) (Sort.ahead w n) blk off (zs.mergeSort fun x y=>decide (x≤y)).toArray) os:=Any.slices_Sort_int Tryz.lays189 blk off cap zs w hH hblk hsz
def Tryz.laysNm220_ren:Go.Shelf.Ren:=⟨fun|20=>26|n=>n,fun|22=>34|3=>3|4=>4|0=>0|n=>n,fun|n=>n⟩
theorem Tryz.laysNm220:Go.Proofs.Lays2.n20 Tryz.prog Tryz.laysNm220_ren:={
  mixed:=by kernel_rfl
  f20:=Tryz.func26.trans (congrArg some (by kernel_rfl))
  t0:=Tryz.underlying0
  a0:=Tryz.isAgg0
  z0:=Tryz.sizeOf0
  v0:=Tryz.zeroValue0
  t3:=Tryz.underlying3
  a3:=Tryz.isAgg3
  z3:=Tryz.sizeOf3
  v3:=Tryz.zeroValue3
  t4:=Tryz.underlying4
  a4:=Tryz.isAgg4
  z4:=Tryz.sizeOf4
  v4:=Tryz.zeroValue4
  t22:=Tryz.underlying34
  a22:=Tryz.isAgg34
  z22:=Tryz.sizeOf34
  v22:=Tryz.zeroValue34
  i3:=by kernel_rfl}
open Go.RowKit Go.Lib Go.Sort in
theorem Tryz.slices_Compact_int (blk off cap:Nat) (zs:List Int) (w:World) (hH:Holds (Value.int .i64) w blk off zs.toArray) (hsz:zs.length≤9223372036854775807) (hcap:zs.length≤cap):
    Calls Tryz.prog 26 #[.slice (some ⟨blk,off,none⟩) zs.length cap] w fun e w'=>e= .returned (.slice (some ⟨blk,off,none⟩) (Lib.compact zs).length cap)∧∃ q,w'=putRow (Value.int .i64) (Sort.ahead w q) blk off (Lib.compact zs++List.replicate (zs.length - (Lib.compact zs).length) 0).toArray:=Any.slices_Compact_int Tryz.laysNm220 blk off cap zs w hH hsz hcap
end Go.Proofs

namespace Go.Fw
open Go Go.Sort
variable {P:Program}
theorem EC.sortRow {α:Type} [Inhabited α] {enc:α→Value} (h1:∀ a,(enc a).oneCell'=true) {f:FuncId} {e:TypeId} {o ver:Nat} {d d':List α} (hne:d≠[]) (hd:d'.length=d.length)
    (hc:∀ (g cap:Nat) (w:World),Holds enc w g 0 d.toArray→g<w.heap.size→Calls P f [Value.slice (some ⟨g,0,none⟩) d.length cap].toArray w fun en w'=>en= .returned (.tuple #[])∧∃ n os,w'=grow (putRow enc (Go.Sort.ahead w n) g 0 d'.toArray) os)
    {σ:List AObj} {k:AV→List AObj→Prop} (ho:σ[o]? =some (.arr e 1 (d.map fun a=> .lit (enc a)) ver false)) (hk:k (.tup []) (σ.set o (.arr e 1 (d'.map fun a=> .lit (enc a)) ver false))):
    EC P f [.arr o ver] σ k:=by
  intro cx G w vs hr hl
  have hlt:o<σ.length:=(List.getElem?_eq_some_iff.1 ho).1
  have hok:=hr.ok o _ ho
  have hver:G.ver o=ver:=hok.1
  obtain ⟨_,⟨a0,c0,hb0,_⟩,h3⟩:=hok
  simp only [Bool.false_eq_true,if_false] at h3
  rcases h3 with ⟨h3,_⟩|⟨g,cap,cur,ha⟩
  ·exfalso;apply hne;simpa using h3
  have hbv:=ha.v
  simp only [List.length_map] at hbv
  have hcap:d.length≤cap:=by simpa using ha.le
  have hwid:∀ x∈d.map (fun a=>AV.lit (enc a)),x.cells.length=1:=ha.wid
  have hfl:=flat_length hwid
  have hsz:cur.size=cap:=by simpa using ha.size
  have hcell:∀ j,j<d.length→cur[j]? =some (enc (d.toArray[j]!)):=by
    intro j hj
    have h:=ha.rel j (by rw [hfl];simpa using hj)
    have e1:(flat (d.map fun a=>AV.lit (enc a))).getD j .top= .lit (enc d[j]):=by
      rw [flat_lits,getD_elem _ _ (by simpa using hj)]
      simp
    rw [e1] at h
    have hj':j<cur.size:=by omega
    have:cur.getD j undef=enc d[j]:=by
      generalize cur.getD j undef=v at h
      cases h;rfl
    rw [Array.getElem?_eq_getElem hj']
    simp only [Array.getD,hj',dite_true] at this
    rw [show cur[j]=enc d[j] from this]
    simp [hj]
  have hholds:Holds enc w g 0 d.toArray:=by
    intro j hj
    have hj':j<d.length:=by simpa using hj
    rw [Nat.zero_add]
    exact ⟨by rw [ha.blk.cell];exact hcell j hj',ha.blk.frozen j (by omega)⟩
  have hvs:vs=[.slice (some ⟨g,0,none⟩) d.length cap]:=by
    match vs,hl with
    |[],hl=>have:=hl.1;simp at this
    |v::v2::vs,hl=>have:=hl.1;simp at this
    |[v],hl=>
     have hv:=hl.2 0 (by simp)
     simp only [List.getD_cons_zero] at hv
     rw [hv.arr_inv.2.2 hver.symm,hbv]
  rw [hvs]
  refine (hc g cap w hholds ha.blk.lt).mono ?_
  rintro en w' ⟨rfl,q,os,rfl⟩
  obtain ⟨fz,hf1,hf2,hf3⟩:=ha.blk
  have hheap:=putRow_heap (enc:=enc) (w:=Go.Sort.ahead w q) (off:=0) (d:=d'.toArray) hf1
  have hown:ownB (G.b o)=some g:=by have hp:=ha.pos;rw [hbv];simp [ownB];omega
  have hps:(putCells enc 0 d'.toArray cur).size=cur.size:=by simp [putCells]
  have hget:∀ j,j<d'.length→(putCells enc 0 d'.toArray cur).getD j undef=enc d'[j]! :=by
    intro j hj
    have hj2:j<cur.size:=by omega
    have:(putCells enc 0 d'.toArray cur)[j]? =some (enc d'[j]!):=by
      simp only [putCells,Array.getElem?_mapIdx,Array.getElem?_eq_getElem hj2,Option.map_some,Nat.zero_add,Nat.zero_le,true_and,Nat.sub_zero,List.size_toArray,hj,if_true]
      simp [hj]
    rw [Array.getD_eq_getD_getElem?,this];rfl
  have hml:(d'.map fun a=>AV.lit (enc a)).length=d.length:=by simp [hd]
  have hwid':∀ x∈d'.map fun a=>AV.lit (enc a),x.cells.length=1:=by
    intro x hx
    obtain ⟨a,_,rfl⟩:=List.mem_map.1 hx
    rfl
  have hfl':=flat_length hwid'
  have hflg:∀ j,j<d.length→(flat (d'.map fun a=>AV.lit (enc a))).getD j .top= .lit (enc d'[j]!):=by
    intro j hj
    have h2:j<d'.length:=by omega
    rw [flat_lits,getD_elem _ _ (by rw [hml];exact hj)]
    simp [h2]
  have ht:Touch w (putRow enc (Go.Sort.ahead w q) g 0 d'.toArray) g:=⟨rfl,rfl,rfl,by simp [putRow,mapBlock,Go.Sort.ahead],fun k hk=>by have:=hheap.2 k hk;simpa using this⟩
  have hr1:=hr.touch (g:=g) (ob':= .arr e 1 (d'.map fun a=> .lit (enc a)) ver false) ho rfl hown ht ⟨hver,by rw [hbv,hml];exact ⟨_,_,rfl,fun _=>⟨_,rfl⟩⟩,by
    simp only [Bool.false_eq_true,if_false]
    rw [hbv]
    refine .inr ⟨g,cap,putCells enc 0 d'.toArray cur,by rw [hml],ha.pos,⟨fz,hheap.1,hf2,by rw [hps];exact hf3⟩,by rw [hml];exact hcap,ha.max,by rw [hps,hsz];simp,hwid',fun j hj=>?_,fun j hj=>?_,ha.unc⟩
    ·rw [hfl',hml,Nat.mul_one] at hj
     rw [hget j (by omega)];exact h1 _
    ·rw [hfl',hml,Nat.mul_one] at hj
     rw [hflg j hj,hget j (by omega)];exact .lit _⟩
  have hm:More (putRow enc (Go.Sort.ahead w q) g 0 d'.toArray) (grow (putRow enc (Go.Sort.ahead w q) g 0 d'.toArray) os):=⟨rfl,rfl,rfl,by simp [grow],fun k hk=>by simp only [grow];rw [Array.getElem?_append_left hk]⟩
  exact ⟨_,G,_,.tup [],rfl,Gh.le.refl G,hr1.more hm,.tup [] [] rfl (by simp),hk⟩
end Go.Fw
namespace Go.Proofs.YtnlimcijgpaegaaGreat.Mm
open Go.Proofs.YtnlimcijgpaegaaGreat
open Go Go.Fw Bm
set_option maxRecDepth 20000
section
variable {x y:AObj} {B:Prg} {mt:List Int} {m:MS} {ex:List AObj} {σ:List AObj} {k:AV→List AObj→Prop} {o ver:Nat}
theorem len_pc:PC Tryz.prog 50 [.lit (.int .u64 0)] (.lit (.int .i64 (Lib.bitLen 0))):=by
  intro C w vs hr hin
  obtain ⟨hl,hr⟩:=hr
  match vs,hl with
  |[v],_=>
   have h0:=hr 0 (by simp)
   have e:v= .int .u64 0:=by
     have:RC C (.lit (.int .u64 0)) v:=h0
     cases this;rfl
   subst e
   refine (Tryz.bits_Len 0 w (by decide) (by decide)).mono ?_
   rintro e w' ⟨rfl,rfl⟩
   exact ⟨_,C,rfl,CLe.refl _,.lit _,hin,More.refl _,fun _ _ _=>rfl⟩
noncomputable def con50:PCon Tryz.prog where
  f:=50
  c:=fun
   |[.lit (.int .u64 n)]=>if n=0 then some (True,.lit (.int .i64 (Lib.bitLen 0))) else none
   |_=>none
  ok:=by
   intro args p r hc hp
   split at hc
   ·split at hc
    ·rename_i h;subst h;cases hc;exact len_pc
    ·cases hc
   ·cases hc
  fk:=fk50
theorem con50_f:con50.f=50:=rfl
theorem con50_c:con50.c [.lit (.int .u64 0)]=some (True,.lit (.int .i64 (Lib.bitLen 0))):=rfl
attribute [go_sem] con50_f con50_c
noncomputable def M8:Env:=envU Tryz.prog jkR zer (fun _=>false) (fun _=>false) [con50]
theorem M8_ok:EnvOk Tryz.prog M8:=envUOk zer_ok
theorem wr0:IntKind.u64.wrap 0=0:=by decide
set_option maxHeartbeats 4000000 in
theorem ins_ec {v:AV} (hk:k (.tup []) σ):EC Tryz.prog 79 [v,.lit (.int .i64 0),.lit (.int .i64 0)] σ k:=by
  refine ec_fin fun hbd=>?_
  refine ecR M8_ok (kp79) Tryz.func79 [] (h:=fun KF=>?_)
  unfold M8
  with_reducible repeat' first|(refine nx ?_;intros)|apply And.intro|intro vr|(refine ny ?_;intros;simp only [go_sem,kp79,geff])
  all_goals try exact nd
  refine t_loopF (ι:=Unit) (fun _=>[(6,.lit (.int .i64 1))]) (fun _=>σ) (fun _=>0) () ?_ ?_
  ·exact lf
  rintro ⟨⟩ K0
  have g3:decide ((1:Int)<0)=false:=by decide
  with_reducible repeat' first|(refine nx ?_;intros)|apply And.intro|intro vr|(refine ny ?_;intros;simp only [go_sem,kp79,geff,g3])
  all_goals try exact nd
  all_goals (refine nl ?_;simp only [go_sem,finE])
  exact ⟨_,_,rfl,LeA.refl _,by rw [List.take_length];exact hbd,by rw [List.take_length];exact hk⟩
set_option maxHeartbeats 4000000 in
theorem pdq_ec {l:Int} (h:σ[o]? =some (.arr 3 1 (ints .i64 []) ver false)) (hk:k (.tup []) σ):EC Tryz.prog 49 [.arr o ver,.lit (.int .i64 0),.lit (.int .i64 0),.lit (.int .i64 l)] σ k:=by
  refine ec_fin fun hbd=>?_
  refine ecR M8_ok (kp49) Tryz.func49 [] (h:=fun KF=>?_)
  unfold M8
  with_reducible repeat' first|(refine nx ?_;intros)|apply And.intro|intro vr|(refine ny ?_;intros;simp only [go_sem,kp49,geff])
  all_goals try exact nd
  refine t_loopF (ι:=Unit) (fun _=>[]) (fun _=>σ) (fun _=>0) () ?_ ?_
  ·exact lf
  rintro ⟨⟩ K0
  have g3:decide ((0:Int)≤12)=true:=by decide
  with_reducible repeat' first|(refine nx ?_;intros)|apply And.intro|intro vr|(refine ny ?_;intros;simp only [go_sem,kp49,geff,g3,h])
  all_goals try exact nd
  refine ⟨fk79,ins_ec ?_⟩
  with_reducible repeat' first|(refine nx ?_;intros)|apply And.intro|intro vr|(refine ny ?_;intros;simp only [go_sem,kp49,geff,yes])
  all_goals try exact nd
  all_goals (refine nl ?_;simp only [go_sem,finE])
  exact ⟨_,_,rfl,LeA.refl _,by rw [List.take_length];exact hbd,by rw [List.take_length];exact hk⟩
set_option maxHeartbeats 4000000 in
theorem sort0_ec (h:σ[o]? =some (.arr 3 1 (ints .i64 []) ver false)) (hk:k (.tup []) σ):EC Tryz.prog 24 [.arr o ver] σ k:=by
  refine ec_fin fun hbd=>?_
  have i0:ints .i64 []=[]:=rfl
  refine ecR M8_ok (kp24) Tryz.func24 [] (h:=fun KF=>?_)
  unfold M8
  with_reducible repeat' first|(refine nx ?_;intros)|apply And.intro|intro vr|(refine ny ?_;intros;simp only [go_sem,kp24,geff,h,i0,wr0,yes])
  all_goals try exact nd
  refine ⟨fk49,pdq_ec h ?_⟩
  with_reducible repeat' first|(refine nx ?_;intros)|apply And.intro|intro vr|(refine ny ?_;intros;simp only [go_sem,kp24,geff,yes])
  all_goals try exact nd
  all_goals (refine nl ?_;simp only [go_sem,finE])
  exact ⟨_,_,rfl,LeA.refl _,by rw [List.take_length];exact hbd,by rw [List.take_length];exact hk⟩
def srt (V:List Int):List Int:=V.mergeSort fun x y=>decide (x≤y)
theorem srt_len (V:List Int):(srt V).length=V.length:=List.length_mergeSort _
theorem set_self {σ:List AObj} {o:Nat} {x:AObj} (h:σ[o]? =some x):σ.set o x=σ:=by
  apply List.ext_getElem?
  intro i
  rw [List.getElem?_set]
  split
  ·rename_i hi;subst hi;split
   ·rw [h]
   ·rename_i hlt;rw [List.getElem?_eq_none (by omega)]
  ·rfl
theorem sort_ec {V:List Int} (h:σ[o]? =some (.arr 3 1 (ints .i64 V) ver false)) (hV:V.length≤1000000) (hk:k (.tup []) (σ.set o (.arr 3 1 (ints .i64 (srt V)) ver false))):EC Tryz.prog 24 [.arr o ver] σ k:=by
  by_cases hne:V=[]
  ·subst hne
   have e:srt []=[]:=by simp [srt]
   rw [e,set_self h] at hk
   exact sort0_ec h hk
  ·refine EC.sortRow (enc:=Value.int .i64) (fun _=>rfl) (e:=3) (d:=V) (d':=srt V) hne (srt_len V) (fun g cap w hH hb=>?_) h hk
   exact Tryz.slices_Sort_int g 0 cap V w hH hb (by omega)
set_option maxHeartbeats 4000000 in
theorem compact0_ec (h:σ[o]? =some (.arr 3 1 (ints .i64 []) ver false)) (hk:k (.arr o ver) σ):EC Tryz.prog 26 [.arr o ver] σ k:=by
  refine ec_finK fun hbd=>?_
  have i0:ints .i64 []=[]:=rfl
  have hlt:=(List.getElem?_eq_some_iff.1 h).1
  refine ecR M8_ok (kp26) Tryz.func26 [.tmp 2] (h:=fun KF=>?_)
  unfold M8
  with_reducible repeat' first|(refine nx ?_;intros)|apply And.intro|intro vr|(refine ny ?_;intros;simp only [go_sem,kp26,geff,h,i0,yes])
  all_goals try exact nd
  all_goals (refine nl ?_;simp only [go_sem,finK])
  exact ⟨_,LeR.refl _,Bd.arr hlt,by rw [List.take_length];exact hbd,by rw [List.take_length];exact hk⟩
theorem compact_ec {V:List Int} (h:σ[o]? =some (.arr 3 1 (ints .i64 V) ver false)) (hne:V≠[]) (hV:V.length≤1000000) (hk:k (.arr o (ver+1)) (σ.set o (.arr 3 1 (ints .i64 (Lib.compact V)) (ver+1) false))):EC Tryz.prog 26 [.arr o ver] σ k:=by
  have hl:=compact_len V
  have hp:=compact_pos hne
  have hd:(Lib.compact V++List.replicate (V.length - (Lib.compact V).length) 0).length=V.length:=by simp;omega
  refine EC.ofRow (enc:=Value.int .i64) (fun _=>rfl) (e:=3) (rest:=[]) (d:=V) (d':=Lib.compact V++List.replicate (V.length - (Lib.compact V).length) 0) (m:=(Lib.compact V).length) hne hd hl hp (fun g cap w hH hc _=>?_) h ?_
  ·exact Tryz.slices_Compact_int g 0 cap V w hH (by omega) hc
  ·rw [List.take_left']
   ·exact hk
   ·rfl
end
end Go.Proofs.YtnlimcijgpaegaaGreat.Mm

namespace Go.Fw
open Go
variable {P:Program} {E:Env} {keep:Nat→List Nat} {n0:Nat}
def picksD (dep:List (Nat×Nat)) (g:List (Nat×Oper)):List ((Nat×Oper)×List (Nat×Oper)):=(picks g).filter fun p=>dep.all fun e=> !(e.2==p.1.1&&g.any fun q=>q.1==e.1)
theorem picksD_mem {dep:List (Nat×Nat)} {g:List (Nat×Oper)} {p:(Nat×Oper)×List (Nat×Oper)} (h:p∈picksD dep g):p∈picks g:=(List.mem_filter.1 h).1
def perm4D (P:Program) (E:Env) (D:Nat→Bool) (ds:List (Option Tmp)) (dep:List (Nat×Nat)):Nat→List (Nat×Oper)→(AS→Prop)→AS→Prop
  |0,_,K,s=>K s
  |n+1,g,K,s=>∀ p∈picksD dep g,astep P E ds p.1.2 s fun x σ'=>Kp D s.σ σ'∧perm4D P E D ds dep n p.2 K ⟨putF s.f p.1.2.dst x,σ'⟩
def permBD (md:Region.Mode) (ops:Array Oper) (ord2:List (Nat×Nat)) (dep:List (Nat×Nat)):Nat→List (Nat×Oper)→Array Bool→Bool
  |0,_,listed=>ordB md ops ord2 listed
  |n+1,g,listed=>((Region.ready md ops listed).all fun j=>(picksD dep g).any fun p=>p.1.1==j)&& !(Region.ready md ops listed).isEmpty&&(picksD dep g).all fun p=>permBD md ops ord2 dep n p.2 (listed.setIfInBounds p.1.1 true)
theorem sAny_permD {D:Nat→Bool} {md:Region.Mode} {ops:Array Oper} {Q:AS→Prop} {dep:List (Nat×Nat)} {ord2:List (Nat×Nat)} {l2:List (Oper×Nat)} (hl2:pickO ops ord2=some l2):∀ (n:Nat) (g:List (Nat×Oper)) (listed:Array Bool) (s:AS),
    (∀ p∈g,ops[p.1]? =some p.2)→permBD md ops ord2 dep n g listed=true→perm4D P E D (dsOf ops) dep n g (fun s=>lops P E D (dsOf ops) l2 s Q) s→sAny P E D md ops Q (ord2.length+n) listed s
  |0,g,listed,s,_,hB,h=>sAny_ord ord2 l2 listed s hB hl2 h
  |n+1,g,listed,s,hg,hB,h=>by
   simp only [permBD,Bool.and_eq_true,Bool.not_eq_true',List.all_eq_true,List.any_eq_true,beq_iff_eq] at hB
   obtain ⟨⟨hr,hne⟩,hB⟩:=hB
   show (Region.ready md ops listed=[]→Q s)∧∀ i∈Region.ready md ops listed,sOp P E D ops i (sAny P E D md ops Q (ord2.length+n) (listed.setIfInBounds i true)) s
   refine ⟨fun e=>(by rw [e] at hne;cases hne),fun i hi=>?_⟩
   obtain ⟨⟨⟨j,o⟩,r⟩,hp,rfl⟩:=hr i hi
   have hpick:=picksD_mem hp
   have ho:=hg _ (picks_mem hpick).1
   unfold sOp
   simp only at ho ⊢
   rw [ho]
   refine ⟨_,h _ hp,fun x σ' hk=>⟨hk.1,sAny_permD hl2 n r _ _ (fun q hq=>hg q ((picks_mem hpick).2 q hq)) (hB _ hp) hk.2⟩⟩
def gBD (ops:Array Oper) (ord1:List (Nat×Nat)) (g:List Nat) (dep:List (Nat×Nat)) (ord2:List (Nat×Nat)):Bool:=match pickG ops g with
  |some gl=>(ord2.length+g.length+ord1.length==ops.size)&&ordA .any ops ord1 (fun listed=>permBD .any ops ord2 dep g.length gl listed) (Array.replicate ops.size false)
  |none=>false
def lopsPD (P:Program) (E:Env) (D:Nat→Bool) (ds:List (Option Tmp)) (dep:List (Nat×Nat)) (l1:Option (List (Oper×Nat))) (n:Nat) (g:Option (List (Nat×Oper))) (l2:Option (List (Oper×Nat))) (s:AS) (K:AS→Prop):Prop:=match l1,g,l2 with
  |some l1,some g,some l2=>lops P E D ds l1 s fun s=>perm4D P E D ds dep n g (fun s=>lops P E D ds l2 s K) s
  |_,_,_=>False
theorem lpD_some {D:Nat→Bool} {ds:List (Option Tmp)} {dep:List (Nat×Nat)} {l1 l2:List (Oper×Nat)} {n:Nat} {g:List (Nat×Oper)} {s:AS} {K:AS→Prop}:
    lopsPD P E D ds dep (some l1) n (some g) (some l2) s K=lops P E D ds l1 s fun s=>perm4D P E D ds dep n g (fun s=>lops P E D ds l2 s K) s:=rfl
theorem t_drawPD {id:Nat} {ops:List Oper} {Q:Exit→AS→Prop} {s:AS} (S:AS) (D:Nat→Bool) (ord1:List (Nat×Nat)) (g:List Nat) (dep:List (Nat×Nat)) (ord2:List (Nat×Nat)) (hB:gBD ops.toArray ord1 g dep ord2=true) (hS:Q .normal S)
    (h:∀ K:KT (fun s'=>Le n0 s' S),lopsPD P E D (dsOf ops.toArray) dep (pickO ops.toArray ord1) g.length (pickG ops.toArray g) (pickO ops.toArray ord2) s (keepK K.k (keep id))):awp P E keep n0 (.region id ops.toArray true) Q s:=by
  have:=h ⟨fun s'=>∃ s'',Le n0 s' s''∧Q .normal s'',fun s' h=>⟨S,h,hS⟩⟩
  unfold keepK lopsPD at this
  unfold gBD at hB
  split at this
  ·rename_i l1 gl l2 h1 hg h2
   rw [hg] at hB
   simp only [Bool.and_eq_true,beq_iff_eq] at hB
   have hx:=sAny_ordA (D:=D) (E:=E) (P:=P) (md:= .any) (n:=ord2.length+g.length) (R:=fun s=>perm4D P E D (dsOf ops.toArray) dep g.length gl (fun s=>lops P E D (dsOf ops.toArray) l2 s _) s)
     (fun listed s hk hR=>sAny_permD h2 g.length gl listed s (pickG_spec hg) hk hR) ord1 l1 _ s hB.2 h1 this
   rw [hB.1] at hx
   exact .inr ⟨D,hx⟩
  ·exact this.elim
def kPD (P:Program) (E:Env) (D:Nat→Bool) (ds:List (Option Tmp)) (dep:List (Nat×Nat)) (n:Nat) (g:List (Nat×Oper)) (K:AS→Prop) (d:Option Tmp) (f:Nat→AV) (σ:List AObj):AV→List AObj→Prop:=fun x σ'=>Kp D σ σ'∧perm4D P E D ds dep n g K ⟨putF f d x,σ'⟩
theorem t_kPD {D:Nat→Bool} {ds:List (Option Tmp)} {dep:List (Nat×Nat)} {n:Nat} {g:List (Nat×Oper)} {K:AS→Prop} {d:Option Tmp} {f:Nat→AV} {x:AV} {σ σ':List AObj} (h:perm4D P E D ds dep n g K ⟨putF f d x,σ'⟩) (hk:Kp D σ σ'):kPD P E D ds dep n g K d f σ x σ':=⟨hk,h⟩
def all4D (P:Program) (E:Env) (D:Nat→Bool) (ds:List (Option Tmp)) (dep:List (Nat×Nat)) (n:Nat) (f:Nat→AV) (σ:List AObj) (K:AS→Prop):List ((Nat×Oper)×List (Nat×Oper))→Prop
  |[]=>True
  |((_,⟨d,op,ty,pos,af,none⟩),r)::l=>avop P E (aev f) σ ⟨d,op,ty,pos,af,none⟩ (kPD P E D ds dep n r K d f σ)∧all4D P E D ds dep n f σ K l
  |_=>False
theorem p4D_all {D:Nat→Bool} {ds:List (Option Tmp)} {dep:List (Nat×Nat)} {n:Nat} {f:Nat→AV} {σ:List AObj} {K:AS→Prop}:∀ {l:List ((Nat×Oper)×List (Nat×Oper))},all4D P E D ds dep n f σ K l→∀ p∈l,astep P E ds p.1.2 ⟨f,σ⟩ fun x σ'=>Kp D σ σ'∧perm4D P E D ds dep n p.2 K ⟨putF f p.1.2.dst x,σ'⟩
  |[],_,p,hp=>by cases hp
  |((i,⟨d,op,ty,pos,af,none⟩),r)::l,h,p,hp=>by
   simp only [all4D] at h
   rcases List.mem_cons.1 hp with rfl|hp
   ·exact h.1
   ·exact p4D_all h.2 p hp
  |((i,⟨d,op,ty,pos,af,some g⟩),r)::l,h,p,hp=>by exact h.elim
section
variable {D:Nat→Bool} {ds:List (Option Tmp)} {dep:List (Nat×Nat)} {K:AS→Prop} {f:Nat→AV} {σ σ':List AObj} {n:Nat} {x:AV} {d:Option Tmp}
theorem a4D_nil:all4D P E D ds dep n f σ K []=True:=rfl
theorem a4D_cons {i:Nat} {op:Op} {ty:TypeId} {pos:String} {af:Array Edge} {r:List (Nat×Oper)} {l:List ((Nat×Oper)×List (Nat×Oper))}:
    all4D P E D ds dep n f σ K (((i,⟨d,op,ty,pos,af,none⟩),r)::l)=(avop P E (aev f) σ ⟨d,op,ty,pos,af,none⟩ (kPD P E D ds dep n r K d f σ)∧all4D P E D ds dep n f σ K l):=rfl
instance {s:AS} {g:List (Nat×Oper)}:Ny (perm4D P E D ds dep 0 g K s) (K s):=⟨fun h=>h⟩
instance {g:List (Nat×Oper)}:Ny (perm4D P E D ds dep (n+1) g K ⟨f,σ⟩) (all4D P E D ds dep n f σ K (picksD dep g)):=⟨p4D_all⟩
end
attribute [go_sem] a4D_nil a4D_cons lpD_some
end Go.Fw

namespace Go.Fw
open Go
theorem le_frzB {n0:Nat} {f:Nat→AV} {σ:List AObj} (o b off:Nat) {e sz ver:Nat} {xs:List AV} {t:TypeId} {cs:List AV} (ho:σ[o]? =some (.arr e sz xs ver false)) (hb:σ[b]? =some (.box t cs)) (hoff:off<cs.length) (hc:cs.getD off .top= .arr o ver):
    Le n0 ⟨f,σ⟩ ⟨f,(σ.set o (.arr e sz xs ver true)).set b (.box t (cs.set off (.sl false sz xs)))⟩:=by
  intro cx G w N a _ hr hf
  obtain ⟨G',h1,h2⟩:=Rel.freezeO hr o
  have e1:Fw.freezeO σ o=σ.set o (.arr e sz xs ver true):=by unfold Fw.freezeO;rw [ho]
  rw [e1] at h2
  have hne:o≠b:=fun q=>by subst q;rw [ho] at hb;cases hb
  have hb':(σ.set o (.arr e sz xs ver true))[b]? =some (.box t cs):=by rw [List.getElem?_set_ne hne];exact hb
  refine ⟨G',h2.rebox hb' (by simp) (fun i v hi hv=>?_),hf.size,hf.defers,fun j=>(hf.rel j).mono h1⟩
  by_cases q:off=i
  ·subst q
   rw [hc] at hv
   have hcl:Fw.arrOf false (σ.set o (.arr e sz xs ver true)) o ver=some (.sl false sz xs):=by unfold Fw.arrOf;rw [get_set ho];simp
   have:=arrOf_sound (live:=false) h2 hv hcl
   rw [getD_elem _ _ (by simpa using hoff),List.getElem_set_self]
   exact .clo _ _ (by simpa using this)
  ·rw [getD_elem _ _ (by simpa using hi),List.getElem_set_ne q,←getD_elem _ .top hi]
   exact hv
end Go.Fw
