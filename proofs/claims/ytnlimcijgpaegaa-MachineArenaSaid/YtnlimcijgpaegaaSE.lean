import Derived.Test.YtnlimcijgpaegaaSD
import Derived.Test.YtnlimcijgpaegaaFwD
import Derived.Test.YtnlimcijgpaegaaSC

set_option linter.all false

namespace Go.Proofs.Ytnlimcijgpaegaa
open Go Go.Fw Bm
set_option maxRecDepth 20000
end Go.Proofs.Ytnlimcijgpaegaa

namespace Go.Proofs.Ytnlimcijgpaegaa
open Go Go.Fw Bm
set_option maxRecDepth 20000
end Go.Proofs.Ytnlimcijgpaegaa

namespace Go.Proofs.Ytnlimcijgpaegaa
open Go Go.Fw Bm
set_option maxRecDepth 20000
end Go.Proofs.Ytnlimcijgpaegaa

namespace Go.Proofs.Ytnlimcijgpaegaa
open Go Go.Fw Bm
set_option maxRecDepth 20000
theorem intsR_lo:intsR.lo= -2147483648:=rfl
theorem intsR_hi:intsR.hi=2147483647:=rfl
theorem machR_lo:machR.lo= -1099511627776:=rfl
theorem machR_hi:machR.hi=1099511627776:=rfl
theorem boolR_lo:boolR.lo=0:=rfl
theorem boolR_hi:boolR.hi=1:=rfl
theorem nilR_lo:nilR.lo=0:=rfl
theorem nilR_hi:nilR.hi=0:=rfl
attribute [go_sem] intsR_lo intsR_hi machR_lo machR_hi boolR_lo boolR_hi nilR_lo nilR_hi
end Go.Proofs.Ytnlimcijgpaegaa

namespace Go.Proofs.Ytnlimcijgpaegaa
open Go Go.Fw Bm
set_option maxRecDepth 20000
theorem rgsV_set (l:List Rng) (i:Nat) (a b:Int):(rgsV l).set i (.agg [.lit (.int .i64 a),.lit (.int .i64 b)])=rgsV (l.set i ⟨a,b⟩):=by simp [rgsV,rgV]
attribute [go_sem] rgsV_set
end Go.Proofs.Ytnlimcijgpaegaa

namespace Go.Proofs.Ytnlimcijgpaegaa
open Go Go.Fw Bm
set_option maxRecDepth 20000
attribute [go_sem] con115_f con115_c
theorem reads_len (x:Ins):(readsS x).length≤3:=by obtain ⟨k,p,a,b,c,d⟩:=x;rw [reads_red,List.length_map];exact (redS_bd _).1
end Go.Proofs.Ytnlimcijgpaegaa

namespace Go.Proofs.Ytnlimcijgpaegaa
open Go Go.Fw Bm
set_option maxRecDepth 20000
attribute [go_sem] rngL_rgs
end Go.Proofs.Ytnlimcijgpaegaa

namespace Go.Proofs.Ytnlimcijgpaegaa
open Go Go.Fw Bm
set_option maxRecDepth 20000
end Go.Proofs.Ytnlimcijgpaegaa

namespace Go.Proofs.Ytnlimcijgpaegaa.Bm
open Go.Proofs.Ytnlimcijgpaegaa
open Go Go.Fw
structure W where
  before : List (List Rng)
  heads : List (Int × List Rng)
section
variable {B:Prg} {mt:List Int}
variable {i to:Int} {s t:List Rng} {w w':W}
end
end Go.Proofs.Ytnlimcijgpaegaa.Bm

namespace Go.Proofs.Ytnlimcijgpaegaa
open Go Go.Fw Bm
set_option maxRecDepth 20000
def bfsV (l:List (List Rng)):List AV:=l.map fun s=> .sl false 2 (rgsV s)
def hdsV (l:List (Int×List Rng)):List (Value×AV):=l.map fun e=>(.int .i64 e.1,.sl false 2 (rgsV e.2))
def bxB (B:Prg):AObj:= .box 45 [.lit (.int .i64 B.regs),.lit (.int .i64 B.arena),.sl false 6 (opsV B.ops),.sl false 2 (plsV B.ins),.sl false 2 (plsV B.outs),.sl false 3 (arrs B.types)]
def wkO (B:Prg) (mt:List Int):AObj:= .box 106 [.lit (.int .i64 B.regs),.lit (.int .i64 B.arena),.sl false 6 (opsV B.ops),.sl false 2 (plsV B.ins),.sl false 2 (plsV B.outs),.sl false 3 (arrs B.types),.sl false 1 (ints .i64 mt),.arr 1 0,.mp 2]
def objs (B:Prg) (mt:List Int) (w:W) (ex:List AObj):List AObj:=bxB B:: .arr 26 1 (bfsV w.before) 0 false:: .map (hdsV w.heads)::wkO B mt::ex
section
variable {B:Prg} {mt:List Int} {w w':W} {ex:List AObj} {x y z:AObj}
theorem ob_len:(objs B mt w ex).length=ex.length+4:=rfl
theorem ob_0:(objs B mt w ex)[0]? =some (bxB B):=rfl
theorem ob_1:(objs B mt w ex)[1]? =some (.arr 26 1 (bfsV w.before) 0 false):=rfl
theorem ob_2:(objs B mt w ex)[2]? =some (.map (hdsV w.heads)):=rfl
theorem ob_3:(objs B mt w ex)[3]? =some (.box 106 [.lit (.int .i64 B.regs),.lit (.int .i64 B.arena),.sl false 6 (opsV B.ops),.sl false 2 (plsV B.ins),.sl false 2 (plsV B.outs),.sl false 3 (arrs B.types),.sl false 1 (ints .i64 mt),.arr 1 0,.mp 2]):=rfl
theorem ob_x {n:Nat}:(objs B mt w ex)[n+4]? =ex[n]? :=rfl
theorem ob_app {l:List AObj}:objs B mt w ex++l=objs B mt w (ex++l):=rfl
theorem ob_s1 {l:List (List Rng)}:(objs B mt w ex).set 1 (.arr 26 1 (bfsV l) 0 false)=objs B mt {w with before:=l} ex:=rfl
theorem ob_s2 {l:List (Int×List Rng)}:(objs B mt w ex).set 2 (.map (hdsV l))=objs B mt {w with heads:=l} ex:=rfl
theorem ob_sx {n:Nat}:(objs B mt w ex).set (n+4) y=objs B mt w (ex.set n y):=rfl
theorem ob_take {l:List AObj}:(objs B mt w (ex++l)).take (ex.length+4)=objs B mt w ex:=by
  show bxB B:: .arr 26 1 (bfsV w.before) 0 false:: .map (hdsV w.heads)::wkO B mt::(ex++l).take ex.length=_
  rw [List.take_left'];rfl;rfl
theorem ob_take0:(objs B mt w ex).take (ex.length+4)=objs B mt w ex:=by
  rw [←ob_len (B:=B) (mt:=mt) (w:=w),List.take_length]
theorem ex_0:(ex++[x])[ex.length]? =some x:=by simp
theorem ex_20:(ex++[x,y])[ex.length]? =some x:=by simp
theorem ex_21:(ex++[x,y])[ex.length+1]? =some y:=by simp
theorem exs_0:(ex++[x]).set ex.length y=ex++[y]:=by simp
theorem exs_20:(ex++[x,y]).set ex.length z=ex++[z,y]:=by simp
theorem exs_21:(ex++[x,y]).set (ex.length+1) z=ex++[x,z]:=by simp
theorem ex_as {l m:List AObj}:ex++l++m=ex++(l++m):=List.append_assoc _ _ _
theorem ex_l1:(ex++[x]).length+4=ex.length+5:=by simp
theorem bfsV_length (l:List (List Rng)):(bfsV l).length=l.length:=by simp [bfsV]
theorem bfsV_set (l:List (List Rng)) (i:Nat) (s:List Rng):(bfsV l).set i (.sl false 2 (rgsV s))=bfsV (l.set i s):=by simp [bfsV]
end
attribute [go_sem] ob_len ob_0 ob_1 ob_2 ob_3 ob_x ob_app ob_s1 ob_s2 ob_sx ob_take ob_take0 ex_0 ex_20 ex_21 exs_0 exs_20 exs_21 ex_as ex_l1 bfsV_length bfsV_set
end Go.Proofs.Ytnlimcijgpaegaa

namespace Go.Proofs.Ytnlimcijgpaegaa.Bm
open Go.Proofs.Ytnlimcijgpaegaa
open Go Go.Fw
structure Gd (n A:Nat) (c:Int) (s:St):Prop where
  regs:s.regs.length=n
  arena:s.arena.length=A
  rv:∀ r∈s.regs, -maxC≤r∧r≤maxC
  words:Words s
  pos:0≤s.reads∧0≤s.writes∧0≤s.ops∧0≤s.peak∧0≤s.left
  sum:s.reads+s.writes+s.ops+s.viol.length+s.left≤c
  peak:s.peak≤A
variable {n A:Nat} {c:Int} {s:St} {x:Ins} {B:Prg} {mt:List Int} {seen:List (List Rng)}
theorem Gd.gt (h:Gd n A c s) (i:Int): -maxC≤Bm.gt s.regs i∧Bm.gt s.regs i≤maxC:=by
  unfold Bm.gt
  rw [List.getD_eq_getElem?_getD]
  cases e:s.regs[i.toNat]? with
  |none=>exact ⟨by simp [maxC],by simp [maxC]⟩
  |some r=>exact h.rv r (List.mem_of_getElem? e)
theorem Gd.word (h:Gd n A c s) (i:Int): -2147483648≤Bm.gt s.arena i∧Bm.gt s.arena i≤2147483647:=by
  unfold Bm.gt
  rw [List.getD_eq_getElem?_getD]
  cases e:s.arena[i.toNat]? with
  |none=>exact ⟨by simp,by simp⟩
  |some r=>
   have:=h.words r (List.mem_of_getElem? e)
   have e2:vld sInt r=decide (-2147483648≤r∧r≤2147483647):=rfl
   rw [e2] at this
   exact of_decide_eq_true this
theorem Gd.put (h:Gd n A c s) {i v:Int} (hv: -maxC≤v∧v≤maxC):Gd n A c (s.put i v):=by
  obtain ⟨h1,h2,h3,h4,h5,h6,h7⟩:=h
  refine ⟨by simp only [St.put,List.length_set];exact h1,h2,fun r hr=>?_,h4,h5,h6,h7⟩
  rcases List.mem_or_eq_of_mem_set hr with hr|rfl
  ·exact h3 r hr
  ·exact hv
theorem Gd.le (h:Gd n A (c - 1) s):Gd n A c s:=⟨h.regs,h.arena,h.rv,h.words,h.pos,by have:=h.sum;omega,h.peak⟩
theorem noteS_length (l:List Int) (k:Int):(noteS l k).length≤l.length+1:=by
  unfold noteS
  simp only
  split
  ·omega
  ·simp only [List.length_append,List.length_take,List.length_drop,List.length_singleton];omega
theorem w32_in (k:Int): -2147483648≤El.w32 k∧El.w32 k≤2147483647:=by
  have:=El.w32_el k
  unfold El.el at this;omega
theorem Gd.fail (h:Gd n A (c - 1) s):Gd n A c {s with failed:=true}:=⟨h.regs,h.arena,h.rv,h.words,h.pos,h.le.sum,h.peak⟩
theorem wide_cases (op:ByteArray):wideR op=boolR∨wideR op=intsR:=by
  unfold wideR
  split
  ·split
   ·exact .inl rfl
   ·exact .inr rfl
  ·exact .inr rfl
theorem Gd.simple (h:Gd n A (c - 1) s) (hx:Regs x n):Gd n A c (simpleS x s):=by
  have hs:=h.sum
  have hp:=h.pos
  have hg:=h.gt
  have mc:maxC=1099511627776:=rfl
  unfold simpleS
  rcases hx.code with e|e|e|e|e|e|e|e|e|e|e|e|e|e|e
  ·rw [if_pos e]
   exact (h.le).put (hx.k1 e)
  ·rw [if_neg (by omega),if_pos e]
   split
   ·rename_i hm
    exact (h.le).put (by simpa [inMc] using hm)
   ·exact h.fail
  ·rw [if_neg (by omega),if_neg (by omega),if_pos e]
   refine (h.le).put ?_
   have h1:=hg x.b;have h2:=hg x.c
   unfold minI;split<;>assumption
  ·rw [if_neg (by omega),if_neg (by omega),if_neg (by omega),if_pos e]
   refine (h.le).put ?_
   have h1:=hg x.b;have h2:=hg x.c
   unfold maxI;split<;>assumption
  ·rw [if_neg (by omega),if_neg (by omega),if_neg (by omega),if_neg (by omega),if_pos e]
   split
   ·exact h.fail
   ·rename_i k hk
    have hw:=apply_wide hk
    have hb: -maxC≤k∧k≤maxC:=by
      rcases wide_cases x.prim with q|q<;>(rw [q] at hw;simp only [Rng.has,intsR,boolR] at hw;omega)
    have:=(h.put (i:=x.a) hb)
    exact ⟨this.regs,this.arena,this.rv,this.words,⟨hp.1,hp.2.1,by simp only [St.put];omega,hp.2.2.2⟩,by simp only [St.put];omega,this.peak⟩
  ·rw [if_neg (by omega),if_neg (by omega),if_neg (by omega),if_neg (by omega),if_neg (by omega),if_pos e]
   split
   ·have hw:=h.word (Bm.gt s.regs x.b)
    have:=h.put (i:=x.a) (v:=Bm.gt s.arena (Bm.gt s.regs x.b)) (by omega)
    exact ⟨this.regs,this.arena,this.rv,this.words,⟨by simp only [St.put];omega,hp.2⟩,by simp only [St.put];omega,this.peak⟩
   ·exact h.fail
  ·rw [if_neg (by omega),if_neg (by omega),if_neg (by omega),if_neg (by omega),if_neg (by omega),if_neg (by omega),if_pos e]
   split
   ·rename_i hc
    have hA:=h.arena
    have hpk:=h.peak
    refine ⟨h.regs,by simp only [List.length_set];exact hA,h.rv,fun k hk=>?_,⟨hp.1,by simp only;omega,hp.2.2.1,?_,hp.2.2.2.2⟩,by simp only;omega,?_⟩
    ·rcases List.mem_or_eq_of_mem_set hk with hk|rfl
     ·exact h.words k hk
     ·exact hc.2
    ·simp only [maxI];split<;>omega
    ·simp only [maxI];split<;>omega
   ·exact h.fail
  ·rw [if_neg (by omega),if_neg (by omega),if_neg (by omega),if_neg (by omega),if_neg (by omega),if_neg (by omega),if_neg (by omega),if_neg (by omega),if_neg (by omega),if_pos e]
   have:=h.put (i:=x.a) (v:=0) (by omega)
   exact ⟨this.regs,this.arena,this.rv,this.words,⟨by simp only [St.put];omega,hp.2⟩,by simp only [St.put];omega,this.peak⟩
  ·rw [if_neg (by omega),if_neg (by omega),if_neg (by omega),if_neg (by omega),if_neg (by omega),if_neg (by omega),if_neg (by omega),if_neg (by omega),if_neg (by omega),if_neg (by omega),if_pos e]
   split
   ·have:=noteS_length s.viol x.a
    exact ⟨h.regs,h.arena,h.rv,h.words,h.pos,by simp only;omega,h.peak⟩
   ·exact h.le
  all_goals try (rw [if_neg (by omega),if_neg (by omega),if_neg (by omega),if_neg (by omega),if_neg (by omega),if_neg (by omega),if_neg (by omega),if_neg (by omega),if_neg (by omega),if_neg (by omega),if_neg (by omega)];exact h.le)
  ·rw [if_neg (by omega),if_neg (by omega),if_neg (by omega),if_neg (by omega),if_neg (by omega),if_neg (by omega),if_neg (by omega),if_pos e]
   have:=w32_in (Bm.gt s.regs x.b)
   exact (h.le).put (by omega)
  ·rw [if_neg (by omega),if_neg (by omega),if_neg (by omega),if_neg (by omega),if_neg (by omega),if_neg (by omega),if_neg (by omega),if_neg (by omega),if_pos e]
   exact ⟨h.regs,h.arena,h.rv,h.words,⟨hp.1,by simp only;omega,hp.2.2⟩,by simp only;omega,h.peak⟩
theorem Gd.tick (h:Gd n A c s) (hs:stpS s=false) (i:Int):Gd n A (c - 1) (Bm.tick (look seen i s)):=by
  obtain ⟨o,ho⟩:=look_eq (seen:=seen) i s
  rw [ho]
  obtain ⟨h1,h2,h3,h4,h5,h6,h7⟩:=h
  have hl: ¬ s.left≤0:=by
    simp only [stpS,Bool.or_eq_false_iff,decide_eq_false_iff_not] at hs
    exact hs.1.1
  exact ⟨h1,h2,h3,h4,⟨h5.1,h5.2.1,h5.2.2.1,h5.2.2.2.1,by simp only [Bm.tick];omega⟩,by simp only [Bm.tick];omega,h7⟩
theorem Gd.turn (h:Gd n A c s) (hs:stpS s=false) {i v:Int} (hv: -maxC≤v∧v≤maxC):Gd n A c ((Bm.tick s).put i v):=by
  have hl: ¬ s.left≤0:=by
    simp only [stpS,Bool.or_eq_false_iff,decide_eq_false_iff_not] at hs
    exact hs.1.1
  obtain ⟨h1,h2,h3,h4,h5,h6,h7⟩:=h
  have:Gd n A c (Bm.tick s):=⟨h1,h2,h3,h4,⟨h5.1,h5.2.1,h5.2.2.1,h5.2.2.2.1,by simp only [Bm.tick];omega⟩,by simp only [Bm.tick];omega,h7⟩
  exact this.put hv
end Go.Proofs.Ytnlimcijgpaegaa.Bm
