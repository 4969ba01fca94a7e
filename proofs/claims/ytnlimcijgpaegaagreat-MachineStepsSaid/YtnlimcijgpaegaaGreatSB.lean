import Derived.Test.YtnlimcijgpaegaaGreatSA
import Derived.Test.YtnlimcijgpaegaaGreatFwB
import Derived.Lib.AppendZeros
import Derived.Lib.Walk
import Derived.Lib.Slices

set_option linter.all false

namespace Go.Proofs.YtnlimcijgpaegaaGreat.El
open Go.Proofs.YtnlimcijgpaegaaGreat
open Go Go.Fw
set_option maxRecDepth 20000
theorem len_one {l:List Int} (h:l.length=1):∃ a,l=[a]:=by
  match l,h with
  |[a],_=>exact ⟨a,rfl⟩
theorem len_two {l:List Int} (h:l.length=2):∃ a b,l=[a,b]:=by
  match l,h with
  |[a,b],_=>exact ⟨a,b,rfl⟩
theorem elT_int {p:ByteArray} (h:p=sInt∨p=sBool∨p=sA) (hb:eqS p sBool=false):elT p=sInt:=by
  rcases h with rfl|rfl|rfl
  ·rfl
  ·cases hb
  ·rfl
theorem elT_bool {p:ByteArray} (hb:eqS p sBool=true):elT p=sBool:=by rw [eqS_iff.1 hb];rfl
noncomputable def E8:Env:=envOf (P:=Tryz.prog) zer (fun _=>false) (fun _=>false) [con154,con91,con155,con156] []
theorem E8_ok:EnvOk Tryz.prog E8:=envOk zer_ok
set_option maxHeartbeats 2000000 in
theorem rapply_pc {op:ByteArray} {xs:List Int}:PC Tryz.prog 138 [.lit (.string op),.sl false 1 (ints .i64 xs)] (applyV (applyS op xs)):=by
  rcases ix_cases op with ⟨i0,hi0, -,hx,ht⟩|⟨hx,ht⟩
  rotate_left
  ·have e:applyS op xs=none:=by unfold applyS;rw [hx];rfl
   rw [e]
   refine pcO E8_ok (fun _=>[0,1,4,5,6,8,9,10,25,29,36,43,45,46,53,66]) Tryz.func138 (h:=fun KF=>?_)
   unfold E8
   with_reducible repeat' first|(refine nx ?_;intros)|apply And.intro|intro vr|((first|refine ny ?_|refine t_dwh (h:=fun K KL=>?_));intros;simp only [go_sem,geff,con154_f,con91_f,con155_f,con156_f,con154_c,ht,typesV_none])
   refine end_ret rfl ?_
   simp only [fin,go_sem,applyV]
   exact LeA.refl _
  have hl:=psN_len i0 hi0
  have hE:=psN_el i0 hi0
  have hT:=typesV_row i0
  by_cases hn:xs.length=(psN i0).length
  rotate_left
  ·have e:applyS op xs=none:=by unfold applyS;rw [hx];simp [okB,hn]
   have g1:(((psN i0).length:Int) !=(xs.length:Int))=true:=by rw [bne_iff_ne];omega
   rw [e]
   refine pcO E8_ok (fun _=>[0,1,4,5,6,8,9,10,25,29,36,43,45,46,53,66]) Tryz.func138 (h:=fun KF=>?_)
   unfold E8
   with_reducible repeat' first|(refine nx ?_;intros)|apply And.intro|intro vr|((first|refine ny ?_|refine t_dwh (h:=fun K KL=>?_));intros;simp only [go_sem,geff,con154_f,con91_f,con155_f,con156_f,con154_c,ht,hT,g1,pickB])
   all_goals try exact om
   refine end_ret rfl ?_
   simp only [fin,go_sem,applyV]
   exact LeA.refl _
  have g1:(((psN i0).length:Int) !=(xs.length:Int))=false:=by rw [bne_eq_false_iff_eq];omega
  have hR:applyS op xs=if okA (psN i0) xs=true then some (vS i0 xs) else none:=by
    unfold applyS
    rw [hx]
    simp [okB,hn]
  have hL:okA (psN i0) xs=true→okL i0 xs:=fun h=>⟨hn,h⟩
  rw [hR]
  clear hR
  generalize hps:psN i0=ps at*
  clear hps
  refine pcO E8_ok (fun _=>[0,1,4,5,6,8,9,10,25,29,36,43,45,46,53,66]) Tryz.func138 (h:=fun KF=>?_)
  unfold E8
  with_reducible repeat' first|(refine nx ?_;intros)|apply And.intro|intro vr|((first|refine ny ?_|refine t_dwh (h:=fun K KL=>?_));intros;simp only [go_sem,geff,con154_f,con91_f,con155_f,con156_f,con154_c,ht,hT,g1,pickB])
  all_goals try exact om
  refine t_loop (ι:={i:Nat // i≤xs.length∧okA (ps.drop i) (xs.drop i)=okA ps xs}) (fun i=>⟨upd (upd (upd (upd topF 9 (.lit (.int .i64 i.1))) 6 (.sl false 1 (strs ps))) 1 (.sl false 1 (ints .i64 xs))) 0 (.lit (.string op)),[]⟩) (fun i=>xs.length - i.1) ⟨0,by omega,rfl⟩ ?_ ?_
  ·skip
   (refine Le.frame ?_;repeat' (first|exact leF_top _|(with_reducible refine leF_sl ?_ ?_)|(refine leF_upd (LeR.of_eq ?_) ?_)))<;>(try (simp only [go_sem];try rfl))
  rintro ⟨i,hi,hF⟩ K0
  rcases Nat.lt_or_ge i xs.length with hc|hc
  ·have g2:decide ((i:Int)<(xs.length:Int))=true:=decide_eq_true (by omega)
   have hc':i<ps.length:=by omega
   have e1:=ints_getD .i64 xs i hc
   have e2:=strs_getD ps i hc'
   rw [okA_drop hc' hc] at hF
   have hp:=hE (ps.getD i ByteArray.empty) (by rw [getD_elem _ _ hc'];exact List.getElem_mem hc')
   generalize ps.getD i ByteArray.empty=p at*
   generalize xs.getD i 0=x at*
   cases hA:eqS p ⟨#[98,111,111,108]⟩ with
   |true=>
    have hel:elT p=⟨#[98,111,111,108]⟩:=elT_bool hA
    rw [hel] at hF
    cases hv:vld ⟨#[98,111,111,108]⟩ x with
    |true=>
     rw [hv,Bool.true_and] at hF
     with_reducible repeat' first|(refine nx ?_;intros)|apply And.intro|intro vr|((first|refine ny ?_|refine t_dwh (h:=fun K KL=>?_));intros;simp only [go_sem,geff,g2,Int.toNat_natCast,e1,e2,hA,hv,con154_f,con91_f,con155_f,con156_f,con91_c])
     all_goals try exact om
     refine ⟨⟨i+1,by omega,hF⟩,by simp only;omega,?_⟩
     (refine Le.frame ?_;repeat' (first|exact leF_top _|(with_reducible refine leF_sl ?_ ?_)|(refine leF_upd (LeR.of_eq ?_) ?_)))<;>(try (simp only [go_sem];try rfl))
    |false=>
     rw [hv,Bool.false_and] at hF
     have hF2:okA ps xs=false:=hF.symm
     with_reducible repeat' first|(refine nx ?_;intros)|apply And.intro|intro vr|((first|refine ny ?_|refine t_dwh (h:=fun K KL=>?_));intros;simp only [go_sem,geff,g2,Int.toNat_natCast,e1,e2,hA,hv,con154_f,con91_f,con155_f,con156_f,con91_c])
     all_goals try exact om
     refine end_ret rfl ?_
     simp only [fin,go_sem,applyV,hF2,Bool.false_eq_true]
     exact LeA.refl _
   |false=>
    have hel:elT p=⟨#[105,110,116]⟩:=elT_int hp hA
    rw [hel] at hF
    cases hv:vld ⟨#[105,110,116]⟩ x with
    |true=>
     rw [hv,Bool.true_and] at hF
     with_reducible repeat' first|(refine nx ?_;intros)|apply And.intro|intro vr|((first|refine ny ?_|refine t_dwh (h:=fun K KL=>?_));intros;simp only [go_sem,geff,g2,Int.toNat_natCast,e1,e2,hA,hv,con154_f,con91_f,con155_f,con156_f,con91_c])
     all_goals try exact om
     refine ⟨⟨i+1,by omega,hF⟩,by simp only;omega,?_⟩
     (refine Le.frame ?_;repeat' (first|exact leF_top _|(with_reducible refine leF_sl ?_ ?_)|(refine leF_upd (LeR.of_eq ?_) ?_)))<;>(try (simp only [go_sem];try rfl))
    |false=>
     rw [hv,Bool.false_and] at hF
     have hF2:okA ps xs=false:=hF.symm
     with_reducible repeat' first|(refine nx ?_;intros)|apply And.intro|intro vr|((first|refine ny ?_|refine t_dwh (h:=fun K KL=>?_));intros;simp only [go_sem,geff,g2,Int.toNat_natCast,e1,e2,hA,hv,con154_f,con91_f,con155_f,con156_f,con91_c])
     all_goals try exact om
     refine end_ret rfl ?_
     simp only [fin,go_sem,applyV,hF2,Bool.false_eq_true]
     exact LeA.refl _
  ·have g2:decide ((i:Int)<(xs.length:Int))=false:=decide_eq_false (by omega)
   have:i=xs.length:=by omega
   subst this
   have hF':okA ps xs=true:=by
     rw [←hF,List.drop_eq_nil_of_le (by omega:ps.length≤xs.length)];rfl
   have hO:=hL hF'
   have hlen:xs.length=1∨xs.length=2∨(xs.length=3∧i0=20):=by
     rcases hl with ⟨h1,h2,h3⟩
     have:xs.length=1∨xs.length=2∨xs.length=3:=by omega
     rcases this with h|h|h
     ·exact .inl h
     ·exact .inr (.inl h)
     ·exact .inr (.inr ⟨h,h3 (by omega)⟩)
   rcases hlen with h|h|⟨h,rfl⟩
   ·obtain ⟨a,rfl⟩:=len_one h
    ·have e0:ints .i64 [a]=[.lit (.int .i64 a)]:=rfl
     with_reducible repeat' first|(refine nx ?_;intros)|apply And.intro|intro vr|((first|refine ny ?_|refine t_dwh (h:=fun K KL=>?_));intros;simp only [go_sem,geff,g2,e0,con154_f,con91_f,con155_f,con156_f,con155_c,hx])
     all_goals try exact om
     all_goals try exact hO
     refine end_ret rfl ?_
     simp only [fin,go_sem,applyV,hF']
     exact LeA.refl _
   ·obtain ⟨a,b,rfl⟩:=len_two h
    ·have e0:ints .i64 [a,b]=[.lit (.int .i64 a),.lit (.int .i64 b)]:=rfl
     with_reducible repeat' first|(refine nx ?_;intros)|apply And.intro|intro vr|((first|refine ny ?_|refine t_dwh (h:=fun K KL=>?_));intros;simp only [go_sem,geff,g2,e0,con154_f,con91_f,con155_f,con156_f,con156_c,hx])
     all_goals try exact om
     all_goals try exact hO
     refine end_ret rfl ?_
     simp only [fin,go_sem,applyV,hF']
     exact LeA.refl _
   ·obtain ⟨a,b,c,rfl,h0,h1,h2⟩:=okL_20.1 hO
    have e0:ints .i64 [a,b,c]=[.lit (.int .i64 a),.lit (.int .i64 b),.lit (.int .i64 c)]:=rfl
    rcases h0 with rfl|rfl
    ·skip
     with_reducible repeat' first|(refine nx ?_;intros)|apply And.intro|intro vr|((first|refine ny ?_|refine t_dwh (h:=fun K KL=>?_));intros;simp only [go_sem,geff,g2,e0,con154_f,con91_f,con155_f,con156_f])
     all_goals try exact om
     refine end_ret rfl ?_
     simp only [fin,go_sem,applyV,hF',vS]
     exact LeA.refl _
    ·skip
     with_reducible repeat' first|(refine nx ?_;intros)|apply And.intro|intro vr|((first|refine ny ?_|refine t_dwh (h:=fun K KL=>?_));intros;simp only [go_sem,geff,g2,e0,con154_f,con91_f,con155_f,con156_f])
     all_goals try exact om
     refine end_ret rfl ?_
     simp only [fin,go_sem,applyV,hF',vS]
     exact LeA.refl _
noncomputable def con138:PCon Tryz.prog where
  f:=138
  c:=fun
   |[.lit (.string op),x]=>(slK .i64 x).map fun xs=>(True,applyV (applyS op xs))
   |_=>none
  ok:=by
   intro args p r hc hp
   split at hc
   ·rename_i op x
    cases hl:slK .i64 x with
    |none=>rw [hl] at hc;cases hc
    |some xs=>
     rw [hl] at hc
     cases hc
     exact PC.weak rapply_pc ⟨LeA.refl _,slK_le hl,trivial⟩
   ·cases hc
  fk:=fk138
theorem con138_f:con138.f=138:=rfl
theorem con138_c {op:ByteArray} {x:AV}:con138.c [.lit (.string op),x]=(slK .i64 x).map fun xs=>(True,applyV (applyS op xs)):=rfl
end Go.Proofs.YtnlimcijgpaegaaGreat.El

namespace Go.Proofs.YtnlimcijgpaegaaGreat.Bm
open Go.Proofs.YtnlimcijgpaegaaGreat
open Go Go.Fw
structure Ins where
  code:Int
  prim:ByteArray
  a:Int
  b:Int
  c:Int
  d:Int
def nilI:Ins:=⟨0,⟨#[]⟩,0,0,0,0⟩
structure Prg where
  regs:Int
  arena:Int
  ops:List Ins
  ins:List (Int×Int)
  outs:List (Int×Int)
  types:List Arr
def Prg.op (B:Prg) (i:Int):Ins:=B.ops.getD i.toNat nilI
def formS (x:Ins):Option (List Bool):=
  if x.code=1 then some [true,false]
  else if x.code=2∨x.code=10 then some [true,true,true,false]
  else if x.code=3∨x.code=4 then some [true,true,true]
  else if x.code=5 then (El.typesS x.prim).map fun r=>List.replicate (1+r.ps.length) true
  else if x.code=6∨x.code=7∨x.code=14 then some [true,true]
  else if x.code=8∨x.code=11 then some [true]
  else if x.code=9 then some [false,true]
  else if x.code=12∨x.code=13∨x.code=15 then some []
  else none
def oprs (x:Ins):List Int:=[x.a,x.b,x.c,x.d]
def maxC:Int:=1099511627776
def maxA:Int:=1048576
def oprOk (f:List Bool) (regs:Int) (i:Nat) (n:Int):Bool:=
  if i≥f.length then decide (n=0) else if f.getD i false=true then decide (0≤n∧n<regs) else true
def restOk (x:Ins):Bool:=
  if x.code=1 then decide (-maxC≤x.b∧x.b≤maxC)
  else if x.code=2 then decide (-maxA≤x.d∧x.d≤maxA)
  else if x.code=9 then decide (1≤x.a∧x.a≤1000000)
  else if x.code=10 then decide (1≤x.d∧x.d≤maxA)
  else true
def rightS (x:Ins) (regs:Int):Bool:=match formS x with
  |none=>false
  |some f=>(decide (x.code=5)||decide (x.prim.data.toList=[]))&&(oprOk f regs 0 x.a&&oprOk f regs 1 x.b&&oprOk f regs 2 x.c&&oprOk f regs 3 x.d)&&restOk x
def wrtB (c:Int):Bool:=decide (c=1)||decide (c=2)||decide (c=3)||decide (c=4)||decide (c=5)||decide (c=6)||decide (c=8)||decide (c=10)||decide (c=14)
def pickR (w:Bool):Nat→List Bool→List Int→List Int
  |i,true::f,n::l=>if 0<i∨w=false then n::pickR w (i+1) f l else pickR w (i+1) f l
  |i,false::f,_::l=>pickR w (i+1) f l
  |_,_,_=>[]
def readsS (x:Ins):List Int:=match formS x with
  |none=>[]
  |some f=>pickR (wrtB x.code) 0 f (oprs x)
def matchG (ops:List Ins):List Ins→Nat→List Int→List Nat→Option (List Int)
  |[],_,out,[]=>some out
  |[],_,_,_::_=>none
  |x::l,i,out,st=>
   if x.code=10∨x.code=11 then (if st.length≥40 then none else matchG ops l (i+1) (out++[(i:Int)]) (i::st))
   else if x.code=12 then (match st with
     |[]=>none
     |j::st'=>if (ops.getD j nilI).code=11 then matchG ops l (i+1) ((out++[(i:Int)]).set j i) (i::st') else none)
   else if x.code=13 then (match st with
     |[]=>none
     |j::st'=>matchG ops l (i+1) ((out++[(i:Int)]).set j i) st')
   else matchG ops l (i+1) (out++[(i:Int)]) st
def matchS (ops:List Ins):Option (List Int):=if ops.length>5000 then none else matchG ops ops 0 [] []
def typeOk (arena:Int) (t:Arr) (p:Int×Int):Bool:=
  (eqS t.e sInt||eqS t.e sBool)&&decide ((sizeS t.d).2=0)&&decide (t.x=[])&&decide (p.2=(sizeS t.d).1)&&decide (0≤p.1)&&decide (p.1≤arena - (sizeS t.d).1)
def typesOk (arena:Int):List Arr→List (Int×Int)→Bool
  |t::ts,p::ps=>typeOk arena t p&&typesOk arena ts ps
  |_,_=>true
def validS (B:Prg):Bool:=decide (0≤B.regs∧B.regs≤200)&&decide (0≤B.arena∧B.arena≤maxA)&&decide (B.types.length=B.ins.length+B.outs.length)&&B.ops.all (fun x=>rightS x B.regs)&&(matchS B.ops).isSome&&
  typesOk B.arena B.types (B.ins++B.outs)
structure Rng where
  lo:Int
  hi:Int
structure St where
  regs:List Int
  arena:List Int
  reads:Int
  writes:Int
  ops:Int
  peak:Int
  viol:List Int
  left:Int
  failed:Bool
  at_:Int
  out:Bool
def gt (l:List Int) (i:Int):Int:=l.getD i.toNat 0
def noteS (l:List Int) (n:Int):List Int:=
  let k:=(l.takeWhile fun m=>decide (m<n)).length
  if k<l.length∧l.getD k 0=n then l else l.take k++[n]++l.drop k
def inMc (n:Int):Bool:=decide (-maxC≤n∧n≤maxC)
def St.put (s:St) (i v:Int):St:={s with regs:=s.regs.set i.toNat v}
def simpleS (x:Ins) (s:St):St:=
  if x.code=1 then s.put x.a x.b
  else if x.code=2 then (if inMc (gt s.regs x.b+x.d*gt s.regs x.c)=true then s.put x.a (gt s.regs x.b+x.d*gt s.regs x.c) else {s with failed:=true})
  else if x.code=3 then s.put x.a (minI (gt s.regs x.b) (gt s.regs x.c))
  else if x.code=4 then s.put x.a (maxI (gt s.regs x.b) (gt s.regs x.c))
  else if x.code=5 then (match El.applyS x.prim ((readsS x).map (gt s.regs)) with
    |none=>{s with failed:=true}
    |some n=>{s.put x.a n with ops:=s.ops+1})
  else if x.code=6 then (if 0≤gt s.regs x.b∧gt s.regs x.b<s.arena.length then {s.put x.a (gt s.arena (gt s.regs x.b)) with reads:=s.reads+1} else {s with failed:=true})
  else if x.code=7 then (if (0≤gt s.regs x.a∧gt s.regs x.a<s.arena.length)∧vld sInt (gt s.regs x.b)=true then
    {s with arena:=s.arena.set (gt s.regs x.a).toNat (gt s.regs x.b),writes:=s.writes+1,peak:=maxI s.peak (gt s.regs x.a+1)} else {s with failed:=true})
  else if x.code=14 then s.put x.a (El.w32 (gt s.regs x.b))
  else if x.code=15 then {s with writes:=s.writes+1}
  else if x.code=8 then {s.put x.a 0 with reads:=s.reads+1}
  else if x.code=9 then (if gt s.regs x.b=0 then {s with viol:=noteS s.viol x.a} else s)
  else s
def stpS (s:St):Bool:=decide (s.left≤0)||s.failed||s.out
def inR (l:List Int) (r:List Rng):Bool:=decide (l.length=r.length)&&(l.zip r).all fun p=>decide (p.2.lo≤p.1∧p.1≤p.2.hi)
def look (seen:List (List Rng)) (i:Int) (s:St):St:=if seen.length>0 then {s with out:= !inR s.regs (seen.getD i.toNat [])} else s
def endS (B:Prg) (mt:List Int) (i:Int):Int:=if (B.op (gt mt i)).code=12 then gt mt (gt mt i) else gt mt i
inductive Tk where
  |blk (i to:Int)
  |lop (i n hi:Int)
def tick (s:St):St:={s with left:=s.left - 1}
def exec (B:Prg) (mt:List Int) (seen:List (List Rng)):Nat→Tk→St→St
  |0,_,s=>s
  |f+1,.blk i to,s=>if i<to∧stpS s=false then (
    let x:=B.op i
    let s:=tick (look seen i s)
    if x.code=10 then exec B mt seen f (.blk (gt mt i+1) to) (exec B mt seen f (.lop i (gt s.regs x.b) (gt s.regs x.c)) s)
    else if x.code=11 then exec B mt seen f (.blk (endS B mt i+1) to) (
      if gt s.regs x.a≥0 then exec B mt seen f (.blk (i+1) (gt mt i)) s
      else if (B.op (gt mt i)).code=12 then exec B mt seen f (.blk (gt mt i+1) (gt mt (gt mt i))) s else s)
    else exec B mt seen f (.blk (i+1) to) (if (simpleS x s).failed=true then {simpleS x s with at_:=i} else simpleS x s)) else s
  |f+1,.lop i n hi,s=>if n<hi∧stpS s=false then
    exec B mt seen f (.lop i (n+(B.op i).d) hi) (exec B mt seen f (.blk (i+1) (gt mt i)) ((tick s).put (B.op i).a n)) else s
def Runs (B:Prg) (mt:List Int) (seen:List (List Rng)) (t:Tk) (s s':St):Prop:=∃ F,∀ f,F≤f→exec B mt seen f t s=s'
section
variable {B:Prg} {mt:List Int} {seen:List (List Rng)} {s s' s'':St} {i to n hi:Int}
theorem Runs.det {t:Tk} (h:Runs B mt seen t s s') (k:Runs B mt seen t s s''):s'=s'':=by
  obtain ⟨F,hF⟩:=h
  obtain ⟨K,hK⟩:=k
  rw [←hF (max F K) (Nat.le_max_left _ _),hK (max F K) (Nat.le_max_right _ _)]
theorem runs_end (h: ¬ (i<to∧stpS s=false)):Runs B mt seen (.blk i to) s s:=⟨1,fun f hf=>by
  obtain ⟨f,rfl⟩:∃ g,f=g+1:=⟨f - 1,by omega⟩
  simp only [exec];rw [if_neg h]⟩
theorem runs_lend (h: ¬ (n<hi∧stpS s=false)):Runs B mt seen (.lop i n hi) s s:=⟨1,fun f hf=>by
  obtain ⟨f,rfl⟩:∃ g,f=g+1:=⟨f - 1,by omega⟩
  simp only [exec];rw [if_neg h]⟩
theorem runs_simple (h:i<to∧stpS s=false) (h1:(B.op i).code≠10) (h2:(B.op i).code≠11)
    (k:Runs B mt seen (.blk (i+1) to) (if (simpleS (B.op i) (tick (look seen i s))).failed=true then {simpleS (B.op i) (tick (look seen i s)) with at_:=i} else simpleS (B.op i) (tick (look seen i s))) s'):Runs B mt seen (.blk i to) s s':=by
  obtain ⟨F,hF⟩:=k
  refine ⟨F+1,fun f hf=>?_⟩
  obtain ⟨f,rfl⟩:∃ g,f=g+1:=⟨f - 1,by omega⟩
  simp only [exec]
  rw [if_pos h,if_neg h1,if_neg h2]
  exact hF f (by omega)
theorem runs_for (h:i<to∧stpS s=false) (h1:(B.op i).code=10) (j:Runs B mt seen (.lop i (gt (tick (look seen i s)).regs (B.op i).b) (gt (tick (look seen i s)).regs (B.op i).c)) (tick (look seen i s)) s')
    (k:Runs B mt seen (.blk (gt mt i+1) to) s' s''):Runs B mt seen (.blk i to) s s'':=by
  obtain ⟨J,hJ⟩:=j
  obtain ⟨K,hK⟩:=k
  refine ⟨max J K+1,fun f hf=>?_⟩
  obtain ⟨f,rfl⟩:∃ g,f=g+1:=⟨f - 1,by omega⟩
  simp only [exec]
  rw [if_pos h,if_pos h1,hJ f (by omega),hK f (by omega)]
theorem runs_turn (h:n<hi∧stpS s=false) (j:Runs B mt seen (.blk (i+1) (gt mt i)) ((tick s).put (B.op i).a n) s') (k:Runs B mt seen (.lop i (n+(B.op i).d) hi) s' s''):Runs B mt seen (.lop i n hi) s s'':=by
  obtain ⟨J,hJ⟩:=j
  obtain ⟨K,hK⟩:=k
  refine ⟨max J K+1,fun f hf=>?_⟩
  obtain ⟨f,rfl⟩:∃ g,f=g+1:=⟨f - 1,by omega⟩
  simp only [exec]
  rw [if_pos h,hJ f (by omega),hK f (by omega)]
theorem runs_yes (h:i<to∧stpS s=false) (h1:(B.op i).code=11) (hp:gt (tick (look seen i s)).regs (B.op i).a≥0) (j:Runs B mt seen (.blk (i+1) (gt mt i)) (tick (look seen i s)) s')
    (k:Runs B mt seen (.blk (endS B mt i+1) to) s' s''):Runs B mt seen (.blk i to) s s'':=by
  obtain ⟨J,hJ⟩:=j
  obtain ⟨K,hK⟩:=k
  refine ⟨max J K+1,fun f hf=>?_⟩
  obtain ⟨f,rfl⟩:∃ g,f=g+1:=⟨f - 1,by omega⟩
  simp only [exec]
  rw [if_pos h,if_neg (by omega),if_pos h1,if_pos hp,hJ f (by omega),hK f (by omega)]
theorem runs_no (h:i<to∧stpS s=false) (h1:(B.op i).code=11) (hp: ¬ gt (tick (look seen i s)).regs (B.op i).a≥0) (he:(B.op (gt mt i)).code=12)
    (j:Runs B mt seen (.blk (gt mt i+1) (gt mt (gt mt i))) (tick (look seen i s)) s') (k:Runs B mt seen (.blk (endS B mt i+1) to) s' s''):Runs B mt seen (.blk i to) s s'':=by
  obtain ⟨J,hJ⟩:=j
  obtain ⟨K,hK⟩:=k
  refine ⟨max J K+1,fun f hf=>?_⟩
  obtain ⟨f,rfl⟩:∃ g,f=g+1:=⟨f - 1,by omega⟩
  simp only [exec]
  rw [if_pos h,if_neg (by omega),if_pos h1,if_neg hp,if_pos he,hJ f (by omega),hK f (by omega)]
theorem runs_none (h:i<to∧stpS s=false) (h1:(B.op i).code=11) (hp: ¬ gt (tick (look seen i s)).regs (B.op i).a≥0) (he:(B.op (gt mt i)).code≠12)
    (k:Runs B mt seen (.blk (endS B mt i+1) to) (tick (look seen i s)) s''):Runs B mt seen (.blk i to) s s'':=by
  obtain ⟨K,hK⟩:=k
  refine ⟨K+1,fun f hf=>?_⟩
  obtain ⟨f,rfl⟩:∃ g,f=g+1:=⟨f - 1,by omega⟩
  simp only [exec]
  rw [if_pos h,if_neg (by omega),if_pos h1,if_neg hp,if_neg he,hK f (by omega)]
end
end Go.Proofs.YtnlimcijgpaegaaGreat.Bm

namespace Go.Proofs.YtnlimcijgpaegaaGreat.Bm
open Go.Proofs.YtnlimcijgpaegaaGreat
open Go Go.Fw
section
variable {B:Prg} {mt:List Int} {seen:List (List Rng)}
def step1 (B:Prg) (seen:List (List Rng)) (i:Int) (s:St):St:=if (simpleS (B.op i) (tick (look seen i s))).failed=true then {simpleS (B.op i) (tick (look seen i s)) with at_:=i} else simpleS (B.op i) (tick (look seen i s))
theorem exec_inv {P:St→Prop} (h1:∀ i s,P s→stpS s=false→P (step1 B seen i s)) (h2:∀ i s,P s→stpS s=false→P (tick (look seen i s))) (h3:∀ i n s,P s→stpS s=false→P ((tick s).put (B.op i).a n)):
    ∀ (f:Nat) (t:Tk) (s:St),P s→P (exec B mt seen f t s)
  |0,_,_,h=>h
  |f+1,.blk i to,s,h=>by
   simp only [exec]
   split
   ·rename_i hc
    have h2':=h2 i s h hc.2
    split
    ·exact exec_inv h1 h2 h3 f _ _ (exec_inv h1 h2 h3 f _ _ h2')
    ·split
     ·refine exec_inv h1 h2 h3 f _ _ ?_
      split
      ·exact exec_inv h1 h2 h3 f _ _ h2'
      ·split
       ·exact exec_inv h1 h2 h3 f _ _ h2'
       ·exact h2'
     ·exact exec_inv h1 h2 h3 f _ _ (h1 i s h hc.2)
   ·exact h
  |f+1,.lop i n hi,s,h=>by
   simp only [exec]
   split
   ·rename_i hc
    exact exec_inv h1 h2 h3 f _ _ (exec_inv h1 h2 h3 f _ _ (h3 i n s h hc.2))
   ·exact h
theorem look_eq (i:Int) (s:St):∃ o,look seen i s={s with out:=o}:=by
  unfold look;split
  ·exact ⟨_,rfl⟩
  ·exact ⟨s.out,rfl⟩
structure Cnt (c:Int) (n m:Nat) (s:St):Prop where
  sum:s.reads+s.writes+s.ops+s.left≤c
  arena:s.arena.length=n
  regs:s.regs.length=m
  peak:s.peak≤n
theorem simple_P {P:St→Prop} {x:Ins} {s:St} (h0:P s) (hp:∀ v,P (s.put x.a v)) (hf:P {s with failed:=true}) (ho:∀ v,P {s.put x.a v with ops:=s.ops+1}) (hr:∀ v,P {s.put x.a v with reads:=s.reads+1})
    (hw:∀ (i v:Int),0≤i→i<s.arena.length→vld sInt v=true→P {s with arena:=s.arena.set i.toNat v,writes:=s.writes+1,peak:=maxI s.peak (i+1)}) (hk:P {s with writes:=s.writes+1}) (hv:∀ l,P {s with viol:=l}):P (simpleS x s):=by
  unfold simpleS
  by_cases c:x.code=1
  ·rw [if_pos c];exact hp _
  rw [if_neg c];clear c
  by_cases c:x.code=2
  ·rw [if_pos c];split
   ·exact hp _
   ·exact hf
  rw [if_neg c];clear c
  by_cases c:x.code=3
  ·rw [if_pos c];exact hp _
  rw [if_neg c];clear c
  by_cases c:x.code=4
  ·rw [if_pos c];exact hp _
  rw [if_neg c];clear c
  by_cases c:x.code=5
  ·rw [if_pos c];split
   ·exact hf
   ·exact ho _
  rw [if_neg c];clear c
  by_cases c:x.code=6
  ·rw [if_pos c];split
   ·exact hr _
   ·exact hf
  rw [if_neg c];clear c
  by_cases c:x.code=7
  ·rw [if_pos c];split
   ·rename_i h;exact hw _ _ h.1.1 h.1.2 h.2
   ·exact hf
  rw [if_neg c];clear c
  by_cases c:x.code=14
  ·rw [if_pos c];exact hp _
  rw [if_neg c];clear c
  by_cases c:x.code=15
  ·rw [if_pos c];exact hk
  rw [if_neg c];clear c
  by_cases c:x.code=8
  ·rw [if_pos c];exact hr _
  rw [if_neg c];clear c
  by_cases c:x.code=9
  ·rw [if_pos c];split
   ·exact hv _
   ·exact h0
  rw [if_neg c];exact h0
theorem Cnt.simple {c:Int} {n m:Nat} {s:St} {x:Ins} (h:Cnt (c - 1) n m s):Cnt c n m (simpleS x s):=by
  obtain ⟨h1,h2,h3,h4⟩:=h
  refine simple_P ?_ ?_ ?_ ?_ ?_ ?_ ?_ ?_
  all_goals intros
  all_goals (refine ⟨?_,?_,?_,?_⟩<;>(try simp only [St.put,List.length_set])<;>first|assumption|omega|skip)
  ·simp only [maxI];split<;>omega
theorem step1_cnt {c:Int} {n m:Nat} {s:St} {i:Int} (h:Cnt c n m s):Cnt c n m (step1 B seen i s):=by
  obtain ⟨o,ho⟩:=look_eq (seen:=seen) i s
  have hk:Cnt (c - 1) n m (tick (look seen i s)):=by
    rw [ho];obtain ⟨h1,h2,h3,h4⟩:=h;exact ⟨by simp only [tick];omega,h2,h3,h4⟩
  have:=hk.simple (x:=B.op i)
  unfold step1
  split
  ·exact ⟨this.1,this.2,this.3,this.4⟩
  ·exact this
theorem exec_cnt {c:Int} {n m:Nat} (f:Nat) (t:Tk) {s:St} (h:Cnt c n m s):Cnt c n m (exec B mt seen f t s):=by
  refine exec_inv (P:=Cnt c n m) (fun i s h _=>step1_cnt h) (fun i s h _=>?_) (fun i k s h _=>?_) f t s h
  ·obtain ⟨o,ho⟩:=look_eq (seen:=seen) i s
   rw [ho];obtain ⟨h1,h2,h3,h4⟩:=h;exact ⟨by simp only [tick];omega,h2,h3,h4⟩
  ·obtain ⟨h1,h2,h3,h4⟩:=h;exact ⟨by simp only [tick,St.put];omega,h2,by simp only [tick,St.put,List.length_set];exact h3,h4⟩
def Words (s:St):Prop:=∀ n∈s.arena,vld sInt n=true
theorem Words.simple {s:St} {x:Ins} (h:Words s):Words (simpleS x s):=by
  refine simple_P h (fun _=>h) h (fun _=>h) (fun _=>h) (fun i v _ _ hv n hn=>?_) h (fun _=>h)
  rcases List.mem_or_eq_of_mem_set hn with hn|rfl
  ·exact h n hn
  ·exact hv
end
end Go.Proofs.YtnlimcijgpaegaaGreat.Bm

namespace Go.Proofs.YtnlimcijgpaegaaGreat.Bm
open Go.Proofs.YtnlimcijgpaegaaGreat
open Go Go.Fw
def opnr (c:Int):Bool:=decide (c=10)||decide (c=11)||decide (c=12)
def cd (ops:List Ins) (i:Nat):Int:=(ops.getD i nilI).code
structure Mid (ops:List Ins) (n:Nat) (out:List Int) (st:List Nat):Prop where
  len:out.length=n
  lt:∀ j∈st,j<n
  asc:st.Pairwise (fun a b=>b<a)
  opn:∀ j∈st,opnr (cd ops j)=true
  self:∀ j,j<n→(j∈st∨opnr (cd ops j)=false)→out.getD j 0=j
  clo:∀ j,j<n→j ∉ st→opnr (cd ops j)=true→∃ e:Nat,out.getD j 0=e∧j<e∧e<n∧(cd ops e=12→cd ops j=11)∧(cd ops e=12∨cd ops e=13)∧
    ∀ k,j<k→k<e→opnr (cd ops k)=true→∃ f:Nat,out.getD k 0=f∧k<f∧f<e
  deep:∀ j∈st,∀ k,j<k→k<n→k ∉ st→opnr (cd ops k)=true→∃ f:Nat,out.getD k 0=f∧k<f∧f<n
structure Nest (ops:List Ins) (mt:List Int):Prop where
  len:mt.length=ops.length
  self:∀ j,j<ops.length→opnr (cd ops j)=false→mt.getD j 0=j
  clo:∀ j,j<ops.length→opnr (cd ops j)=true→∃ e:Nat,mt.getD j 0=e∧j<e∧e<ops.length∧(cd ops e=12→cd ops j=11)∧(cd ops e=12∨cd ops e=13)∧
    ∀ k,j<k→k<e→opnr (cd ops k)=true→∃ f:Nat,mt.getD k 0=f∧k<f∧f<e
theorem getD_append_l {l m:List Int} {i:Nat} (h:i<l.length):(l++m).getD i 0=l.getD i 0:=by simp [List.getD,List.getElem?_append_left h]
theorem getD_set_ne {l:List Int} {i j:Nat} {x:Int} (h:i≠j):(l.set i x).getD j 0=l.getD j 0:=by simp [List.getD,List.getElem?_set_ne h]
theorem getD_set_eq {l:List Int} {i:Nat} {x:Int} (h:i<l.length):(l.set i x).getD i 0=x:=by simp [List.getD,List.getElem?_set_self h]
theorem Mid.plain {ops:List Ins} {n:Nat} {out:List Int} {st:List Nat} (h:Mid ops n out st) (hc:opnr (cd ops n)=false):Mid ops (n+1) (out++[(n:Int)]) st:=by
  have hl:=h.len
  have old:∀ j,j<n→(out++[(n:Int)]).getD j 0=out.getD j 0:=fun j hj=>getD_append_l (by omega)
  have new:(out++[(n:Int)]).getD n 0=n:=by simp [List.getD,←hl]
  refine ⟨by simp [hl],fun j hj=>Nat.lt_succ_of_lt (h.lt j hj),h.asc,h.opn,fun j hj hs=>?_,fun j hj hn ho=>?_,fun j hj k h1 h2 h3 h4=>?_⟩
  ·by_cases e:j=n
   ·subst e;exact new
   ·rw [old j (by omega)];exact h.self j (by omega) hs
  ·by_cases e:j=n
   ·subst e;rw [hc] at ho;cases ho
   ·obtain ⟨e',q1,q2,q3,q4,q5,q6⟩:=h.clo j (by omega) hn ho
    refine ⟨e',by rw [old j (by omega)];exact q1,q2,by omega,q4,q5,fun k k1 k2 k3=>?_⟩
    obtain ⟨f,f1,f0,f2⟩:=q6 k k1 k2 k3
    exact ⟨f,by rw [old k (by omega)];exact f1,f0,f2⟩
  ·by_cases e:k=n
   ·subst e;rw [hc] at h4;cases h4
   ·obtain ⟨f,f1,f0,f2⟩:=h.deep j hj k h1 (by omega) h3 h4
    exact ⟨f,by rw [old k (by omega)];exact f1,f0,by omega⟩
theorem Mid.push {ops:List Ins} {n:Nat} {out:List Int} {st:List Nat} (h:Mid ops n out st) (hc:opnr (cd ops n)=true):Mid ops (n+1) (out++[(n:Int)]) (n::st):=by
  have hl:=h.len
  have old:∀ j,j<n→(out++[(n:Int)]).getD j 0=out.getD j 0:=fun j hj=>getD_append_l (by omega)
  have new:(out++[(n:Int)]).getD n 0=n:=by simp [List.getD,←hl]
  refine ⟨by simp [hl],fun j hj=>?_,List.pairwise_cons.2 ⟨fun b hb=>h.lt b hb,h.asc⟩,fun j hj=>?_,fun j hj hs=>?_,fun j hj hn ho=>?_,fun j hj k h1 h2 h3 h4=>?_⟩
  ·rcases List.mem_cons.1 hj with rfl|hj
   ·omega
   ·exact Nat.lt_succ_of_lt (h.lt j hj)
  ·rcases List.mem_cons.1 hj with rfl|hj
   ·exact hc
   ·exact h.opn j hj
  ·by_cases e:j=n
   ·subst e;exact new
   ·rw [old j (by omega)]
    refine h.self j (by omega) ?_
    rcases hs with hs|hs
    ·rcases List.mem_cons.1 hs with rfl|hs
     ·exact absurd rfl e
     ·exact .inl hs
    ·exact .inr hs
  ·have hjn:j≠n:=fun e=>hn (by rw [e];simp)
   obtain ⟨e',q1,q2,q3,q4,q5,q6⟩:=h.clo j (by omega) (fun hm=>hn (by simp [hm])) ho
   refine ⟨e',by rw [old j (by omega)];exact q1,q2,by omega,q4,q5,fun k k1 k2 k3=>?_⟩
   obtain ⟨f,f1,f0,f2⟩:=q6 k k1 k2 k3
   exact ⟨f,by rw [old k (by omega)];exact f1,f0,f2⟩
  ·rcases List.mem_cons.1 hj with rfl|hj
   ·omega
   ·have hkn:k≠n:=fun e=>h3 (by rw [e];simp)
    obtain ⟨f,f1,f0,f2⟩:=h.deep j hj k h1 (by omega) (fun hm=>h3 (by simp [hm])) h4
    exact ⟨f,by rw [old k (by omega)];exact f1,f0,by omega⟩
theorem Mid.close {ops:List Ins} {n j:Nat} {out:List Int} {st:List Nat} (h:Mid ops n out (j::st)) (hc:(cd ops n=12∧cd ops j=11)∨cd ops n=13):
    Mid ops (n+1) ((out++[(n:Int)]).set j n) (if cd ops n=12 then n::st else st):=by
  have hl:=h.len
  have hjn:=h.lt j (by simp)
  have hj0:j<(out++[(n:Int)]).length:=by simp;omega
  have old:∀ k,k<n→k≠j→((out++[(n:Int)]).set j n).getD k 0=out.getD k 0:=fun k hk hn=>by rw [getD_set_ne (Ne.symm hn)];exact getD_append_l (by omega)
  have atj:((out++[(n:Int)]).set j n).getD j 0=n:=getD_set_eq hj0
  have new:((out++[(n:Int)]).set j n).getD n 0=n:=by rw [getD_set_ne (by omega)];simp [List.getD,←hl]
  have hasc:=List.pairwise_cons.1 h.asc
  have hst:∀ k∈st,k<j:=fun k hk=>hasc.1 k hk
  have hjs:j ∉ st:=fun hm=>Nat.lt_irrefl _ (hst j hm)
  have mem:∀ {k},k∈(if cd ops n=12 then n::st else st)→(k=n∧cd ops n=12)∨k∈st:=fun {k} hk=>by
    split at hk
    ·rename_i e;rcases List.mem_cons.1 hk with rfl|hk
     ·exact .inl ⟨rfl,e⟩
     ·exact .inr hk
    ·exact .inr hk
  have sub:∀ {k},k ∉ (if cd ops n=12 then n::st else st)→k ∉ st:=fun {k} hk hm=>hk (by
    split
    ·simp [hm]
    ·exact hm)
  have sub2:∀ {k},k ∉ (if cd ops n=12 then n::st else st)→k=n→opnr (cd ops n)=false:=fun {k} hk e=>by
    subst e
    split at hk
    ·simp at hk
    ·rename_i e12
     rcases hc with ⟨e,_⟩|e
     ·exact absurd e e12
     ·rw [e];decide
  refine ⟨by simp [hl],fun k hk=>?_,?_,fun k hk=>?_,fun k hk hs=>?_,fun k hk hn ho=>?_,fun i hi k h1 h2 h3 h4=>?_⟩
  ·rcases mem hk with ⟨rfl,_⟩|hk
   ·omega
   ·have:=hst k hk;omega
  ·split
   ·exact List.pairwise_cons.2 ⟨fun b hb=>by have:=hst b hb;omega,hasc.2⟩
   ·exact hasc.2
  ·rcases mem hk with ⟨rfl,e⟩|hk
   ·rw [e];decide
   ·exact h.opn k (by simp [hk])
  ·by_cases e:k=n
   ·subst e;exact new
   ·by_cases e2:k=j
    ·subst e2
     exfalso
     rcases hs with hs|hs
     ·rcases mem hs with ⟨rfl,_⟩|hs
      ·exact e rfl
      ·exact hjs hs
     ·have:=h.opn k (by simp);rw [hs] at this;cases this
    ·rw [old k (by omega) e2]
     refine h.self k (by omega) ?_
     rcases hs with hs|hs
     ·rcases mem hs with ⟨rfl,_⟩|hs
      ·exact absurd rfl e
      ·exact .inl (by simp [hs])
     ·exact .inr hs
  ·by_cases e:k=n
   ·rw [e] at ho;rw [sub2 hn e] at ho;cases ho
   ·by_cases e2:k=j
    ·subst e2
     refine ⟨n,atj,hjn,by omega,fun e12=>?_,?_,fun i i1 i2 i3=>?_⟩
     ·rcases hc with ⟨_,q⟩|q
      ·exact q
      ·omega
     ·rcases hc with ⟨q,_⟩|q
      ·exact .inl q
      ·exact .inr q
     ·have hi:i ∉ k::st:=fun hm=>by
        rcases List.mem_cons.1 hm with rfl|hm
        ·omega
        ·have:=hst i hm;omega
      obtain ⟨f,f1,f0,f2⟩:=h.deep k (by simp) i i1 i2 hi i3
      exact ⟨f,by rw [old i i2 (by omega)];exact f1,f0,f2⟩
    ·obtain ⟨e',q1,q2,q3,q4,q5,q6⟩:=h.clo k (by omega) (fun hm=>by
       rcases List.mem_cons.1 hm with rfl|hm
       ·exact e2 rfl
       ·exact sub hn hm) ho
     refine ⟨e',by rw [old k (by omega) e2];exact q1,q2,by omega,q4,q5,fun i i1 i2 i3=>?_⟩
     obtain ⟨f,f1,f0,f2⟩:=q6 i i1 i2 i3
     by_cases e3:i=j
     ·subst e3
      have:=h.self i (by omega) (.inl (by simp))
      omega
     ·exact ⟨f,by rw [old i (by omega) e3];exact f1,f0,f2⟩
  ·rcases mem hi with ⟨rfl,_⟩|hi
   ·omega
   ·by_cases e:k=n
    ·rw [e] at h4;rw [sub2 h3 e] at h4;cases h4
    ·by_cases e2:k=j
     ·subst e2;exact ⟨n,atj,by omega,by omega⟩
     ·obtain ⟨f,f1,f0,f2⟩:=h.deep i (by simp [hi]) k h1 (by omega) (fun hm=>by
        rcases List.mem_cons.1 hm with rfl|hm
        ·exact e2 rfl
        ·exact sub h3 hm) h4
      exact ⟨f,by rw [old k (by omega) e2];exact f1,f0,by omega⟩
theorem matchG_nest {ops:List Ins}:∀ (l:List Ins) (i:Nat) (out:List Int) (st:List Nat) (mt:List Int),ops.drop i=l→i≤ops.length→Mid ops i out st→matchG ops l i out st=some mt→Nest ops mt
  |[],i,out,st,mt,hl,hi,h,e=>by
   have hn:i=ops.length:=by
     have:=congrArg List.length hl
     simp at this;omega
   subst hn
   cases st with
   |cons j st=>cases e
   |nil=>
    cases e
    exact ⟨h.len,fun j hj ho=>h.self j hj (.inr ho),fun j hj ho=>h.clo j hj (by simp) ho⟩
  |x::l,i,out,st,mt,hl,hi,h,e=>by
   have hlt:i<ops.length:=by
     rcases Nat.lt_or_ge i ops.length with h|h
     ·exact h
     ·rw [List.drop_eq_nil_of_le h] at hl;cases hl
   have hx:cd ops i=x.code:=by
     have:=List.drop_eq_getElem_cons hlt
     rw [hl] at this
     simp only [List.cons.injEq] at this
     simp [cd,List.getD,hlt,this.1]
   have hl':ops.drop (i+1)=l:=by
     have:=List.drop_eq_getElem_cons hlt
     rw [hl] at this
     simp only [List.cons.injEq] at this
     exact this.2.symm
   simp only [matchG] at e
   split at e
   ·rename_i hc
    split at e
    ·cases e
    ·exact matchG_nest l (i+1) _ _ mt hl' hlt (h.push (by rw [hx];rcases hc with hc|hc<;>rw [hc]<;>decide)) e
   ·rename_i h1
    split at e
    ·rename_i h2
     split at e
     ·cases e
     ·rename_i j st'
      split at e
      ·rename_i h3
       have hj:=h.lt j (by simp)
       have hcj:cd ops j=11:=h3
       have:=h.close (.inl ⟨by rw [hx];exact h2,hcj⟩)
       rw [if_pos (by rw [hx];exact h2)] at this
       exact matchG_nest l (i+1) _ _ mt hl' hlt this e
      ·cases e
    ·rename_i h2
     split at e
     ·rename_i h3
      split at e
      ·cases e
      ·rename_i j st'
       have:=h.close (.inr (by rw [hx];exact h3))
       rw [if_neg (by rw [hx];exact h2)] at this
       exact matchG_nest l (i+1) _ _ mt hl' hlt this e
     ·rename_i h3
      exact matchG_nest l (i+1) _ _ mt hl' hlt (h.plain (by
        rw [hx]
        simp only [opnr,Bool.or_eq_false_iff,decide_eq_false_iff_not]
        omega)) e
theorem match_nest {ops:List Ins} {mt:List Int} (h:matchS ops=some mt):Nest ops mt:=by
  unfold matchS at h
  split at h
  ·cases h
  ·exact matchG_nest ops 0 [] [] mt (by simp) (Nat.zero_le _) ⟨rfl,by simp,by simp,by simp,by simp,by simp,by simp⟩ h
end Go.Proofs.YtnlimcijgpaegaaGreat.Bm

namespace Go.Proofs.YtnlimcijgpaegaaGreat.Bm
open Go.Proofs.YtnlimcijgpaegaaGreat
open Go Go.Fw
section
variable {B:Prg} {mt:List Int} {seen:List (List Rng)}
theorem simple_left {x:Ins} {s:St}:(simpleS x s).left=s.left:=by
  refine simple_P (P:=fun r=>r.left=s.left) ?_ ?_ ?_ ?_ ?_ ?_ ?_ ?_<;>intros<;>rfl
theorem step1_left {i:Int} {s:St}:(step1 B seen i s).left=s.left - 1:=by
  have:(tick (look seen i s)).left=s.left - 1:=by obtain ⟨o,ho⟩:=look_eq (seen:=seen) i s;rw [ho];rfl
  unfold step1
  split
  ·show (simpleS (B.op i) (tick (look seen i s))).left=_;rw [simple_left,this]
  ·rw [simple_left,this]
theorem look_left {i:Int} {s:St}:(tick (look seen i s)).left=s.left - 1:=by obtain ⟨o,ho⟩:=look_eq (seen:=seen) i s;rw [ho];rfl
theorem exec_left (f:Nat) (t:Tk) (s:St):(exec B mt seen f t s).left≤s.left:=
  exec_inv (P:=fun r=>r.left≤s.left) (fun i r h _=>by rw [step1_left];omega) (fun i r h _=>by rw [look_left];omega) (fun i n r h _=>by simp only [tick,St.put];omega) f t s (Int.le_refl _)
theorem Runs.left {t:Tk} {s s':St} (h:Runs B mt seen t s s'):s'.left≤s.left:=by
  obtain ⟨F,hF⟩:=h
  rw [←hF F (Nat.le_refl _)];exact exec_left F t s
theorem Runs.inv {P:St→Prop} {t:Tk} {s s':St} (h:Runs B mt seen t s s') (hp:∀ f,P (exec B mt seen f t s)):P s':=by
  obtain ⟨F,hF⟩:=h
  rw [←hF F (Nat.le_refl _)];exact hp F
theorem runs_total:∀ (n:Nat) (t:Tk) (s:St),s.left.toNat≤n→∃ s',Runs B mt seen t s s':=by
  intro n
  induction n using Nat.strongRecOn with
  |_ n ih=>
   intro t s hs
   have go:stpS s=false→∀ (t:Tk) (r:St),r.left≤s.left - 1→∃ s',Runs B mt seen t r s':=fun hst t r hr=>by
     have:0<s.left:=by simp [stpS] at hst;omega
     exact ih r.left.toNat (by omega) t r (Nat.le_refl _)
   cases t with
   |blk i to=>
    by_cases hc:i<to∧stpS s=false
    ·have hl:=look_left (seen:=seen) (i:=i) (s:=s)
     by_cases h1:(B.op i).code=10
     ·obtain ⟨s1,r1⟩:=go hc.2 (.lop i (gt (tick (look seen i s)).regs (B.op i).b) (gt (tick (look seen i s)).regs (B.op i).c)) (tick (look seen i s)) (by omega)
      obtain ⟨s2,r2⟩:=go hc.2 (.blk (gt mt i+1) to) s1 (by have:=r1.left;omega)
      exact ⟨s2,runs_for hc h1 r1 r2⟩
     ·by_cases h2:(B.op i).code=11
      ·by_cases h3:gt (tick (look seen i s)).regs (B.op i).a≥0
       ·obtain ⟨s1,r1⟩:=go hc.2 (.blk (i+1) (gt mt i)) (tick (look seen i s)) (by omega)
        obtain ⟨s2,r2⟩:=go hc.2 (.blk (endS B mt i+1) to) s1 (by have:=r1.left;omega)
        exact ⟨s2,runs_yes hc h2 h3 r1 r2⟩
       ·by_cases h4:(B.op (gt mt i)).code=12
        ·obtain ⟨s1,r1⟩:=go hc.2 (.blk (gt mt i+1) (gt mt (gt mt i))) (tick (look seen i s)) (by omega)
         obtain ⟨s2,r2⟩:=go hc.2 (.blk (endS B mt i+1) to) s1 (by have:=r1.left;omega)
         exact ⟨s2,runs_no hc h2 h3 h4 r1 r2⟩
        ·obtain ⟨s2,r2⟩:=go hc.2 (.blk (endS B mt i+1) to) (tick (look seen i s)) (by omega)
         exact ⟨s2,runs_none hc h2 h3 h4 r2⟩
      ·obtain ⟨s2,r2⟩:=go hc.2 (.blk (i+1) to) (step1 B seen i s) (by rw [step1_left];omega)
       exact ⟨s2,runs_simple hc h1 h2 r2⟩
    ·exact ⟨s,runs_end hc⟩
   |lop i n hi=>
    by_cases hc:n<hi∧stpS s=false
    ·obtain ⟨s1,r1⟩:=go hc.2 (.blk (i+1) (gt mt i)) ((tick s).put (B.op i).a n) (by simp [tick,St.put])
     obtain ⟨s2,r2⟩:=go hc.2 (.lop i (n+(B.op i).d) hi) s1 (by have:=r1.left;simp [tick,St.put] at this;omega)
     exact ⟨s2,runs_turn hc r1 r2⟩
    ·exact ⟨s,runs_lend hc⟩
noncomputable def endR (B:Prg) (mt:List Int) (seen:List (List Rng)) (t:Tk) (s:St):St:=(runs_total (B:=B) (mt:=mt) (seen:=seen) s.left.toNat t s (Nat.le_refl _)).choose
theorem endR_runs {t:Tk} {s:St}:Runs B mt seen t s (endR B mt seen t s):=(runs_total (B:=B) (mt:=mt) (seen:=seen) s.left.toNat t s (Nat.le_refl _)).choose_spec
theorem op_cd {i:Nat}:(B.op i).code=cd B.ops i:=rfl
theorem Nest.at (h:Nest B.ops mt) {i:Int} (h0:0≤i) (h1:i<B.ops.length) (ho:(B.op i).code=10∨(B.op i).code=11∨(B.op i).code=12):
    i<gt mt i∧gt mt i<B.ops.length∧((B.op (gt mt i)).code=12∨(B.op (gt mt i)).code=13)∧((B.op (gt mt i)).code=12→(B.op i).code=11):=by
  obtain ⟨n,rfl⟩:∃ n:Nat,i=n:=⟨i.toNat,by omega⟩
  obtain ⟨e,q1,q2,q3,q4,q5,_⟩:=h.clo n (by omega) (by rw [←op_cd];simp [opnr];omega)
  have:gt mt (n:Int)=e:=by simp [gt];simpa [List.getD] using q1
  rw [this]
  exact ⟨by omega,by omega,q5,q4⟩
end
end Go.Proofs.YtnlimcijgpaegaaGreat.Bm

namespace Go.Proofs.YtnlimcijgpaegaaGreat.Bm
open Go.Proofs.YtnlimcijgpaegaaGreat
open Go Go.Fw
instance:DecidableEq Rng:=fun a b=>if h:a.lo=b.lo∧a.hi=b.hi then isTrue (by obtain ⟨a,a'⟩:=a;obtain ⟨b,b'⟩:=b;obtain ⟨h1,h2⟩:=h;simp only at h1 h2;subst h1;subst h2;rfl) else isFalse (fun e=>h (by subst e;exact ⟨rfl,rfl⟩))
def intsR:Rng:=⟨-2147483648,2147483647⟩
def machR:Rng:=⟨-maxC,maxC⟩
def boolR:Rng:=⟨0,1⟩
def Rng.within (a b:Rng):Prop:=b.lo≤a.lo∧a.hi≤b.hi
instance (a b:Rng):Decidable (a.within b):=inferInstanceAs (Decidable (_∧_))
def Rng.has (a:Rng) (n:Int):Prop:=a.lo≤n∧n≤a.hi
def heldR (a b:Rng):Rng:=if a.within b then a else b
def hullR (a b:Rng):Rng:=⟨minI a.lo b.lo,maxI a.hi b.hi⟩
def min4 (a b c d:Int):Int:=minI (minI (minI a b) c) d
def max4 (a b c d:Int):Int:=maxI (maxI (maxI a b) c) d
def prodR (a b:Rng):Rng:=⟨min4 (a.lo*b.lo) (a.lo*b.hi) (a.hi*b.lo) (a.hi*b.hi),max4 (a.lo*b.lo) (a.lo*b.hi) (a.hi*b.lo) (a.hi*b.hi)⟩
def rngV:Nat→List Rng→Rng
  |0,[a,b]=>heldR ⟨a.lo+b.lo,a.hi+b.hi⟩ intsR
  |1,[a,b]=>heldR ⟨a.lo - b.hi,a.hi - b.lo⟩ intsR
  |2,[a,b]=>heldR (prodR a b) intsR
  |4,[a,b]=>if b.lo≥1 then ⟨0,b.hi - 1⟩ else intsR
  |5,[a,b]=>⟨minI a.lo b.lo,minI a.hi b.hi⟩
  |6,[a,b]=>⟨maxI a.lo b.lo,maxI a.hi b.hi⟩
  |9,_=>⟨-1,1⟩
  |20,[_,b,c]=>hullR b c
  |21,_=>boolR
  |i,_=>if 10≤i∧i≤19 then boolR else intsR
def fitR (p:ByteArray):Rng:=if eqS p El.sBool=true then boolR else intsR
def fitA (ps:List ByteArray) (l:List Rng):Bool:=(ps.zip l).all fun p=>decide (p.2.lo≤p.2.hi)&&decide (p.2.within (fitR p.1))
theorem minI_le (a b:Int):minI a b≤a∧minI a b≤b∧(minI a b=a∨minI a b=b):=by unfold minI;split<;>refine ⟨?_,?_,?_⟩<;>first|omega|exact .inl rfl|exact .inr rfl
theorem maxI_ge (a b:Int):a≤maxI a b∧b≤maxI a b∧(maxI a b=a∨maxI a b=b):=by unfold maxI;split<;>refine ⟨?_,?_,?_⟩<;>first|omega|exact .inl rfl|exact .inr rfl
theorem prod_lo {a b:Rng} {x y:Int} (hx:a.has x) (hy:b.has y):(prodR a b).lo≤x*y∧x*y≤(prodR a b).hi:=by
  obtain ⟨x1,x2⟩:=hx
  obtain ⟨y1,y2⟩:=hy
  have corner:∀ z:Int,(a.lo*z≤x*z∧x*z≤a.hi*z)∨(a.hi*z≤x*z∧x*z≤a.lo*z):=fun z=>by
    rcases Int.le_total 0 z with h|h
    ·exact .inl ⟨Int.mul_le_mul_of_nonneg_right x1 h,Int.mul_le_mul_of_nonneg_right x2 h⟩
    ·exact .inr ⟨Int.mul_le_mul_of_nonpos_right x2 h,Int.mul_le_mul_of_nonpos_right x1 h⟩
  have edge:(x*b.lo≤x*y∧x*y≤x*b.hi)∨(x*b.hi≤x*y∧x*y≤x*b.lo):=by
    rcases Int.le_total 0 x with h|h
    ·exact .inl ⟨Int.mul_le_mul_of_nonneg_left y1 h,Int.mul_le_mul_of_nonneg_left y2 h⟩
    ·exact .inr ⟨Int.mul_le_mul_of_nonpos_left h y2,Int.mul_le_mul_of_nonpos_left h y1⟩
  have h1:=corner b.lo
  have h2:=corner b.hi
  simp only [prodR,min4,max4]
  generalize a.lo*b.lo=p at*
  generalize a.lo*b.hi=q at*
  generalize a.hi*b.lo=r at*
  generalize a.hi*b.hi=t at*
  generalize x*b.lo=u at*
  generalize x*b.hi=v at*
  generalize x*y=z at*
  have m1:=minI_le p q
  have m2:=minI_le (minI p q) r
  have m3:=minI_le (minI (minI p q) r) t
  have n1:=maxI_ge p q
  have n2:=maxI_ge (maxI p q) r
  have n3:=maxI_ge (maxI (maxI p q) r) t
  omega
theorem held_has {a b:Rng} {n m:Int} (h:a.has n) (hb:b.has m) (he:b.has n→m=n):(heldR a b).has m:=by
  unfold heldR
  split
  ·rename_i hw
   have:b.has n:=⟨Int.le_trans hw.1 h.1,Int.le_trans h.2 hw.2⟩
   rw [he this];exact h
  ·exact hb
theorem w32_has (n:Int):intsR.has (El.w32 n):=El.w32_el n
theorem w32_same {n:Int} (h:intsR.has n):El.w32 n=n:=El.w32_id h
inductive Has:List Rng→List Int→Prop
  |nil:Has [] []
  |cons {a:Rng} {n:Int} {l:List Rng} {m:List Int} (h:a.has n) (t:Has l m):Has (a::l) (n::m)
theorem Has.length {l:List Rng} {m:List Int} (h:Has l m):m.length=l.length:=by
  induction h with
  |nil=>rfl
  |cons _ _ ih=>simp [ih]
theorem rng_ix {i:Nat} (h:i<22):i=0∨i=1∨i=2∨i=3∨i=4∨i=5∨i=6∨i=7∨i=8∨i=9∨i=10∨i=11∨i=12∨i=13∨i=14∨i=15∨i=16∨i=17∨i=18∨i=19∨i=20∨i=21:=by omega
theorem tru_has (b:Bool):boolR.has (El.tru b):=by cases b<;>exact ⟨by decide,by decide⟩
theorem len1L {α:Type} {l:List α} (h:l.length=1):∃ a,l=[a]:=by
  cases l with
  |nil=>simp at h
  |cons a l=>cases l with
   |nil=>exact ⟨a,rfl⟩
   |cons _ _=>simp at h
theorem len2L {α:Type} {l:List α} (h:l.length=2):∃ a b,l=[a,b]:=by
  cases l with
  |nil=>simp at h
  |cons a l=>obtain ⟨b,rfl⟩:=len1L (l:=l) (by simpa using h);exact ⟨a,b,rfl⟩
theorem len3L {α:Type} {l:List α} (h:l.length=3):∃ a b c,l=[a,b,c]:=by
  cases l with
  |nil=>simp at h
  |cons a l=>obtain ⟨b,c,rfl⟩:=len2L (l:=l) (by simpa using h);exact ⟨a,b,c,rfl⟩
theorem Has.one {a:Rng} {m:List Int} (h:Has [a] m):∃ x,m=[x]∧a.has x:=by
  cases h with
  |cons h t=>cases t;exact ⟨_,rfl,h⟩
theorem Has.two {a b:Rng} {m:List Int} (h:Has [a,b] m):∃ x y,m=[x,y]∧a.has x∧b.has y:=by
  cases h with
  |cons h t=>obtain ⟨y,rfl,hy⟩:=t.one;exact ⟨_,_,rfl,h,hy⟩
theorem Has.three {a b c:Rng} {m:List Int} (h:Has [a,b,c] m):∃ x y z,m=[x,y,z]∧a.has x∧b.has y∧c.has z:=by
  cases h with
  |cons h t=>obtain ⟨y,z,rfl,hy,hz⟩:=t.two;exact ⟨_,_,_,rfl,h,hy,hz⟩
theorem val_has {i:Nat} (hi:i<22) {l:List Rng} {m:List Int} (h:Has l m) (hl:l.length=(El.psN i).length) (hf:fitA (El.psN i) l=true):(rngV i l).has (El.vS i m):=by
  have two:∀ j,(El.psN j).length=2→j=i→∃ a b x y,l=[a,b]∧m=[x,y]∧a.has x∧b.has y:=fun j hj e=>by
    subst e
    obtain ⟨a,b,rfl⟩:=len2L (hl.trans hj)
    obtain ⟨x,y,rfl,hx,hy⟩:=h.two
    exact ⟨a,b,x,y,rfl,rfl,hx,hy⟩
  have one:∀ j,(El.psN j).length=1→j=i→∃ a x,l=[a]∧m=[x]∧a.has x:=fun j hj e=>by
    subst e
    obtain ⟨a,rfl⟩:=len1L (hl.trans hj)
    obtain ⟨x,rfl,hx⟩:=h.one
    exact ⟨a,x,rfl,rfl,hx⟩
  have wi:∀ {p:ByteArray} {a:Rng} {ps:List ByteArray} {l:List Rng},fitA (p::ps) (a::l)=true→a.within (fitR p)∧fitA ps l=true:=fun {p a ps l} h=>by
    simp only [fitA,List.zip_cons_cons,List.all_cons,Bool.and_eq_true,decide_eq_true_eq] at h
    exact ⟨h.1.2,by simpa [fitA] using h.2⟩
  rcases rng_ix hi with rfl|rfl|rfl|rfl|rfl|rfl|rfl|rfl|rfl|rfl|rfl|rfl|rfl|rfl|rfl|rfl|rfl|rfl|rfl|rfl|rfl|rfl
  ·obtain ⟨a,b,x,y,rfl,rfl,hx,hy⟩:=two 0 rfl rfl
   exact held_has (n:=x+y) ⟨Int.add_le_add hx.1 hy.1,Int.add_le_add hx.2 hy.2⟩ (w32_has _) fun h=>w32_same h
  ·obtain ⟨a,b,x,y,rfl,rfl,hx,hy⟩:=two 1 rfl rfl
   exact held_has (n:=x - y) ⟨Int.sub_le_sub hx.1 hy.2,Int.sub_le_sub hx.2 hy.1⟩ (w32_has _) fun h=>w32_same h
  ·obtain ⟨a,b,x,y,rfl,rfl,hx,hy⟩:=two 2 rfl rfl
   exact held_has (n:=x*y) (prod_lo hx hy) (w32_has _) fun h=>w32_same h
  ·obtain ⟨a,b,x,y,rfl,rfl,hx,hy⟩:=two 3 rfl rfl
   exact w32_has _
  ·obtain ⟨a,b,x,y,rfl,rfl,hx,hy⟩:=two 4 rfl rfl
   have hw1:intsR.has x:=⟨Int.le_trans (wi hf).1.1 hx.1,Int.le_trans hx.2 (wi hf).1.2⟩
   have hw2:intsR.has y:=⟨Int.le_trans (wi (wi hf).2).1.1 hy.1,Int.le_trans hy.2 (wi (wi hf).2).1.2⟩
   show (if b.lo≥1 then (⟨0,b.hi - 1⟩:Rng) else intsR).has (if y=0 then 0 else x - y*El.flo x y)
   by_cases e:y=0
   ·rw [if_pos e,if_neg (by have:=hy.1;omega)];exact ⟨by decide,by decide⟩
   ·have hs:=El.flo_spec (a:=x) e
    rw [if_neg e]
    simp only [Rng.has,intsR] at hw2
    split
    ·rename_i hb
     have:=hs.1 (by have:=hy.1;omega)
     exact ⟨this.1,by have:=hy.2;simp only;omega⟩
    ·rcases Int.lt_or_gt_of_ne e with hn|hp
     ·have:=hs.2 hn;exact ⟨by simp only [intsR];omega,by simp only [intsR];omega⟩
     ·have:=hs.1 hp;exact ⟨by simp only [intsR];omega,by simp only [intsR];omega⟩
  ·obtain ⟨a,b,x,y,rfl,rfl,hx,hy⟩:=two 5 rfl rfl
   obtain ⟨x1,x2⟩:=hx
   obtain ⟨y1,y2⟩:=hy
   have m1:=minI_le x y
   have m2:=minI_le a.lo b.lo
   have m3:=minI_le a.hi b.hi
   refine ⟨?_,?_⟩<;>simp only [rngV,El.vS]<;>omega
  ·obtain ⟨a,b,x,y,rfl,rfl,hx,hy⟩:=two 6 rfl rfl
   obtain ⟨x1,x2⟩:=hx
   obtain ⟨y1,y2⟩:=hy
   have m1:=maxI_ge x y
   have m2:=maxI_ge a.lo b.lo
   have m3:=maxI_ge a.hi b.hi
   refine ⟨?_,?_⟩<;>simp only [rngV,El.vS]<;>omega
  ·obtain ⟨a,x,rfl,rfl,hx⟩:=one 7 rfl rfl
   exact w32_has _
  ·obtain ⟨a,x,rfl,rfl,hx⟩:=one 8 rfl rfl
   exact w32_has _
  ·obtain ⟨a,x,rfl,rfl,hx⟩:=one 9 rfl rfl
   show (⟨-1,1⟩:Rng).has (El.sgn x)
   unfold El.sgn
   split
   ·exact ⟨by decide,by decide⟩
   ·split<;>exact ⟨by decide,by decide⟩
  ·obtain ⟨a,b,x,y,rfl,rfl,hx,hy⟩:=two 10 rfl rfl;exact tru_has _
  ·obtain ⟨a,b,x,y,rfl,rfl,hx,hy⟩:=two 11 rfl rfl;exact tru_has _
  ·obtain ⟨a,b,x,y,rfl,rfl,hx,hy⟩:=two 12 rfl rfl;exact tru_has _
  ·obtain ⟨a,b,x,y,rfl,rfl,hx,hy⟩:=two 13 rfl rfl;exact tru_has _
  ·obtain ⟨a,b,x,y,rfl,rfl,hx,hy⟩:=two 14 rfl rfl;exact tru_has _
  ·obtain ⟨a,b,x,y,rfl,rfl,hx,hy⟩:=two 15 rfl rfl;exact tru_has _
  ·obtain ⟨a,b,x,y,rfl,rfl,hx,hy⟩:=two 16 rfl rfl
   have k1:=(wi hf).1
   have k2:=(wi (wi hf).2).1
   have e1:a.within boolR:=k1
   have e2:b.within boolR:=k2
   have m1:=minI_le x y
   simp only [Rng.within,Rng.has,boolR] at e1 e2 hx hy
   show boolR.has (minI x y)
   simp only [Rng.has,boolR];omega
  ·obtain ⟨a,b,x,y,rfl,rfl,hx,hy⟩:=two 17 rfl rfl
   have e1:a.within boolR:=(wi hf).1
   have e2:b.within boolR:=(wi (wi hf).2).1
   have m1:=maxI_ge x y
   simp only [Rng.within,Rng.has,boolR] at e1 e2 hx hy
   show boolR.has (maxI x y)
   simp only [Rng.has,boolR];omega
  ·obtain ⟨a,b,x,y,rfl,rfl,hx,hy⟩:=two 18 rfl rfl
   show boolR.has (if x=y then 0 else 1)
   split<;>exact ⟨by decide,by decide⟩
  ·obtain ⟨a,x,rfl,rfl,hx⟩:=one 19 rfl rfl
   have e1:a.within boolR:=(wi hf).1
   simp only [Rng.within,Rng.has,boolR] at e1 hx
   show boolR.has (1 - x)
   simp only [Rng.has,boolR];omega
  ·obtain ⟨a,b,c,rfl⟩:=len3L (l:=l) (hl.trans rfl)
   obtain ⟨x,y,z,rfl,hx,hy,hz⟩:=h.three
   show (hullR b c).has (if x=1 then y else z)
   have m1:=minI_le b.lo c.lo
   have m2:=maxI_ge b.hi c.hi
   obtain ⟨y1,y2⟩:=hy
   obtain ⟨z1,z2⟩:=hz
   split<;>refine ⟨?_,?_⟩<;>simp only [hullR]<;>omega
  ·obtain ⟨a,x,rfl,rfl,hx⟩:=one 21 rfl rfl
   have e1:a.within boolR:=(wi hf).1
   exact ⟨Int.le_trans e1.1 hx.1,Int.le_trans hx.2 e1.2⟩
end Go.Proofs.YtnlimcijgpaegaaGreat.Bm

namespace Go.Proofs.YtnlimcijgpaegaaGreat.Bm
open Go.Proofs.YtnlimcijgpaegaaGreat
open Go Go.Fw
theorem Rng.within_refl (a:Rng):a.within a:=⟨Int.le_refl _,Int.le_refl _⟩
end Go.Proofs.YtnlimcijgpaegaaGreat.Bm

namespace Go.Proofs.YtnlimcijgpaegaaGreat.Bm
open Go.Proofs.YtnlimcijgpaegaaGreat
open Go Go.Fw
def nilR:Rng:=⟨0,0⟩
def wideR (op:ByteArray):Rng:=match El.typesS op with
  |some r=>if eqS r.rs El.sBool=true then boolR else intsR
  |none=>intsR
def withR (s:List Rng) (i:Int) (x:Rng):List Rng:=s.set i.toNat x
structure W where
  before:List (List Rng)
  heads:List (Int×List Rng)
inductive VTk where
  |blk (i to:Int)
  |lop (i:Int) (v:Rng)
def InP (s:List Rng) (l:List Int):Prop:=l.length=s.length∧∀ i,i<s.length→(s.getD i nilR).has (l.getD i 0)
theorem Rng.within_trans {a b c:Rng} (h:a.within b) (k:b.within c):a.within c:=⟨Int.le_trans k.1 h.1,Int.le_trans h.2 k.2⟩
def OkR (r:Rng):Prop:=r.lo≤r.hi∧r.within machR
def OkS (n:Nat) (s:List Rng):Prop:=s.length=n∧∀ i,i<n→OkR (s.getD i nilR)
theorem OkS.with {n:Nat} {s:List Rng} (h:OkS n s) {i:Int} {x:Rng} (hx:OkR x):OkS n (withR s i x):=by
  refine ⟨by simp [withR,h.1],fun j hj=>?_⟩
  by_cases e:i.toNat=j
  ·subst e;simpa [withR,List.getD,List.getElem?_set_self (show i.toNat<s.length by rw [h.1];exact hj)] using hx
  ·simpa [withR,List.getD,List.getElem?_set_ne e] using h.2 j hj
theorem ok_held {a:Rng} (h:a.lo≤a.hi):(heldR a intsR).lo≤(heldR a intsR).hi∧(heldR a intsR).within intsR:=by
  unfold heldR
  split
  ·rename_i k;exact ⟨h,k⟩
  ·exact ⟨by decide,by decide,by decide⟩
theorem rng_ints {i:Nat} (hlt:i<22) {l:List Rng} (h2:l.length=(El.psN i).length) (h3:fitA (El.psN i) l=true):(rngV i l).lo≤(rngV i l).hi∧(rngV i l).within intsR:=by
  have two:∀ j,(El.psN j).length=2→j=i→∃ a b,l=[a,b]:=fun j hj e=>by subst e;exact len2L (h2.trans hj)
  have fw:∀ p,(fitR p).within intsR:=fun p=>by unfold fitR;split;exact ⟨by decide,by decide⟩;exact Rng.within_refl _
  have wi:∀ {p:ByteArray} {a:Rng} {ps:List ByteArray} {l:List Rng},fitA (p::ps) (a::l)=true→(a.lo≤a.hi∧a.within intsR)∧fitA ps l=true:=fun {p a ps l} h=>by
    simp only [fitA,List.zip_cons_cons,List.all_cons,Bool.and_eq_true,decide_eq_true_eq] at h
    exact ⟨⟨h.1.1,Rng.within_trans h.1.2 (fw _)⟩,by simpa [fitA] using h.2⟩
  have ki:intsR.lo≤intsR.hi∧intsR.within intsR:=⟨by decide,by decide,by decide⟩
  have kb:boolR.lo≤boolR.hi∧boolR.within intsR:=⟨by decide,by decide,by decide⟩
  have ks:(⟨-1,1⟩:Rng).lo≤(⟨-1,1⟩:Rng).hi∧(⟨-1,1⟩:Rng).within intsR:=⟨by decide,by decide,by decide⟩
  rcases rng_ix hlt with rfl|rfl|rfl|rfl|rfl|rfl|rfl|rfl|rfl|rfl|rfl|rfl|rfl|rfl|rfl|rfl|rfl|rfl|rfl|rfl|rfl|rfl
  ·obtain ⟨a,b,rfl⟩:=two 0 rfl rfl
   exact ok_held (Int.add_le_add (wi h3).1.1 (wi (wi h3).2).1.1)
  ·obtain ⟨a,b,rfl⟩:=two 1 rfl rfl
   exact ok_held (Int.sub_le_sub (wi h3).1.1 (wi (wi h3).2).1.1)
  ·obtain ⟨a,b,rfl⟩:=two 2 rfl rfl
   have:=prod_lo (a:=a) (b:=b) (x:=a.lo) (y:=b.lo) ⟨Int.le_refl _,(wi h3).1.1⟩ ⟨Int.le_refl _,(wi (wi h3).2).1.1⟩
   exact ok_held (Int.le_trans this.1 this.2)
  ·exact ki
  ·obtain ⟨a,b,rfl⟩:=two 4 rfl rfl
   have k:=(wi (wi h3).2).1
   show (if b.lo≥1 then (⟨0,b.hi - 1⟩:Rng) else intsR).lo≤(if b.lo≥1 then (⟨0,b.hi - 1⟩:Rng) else intsR).hi∧(if b.lo≥1 then (⟨0,b.hi - 1⟩:Rng) else intsR).within intsR
   simp only [Rng.within,intsR] at k
   split
   ·exact ⟨by simp only;omega,by simp only [intsR];omega,by simp only [intsR];omega⟩
   ·exact ki
  ·obtain ⟨a,b,rfl⟩:=two 5 rfl rfl
   have k1:=(wi h3).1
   have k2:=(wi (wi h3).2).1
   have m1:=minI_le a.lo b.lo
   have m2:=minI_le a.hi b.hi
   simp only [Rng.within,intsR] at k1 k2
   refine ⟨?_,?_,?_⟩<;>simp only [rngV,intsR]<;>omega
  ·obtain ⟨a,b,rfl⟩:=two 6 rfl rfl
   have k1:=(wi h3).1
   have k2:=(wi (wi h3).2).1
   have m1:=maxI_ge a.lo b.lo
   have m2:=maxI_ge a.hi b.hi
   simp only [Rng.within,intsR] at k1 k2
   refine ⟨?_,?_,?_⟩<;>simp only [rngV,intsR]<;>omega
  ·exact ki
  ·exact ki
  ·exact ks
  ·exact kb
  ·exact kb
  ·exact kb
  ·exact kb
  ·exact kb
  ·exact kb
  ·exact kb
  ·exact kb
  ·exact kb
  ·exact kb
  ·obtain ⟨a,b,c,rfl⟩:=len3L (l:=l) (h2.trans rfl)
   have k2:=(wi (wi h3).2).1
   have k3:=(wi (wi (wi h3).2).2).1
   have m1:=minI_le b.lo c.lo
   have m2:=maxI_ge b.hi c.hi
   simp only [Rng.within,intsR] at k2 k3
   refine ⟨?_,?_,?_⟩<;>simp only [rngV,hullR,intsR]<;>omega
  ·exact kb
end Go.Proofs.YtnlimcijgpaegaaGreat.Bm

namespace Go.Proofs.YtnlimcijgpaegaaGreat.Bm
open Go.Proofs.YtnlimcijgpaegaaGreat
open Go Go.Fw
theorem right_reg {x:Ins} {f:List Bool} {regs:Int} (h:rightS x regs=true) (hf:formS x=some f) {i:Nat} (hi:i<4) (hb:f.getD i false=true):0≤(oprs x).getD i 0∧(oprs x).getD i 0<regs:=by
  unfold rightS at h
  rw [hf] at h
  simp only [Bool.and_eq_true] at h
  obtain ⟨⟨_,h⟩,_⟩:=h
  have hl:i<f.length:=by
    rcases Nat.lt_or_ge i f.length with h|h
    ·exact h
    ·simp [List.getD,h] at hb
  have key:∀ n,oprOk f regs i n=true→0≤n∧n<regs:=fun n hn=>by
    unfold oprOk at hn
    rw [if_neg (by omega),if_pos hb] at hn
    simpa using hn
  match i,hi with
  |0,_=>exact key _ h.1.1.1
  |1,_=>exact key _ h.1.1.2
  |2,_=>exact key _ h.1.2
  |3,_=>exact key _ h.2
theorem mem_pickR {w:Bool} {n:Int}:∀ {i:Nat} {f:List Bool} {l:List Int},n∈pickR w i f l→∃ k,f.getD k false=true∧l.getD k 0=n∧k<l.length
  |i,[],l,h=>by cases l<;>simp [pickR] at h
  |i,true::f,[],h=>by simp [pickR] at h
  |i,false::f,[],h=>by simp [pickR] at h
  |i,true::f,m::l,h=>by
   simp only [pickR] at h
   split at h
   ·rcases List.mem_cons.1 h with rfl|h
    ·exact ⟨0,rfl,rfl,by simp⟩
    ·obtain ⟨k,k1,k2,k3⟩:=mem_pickR h;exact ⟨k+1,by simpa using k1,by simpa using k2,by simpa using k3⟩
   ·obtain ⟨k,k1,k2,k3⟩:=mem_pickR h;exact ⟨k+1,by simpa using k1,by simpa using k2,by simpa using k3⟩
  |i,false::f,m::l,h=>by
   simp only [pickR] at h
   obtain ⟨k,k1,k2,k3⟩:=mem_pickR h;exact ⟨k+1,by simpa using k1,by simpa using k2,by simpa using k3⟩
theorem reads_reg {x:Ins} {regs:Int} (h:rightS x regs=true) {n:Int} (hn:n∈readsS x):0≤n∧n<regs:=by
  unfold readsS at hn
  cases hf:formS x with
  |none=>rw [hf] at hn;simp at hn
  |some f=>
   rw [hf] at hn
   obtain ⟨k,k1,k2,k3⟩:=mem_pickR hn
   rw [←k2]
   exact right_reg h hf k3 k1
structure Regs (x:Ins) (regs:Int):Prop where
  w:wrtB x.code=true→0≤x.a∧x.a<regs
  a:x.code=7∨x.code=11→0≤x.a∧x.a<regs
  b:x.code=2∨x.code=3∨x.code=4∨x.code=6∨x.code=7∨x.code=9∨x.code=10∨x.code=14→0≤x.b∧x.b<regs
  c:x.code=2∨x.code=3∨x.code=4∨x.code=10→0≤x.c∧x.c<regs
  code:x.code=1∨x.code=2∨x.code=3∨x.code=4∨x.code=5∨x.code=6∨x.code=7∨x.code=8∨x.code=9∨x.code=10∨x.code=11∨x.code=12∨x.code=13∨x.code=14∨x.code=15
  k1:x.code=1→ -maxC≤x.b∧x.b≤maxC
  k2:x.code=2→ -maxA≤x.d∧x.d≤maxA
  k10:x.code=10→1≤x.d∧x.d≤maxA
  k9:x.code=9→1≤x.a∧x.a≤1000000
theorem right_regs {x:Ins} {regs:Int} (h:rightS x regs=true):Regs x regs:=by
  cases hf:formS x with
  |none=>unfold rightS at h;rw [hf] at h;cases h
  |some f=>
   have key:=fun i (hi:i<4) (hb:f.getD i false=true)=>right_reg h hf hi hb
   have hrest:restOk x=true:=by
     unfold rightS at h;rw [hf] at h;simp only [Bool.and_eq_true] at h;exact h.2
   have f5:x.code=5→f.getD 0 false=true:=fun hc=>by
     unfold formS at hf
     rw [if_neg (by omega),if_neg (by omega),if_neg (by omega),if_pos hc] at hf
     simp only [Option.map_eq_some_iff] at hf
     obtain ⟨r,_,rfl⟩:=hf
     rw [Nat.add_comm];simp [List.replicate_succ]
   have hcode:x.code=1∨x.code=2∨x.code=3∨x.code=4∨x.code=5∨x.code=6∨x.code=7∨x.code=8∨x.code=9∨x.code=10∨x.code=11∨x.code=12∨x.code=13∨x.code=14∨x.code=15:=by
     unfold formS at hf
     repeat' split at hf
     all_goals first|omega|cases hf
   have fx:∀ (L:List Bool),(if x.code=1 then some [true,false] else if x.code=2∨x.code=10 then some [true,true,true,false] else if x.code=3∨x.code=4 then some [true,true,true]
     else if x.code=5 then some L else if x.code=6∨x.code=7∨x.code=14 then some [true,true] else if x.code=8∨x.code=11 then some [true] else if x.code=9 then some [false,true] else some [])=some f→x.code≠5→
     (wrtB x.code=true→f.getD 0 false=true)∧(x.code=7∨x.code=11→f.getD 0 false=true)∧
     (x.code=2∨x.code=3∨x.code=4∨x.code=6∨x.code=7∨x.code=9∨x.code=10∨x.code=14→f.getD 1 false=true)∧(x.code=2∨x.code=3∨x.code=4∨x.code=10→f.getD 2 false=true):=by
     intro L hL h5
     rcases hcode with e|e|e|e|e|e|e|e|e|e|e|e|e|e|e
     all_goals first|exact absurd e h5|skip
     all_goals (rw [e] at hL ⊢;simp at hL;subst hL;simp [wrtB])
   have all:(wrtB x.code=true→f.getD 0 false=true)∧(x.code=7∨x.code=11→f.getD 0 false=true)∧
     (x.code=2∨x.code=3∨x.code=4∨x.code=6∨x.code=7∨x.code=9∨x.code=10∨x.code=14→f.getD 1 false=true)∧(x.code=2∨x.code=3∨x.code=4∨x.code=10→f.getD 2 false=true):=by
     by_cases h5:x.code=5
     ·refine ⟨fun _=>f5 h5,?_,?_,?_⟩<;>intro h<;>omega
     ·refine fx [] ?_ h5
      have h0:=hf
      unfold formS at h0
      rcases hcode with e|e|e|e|e|e|e|e|e|e|e|e|e|e|e
      all_goals first|exact absurd e h5|(rw [e] at h0 ⊢;simpa using h0)
   obtain ⟨a1,a2,a3,a4⟩:=all
   refine ⟨fun hw=>key 0 (by decide) (a1 hw),fun hw=>key 0 (by decide) (a2 hw),fun hw=>key 1 (by decide) (a3 hw),fun hw=>key 2 (by decide) (a4 hw),hcode,fun e=>?_,fun e=>?_,fun e=>?_,fun e=>?_⟩
   all_goals (unfold restOk at hrest;rw [e] at hrest;simpa using hrest)
theorem apply_wide {op:ByteArray} {xs:List Int} {n:Int} (h:El.applyS op xs=some n):(wideR op).has n:=by
  unfold El.applyS at h
  rcases El.ix_cases op with ⟨i,hi,_,hx,ht⟩|⟨hx,_⟩
  ·rw [hx] at h
   simp only [Option.bind_some] at h
   split at h
   ·rename_i hok
    cases h
    unfold wideR
    rw [ht]
    simp only
    have hl:xs.length=(El.psN i).length∧El.okA (El.psN i) xs=true:=by
      unfold El.okB at hok;rw [Bool.and_eq_true,decide_eq_true_eq] at hok;exact hok
    have hH:∀ (ys:List Int),Has (ys.map fun y=>(⟨y,y⟩:Rng)) ys:=fun ys=>by
      induction ys with
      |nil=>exact .nil
      |cons y ys ih=>exact .cons ⟨Int.le_refl _,Int.le_refl _⟩ ih
    have fitv:∀ p y,(p=El.sInt∨p=El.sBool∨p=El.sA)→El.vld (El.elT p) y=true→(⟨y,y⟩:Rng).within (fitR p):=by
      intro p y hp hv
      rcases hp with rfl|rfl|rfl
      ·have e:El.vld (El.elT El.sInt) y=decide (-2147483648≤y∧y≤2147483647):=rfl
       rw [e] at hv
       exact ⟨(of_decide_eq_true hv).1,(of_decide_eq_true hv).2⟩
      ·have e:El.vld (El.elT El.sBool) y=decide (y=0∨y=1):=rfl
       rw [e] at hv
       have:=of_decide_eq_true hv
       show (⟨y,y⟩:Rng).within boolR
       simp only [Rng.within,boolR];omega
      ·have e:El.vld (El.elT El.sA) y=decide (-2147483648≤y∧y≤2147483647):=rfl
       rw [e] at hv
       exact ⟨(of_decide_eq_true hv).1,(of_decide_eq_true hv).2⟩
    have hfit:∀ (ps:List ByteArray) (ys:List Int),(∀ p∈ps,p=El.sInt∨p=El.sBool∨p=El.sA)→El.okA ps ys=true→fitA ps (ys.map fun y=>(⟨y,y⟩:Rng))=true:=by
      intro ps
      induction ps with
      |nil=>intro ys _ _;simp [fitA]
      |cons p ps ih=>
       intro ys hp hv
       cases ys with
       |nil=>simp [fitA]
       |cons y ys=>
        simp only [El.okA,List.zip_cons_cons,List.all_cons,Bool.and_eq_true] at hv
        have:=ih ys (fun q hq=>hp q (by simp [hq])) (by simpa [El.okA] using hv.2)
        simp only [fitA,List.map_cons,List.zip_cons_cons,List.all_cons,Bool.and_eq_true,decide_eq_true_eq] at this ⊢
        exact ⟨⟨Int.le_refl _,fitv p y (hp p (by simp)) hv.1⟩,this⟩
    have hv:=val_has hi (hH xs) (by simpa using hl.1) (hfit _ _ (El.psN_el i hi) hl.2)
    have sub:∀ r:Rng,r.within (if eqS (El.rowsL.getD i default).rs El.sBool=true then boolR else intsR)→r.has (El.vS i xs)→(if eqS (El.rowsL.getD i default).rs El.sBool=true then boolR else intsR).has (El.vS i xs):=
      fun r hr hh=>⟨Int.le_trans hr.1 hh.1,Int.le_trans hh.2 hr.2⟩
    by_cases hb:10≤i∧i≤19
    ·have e:(if eqS (El.rowsL.getD i default).rs El.sBool=true then boolR else intsR)=boolR:=by
       have:∀ i,10≤i→i≤19→eqS (El.rowsL.getD i default).rs El.sBool=true:=by
         intro i h1 h2
         have:i=10∨i=11∨i=12∨i=13∨i=14∨i=15∨i=16∨i=17∨i=18∨i=19:=by omega
         rcases this with rfl|rfl|rfl|rfl|rfl|rfl|rfl|rfl|rfl|rfl<;>rfl
       rw [if_pos (this i hb.1 hb.2)]
     rw [e]
     have e2:rngV i (xs.map fun y=>(⟨y,y⟩:Rng))=boolR:=by
       have:i=10∨i=11∨i=12∨i=13∨i=14∨i=15∨i=16∨i=17∨i=18∨i=19:=by omega
       rcases this with rfl|rfl|rfl|rfl|rfl|rfl|rfl|rfl|rfl|rfl<;>simp [rngV]
     rw [e2] at hv;exact hv
    ·have e:(if eqS (El.rowsL.getD i default).rs El.sBool=true then boolR else intsR)=intsR:=by
       rw [if_neg]
       rcases rng_ix hi with rfl|rfl|rfl|rfl|rfl|rfl|rfl|rfl|rfl|rfl|rfl|rfl|rfl|rfl|rfl|rfl|rfl|rfl|rfl|rfl|rfl|rfl<;>first|decide|(exfalso;omega)
     rw [e]
     obtain ⟨_,k2⟩:=rng_ints hi (l:=xs.map fun y=>(⟨y,y⟩:Rng)) (by simpa using hl.1) (hfit _ _ (El.psN_el i hi) hl.2)
     exact ⟨Int.le_trans k2.1 hv.1,Int.le_trans hv.2 k2.2⟩
   ·cases h
  ·rw [hx] at h;cases h
end Go.Proofs.YtnlimcijgpaegaaGreat.Bm

namespace Go.Proofs.YtnlimcijgpaegaaGreat.Bm
open Go.Proofs.YtnlimcijgpaegaaGreat
open Go Go.Fw
section
variable {B:Prg} {mt:List Int}
def Cl (B:Prg) (mt:List Int) (i to:Int):Prop:=0≤i∧to≤B.ops.length∧∀ j:Int,i≤j→j<to→((B.op j).code=10∨(B.op j).code=11∨(B.op j).code=12)→gt mt j<to
theorem Cl.next {i j to:Int} (h:Cl B mt i to) (hj:i≤j):Cl B mt j to:=⟨by have:=h.1;omega,h.2.1,fun k k1 k2 k3=>h.2.2 k (by omega) k2 k3⟩
theorem Nest.inner (hN:Nest B.ops mt) {i:Int} (h0:0≤i) (h1:i<B.ops.length) (ho:(B.op i).code=10∨(B.op i).code=11∨(B.op i).code=12):Cl B mt (i+1) (gt mt i):=by
  obtain ⟨k1,k2,_,_⟩:=hN.at h0 h1 ho
  refine ⟨by omega,by omega,fun j j1 j2 j3=>?_⟩
  obtain ⟨n,rfl⟩:∃ n:Nat,i=n:=⟨i.toNat,by omega⟩
  obtain ⟨m,rfl⟩:∃ m:Nat,j=m:=⟨j.toNat,by omega⟩
  obtain ⟨e,q1,q2,q3,_,_,q6⟩:=hN.clo n (by omega) (by rw [←op_cd];simp [opnr];omega)
  have e1:gt mt (n:Int)=e:=by simp [gt];simpa [List.getD] using q1
  obtain ⟨f,f1,f2,f3⟩:=q6 m (by omega) (by omega) (by rw [←op_cd];simp [opnr];omega)
  have e2:gt mt (m:Int)=f:=by simp [gt];simpa [List.getD] using f1
  omega
theorem Nest.end_ (hN:Nest B.ops mt) {i to:Int} (hc:Cl B mt i to) (hi:i<to) (ho:(B.op i).code=11):
    i<gt mt i∧gt mt i≤gt mt (gt mt i)∧gt mt (gt mt i)<to∧endS B mt i=gt mt (gt mt i)∧Cl B mt (minI (gt mt i+1) (gt mt (gt mt i))) (gt mt (gt mt i))∧((B.op (gt mt i)).code≠12→gt mt (gt mt i)=gt mt i):=by
  have h1:i<B.ops.length:=by have:=hc.2.1;omega
  obtain ⟨k1,k2,k3,k4⟩:=hN.at hc.1 h1 (.inr (.inl ho))
  have hk:=hc.2.2 i (Int.le_refl _) hi (.inr (.inl ho))
  have h0:=hc.1
  by_cases e:(B.op (gt mt i)).code=12
  ·obtain ⟨j1,j2,_,_⟩:=hN.at (i:=gt mt i) (by omega) k2 (.inr (.inr e))
   have hin:=hN.inner (i:=gt mt i) (by omega) k2 (.inr (.inr e))
   refine ⟨k1,by omega,hc.2.2 _ (by omega) hk (.inr (.inr e)),by unfold endS;rw [if_pos e],?_,fun h=>absurd e h⟩
   rw [show minI (gt mt i+1) (gt mt (gt mt i))=gt mt i+1 by unfold minI;rw [if_neg (by omega)]]
   exact hin
  ·have e13:(B.op (gt mt i)).code=13:=by rcases k3 with h|h;exact absurd h e;exact h
   obtain ⟨n,hn⟩:∃ n:Nat,gt mt i=n:=⟨(gt mt i).toNat,by omega⟩
   have hs:gt mt (gt mt i)=gt mt i:=by
     have:=hN.self n (by omega) (by rw [←op_cd,←hn,e13];decide)
     rw [hn]
     simpa [gt,List.getD] using this
   rw [hs]
   refine ⟨k1,Int.le_refl _,hk,by unfold endS;rw [if_neg e],?_,fun _=>rfl⟩
   rw [show minI (gt mt i+1) (gt mt i)=gt mt i by unfold minI;rw [if_pos (by omega)]]
   exact ⟨by omega,by omega,fun j j1 j2 _=>by omega⟩
def VTk.lo:VTk→Int
  |.blk i _=>i
  |.lop i _=>i+1
def VTk.hi (mt:List Int):VTk→Int
  |.blk _ to=>to
  |.lop i _=>gt mt i
end
end Go.Proofs.YtnlimcijgpaegaaGreat.Bm

namespace Go.Proofs.YtnlimcijgpaegaaGreat.Bm
open Go.Proofs.YtnlimcijgpaegaaGreat
open Go Go.Fw
section
variable {B:Prg} {mt:List Int}
def Rights (B:Prg) (n:Nat):Prop:=∀ i:Int,0≤i→i<B.ops.length→rightS (B.op i) n=true
theorem InP.refine {s:List Rng} {l:List Int} (h:InP s l) {i:Int} {x:Rng} (hx:x.has (gt l i)):InP (withR s i x) l:=by
  refine ⟨by simp [withR,h.1],fun j hj=>?_⟩
  have hj':j<s.length:=by simpa [withR] using hj
  by_cases e:i.toNat=j
  ·subst e
   simpa [withR,List.getD,List.getElem?_set_self hj',gt] using hx
  ·have:=h.2 j hj'
   simpa [withR,List.getD,List.getElem?_set_ne e] using this
end
end Go.Proofs.YtnlimcijgpaegaaGreat.Bm

namespace Go.Proofs.YtnlimcijgpaegaaGreat
open Go Go.Fw Bm
set_option maxRecDepth 20000
def opV (x:Ins):AV:= .agg [.lit (.int .i64 x.code),.lit (.string x.prim),.lit (.int .i64 x.a),.lit (.int .i64 x.b),.lit (.int .i64 x.c),.lit (.int .i64 x.d)]
def opsV (l:List Ins):List AV:=l.map opV
theorem opsV_length (l:List Ins):(opsV l).length=l.length:=by simp [opsV]
def jOp:AV:=opV nilI
theorem opsV_getJ (l:List Ins) (i:Nat):(opsV l).getD i jOp=opV (l.getD i nilI):=by
  simp only [opsV,jOp,List.getD_eq_getElem?_getD,List.getElem?_map];cases l[i]? <;>rfl
def opOf:AV→Option Ins
  |.agg [.lit (.int .i64 k),.lit (.string p),.lit (.int .i64 a),.lit (.int .i64 b),.lit (.int .i64 c),.lit (.int .i64 d)]=>some ⟨k,p,a,b,c,d⟩
  |_=>none
theorem opOf_agg {k a b c d:Int} {p:ByteArray}:opOf (.agg [.lit (.int .i64 k),.lit (.string p),.lit (.int .i64 a),.lit (.int .i64 b),.lit (.int .i64 c),.lit (.int .i64 d)])=some ⟨k,p,a,b,c,d⟩:=rfl
theorem opOf_V (x:Ins):opOf (opV x)=some x:=rfl
theorem opOf_inv {x:AV} {s:Ins} (h:opOf x=some s):x=opV s:=by
  unfold opOf at h
  split at h
  ·cases h;rfl
  ·cases h
theorem opOf_le {x:AV} {s:Ins} (h:opOf x=some s):LeA x (opV s):=by rw [opOf_inv h];exact LeA.refl _
def opL:List AV→Option (List Ins)
  |[]=>some []
  |x::xs=>match opOf x,opL xs with
   |some s,some l=>some (s::l)
   |_,_=>none
theorem opL_ops:∀ l:List Ins,opL (opsV l)=some l
  |[]=>rfl
  |s::l=>by
   show opL (opV s::opsV l)=_
   rw [opL,opOf_V,opL_ops l]
theorem opL_inv:∀ {xs:List AV} {l:List Ins},opL xs=some l→xs=opsV l
  |[],l,h=>by cases h;rfl
  |x::xs,l,h=>by
   unfold opL at h
   split at h
   ·rename_i s l' h1 h2
    cases h
    rw [opOf_inv h1,opL_inv h2];rfl
   ·cases h
def opsOf (x:AV):Option (List Ins):=(slA 6 x).bind opL
theorem opsOf_leR {x:AV} {l:List Ins} (h:opsOf x=some l):LeR x (.sl false 6 (opsV l)):=slA_leR (by
  unfold opsOf at h
  cases hx:slA 6 x with
  |none=>rw [hx] at h;cases h
  |some xs=>rw [hx] at h;rw [←opL_inv h])
theorem opsOf_le {x:AV} {l:List Ins} (h:opsOf x=some l):LeA x (.sl false 6 (opsV l)):=slA_le (by
  unfold opsOf at h
  cases hx:slA 6 x with
  |none=>rw [hx] at h;cases h
  |some xs=>rw [hx] at h;rw [←opL_inv h])
theorem opsOf_sl {b:Bool} {l:List Ins}:opsOf (.sl b 6 (opsV l))=some l:=by simp [opsOf,slA,opL_ops]
def plV (p:Int×Int):AV:= .agg [.lit (.int .i64 p.1),.lit (.int .i64 p.2)]
def plsV (l:List (Int×Int)):List AV:=l.map plV
theorem plsV_length (l:List (Int×Int)):(plsV l).length=l.length:=by simp [plsV]
def jPl:AV:=plV (0,0)
theorem plsV_getJ (l:List (Int×Int)) (i:Nat):(plsV l).getD i jPl=plV (l.getD i (0,0)):=by
  simp only [plsV,jPl,List.getD_eq_getElem?_getD,List.getElem?_map];cases l[i]? <;>rfl
def plOf:AV→Option (Int×Int)
  |.agg [.lit (.int .i64 a),.lit (.int .i64 b)]=>some (a,b)
  |_=>none
theorem plOf_inv {x:AV} {s:Int×Int} (h:plOf x=some s):x=plV s:=by
  unfold plOf at h
  split at h
  ·cases h;rfl
  ·cases h
def plL:List AV→Option (List (Int×Int))
  |[]=>some []
  |x::xs=>match plOf x,plL xs with
   |some s,some l=>some (s::l)
   |_,_=>none
theorem plL_pls:∀ l:List (Int×Int),plL (plsV l)=some l
  |[]=>rfl
  |s::l=>by
   show plL (plV s::plsV l)=_
   rw [plL,show plOf (plV s)=some s from rfl,plL_pls l]
theorem plL_inv:∀ {xs:List AV} {l:List (Int×Int)},plL xs=some l→xs=plsV l
  |[],l,h=>by cases h;rfl
  |x::xs,l,h=>by
   unfold plL at h
   split at h
   ·rename_i s l' h1 h2
    cases h
    rw [plOf_inv h1,plL_inv h2];rfl
   ·cases h
def plsOf (x:AV):Option (List (Int×Int)):=(slA 2 x).bind plL
theorem plsOf_le {x:AV} {l:List (Int×Int)} (h:plsOf x=some l):LeA x (.sl false 2 (plsV l)):=slA_le (by
  unfold plsOf at h
  cases hx:slA 2 x with
  |none=>rw [hx] at h;cases h
  |some xs=>rw [hx] at h;rw [←plL_inv h])
theorem plsOf_sl {b:Bool} {l:List (Int×Int)}:plsOf (.sl b 2 (plsV l))=some l:=by simp [plsOf,slA,plL_pls]
def jkV:TypeId→AV:=fun t=>if t=56 then jOp else if t=73 then jPl else jk t
theorem jkV_56:jkV 56=jOp:=rfl
theorem jkV_73:jkV 73=jPl:=rfl
theorem jkV_3:jkV 3= .lit (.int .i64 0):=rfl
theorem jkV_9:jkV 9= .lit (.string ByteArray.empty):=rfl
theorem jkV_34:jkV 34=jI:=rfl
theorem jkV_45:jkV 45=jA:=rfl
theorem typesV_some {r:El.Rw}:El.typesV (some r)= .tup [.sl false 1 (strs r.ps),.lit (.string r.rs),.lit (.bool true)]:=rfl
theorem typesV_none:El.typesV none= .tup [.lit (.slice none 0 0),.lit (.string ⟨#[]⟩),.lit (.bool false)]:=rfl
attribute [go_sem] jkV_56 jkV_73 jkV_3 jkV_9 jkV_34 jkV_45 opsV_getJ opsV_length plsV_getJ plsV_length typesV_some typesV_none opOf_agg
end Go.Proofs.YtnlimcijgpaegaaGreat

namespace Go.Proofs.YtnlimcijgpaegaaGreat
open Go Go.Fw Bm
set_option maxRecDepth 20000
def frB (f:List Bool):ByteArray:=⟨(f.map fun b=>if b=true then (114:UInt8) else 110).toArray⟩
def formV (x:Ins):AV:=match formS x with
  |some f=> .tup [.lit (.string (frB f)),.lit (.bool true)]
  |none=> .tup [.lit (.string (if x.code=5 then frB [true] else frB [])),.lit (.bool false)]
theorem typesS_len {op:ByteArray} {r:El.Rw} (h:El.typesS op=some r):r.ps.length=1∨r.ps.length=2∨r.ps.length=3:=by
  have hm:r∈El.rowsL:=List.mem_of_find?_eq_some h
  have:∀ r∈El.rowsL,r.ps.length=1∨r.ps.length=2∨r.ps.length=3:=by decide
  exact this r hm
theorem szR4:(#[114,114,114,114]:Array UInt8).size=4:=rfl
theorem ci1:(1:Int)+((1:Nat):Int)=2:=rfl
theorem ci2:(1:Int)+((2:Nat):Int)=3:=rfl
theorem ci3:(1:Int)+((3:Nat):Int)=4:=rfl
theorem mi1:minI 4 1=1:=rfl
theorem mi2:minI 4 2=2:=rfl
theorem mi3:minI 4 3=3:=rfl
theorem mi4:minI 4 4=4:=rfl
attribute [go_sem] ci1 ci2 ci3 szR4 mi1 mi2 mi3 mi4
noncomputable def V1:Env:=envJ (P:=Tryz.prog) jkV zer (fun _=>false) (fun _=>false) [El.con154] []
theorem V1_ok:EnvOk Tryz.prog V1:=envJOk zer_ok
attribute [go_sem] El.con154_f El.con154_c El.con70_f El.con70_c
set_option maxHeartbeats 4000000 in
theorem form_pc {x:Ins}:PC Tryz.prog 168 [opV x] (formV x):=by
  obtain ⟨k,p,a,b,c,d⟩:=x
  simp only [opV]
  generalize hR:formV ⟨k,p,a,b,c,d⟩=R
  by_cases h5:k=5
  ·subst h5
   cases hT:El.typesS p with
   |none=>
    refine pcR V1_ok (kp168) Tryz.func168 [.tmp 2,.tmp 3] (h:=fun KF=>?_)
    unfold V1
    with_reducible repeat' first|(refine nx ?_;intros)|refine t_br (fun hc=>?_) fun hc=>?_|apply And.intro|intro vr|(refine ny ?_;intros;simp only [go_sem,kp168,geff,hT])
    all_goals try (first|(with_reducible assumption)|(intros;(try simp only [Bool.and_eq_true,Bool.or_eq_true,Bool.or_eq_false_iff,Bool.not_eq_true',Bool.not_eq_false',decide_eq_true_eq,decide_eq_false_iff_not,beq_iff_eq,beq_eq_false_iff_ne,bne_iff_ne,bne_eq_false_iff_eq,ne_eq,inI64,List.size_toArray,List.length_cons,List.length_nil] at*)<;>omega)|(intros;(with_reducible first|refine impB_ofR ?_|refine and_ofB ?_ ?_)<;>with_reducible first|assumption|(refine impB_ofR ?_;assumption))|((try simp only [Bool.and_eq_true] at vr);simp only [impB,vr,Bool.or_true,Bool.true_or,Bool.and_self,Bool.not_true,Bool.not_false,Bool.and_true];done))
    all_goals (refine nl ?_;simp only [go_sem])
    exact LeA.of_eq (by rw [←hR];simp [formV,formS,hT,frB];rfl)
   |some r=>
    have hfin:∀ n:Nat,r.ps.length=n→LeA (.tup [.lit (.string (frB (List.replicate (1+n) true))),.lit (.bool true)]) R:=fun n hn=>LeA.of_eq (by rw [←hR];simp only [formV,formS,hT,Option.map_some,hn];rfl)
    rcases typesS_len hT with hl|hl|hl
    all_goals
      have e:=hfin _ hl
      refine pcR V1_ok (kp168) Tryz.func168 [.tmp 2,.tmp 3] (h:=fun KF=>?_)
      unfold V1
      with_reducible repeat' first|(refine nx ?_;intros)|refine t_br (fun hc=>?_) fun hc=>?_|apply And.intro|intro vr|(refine ny ?_;intros;simp only [go_sem,kp168,geff,hT,hl,Int.reduceAdd])
      all_goals try (first|(with_reducible assumption)|(intros;(try simp only [Bool.and_eq_true,Bool.or_eq_true,Bool.or_eq_false_iff,Bool.not_eq_true',Bool.not_eq_false',decide_eq_true_eq,decide_eq_false_iff_not,beq_iff_eq,beq_eq_false_iff_ne,bne_iff_ne,bne_eq_false_iff_eq,ne_eq,inI64,List.size_toArray,List.length_cons,List.length_nil] at*)<;>omega)|(intros;(with_reducible first|refine impB_ofR ?_|refine and_ofB ?_ ?_)<;>with_reducible first|assumption|(refine impB_ofR ?_;assumption))|((try simp only [Bool.and_eq_true] at vr);simp only [impB,vr,Bool.or_true,Bool.true_or,Bool.and_self,Bool.not_true,Bool.not_false,Bool.and_true];done))
      all_goals (refine nl ?_;simp only [go_sem])
      exact e
  ·skip
   refine pcR V1_ok (kp168) Tryz.func168 [.tmp 2,.tmp 3] (h:=fun KF=>?_)
   unfold V1
   with_reducible repeat' first|(refine nx ?_;intros)|refine t_br (fun hc=>?_) fun hc=>?_|apply And.intro|intro vr|(refine ny ?_;intros;simp only [go_sem,kp168,geff])
   all_goals try exact nd
   all_goals (refine nl ?_;simp only [go_sem])
   all_goals (refine LeA.of_eq ?_;rw [←hR];simp_all [formV,formS,frB])
noncomputable def con168:PCon Tryz.prog where
  f:=168
  c:=fun
   |[xx]=>match opOf xx with|some x=>some (True,formV x)|_=>none
   |_=>none
  ok:=by
   intro args p r hc hp
   split at hc
   ·split at hc
    ·rename_i hx
     cases hc
     exact PC.weak form_pc ⟨opOf_le hx,trivial⟩
    ·cases hc
   ·cases hc
  fk:=fk168
theorem con168_f:con168.f=168:=rfl
theorem con168_c {xx:AV}:con168.c [xx]=match opOf xx with|some x=>some (True,formV x)|_=>none:=rfl
end Go.Proofs.YtnlimcijgpaegaaGreat

namespace Go.Proofs.YtnlimcijgpaegaaGreat
open Go Go.Fw Bm
set_option maxRecDepth 20000
noncomputable def V2:Env:=envJ (P:=Tryz.prog) jkV zer (fun _=>false) (fun _=>false) [] []
theorem V2_ok:EnvOk Tryz.prog V2:=envJOk zer_ok
attribute [go_sem] con168_f con168_c
def oprV (x:Ins):AV:= .agg [.lit (.int .i64 x.a),.lit (.int .i64 x.b),.lit (.int .i64 x.c),.lit (.int .i64 x.d)]
set_option maxHeartbeats 4000000 in
theorem ropr_pc {x:Ins}:PC Tryz.prog 169 [opV x] (oprV x):=by
  simp only [opV]
  refine pcR V2_ok (kp169) Tryz.func169 [.cell 2 109] (h:=fun KF=>?_)
  unfold V2
  with_reducible repeat' first|(refine nx ?_;intros)|refine t_br (fun hc=>?_) fun hc=>?_|refine t_bx ?_|apply And.intro|intro vr|((first|refine ny ?_|refine t_dwh (h:=fun K KL=>?_));intros;simp only [go_sem,kp169,geff])
  all_goals try exact nd
  all_goals (refine nl ?_;simp only [go_sem])
  exact LeA.refl _
set_option maxHeartbeats 4000000 in
theorem opr_pc {x:Ins}:PC Tryz.prog 59 [opV x] (oprV x):=by
  simp only [opV]
  refine pcR V2_ok (kp59) Tryz.func59 [.cell 2 109] (h:=fun KF=>?_)
  unfold V2
  with_reducible repeat' first|(refine nx ?_;intros)|refine t_br (fun hc=>?_) fun hc=>?_|refine t_bx ?_|apply And.intro|intro vr|((first|refine ny ?_|refine t_dwh (h:=fun K KL=>?_));intros;simp only [go_sem,kp59,geff])
  all_goals try exact nd
  all_goals (refine nl ?_;simp only [go_sem])
  exact LeA.refl _
def wrtV (x:Ins):AV:= .tup [.lit (.int .i64 (if wrtB x.code=true then x.a else 0)),.lit (.bool (wrtB x.code))]
set_option maxHeartbeats 4000000 in
theorem rwrt_pc {x:Ins}:PC Tryz.prog 170 [opV x] (wrtV x):=by
  obtain ⟨k,p,a,b,c,d⟩:=x
  simp only [opV]
  generalize hR:wrtV ⟨k,p,a,b,c,d⟩=R
  refine pcR V2_ok (kp170) Tryz.func170 [.tmp 2,.tmp 3] (h:=fun KF=>?_)
  unfold V2
  with_reducible repeat' first|(refine nx ?_;intros)|refine t_br (fun hc=>?_) fun hc=>?_|apply And.intro|intro vr|(refine ny ?_;intros;simp only [go_sem,kp170,geff])
  all_goals try exact nd
  all_goals (refine nl ?_;simp only [go_sem])
  all_goals (refine LeA.of_eq ?_;rw [←hR];simp_all [wrtV,wrtB])
def kindOk (k n regs:Int):Bool:=
  if k=0 then decide (0≤n)&&decide (n<regs)
  else if k=1 then decide (-maxC≤n)&&decide (n≤maxC)
  else if k=2 then decide (-maxA≤n)&&decide (n≤maxA)
  else if k=3 then decide (1≤n)&&decide (n≤1000000)
  else decide (1≤n)&&decide (n≤maxA)
set_option maxHeartbeats 4000000 in
theorem within_pc {k n regs:Int}:PC Tryz.prog 60 [.lit (.int .i64 k),.lit (.int .i64 n),.lit (.int .i64 regs)] (.lit (.bool (kindOk k n regs))):=by
  generalize hR:kindOk k n regs=R
  refine pcR V2_ok (kp60) Tryz.func60 [.tmp 6] (h:=fun KF=>?_)
  unfold V2
  with_reducible repeat' first|(refine nx ?_;intros)|refine t_br (fun hc=>?_) fun hc=>?_|apply And.intro|intro vr|(refine ny ?_;intros;simp only [go_sem,kp60,geff])
  all_goals try exact nd
  all_goals (refine nl ?_;simp only [go_sem])
  all_goals (refine LeA.of_eq ?_;subst hR;first|(simp_all [kindOk,maxC,maxA];done)|(simp_all [kindOk,maxC,maxA];rfl))
noncomputable def con169:PCon Tryz.prog where
  f:=169
  c:=fun
   |[xx]=>match opOf xx with|some x=>some (True,oprV x)|_=>none
   |_=>none
  ok:=by
   intro args p r hc hp
   split at hc
   ·split at hc
    ·rename_i hx
     cases hc
     exact PC.weak ropr_pc ⟨opOf_le hx,trivial⟩
    ·cases hc
   ·cases hc
  fk:=fk169
theorem con169_f:con169.f=169:=rfl
theorem con169_c {xx:AV}:con169.c [xx]=match opOf xx with|some x=>some (True,oprV x)|_=>none:=rfl
noncomputable def con59:PCon Tryz.prog where
  f:=59
  c:=fun
   |[xx]=>match opOf xx with|some x=>some (True,oprV x)|_=>none
   |_=>none
  ok:=by
   intro args p r hc hp
   split at hc
   ·split at hc
    ·rename_i hx
     cases hc
     exact PC.weak opr_pc ⟨opOf_le hx,trivial⟩
    ·cases hc
   ·cases hc
  fk:=fk59
theorem con59_f:con59.f=59:=rfl
theorem con59_c {xx:AV}:con59.c [xx]=match opOf xx with|some x=>some (True,oprV x)|_=>none:=rfl
noncomputable def con170:PCon Tryz.prog where
  f:=170
  c:=fun
   |[xx]=>match opOf xx with|some x=>some (True,wrtV x)|_=>none
   |_=>none
  ok:=by
   intro args p r hc hp
   split at hc
   ·split at hc
    ·rename_i hx
     cases hc
     exact PC.weak rwrt_pc ⟨opOf_le hx,trivial⟩
    ·cases hc
   ·cases hc
  fk:=fk170
theorem con170_f:con170.f=170:=rfl
theorem con170_c {xx:AV}:con170.c [xx]=match opOf xx with|some x=>some (True,wrtV x)|_=>none:=rfl
noncomputable def con60:PCon Tryz.prog where
  f:=60
  c:=fun
   |[.lit (.int .i64 k),.lit (.int .i64 n),.lit (.int .i64 r)]=>some (True,.lit (.bool (kindOk k n r)))
   |_=>none
  ok:=by
   intro args p r hc hp
   split at hc
   ·cases hc;exact within_pc
   ·cases hc
  fk:=fk60
theorem con60_f:con60.f=60:=rfl
theorem con60_c {k:Int} {n:Int} {r:Int}:con60.c [.lit (.int .i64 k),.lit (.int .i64 n),.lit (.int .i64 r)]=some (True,.lit (.bool (kindOk k n r))):=rfl
theorem oprV_mk {k a b c d:Int} {p:ByteArray}:oprV ⟨k,p,a,b,c,d⟩= .agg [.lit (.int .i64 a),.lit (.int .i64 b),.lit (.int .i64 c),.lit (.int .i64 d)]:=rfl
theorem wrtV_mk {k a b c d:Int} {p:ByteArray}:wrtV ⟨k,p,a,b,c,d⟩= .tup [.lit (.int .i64 (if wrtB k=true then a else 0)),.lit (.bool (wrtB k))]:=rfl
attribute [go_sem] oprV_mk wrtV_mk con169_f con169_c con59_f con59_c con170_f con170_c con60_f con60_c
end Go.Proofs.YtnlimcijgpaegaaGreat

namespace Go.Proofs.YtnlimcijgpaegaaGreat
open Go Go.Fw Bm
set_option maxRecDepth 20000
theorem formV_some {x:Ins} {f:List Bool} (h:formS x=some f):formV x= .tup [.lit (.string (frB f)),.lit (.bool true)]:=by unfold formV;rw [h]
theorem formV_none {x:Ins} (h:formS x=none):formV x= .tup [.lit (.string (if x.code=5 then frB [true] else frB [])),.lit (.bool false)]:=by unfold formV;rw [h]
theorem formS_len {x:Ins} {f:List Bool} (h:formS x=some f):f.length≤4:=by
  unfold formS at h
  split at h
  ·cases h;decide
  ·split at h
   ·cases h;decide
   ·split at h
    ·cases h;decide
    ·split at h
     ·cases hT:El.typesS x.prim with
      |none=>rw [hT] at h;cases h
      |some r=>
       rw [hT] at h
       cases h
       have:=typesS_len hT
       simp only [List.length_replicate];omega
     ·split at h
      ·cases h;decide
      ·split at h
       ·cases h;decide
       ·split at h
        ·cases h;decide
        ·split at h
         ·cases h;decide
         ·cases h
theorem frB_size (f:List Bool):(frB f).size=f.length:=by simp [frB,ByteArray.size]
theorem frB_at (f:List Bool) (i:Nat) (h:i<f.length):strAt (frB f) i=if f.getD i false=true then 114 else 110:=by
  simp only [strAt,frB,List.getD_eq_getElem?_getD,List.getElem?_map,List.getElem?_eq_getElem h,Option.map_some,Option.getD_some]
  split<;>rfl
theorem decAnd {p q:Prop} [Decidable p] [Decidable q] [Decidable (p∧q)]:(decide p&&decide q)=decide (p∧q):=by
  by_cases h:p<;>by_cases k:q<;>simp [h,k]
theorem stepP {P:Nat→Prop} {i:Nat} (h:∀ j,j<i→P j) (k:P i):∀ j,j<i+1→P j:=fun j hj=>by
  rcases (show j<i∨j=i by omega) with h1|rfl
  ·exact h j h1
  ·exact k
noncomputable def V3:Env:=envJ (P:=Tryz.prog) jkV zer (fun _=>false) (fun _=>false) [con168,con169] []
theorem V3_ok:EnvOk Tryz.prog V3:=envJOk zer_ok
set_option maxHeartbeats 8000000 in
theorem rright_pc {x:Ins} {regs:Int}:PC Tryz.prog 152 [opV x,.lit (.int .i64 regs)] (.lit (.bool (rightS x regs))):=by
  obtain ⟨k,p,a,b,c,d⟩:=x
  simp only [opV]
  generalize hR:rightS ⟨k,p,a,b,c,d⟩ regs=R
  cases hF:formS ⟨k,p,a,b,c,d⟩ with
  |none=>
   have hV:=formV_none hF
   refine pcR V3_ok (kp152) Tryz.func152 [.tmp 4] (h:=fun KF=>?_)
   unfold V3
   with_reducible repeat' first|(refine nx ?_;intros)|refine t_br (fun hc=>?_) fun hc=>?_|apply And.intro|intro vr|(refine ny ?_;intros;simp only [go_sem,kp152,geff,hV])
   all_goals try exact nd
   all_goals (refine nl ?_;simp only [go_sem])
   all_goals (refine LeA.of_eq ?_;rw [←hR];simp [rightS,hF])
  |some f=>
   have hV:=formV_some hF
   have hl:=formS_len hF
   have hsz:=frB_size f
   have hsz':(frB f).data.size=f.length:=hsz
   have hRR:R=((decide (k=5)||decide (p.data.toList=[]))&&(oprOk f regs 0 a&&oprOk f regs 1 b&&oprOk f regs 2 c&&oprOk f regs 3 d)&&restOk ⟨k,p,a,b,c,d⟩):=by rw [←hR];simp only [rightS,hF]
   refine pcR V3_ok (kp152) Tryz.func152 [.tmp 4] (h:=fun KF=>?_)
   unfold V3
   with_reducible repeat' first|(refine nx ?_;intros)|refine t_br (fun hc=>?_) fun hc=>?_|apply And.intro|intro vr|(refine ny ?_;intros;simp only [go_sem,kp152,geff,hV])
   all_goals try exact nd
   ·skip
    all_goals (refine nl ?_;simp only [go_sem])
    refine LeA.of_eq ?_
    rw [hRR]
    simp_all [eqS]
   ·have hpk:(decide (k=5)||decide (p.data.toList=[]))=true:=by
      have h1:=hc
      simp only [eqS,Bool.and_eq_false_iff,bne_eq_false_iff_eq,Bool.not_eq_false',beq_iff_eq] at h1
      rcases h1 with h1|h1
      ·simp [h1]
      ·rw [h1];simp
    refine t_loopF (ι:={i:Nat // i≤4∧∀ j,j<i→oprOk f regs j ([a,b,c,d].getD j 0)=true}) (fun i=>[(8,.lit (.int .i64 i.1))]) (fun i=>[.box 56 [.lit (.int .i64 k),.lit (.string p),.lit (.int .i64 a),.lit (.int .i64 b),.lit (.int .i64 c),.lit (.int .i64 d)],.box 109 [.lit (.int .i64 a),.lit (.int .i64 b),.lit (.int .i64 c),.lit (.int .i64 d)]]) (fun i=>4 - i.1) ⟨0,by omega,by omega⟩ ?_ ?_
    ·exact lf
    rintro ⟨i,hi,hP⟩ K0
    rcases (show i=0∨i=1∨i=2∨i=3∨i=4 by omega) with rfl|rfl|rfl|rfl|rfl
    ·have h0:((((0:Nat):Int)):Int)=0:=rfl
     rcases Nat.lt_or_ge 0 f.length with hlt|hlt
     ·have g1:decide ((0:Int)≥(f.length:Int))=false:=decide_eq_false (by omega)
      cases hr:f.getD 0 false with
      |true=>
       have g2:strAt (frB f) 0=114:=by rw [frB_at f 0 hlt,hr];rfl
       have hq:oprOk f regs 0 a=decide (0≤a∧a<regs):=by unfold oprOk;rw [if_neg (by omega),hr,if_pos rfl]
       with_reducible repeat' first|(refine nx ?_;intros)|refine t_br (fun hc=>?_) fun hc=>?_|apply And.intro|intro vr|(refine ny ?_;intros;simp only [go_sem,kp152,geff,hsz,h0,g1,g2])
       all_goals try exact nd
       ·skip
        all_goals (refine nl ?_;simp only [go_sem])
        have hno:oprOk f regs 0 a=false:=by rw [hq];exact decide_eq_false (fun h=>by simp only [Bool.or_eq_true,decide_eq_true_eq] at hc;omega)
        exact LeA.of_eq (by rw [hRR,hno];simp)
       ·have hok:oprOk f regs 0 ([a,b,c,d].getD 0 0)=true:=by
          show oprOk f regs 0 a=true
          rw [hq];exact decide_eq_true (by simp only [Bool.or_eq_false_iff,decide_eq_false_iff_not] at hc;omega)
        exact ⟨⟨0+1,by omega,stepP hP hok⟩,wf,lf⟩
      |false=>
       have g2:strAt (frB f) 0=110:=by rw [frB_at f 0 hlt,hr];rfl
       have hok:oprOk f regs 0 ([a,b,c,d].getD 0 0)=true:=by unfold oprOk;rw [if_neg (by omega),hr,if_neg (by decide)]
       with_reducible repeat' first|(refine nx ?_;intros)|refine t_br (fun hc=>?_) fun hc=>?_|apply And.intro|intro vr|(refine ny ?_;intros;simp only [go_sem,kp152,geff,hsz,h0,g1,g2])
       all_goals try exact nd
       exact ⟨⟨0+1,by omega,stepP hP hok⟩,wf,lf⟩
     ·have g1:decide ((0:Int)≥(f.length:Int))=true:=decide_eq_true (by omega)
      have hq:oprOk f regs 0 a=decide (a=0):=by unfold oprOk;rw [if_pos (by omega)]
      with_reducible repeat' first|(refine nx ?_;intros)|refine t_br (fun hc=>?_) fun hc=>?_|apply And.intro|intro vr|(refine ny ?_;intros;simp only [go_sem,kp152,geff,hsz,h0,g1])
      all_goals try exact nd
      ·skip
       all_goals (refine nl ?_;simp only [go_sem])
       have hno:oprOk f regs 0 a=false:=by rw [hq];exact decide_eq_false (by simpa using hc)
       exact LeA.of_eq (by rw [hRR,hno];simp)
      ·have hok:oprOk f regs 0 ([a,b,c,d].getD 0 0)=true:=by
         show oprOk f regs 0 a=true
         rw [hq];exact decide_eq_true (by simpa using hc)
       exact ⟨⟨0+1,by omega,stepP hP hok⟩,wf,lf⟩
    ·have h0:((((1:Nat):Int)):Int)=1:=rfl
     rcases Nat.lt_or_ge 1 f.length with hlt|hlt
     ·have g1:decide ((1:Int)≥(f.length:Int))=false:=decide_eq_false (by omega)
      cases hr:f.getD 1 false with
      |true=>
       have g2:strAt (frB f) 1=114:=by rw [frB_at f 1 hlt,hr];rfl
       have hq:oprOk f regs 1 b=decide (0≤b∧b<regs):=by unfold oprOk;rw [if_neg (by omega),hr,if_pos rfl]
       with_reducible repeat' first|(refine nx ?_;intros)|refine t_br (fun hc=>?_) fun hc=>?_|apply And.intro|intro vr|(refine ny ?_;intros;simp only [go_sem,kp152,geff,hsz,h0,g1,g2])
       all_goals try exact nd
       ·skip
        all_goals (refine nl ?_;simp only [go_sem])
        have hno:oprOk f regs 1 b=false:=by rw [hq];exact decide_eq_false (fun h=>by simp only [Bool.or_eq_true,decide_eq_true_eq] at hc;omega)
        exact LeA.of_eq (by rw [hRR,hno];simp)
       ·have hok:oprOk f regs 1 ([a,b,c,d].getD 1 0)=true:=by
          show oprOk f regs 1 b=true
          rw [hq];exact decide_eq_true (by simp only [Bool.or_eq_false_iff,decide_eq_false_iff_not] at hc;omega)
        exact ⟨⟨1+1,by omega,stepP hP hok⟩,wf,lf⟩
      |false=>
       have g2:strAt (frB f) 1=110:=by rw [frB_at f 1 hlt,hr];rfl
       have hok:oprOk f regs 1 ([a,b,c,d].getD 1 0)=true:=by unfold oprOk;rw [if_neg (by omega),hr,if_neg (by decide)]
       with_reducible repeat' first|(refine nx ?_;intros)|refine t_br (fun hc=>?_) fun hc=>?_|apply And.intro|intro vr|(refine ny ?_;intros;simp only [go_sem,kp152,geff,hsz,h0,g1,g2])
       all_goals try exact nd
       exact ⟨⟨1+1,by omega,stepP hP hok⟩,wf,lf⟩
     ·have g1:decide ((1:Int)≥(f.length:Int))=true:=decide_eq_true (by omega)
      have hq:oprOk f regs 1 b=decide (b=0):=by unfold oprOk;rw [if_pos (by omega)]
      with_reducible repeat' first|(refine nx ?_;intros)|refine t_br (fun hc=>?_) fun hc=>?_|apply And.intro|intro vr|(refine ny ?_;intros;simp only [go_sem,kp152,geff,hsz,h0,g1])
      all_goals try exact nd
      ·skip
       all_goals (refine nl ?_;simp only [go_sem])
       have hno:oprOk f regs 1 b=false:=by rw [hq];exact decide_eq_false (by simpa using hc)
       exact LeA.of_eq (by rw [hRR,hno];simp)
      ·have hok:oprOk f regs 1 ([a,b,c,d].getD 1 0)=true:=by
         show oprOk f regs 1 b=true
         rw [hq];exact decide_eq_true (by simpa using hc)
       exact ⟨⟨1+1,by omega,stepP hP hok⟩,wf,lf⟩
    ·have h0:((((2:Nat):Int)):Int)=2:=rfl
     rcases Nat.lt_or_ge 2 f.length with hlt|hlt
     ·have g1:decide ((2:Int)≥(f.length:Int))=false:=decide_eq_false (by omega)
      cases hr:f.getD 2 false with
      |true=>
       have g2:strAt (frB f) 2=114:=by rw [frB_at f 2 hlt,hr];rfl
       have hq:oprOk f regs 2 c=decide (0≤c∧c<regs):=by unfold oprOk;rw [if_neg (by omega),hr,if_pos rfl]
       with_reducible repeat' first|(refine nx ?_;intros)|refine t_br (fun hc=>?_) fun hc=>?_|apply And.intro|intro vr|(refine ny ?_;intros;simp only [go_sem,kp152,geff,hsz,h0,g1,g2])
       all_goals try exact nd
       ·skip
        all_goals (refine nl ?_;simp only [go_sem])
        have hno:oprOk f regs 2 c=false:=by rw [hq];exact decide_eq_false (fun h=>by simp only [Bool.or_eq_true,decide_eq_true_eq] at hc;omega)
        exact LeA.of_eq (by rw [hRR,hno];simp)
       ·have hok:oprOk f regs 2 ([a,b,c,d].getD 2 0)=true:=by
          show oprOk f regs 2 c=true
          rw [hq];exact decide_eq_true (by simp only [Bool.or_eq_false_iff,decide_eq_false_iff_not] at hc;omega)
        exact ⟨⟨2+1,by omega,stepP hP hok⟩,wf,lf⟩
      |false=>
       have g2:strAt (frB f) 2=110:=by rw [frB_at f 2 hlt,hr];rfl
       have hok:oprOk f regs 2 ([a,b,c,d].getD 2 0)=true:=by unfold oprOk;rw [if_neg (by omega),hr,if_neg (by decide)]
       with_reducible repeat' first|(refine nx ?_;intros)|refine t_br (fun hc=>?_) fun hc=>?_|apply And.intro|intro vr|(refine ny ?_;intros;simp only [go_sem,kp152,geff,hsz,h0,g1,g2])
       all_goals try exact nd
       exact ⟨⟨2+1,by omega,stepP hP hok⟩,wf,lf⟩
     ·have g1:decide ((2:Int)≥(f.length:Int))=true:=decide_eq_true (by omega)
      have hq:oprOk f regs 2 c=decide (c=0):=by unfold oprOk;rw [if_pos (by omega)]
      with_reducible repeat' first|(refine nx ?_;intros)|refine t_br (fun hc=>?_) fun hc=>?_|apply And.intro|intro vr|(refine ny ?_;intros;simp only [go_sem,kp152,geff,hsz,h0,g1])
      all_goals try exact nd
      ·skip
       all_goals (refine nl ?_;simp only [go_sem])
       have hno:oprOk f regs 2 c=false:=by rw [hq];exact decide_eq_false (by simpa using hc)
       exact LeA.of_eq (by rw [hRR,hno];simp)
      ·have hok:oprOk f regs 2 ([a,b,c,d].getD 2 0)=true:=by
         show oprOk f regs 2 c=true
         rw [hq];exact decide_eq_true (by simpa using hc)
       exact ⟨⟨2+1,by omega,stepP hP hok⟩,wf,lf⟩
    ·have h0:((((3:Nat):Int)):Int)=3:=rfl
     rcases Nat.lt_or_ge 3 f.length with hlt|hlt
     ·have g1:decide ((3:Int)≥(f.length:Int))=false:=decide_eq_false (by omega)
      cases hr:f.getD 3 false with
      |true=>
       have g2:strAt (frB f) 3=114:=by rw [frB_at f 3 hlt,hr];rfl
       have hq:oprOk f regs 3 d=decide (0≤d∧d<regs):=by unfold oprOk;rw [if_neg (by omega),hr,if_pos rfl]
       with_reducible repeat' first|(refine nx ?_;intros)|refine t_br (fun hc=>?_) fun hc=>?_|apply And.intro|intro vr|(refine ny ?_;intros;simp only [go_sem,kp152,geff,hsz,h0,g1,g2])
       all_goals try exact nd
       ·skip
        all_goals (refine nl ?_;simp only [go_sem])
        have hno:oprOk f regs 3 d=false:=by rw [hq];exact decide_eq_false (fun h=>by simp only [Bool.or_eq_true,decide_eq_true_eq] at hc;omega)
        exact LeA.of_eq (by rw [hRR,hno];simp)
       ·have hok:oprOk f regs 3 ([a,b,c,d].getD 3 0)=true:=by
          show oprOk f regs 3 d=true
          rw [hq];exact decide_eq_true (by simp only [Bool.or_eq_false_iff,decide_eq_false_iff_not] at hc;omega)
        exact ⟨⟨3+1,by omega,stepP hP hok⟩,wf,lf⟩
      |false=>
       have g2:strAt (frB f) 3=110:=by rw [frB_at f 3 hlt,hr];rfl
       have hok:oprOk f regs 3 ([a,b,c,d].getD 3 0)=true:=by unfold oprOk;rw [if_neg (by omega),hr,if_neg (by decide)]
       with_reducible repeat' first|(refine nx ?_;intros)|refine t_br (fun hc=>?_) fun hc=>?_|apply And.intro|intro vr|(refine ny ?_;intros;simp only [go_sem,kp152,geff,hsz,h0,g1,g2])
       all_goals try exact nd
       exact ⟨⟨3+1,by omega,stepP hP hok⟩,wf,lf⟩
     ·have g1:decide ((3:Int)≥(f.length:Int))=true:=decide_eq_true (by omega)
      have hq:oprOk f regs 3 d=decide (d=0):=by unfold oprOk;rw [if_pos (by omega)]
      with_reducible repeat' first|(refine nx ?_;intros)|refine t_br (fun hc=>?_) fun hc=>?_|apply And.intro|intro vr|(refine ny ?_;intros;simp only [go_sem,kp152,geff,hsz,h0,g1])
      all_goals try exact nd
      ·skip
       all_goals (refine nl ?_;simp only [go_sem])
       have hno:oprOk f regs 3 d=false:=by rw [hq];exact decide_eq_false (by simpa using hc)
       exact LeA.of_eq (by rw [hRR,hno];simp)
      ·have hok:oprOk f regs 3 ([a,b,c,d].getD 3 0)=true:=by
         show oprOk f regs 3 d=true
         rw [hq];exact decide_eq_true (by simpa using hc)
       exact ⟨⟨3+1,by omega,stepP hP hok⟩,wf,lf⟩
    ·have hR4:R=restOk ⟨k,p,a,b,c,d⟩:=by
       rw [hRR,show oprOk f regs 0 a=true from hP 0 (by omega),show oprOk f regs 1 b=true from hP 1 (by omega),show oprOk f regs 2 c=true from hP 2 (by omega),show oprOk f regs 3 d=true from hP 3 (by omega),hpk]
       rfl
     clear hRR hR hF hV
     have h0:((((4:Nat):Int)):Int)=4:=rfl
     with_reducible repeat' first|(refine nx ?_;intros)|refine t_br (fun hc=>?_) fun hc=>?_|apply And.intro|intro vr|(refine ny ?_;intros;simp only [go_sem,kp152,geff,h0])
     all_goals try exact nd
     all_goals (refine nl ?_;simp only [go_sem])
     all_goals (refine LeA.of_eq ?_;subst hR4;first|(simp_all [restOk,maxC,maxA];done)|(simp_all [restOk,maxC,maxA];first|rfl|exact decAnd))
noncomputable def con152:PCon Tryz.prog where
  f:=152
  c:=fun
   |[xx,.lit (.int .i64 r)]=>match opOf xx with|some x=>some (True,.lit (.bool (rightS x r)))|_=>none
   |_=>none
  ok:=by
   intro args p r hc hp
   split at hc
   ·split at hc
    ·rename_i hx
     cases hc
     exact PC.weak rright_pc ⟨opOf_le hx,LeA.refl _,trivial⟩
    ·cases hc
   ·cases hc
  fk:=fk152
theorem con152_f:con152.f=152:=rfl
theorem con152_c {xx:AV} {r:Int}:con152.c [xx,.lit (.int .i64 r)]=match opOf xx with|some x=>some (True,.lit (.bool (rightS x r)))|_=>none:=rfl
attribute [go_sem] con152_f con152_c
end Go.Proofs.YtnlimcijgpaegaaGreat

namespace Go.Proofs.YtnlimcijgpaegaaGreat
open Go Go.Fw Bm
set_option maxRecDepth 20000
def formsV:AV:= .agg [
  .lit (.string ByteArray.empty),.sl true 1 [],.lit (.bool false),.sl true 1 [],
  .lit (.string ⟨#[99,111,110,115,116]⟩),.sl true 1 [.lit (.int .i64 0),.lit (.int .i64 1)],.lit (.bool true),.lit (.slice none 0 0),
  .lit (.string ⟨#[97,100,100]⟩),.sl true 1 [.lit (.int .i64 0),.lit (.int .i64 0),.lit (.int .i64 0),.lit (.int .i64 2)],.lit (.bool true),.sl true 1 [.lit (.int .i64 1),.lit (.int .i64 2)],
  .lit (.string ⟨#[109,105,110]⟩),.sl true 1 [.lit (.int .i64 0),.lit (.int .i64 0),.lit (.int .i64 0)],.lit (.bool true),.sl true 1 [.lit (.int .i64 1),.lit (.int .i64 2)],
  .lit (.string ⟨#[109,97,120]⟩),.sl true 1 [.lit (.int .i64 0),.lit (.int .i64 0),.lit (.int .i64 0)],.lit (.bool true),.sl true 1 [.lit (.int .i64 1),.lit (.int .i64 2)],
  .lit (.string ⟨#[112,114,105,109]⟩),.sl true 1 [.lit (.int .i64 0)],.lit (.bool true),.lit (.slice none 0 0),
  .lit (.string ⟨#[108,111,97,100]⟩),.sl true 1 [.lit (.int .i64 0),.lit (.int .i64 0)],.lit (.bool true),.sl true 1 [.lit (.int .i64 1)],
  .lit (.string ⟨#[115,116,111,114,101]⟩),.sl true 1 [.lit (.int .i64 0),.lit (.int .i64 0)],.lit (.bool false),.sl true 1 [.lit (.int .i64 0),.lit (.int .i64 1)],
  .lit (.string ⟨#[109,105,115,115]⟩),.sl true 1 [.lit (.int .i64 0)],.lit (.bool true),.lit (.slice none 0 0),
  .lit (.string ⟨#[99,104,101,99,107]⟩),.sl true 1 [.lit (.int .i64 3),.lit (.int .i64 0)],.lit (.bool false),.sl true 1 [.lit (.int .i64 1)],
  .lit (.string ⟨#[102,111,114]⟩),.sl true 1 [.lit (.int .i64 0),.lit (.int .i64 0),.lit (.int .i64 0),.lit (.int .i64 4)],.lit (.bool true),.sl true 1 [.lit (.int .i64 1),.lit (.int .i64 2)],
  .lit (.string ⟨#[105,102]⟩),.sl true 1 [.lit (.int .i64 0)],.lit (.bool false),.sl true 1 [.lit (.int .i64 0)],
  .lit (.string ⟨#[101,108,115,101]⟩),.lit (.slice none 0 0),.lit (.bool false),.lit (.slice none 0 0),
  .lit (.string ⟨#[101,110,100]⟩),.lit (.slice none 0 0),.lit (.bool false),.lit (.slice none 0 0),
  .lit (.string ⟨#[119,114,97,112]⟩),.sl true 1 [.lit (.int .i64 0),.lit (.int .i64 0)],.lit (.bool true),.sl true 1 [.lit (.int .i64 1)],
  .lit (.string ⟨#[115,107,105,112]⟩),.lit (.slice none 0 0),.lit (.bool false),.lit (.slice none 0 0)]
noncomputable def V4:Env:=envJ (P:=Tryz.prog) jkV zer (fun _=>false) (fun _=>false) [] []
theorem V4_ok:EnvOk Tryz.prog V4:=envJOk zer_ok
set_option maxHeartbeats 8000000 in
theorem forms_pc:PC Tryz.prog 100 [] formsV:=by
  refine pcR V4_ok (kp100) Tryz.func100 [.cell 0 151] (h:=fun KF=>?_)
  unfold V4
  with_reducible repeat' first|(refine nx ?_;intros)|refine t_br (fun hc=>?_) fun hc=>?_|refine t_bx ?_|apply And.intro|intro vr|((first|refine ny ?_|refine t_dwh (h:=fun K KL=>?_));intros;simp only [go_sem,kp100,geff])
  all_goals try exact nd
  all_goals (refine nl ?_;simp only [go_sem])
  exact LeA.refl _
noncomputable def con100:PCon Tryz.prog where
  f:=100
  c:=fun
   |[]=>some (True,formsV)
   |_=>none
  ok:=by
   intro args p r hc hp
   split at hc
   ·cases hc;exact forms_pc
   ·cases hc
  fk:=fk100
theorem con100_f:con100.f=100:=rfl
theorem con100_c:con100.c []=some (True,formsV):=rfl
attribute [go_sem] con100_f con100_c
def kndL (c:Int):List Int:=
  if c=1 then [0,1]
  else if c=2 then [0,0,0,2]
  else if c=3 then [0,0,0]
  else if c=4 then [0,0,0]
  else if c=5 then [0]
  else if c=6 then [0,0]
  else if c=7 then [0,0]
  else if c=8 then [0]
  else if c=9 then [3,0]
  else if c=10 then [0,0,0,4]
  else if c=11 then [0]
  else if c=12 then []
  else if c=13 then []
  else if c=14 then [0,0]
  else if c=15 then []
  else []
def redL (c:Int):List Int:=
  if c=1 then []
  else if c=2 then [1,2]
  else if c=3 then [1,2]
  else if c=4 then [1,2]
  else if c=5 then []
  else if c=6 then [1]
  else if c=7 then [0,1]
  else if c=8 then []
  else if c=9 then [1]
  else if c=10 then [1,2]
  else if c=11 then [0]
  else if c=12 then []
  else if c=13 then []
  else if c=14 then [1]
  else if c=15 then []
  else []
def namL (c:Int):ByteArray:=
  if c=1 then ⟨#[99,111,110,115,116]⟩
  else if c=2 then ⟨#[97,100,100]⟩
  else if c=3 then ⟨#[109,105,110]⟩
  else if c=4 then ⟨#[109,97,120]⟩
  else if c=5 then ⟨#[112,114,105,109]⟩
  else if c=6 then ⟨#[108,111,97,100]⟩
  else if c=7 then ⟨#[115,116,111,114,101]⟩
  else if c=8 then ⟨#[109,105,115,115]⟩
  else if c=9 then ⟨#[99,104,101,99,107]⟩
  else if c=10 then ⟨#[102,111,114]⟩
  else if c=11 then ⟨#[105,102]⟩
  else if c=12 then ⟨#[101,108,115,101]⟩
  else if c=13 then ⟨#[101,110,100]⟩
  else if c=14 then ⟨#[119,114,97,112]⟩
  else if c=15 then ⟨#[115,107,105,112]⟩
  else ⟨#[]⟩
def kndS (x:Ins):List Int:=if x.code=5 then (match El.typesS x.prim with
  |some r=>0::List.replicate r.ps.length 0
  |none=>[0]) else kndL x.code
def redS (x:Ins):List Int:=if x.code=5 then (match El.typesS x.prim with
  |some r=>(List.range r.ps.length).map fun i:Nat=>(i:Int)+1
  |none=>[]) else redL x.code
def shpOk (x:Ins):Bool:=if x.code<1∨x.code>15 then false else if x.code=5 then (El.typesS x.prim).isSome else true
def shpV (x:Ins):AV:= .tup [.agg [.lit (.string (namL x.code)),.sl false 1 (ints .i64 (kndS x)),.lit (.bool (wrtB x.code)),.sl false 1 (ints .i64 (redS x))],.lit (.bool (shpOk x))]
end Go.Proofs.YtnlimcijgpaegaaGreat

namespace Go.Proofs.YtnlimcijgpaegaaGreat
open Go Go.Fw Bm
set_option maxRecDepth 20000
attribute [go_sem] formsV
theorem shpV_of {k a b c d:Int} {p:ByteArray} (h:k≠5):shpV ⟨k,p,a,b,c,d⟩= .tup [.agg [.lit (.string (namL k)),.sl false 1 (ints .i64 (kndL k)),.lit (.bool (wrtB k)),.sl false 1 (ints .i64 (redL k))],.lit (.bool (if k<1∨k>15 then false else true))]:=by
  simp only [shpV,kndS,redS,shpOk,if_neg h]
end Go.Proofs.YtnlimcijgpaegaaGreat

namespace Go.Proofs.YtnlimcijgpaegaaGreat
open Go Go.Fw Bm
set_option maxRecDepth 20000
def kA (j:Nat):List Int:=0::List.replicate j 0
def rB (j:Nat):List Int:=(List.range j).map fun i:Nat=>(i:Int)+1
theorem kA_length (j:Nat):(ints .i64 (kA j)).length=j+1:=by simp [kA,ints]
theorem rB_length (j:Nat):(ints .i64 (rB j)).length=j:=by simp [rB,ints]
theorem kA_app (j:Nat):ints .i64 (kA j)++[.lit (.int .i64 0)]=ints .i64 (kA (j+1)):=by
  rw [ints_append1,kA,kA,List.replicate_succ',List.cons_append]
theorem rB_app (j:Nat):ints .i64 (rB j)++[.lit (.int .i64 ((j:Int)+1))]=ints .i64 (rB (j+1)):=by
  rw [ints_append1,rB,rB,List.range_succ,List.map_append];rfl
theorem kndS_5 {a b c d:Int} {p:ByteArray}:kndS ⟨5,p,a,b,c,d⟩=match El.typesS p with
  |some r=>kA r.ps.length
  |none=>[0]:=rfl
theorem redS_5 {a b c d:Int} {p:ByteArray}:redS ⟨5,p,a,b,c,d⟩=match El.typesS p with
  |some r=>rB r.ps.length
  |none=>[]:=rfl
theorem shpV_5 {a b c d:Int} {p:ByteArray} {r:El.Rw} (h:El.typesS p=some r):shpV ⟨5,p,a,b,c,d⟩= .tup [.agg [.lit (.string ⟨#[112,114,105,109]⟩),.sl false 1 (ints .i64 (kA r.ps.length)),.lit (.bool true),.sl false 1 (ints .i64 (rB r.ps.length))],.lit (.bool true)]:=by
  simp only [shpV,kndS_5,redS_5,shpOk,h];rfl
theorem shpV_5n {a b c d:Int} {p:ByteArray} (h:El.typesS p=none):shpV ⟨5,p,a,b,c,d⟩= .tup [.agg [.lit (.string ⟨#[112,114,105,109]⟩),.sl false 1 [.lit (.int .i64 0)],.lit (.bool true),.sl false 1 []],.lit (.bool false)]:=by
  simp only [shpV,kndS_5,redS_5,shpOk,h];rfl
noncomputable def V6:Env:=envJ (P:=Tryz.prog) jkV zer (fun _=>false) (fun _=>false) [con100,El.con70] []
theorem V6_ok:EnvOk Tryz.prog V6:=envJOk zer_ok
set_option maxHeartbeats 8000000 in
theorem shape_pc {x:Ins}:PC Tryz.prog 58 [opV x] (shpV x):=by
  obtain ⟨k,p,a,b,c,d⟩:=x
  simp only [opV]
  rcases (show k<1∨k>15∨k=5∨k=1∨k=2∨k=3∨k=4∨k=6∨k=7∨k=8∨k=9∨k=10∨k=11∨k=12∨k=13∨k=14∨k=15 by omega) with h|h|rfl|rfl|rfl|rfl|rfl|rfl|rfl|rfl|rfl|rfl|rfl|rfl|rfl|rfl|rfl
  ·rw [shpV_of (by omega),if_pos (.inl h)]
   have g1:decide (k<1)=true:=decide_eq_true h
   have e1:kndL k=[]:=by unfold kndL;repeat (rw [if_neg (by omega)])
   have e2:redL k=[]:=by unfold redL;repeat (rw [if_neg (by omega)])
   have e3:namL k=ByteArray.empty:=by unfold namL;(repeat rw [if_neg (by omega)]);rfl
   have e4:wrtB k=false:=by simp only [wrtB];simp;omega
   rw [e1,e2,e3,e4]
   refine pcR V6_ok (kp58) Tryz.func58 [.cell 2 106,.tmp 3] (h:=fun KF=>?_)
   unfold V6
   repeat' first|(with_reducible first|(refine nx ?_;intros)|refine t_br (fun hc=>?_) fun hc=>?_|apply And.intro|intro vr)|exact kpd|((with_reducible refine t_drawG (id:=3) (fun i=>i==0) 4 [(1,1),(2,1),(0,1),(3,1),(4,3),(5,0)] (by kernel_rfl) (by kernel_rfl) (by kernel_rfl) fun K=>?_);simp only [noA,List.filter_cons,List.filter_nil,Nat.reduceBEq,Bool.not_false,Bool.not_true,reduceIte,if_true,Bool.false_eq_true];simp only [pickO,List.getElem?_toArray,List.getElem?_cons_zero,List.getElem?_cons_succ,Nat.reduceAdd,Nat.reduceSub,fo_some];refine nh ?_;intro KL;simp only [go_sem,kp58,geff,g1])|((with_reducible first|refine ny ?_|refine t_kLF ?_ ?_|refine t_drawX (id:=10) (fun i=>i==0) [(0,1),(2,1),(4,1),(6,1),(7,1),(8,1),(1,3),(5,3),(3,0),(10,1),(9,0),(11,0),(12,1),(13,0)] (by kernel_rfl) fun K=>?_);intros;simp only [go_sem,kp58,geff,g1])
   all_goals try exact nd
   all_goals (refine nl ?_;simp only [go_sem])
   exact LeA.tup ⟨LeA.agg ⟨LeA.refl _,LeA.slx rfl,LeA.refl _,LeA.slx rfl,trivial⟩,LeA.refl _,trivial⟩
  ·rw [shpV_of (by omega),if_pos (.inr h)]
   have g1:decide (k<1)=false:=decide_eq_false (by omega)
   have g2:decide (k>15)=true:=decide_eq_true h
   have e1:kndL k=[]:=by unfold kndL;repeat (rw [if_neg (by omega)])
   have e2:redL k=[]:=by unfold redL;repeat (rw [if_neg (by omega)])
   have e3:namL k=ByteArray.empty:=by unfold namL;(repeat rw [if_neg (by omega)]);rfl
   have e4:wrtB k=false:=by simp only [wrtB];simp;omega
   rw [e1,e2,e3,e4]
   refine pcR V6_ok (kp58) Tryz.func58 [.cell 2 106,.tmp 3] (h:=fun KF=>?_)
   unfold V6
   repeat' first|(with_reducible first|(refine nx ?_;intros)|refine t_br (fun hc=>?_) fun hc=>?_|apply And.intro|intro vr)|exact kpd|((with_reducible refine t_drawG (id:=3) (fun i=>i==0) 4 [(1,1),(2,1),(0,1),(3,1),(4,3),(5,0)] (by kernel_rfl) (by kernel_rfl) (by kernel_rfl) fun K=>?_);simp only [noA,List.filter_cons,List.filter_nil,Nat.reduceBEq,Bool.not_false,Bool.not_true,reduceIte,if_true,Bool.false_eq_true];simp only [pickO,List.getElem?_toArray,List.getElem?_cons_zero,List.getElem?_cons_succ,Nat.reduceAdd,Nat.reduceSub,fo_some];refine nh ?_;intro KL;simp only [go_sem,kp58,geff,g1,g2])|((with_reducible first|refine ny ?_|refine t_kLF ?_ ?_|refine t_drawX (id:=10) (fun i=>i==0) [(0,1),(2,1),(4,1),(6,1),(7,1),(8,1),(1,3),(5,3),(3,0),(10,1),(9,0),(11,0),(12,1),(13,0)] (by kernel_rfl) fun K=>?_);intros;simp only [go_sem,kp58,geff,g1,g2])
   all_goals try exact nd
   all_goals (refine nl ?_;simp only [go_sem])
   exact LeA.tup ⟨LeA.agg ⟨LeA.refl _,LeA.slx rfl,LeA.refl _,LeA.slx rfl,trivial⟩,LeA.refl _,trivial⟩
  ·cases hT:El.typesS p with
   |none=>
    rw [shpV_5n hT]
    refine pcR V6_ok (kp58) Tryz.func58 [.cell 2 106,.tmp 3] (h:=fun KF=>?_)
    unfold V6
    repeat' first|(with_reducible first|(refine nx ?_;intros)|refine t_br (fun hc=>?_) fun hc=>?_|apply And.intro|intro vr)|exact kpd|((with_reducible refine t_drawG (id:=3) (fun i=>i==0) 4 [(1,1),(2,1),(0,1),(3,1),(4,3),(5,0)] (by kernel_rfl) (by kernel_rfl) (by kernel_rfl) fun K=>?_);simp only [noA,List.filter_cons,List.filter_nil,Nat.reduceBEq,Bool.not_false,Bool.not_true,reduceIte,if_true,Bool.false_eq_true];simp only [pickO,List.getElem?_toArray,List.getElem?_cons_zero,List.getElem?_cons_succ,Nat.reduceAdd,Nat.reduceSub,fo_some];refine nh ?_;intro KL;simp only [go_sem,kp58,geff,hT,yes])|((with_reducible first|refine ny ?_|refine t_kLF ?_ ?_|refine t_drawX (id:=10) (fun i=>i==0) [(0,1),(2,1),(4,1),(6,1),(7,1),(8,1),(1,3),(5,3),(3,0),(10,1),(9,0),(11,0),(12,1),(13,0)] (by kernel_rfl) fun K=>?_);intros;simp only [go_sem,kp58,geff,hT,yes])
    all_goals try exact nd
    refine t_loopF (ι:=Unit) (fun i=>[(35,.lit (.int .i64 0))]) (fun i=>[.box 56 [.lit (.int .i64 5),.lit (.string p),.lit (.int .i64 a),.lit (.int .i64 b),.lit (.int .i64 c),.lit (.int .i64 d)],.box 106 [.lit (.string ByteArray.empty),.sl true 1 [],.lit (.bool false),.sl true 1 []],.box 106 [.lit (.string ⟨#[112,114,105,109]⟩),.sl true 1 [.lit (.int .i64 0)],.lit (.bool true),.lit (.slice none 0 0)]]) (fun i=>0) () ?_ ?_
    ·exact lf
    rintro ⟨⟩ K0
    repeat' first|(with_reducible first|(refine nx ?_;intros)|refine t_br (fun hc=>?_) fun hc=>?_|apply And.intro|intro vr)|exact kpd|((with_reducible refine t_drawG (id:=3) (fun i=>i==0) 4 [(1,1),(2,1),(0,1),(3,1),(4,3),(5,0)] (by kernel_rfl) (by kernel_rfl) (by kernel_rfl) fun K=>?_);simp only [noA,List.filter_cons,List.filter_nil,Nat.reduceBEq,Bool.not_false,Bool.not_true,reduceIte,if_true,Bool.false_eq_true];simp only [pickO,List.getElem?_toArray,List.getElem?_cons_zero,List.getElem?_cons_succ,Nat.reduceAdd,Nat.reduceSub,fo_some];refine nh ?_;intro KL;simp only [go_sem,kp58,geff,hT,yes])|((with_reducible first|refine ny ?_|refine t_kLF ?_ ?_|refine t_drawX (id:=10) (fun i=>i==0) [(0,1),(2,1),(4,1),(6,1),(7,1),(8,1),(1,3),(5,3),(3,0),(10,1),(9,0),(11,0),(12,1),(13,0)] (by kernel_rfl) fun K=>?_);intros;simp only [go_sem,kp58,geff,hT,yes])
    all_goals try exact nd
    all_goals (refine nl ?_;simp only [go_sem])
    exact LeA.tup ⟨LeA.agg ⟨LeA.refl _,LeA.slx rfl,LeA.refl _,LeA.nil _ _,trivial⟩,LeA.refl _,trivial⟩
   |some r=>
    rw [shpV_5 hT]
    have hl3:r.ps.length≤3:=by rcases typesS_len hT with h|h|h<;>omega
    generalize hn:r.ps.length=n at hl3
    have hs:(strs r.ps).length=n:=by rw [strs_length,hn]
    refine pcR V6_ok (kp58) Tryz.func58 [.cell 2 106,.tmp 3] (h:=fun KF=>?_)
    unfold V6
    repeat' first|(with_reducible first|(refine nx ?_;intros)|refine t_br (fun hc=>?_) fun hc=>?_|apply And.intro|intro vr)|exact kpd|((with_reducible refine t_drawG (id:=3) (fun i=>i==0) 4 [(1,1),(2,1),(0,1),(3,1),(4,3),(5,0)] (by kernel_rfl) (by kernel_rfl) (by kernel_rfl) fun K=>?_);simp only [noA,List.filter_cons,List.filter_nil,Nat.reduceBEq,Bool.not_false,Bool.not_true,reduceIte,if_true,Bool.false_eq_true];simp only [pickO,List.getElem?_toArray,List.getElem?_cons_zero,List.getElem?_cons_succ,Nat.reduceAdd,Nat.reduceSub,fo_some];refine nh ?_;intro KL;simp only [go_sem,kp58,geff,hT,hs,yes])|((with_reducible first|refine ny ?_|refine t_kLF ?_ ?_|refine t_drawX (id:=10) (fun i=>i==0) [(0,1),(2,1),(4,1),(6,1),(7,1),(8,1),(1,3),(5,3),(3,0),(10,1),(9,0),(11,0),(12,1),(13,0)] (by kernel_rfl) fun K=>?_);intros;simp only [go_sem,kp58,geff,hT,hs,yes])
    all_goals try exact nd
    refine t_loopF (ι:={i:Nat // i≤n}) (fun x=>[(35,.lit (.int .i64 x.1))]) (fun x=>match x.1 with
      |0=>[.box 56 [.lit (.int .i64 5),.lit (.string p),.lit (.int .i64 a),.lit (.int .i64 b),.lit (.int .i64 c),.lit (.int .i64 d)],.box 106 [.lit (.string ByteArray.empty),.sl true 1 [],.lit (.bool false),.sl true 1 []],.box 106 [.lit (.string ⟨#[112,114,105,109]⟩),.sl true 1 [.lit (.int .i64 0)],.lit (.bool true),.lit (.slice none 0 0)]]
      |j+1=>[.box 56 [.lit (.int .i64 5),.lit (.string p),.lit (.int .i64 a),.lit (.int .i64 b),.lit (.int .i64 c),.lit (.int .i64 d)],.box 106 [.lit (.string ByteArray.empty),.sl true 1 [],.lit (.bool false),.sl true 1 []],.box 106 [.lit (.string ⟨#[112,114,105,109]⟩),.arr 3 j,.lit (.bool true),.arr 4 j],
       .arr 3 1 (ints .i64 (kA (j+1))) j false,.arr 3 1 (ints .i64 (rB (j+1))) j false]) (fun x=>n - x.1) ⟨0,by omega⟩ ?_ ?_
    ·skip
     refine Le.frameS (by first|rfl|(simp only [go_sem];try rfl)) ?_
     exact lq
    rintro ⟨i,hi⟩ K0
    cases i with
    |zero=>
     rcases Nat.lt_or_ge 0 n with hc|hc
     ·have g3:decide (((0:Nat):Int)<(n:Int))=true:=decide_eq_true (by omega)
      repeat' first|(with_reducible first|(refine nx ?_;intros)|refine t_br (fun hc=>?_) fun hc=>?_|apply And.intro|intro vr)|exact kpd|((with_reducible refine t_drawG (id:=3) (fun i=>i==0) 4 [(1,1),(2,1),(0,1),(3,1),(4,3),(5,0)] (by kernel_rfl) (by kernel_rfl) (by kernel_rfl) fun K=>?_);simp only [noA,List.filter_cons,List.filter_nil,Nat.reduceBEq,Bool.not_false,Bool.not_true,reduceIte,if_true,Bool.false_eq_true];simp only [pickO,List.getElem?_toArray,List.getElem?_cons_zero,List.getElem?_cons_succ,Nat.reduceAdd,Nat.reduceSub,fo_some];refine nh ?_;intro KL;simp only [go_sem,kp58,geff,g3,yes])|((with_reducible first|refine ny ?_|refine t_kLF ?_ ?_|refine t_drawX (id:=10) (fun i=>i==0) [(0,1),(2,1),(4,1),(6,1),(7,1),(8,1),(1,3),(5,3),(3,0),(10,1),(9,0),(11,0),(12,1),(13,0)] (by kernel_rfl) fun K=>?_);intros;simp only [go_sem,kp58,geff,g3,yes])
      all_goals try exact nd
      exact ⟨⟨1,by omega⟩,wf,lf⟩
     ·have g3:decide (((0:Nat):Int)<(n:Int))=false:=decide_eq_false (by omega)
      have h0:n=0:=by omega
      subst h0
      repeat' first|(with_reducible first|(refine nx ?_;intros)|refine t_br (fun hc=>?_) fun hc=>?_|apply And.intro|intro vr)|exact kpd|((with_reducible refine t_drawG (id:=3) (fun i=>i==0) 4 [(1,1),(2,1),(0,1),(3,1),(4,3),(5,0)] (by kernel_rfl) (by kernel_rfl) (by kernel_rfl) fun K=>?_);simp only [noA,List.filter_cons,List.filter_nil,Nat.reduceBEq,Bool.not_false,Bool.not_true,reduceIte,if_true,Bool.false_eq_true];simp only [pickO,List.getElem?_toArray,List.getElem?_cons_zero,List.getElem?_cons_succ,Nat.reduceAdd,Nat.reduceSub,fo_some];refine nh ?_;intro KL;simp only [go_sem,kp58,geff,g3,yes])|((with_reducible first|refine ny ?_|refine t_kLF ?_ ?_|refine t_drawX (id:=10) (fun i=>i==0) [(0,1),(2,1),(4,1),(6,1),(7,1),(8,1),(1,3),(5,3),(3,0),(10,1),(9,0),(11,0),(12,1),(13,0)] (by kernel_rfl) fun K=>?_);intros;simp only [go_sem,kp58,geff,g3,yes])
      all_goals try exact nd
      all_goals (refine nl ?_;simp only [go_sem])
      exact LeA.tup ⟨LeA.agg ⟨LeA.refl _,LeA.slx rfl,LeA.refl _,LeA.nil _ _,trivial⟩,LeA.refl _,trivial⟩
    |succ j=>
     rcases Nat.lt_or_ge (j+1) n with hc|hc
     ·have g3:decide (((j+1:Nat):Int)<(n:Int))=true:=decide_eq_true (by omega)
      repeat' first|(with_reducible first|(refine nx ?_;intros)|refine t_br (fun hc=>?_) fun hc=>?_|apply And.intro|intro vr)|exact kpd|((with_reducible refine t_drawG (id:=3) (fun i=>i==0) 4 [(1,1),(2,1),(0,1),(3,1),(4,3),(5,0)] (by kernel_rfl) (by kernel_rfl) (by kernel_rfl) fun K=>?_);simp only [noA,List.filter_cons,List.filter_nil,Nat.reduceBEq,Bool.not_false,Bool.not_true,reduceIte,if_true,Bool.false_eq_true];simp only [pickO,List.getElem?_toArray,List.getElem?_cons_zero,List.getElem?_cons_succ,Nat.reduceAdd,Nat.reduceSub,fo_some];refine nh ?_;intro KL;simp only [go_sem,kp58,geff,g3,yes,kA_app,rB_app,kA_length,rB_length])|((with_reducible first|refine ny ?_|refine t_kLF ?_ ?_|refine t_drawX (id:=10) (fun i=>i==0) [(0,1),(2,1),(4,1),(6,1),(7,1),(8,1),(1,3),(5,3),(3,0),(10,1),(9,0),(11,0),(12,1),(13,0)] (by kernel_rfl) fun K=>?_);intros;simp only [go_sem,kp58,geff,g3,yes,kA_app,rB_app,kA_length,rB_length])
      all_goals try exact nd
      exact ⟨⟨j+2,by omega⟩,wf,lf⟩
     ·have g3:decide (((j+1:Nat):Int)<(n:Int))=false:=decide_eq_false (by omega)
      have h0:n=j+1:=by omega
      subst h0
      repeat' first|(with_reducible first|(refine nx ?_;intros)|refine t_br (fun hc=>?_) fun hc=>?_|apply And.intro|intro vr)|exact kpd|((with_reducible refine t_drawG (id:=3) (fun i=>i==0) 4 [(1,1),(2,1),(0,1),(3,1),(4,3),(5,0)] (by kernel_rfl) (by kernel_rfl) (by kernel_rfl) fun K=>?_);simp only [noA,List.filter_cons,List.filter_nil,Nat.reduceBEq,Bool.not_false,Bool.not_true,reduceIte,if_true,Bool.false_eq_true];simp only [pickO,List.getElem?_toArray,List.getElem?_cons_zero,List.getElem?_cons_succ,Nat.reduceAdd,Nat.reduceSub,fo_some];refine nh ?_;intro KL;simp only [go_sem,kp58,geff,g3,yes])|((with_reducible first|refine ny ?_|refine t_kLF ?_ ?_|refine t_drawX (id:=10) (fun i=>i==0) [(0,1),(2,1),(4,1),(6,1),(7,1),(8,1),(1,3),(5,3),(3,0),(10,1),(9,0),(11,0),(12,1),(13,0)] (by kernel_rfl) fun K=>?_);intros;simp only [go_sem,kp58,geff,g3,yes])
      all_goals try exact nd
      all_goals (refine nl ?_;simp only [go_sem])
      exact LeA.refl _
  all_goals
    rw [shpV_of (by decide),if_neg (by decide)]
    refine pcR V6_ok (kp58) Tryz.func58 [.cell 2 106,.tmp 3] (h:=fun KF=>?_)
    unfold V6
    repeat' first|(with_reducible first|(refine nx ?_;intros)|refine t_br (fun hc=>?_) fun hc=>?_|apply And.intro|intro vr)|exact kpd|((with_reducible refine t_drawG (id:=3) (fun i=>i==0) 4 [(1,1),(2,1),(0,1),(3,1),(4,3),(5,0)] (by kernel_rfl) (by kernel_rfl) (by kernel_rfl) fun K=>?_);simp only [noA,List.filter_cons,List.filter_nil,Nat.reduceBEq,Bool.not_false,Bool.not_true,reduceIte,if_true,Bool.false_eq_true];simp only [pickO,List.getElem?_toArray,List.getElem?_cons_zero,List.getElem?_cons_succ,Nat.reduceAdd,Nat.reduceSub,fo_some];refine nh ?_;intro KL;simp only [go_sem,kp58,geff,yes])|((with_reducible first|refine ny ?_|refine t_kLF ?_ ?_|refine t_drawX (id:=10) (fun i=>i==0) [(0,1),(2,1),(4,1),(6,1),(7,1),(8,1),(1,3),(5,3),(3,0),(10,1),(9,0),(11,0),(12,1),(13,0)] (by kernel_rfl) fun K=>?_);intros;simp only [go_sem,kp58,geff,yes])
    all_goals try exact nd
    all_goals (refine nl ?_;simp only [go_sem])
    exact LeA.tup ⟨LeA.agg ⟨LeA.refl _,(by first|exact LeA.slx rfl|exact LeA.nil _ _),LeA.refl _,(by first|exact LeA.slx rfl|exact LeA.nil _ _),trivial⟩,LeA.refl _,trivial⟩
noncomputable def con58:PCon Tryz.prog where
  f:=58
  c:=fun
   |[xx]=>match opOf xx with|some x=>some (True,shpV x)|_=>none
   |_=>none
  ok:=by
   intro args p r hc hp
   split at hc
   ·split at hc
    ·rename_i hx
     cases hc
     exact PC.weak shape_pc ⟨opOf_le hx,trivial⟩
    ·cases hc
   ·cases hc
  fk:=fk58
theorem con58_f:con58.f=58:=rfl
theorem con58_c {xx:AV}:con58.c [xx]=match opOf xx with|some x=>some (True,shpV x)|_=>none:=rfl
attribute [go_sem] con58_f con58_c
end Go.Proofs.YtnlimcijgpaegaaGreat

namespace Go.Proofs.YtnlimcijgpaegaaGreat
open Go Go.Fw Bm
set_option maxRecDepth 20000
def opk (l:List Int) (regs:Int) (i:Nat) (n:Int):Bool:=if i<l.length then kindOk (l.getD i 0) n regs else decide (n=0)
def rightK (x:Ins) (regs:Int):Bool:=(shpOk x&&(decide (x.code=5)||decide (x.prim.data.toList=[])))&&(opk (kndS x) regs 0 x.a&&opk (kndS x) regs 1 x.b&&opk (kndS x) regs 2 x.c&&opk (kndS x) regs 3 x.d)
theorem right_knd (x:Ins) (regs:Int):rightS x regs=rightK x regs:=by
  obtain ⟨k,p,a,b,c,d⟩:=x
  rcases (show k<1∨k>15∨k=5∨k=1∨k=2∨k=3∨k=4∨k=6∨k=7∨k=8∨k=9∨k=10∨k=11∨k=12∨k=13∨k=14∨k=15 by omega) with h|h|rfl|rfl|rfl|rfl|rfl|rfl|rfl|rfl|rfl|rfl|rfl|rfl|rfl|rfl|rfl
  ·have e1:formS ⟨k,p,a,b,c,d⟩=none:=by unfold formS;simp only;repeat rw [if_neg (by omega)]
   simp [rightS,rightK,e1,shpOk,h]
  ·have e1:formS ⟨k,p,a,b,c,d⟩=none:=by unfold formS;simp only;repeat rw [if_neg (by omega)]
   simp [rightS,rightK,e1,shpOk,h]
  ·cases hT:El.typesS p with
   |none=>
    have e1:formS ⟨5,p,a,b,c,d⟩=none:=by simp [formS,hT]
    simp [rightS,rightK,e1,shpOk,hT]
   |some r=>
    have e1:formS ⟨5,p,a,b,c,d⟩=some (List.replicate (1+r.ps.length) true):=by simp [formS,hT]
    have e2:kndS ⟨5,p,a,b,c,d⟩=kA r.ps.length:=by rw [kndS_5,hT]
    rcases typesS_len hT with h|h|h<;>rw [h] at e1 e2<;>rw [Bool.eq_iff_iff]<;>simp [rightS,rightK,e1,e2,shpOk,hT,oprOk,opk,kA,kindOk,restOk]
  all_goals (rw [Bool.eq_iff_iff];simp [rightS,formS,rightK,shpOk,oprOk,opk,kndS,kndL,kindOk,restOk])
  all_goals
    constructor
    ·rintro ⟨⟨h,h1⟩,h2⟩;exact ⟨h,by omega⟩
    ·rintro ⟨h,h1⟩;exact ⟨⟨h,by omega⟩,by omega⟩
noncomputable def V7:Env:=envJ (P:=Tryz.prog) jkV zer (fun _=>false) (fun _=>false) [con58,con59,con60] []
theorem V7_ok:EnvOk Tryz.prog V7:=envJOk zer_ok
set_option maxHeartbeats 8000000 in
theorem right_pc {x:Ins} {regs:Int}:PC Tryz.prog 34 [opV x,.lit (.int .i64 regs)] (.lit (.bool (rightS x regs))):=by
  obtain ⟨k,p,a,b,c,d⟩:=x
  rw [right_knd]
  simp only [opV]
  generalize hR:rightK ⟨k,p,a,b,c,d⟩ regs=R
  have hS:shpV ⟨k,p,a,b,c,d⟩= .tup [.agg [.lit (.string (namL k)),.sl false 1 (ints .i64 (kndS ⟨k,p,a,b,c,d⟩)),.lit (.bool (wrtB k)),.sl false 1 (ints .i64 (redS ⟨k,p,a,b,c,d⟩))],.lit (.bool (shpOk ⟨k,p,a,b,c,d⟩))]:=rfl
  simp only [rightK] at hR
  generalize kndS ⟨k,p,a,b,c,d⟩=L at hR hS
  generalize redS ⟨k,p,a,b,c,d⟩=M at hS
  generalize shpOk ⟨k,p,a,b,c,d⟩=ok at hR hS
  have hRR:=hR.symm
  have hLl:(ints .i64 L).length=L.length:=ints_length _ _
  cases ok with
  |false=>
   refine pcR V7_ok (kp34) Tryz.func34 [.tmp 4] (h:=fun KF=>?_)
   unfold V7
   with_reducible repeat' first|(refine nx ?_;intros)|refine t_br (fun hc=>?_) fun hc=>?_|apply And.intro|intro vr|(refine ny ?_;intros;simp only [go_sem,kp34,geff,hS,Bool.not_false])
   all_goals try exact nd
   all_goals (refine nl ?_;simp only [go_sem])
   exact LeA.of_eq (by rw [hRR];simp)
  |true=>
   refine pcR V7_ok (kp34) Tryz.func34 [.tmp 4] (h:=fun KF=>?_)
   unfold V7
   with_reducible repeat' first|(refine nx ?_;intros)|refine t_br (fun hc=>?_) fun hc=>?_|apply And.intro|intro vr|(refine ny ?_;intros;simp only [go_sem,kp34,geff,hS,Bool.not_true])
   all_goals try exact nd
   ·skip
    all_goals (refine nl ?_;simp only [go_sem])
    refine LeA.of_eq ?_
    rw [hRR]
    simp_all [eqS]
   have hpk:(decide (k=5)||decide (p.data.toList=[]))=true:=by
     have h1:=hc
     simp only [eqS,Bool.and_eq_false_iff,bne_eq_false_iff_eq,Bool.not_eq_false',beq_iff_eq] at h1
     rcases h1 with h1|h1
     ·simp [h1]
     ·rw [h1];simp
   refine t_loopF (ι:={i:Nat // i≤4∧∀ j,j<i→opk L regs j ([a,b,c,d].getD j 0)=true}) (fun i=>[(28,.lit (.int .i64 i.1))]) (fun i=>[.box 56 [.lit (.int .i64 k),.lit (.string p),.lit (.int .i64 a),.lit (.int .i64 b),.lit (.int .i64 c),.lit (.int .i64 d)],.box 106 [.lit (.string (namL k)),.sl false 1 (ints .i64 L),.lit (.bool (wrtB k)),.sl false 1 (ints .i64 M)]]) (fun i=>4 - i.1) ⟨0,by omega,by omega⟩ ?_ ?_
   ·exact lf
   rintro ⟨i,hi,hP⟩ K0
   rcases (show i=0∨i=1∨i=2∨i=3∨i=4 by omega) with rfl|rfl|rfl|rfl|rfl
   ·have h0:((((0:Nat):Int)):Int)=0:=rfl
    rcases Nat.lt_or_ge 0 L.length with hlt|hlt
    ·have g1:decide ((0:Int)<(L.length:Int))=true:=decide_eq_true (by omega)
     have g2:decide ((0:Int)≥(L.length:Int))=false:=decide_eq_false (by omega)
     cases hq:kindOk (L.getD 0 0) a regs with
     |true=>
      have hok:opk L regs 0 ([a,b,c,d].getD 0 0)=true:=by unfold opk;rw [if_pos hlt];exact hq
      with_reducible repeat' first|(refine nx ?_;intros)|refine t_br (fun hc=>?_) fun hc=>?_|apply And.intro|intro vr|(refine ny ?_;intros;simp only [go_sem,kp34,geff,h0,g1,g2,hq,yes])
      all_goals try exact nd
      exact ⟨⟨0+1,by omega,stepP hP hok⟩,wf,lf⟩
     |false=>
      have hno:opk L regs 0 a=false:=by unfold opk;rw [if_pos hlt];exact hq
      with_reducible repeat' first|(refine nx ?_;intros)|refine t_br (fun hc=>?_) fun hc=>?_|apply And.intro|intro vr|(refine ny ?_;intros;simp only [go_sem,kp34,geff,h0,g1,g2,hq,yes])
      all_goals try exact nd
      all_goals (refine nl ?_;simp only [go_sem])
      exact LeA.of_eq (by rw [hRR,hno];simp)
    ·have g1:decide ((0:Int)<(L.length:Int))=false:=decide_eq_false (by omega)
     have g2:decide ((0:Int)≥(L.length:Int))=true:=decide_eq_true (by omega)
     have hq:opk L regs 0 a=decide (a=0):=by unfold opk;rw [if_neg (by omega)]
     with_reducible repeat' first|(refine nx ?_;intros)|refine t_br (fun hc=>?_) fun hc=>?_|apply And.intro|intro vr|(refine ny ?_;intros;simp only [go_sem,kp34,geff,h0,g1,g2,yes])
     all_goals try exact nd
     ·skip
      all_goals (refine nl ?_;simp only [go_sem])
      have hno:opk L regs 0 a=false:=by rw [hq];exact decide_eq_false (by simpa using hc)
      exact LeA.of_eq (by rw [hRR,hno];simp)
     ·have hok:opk L regs 0 ([a,b,c,d].getD 0 0)=true:=by
        show opk L regs 0 a=true
        rw [hq];exact decide_eq_true (by simpa using hc)
      exact ⟨⟨0+1,by omega,stepP hP hok⟩,wf,lf⟩
   ·have h0:((((1:Nat):Int)):Int)=1:=rfl
    rcases Nat.lt_or_ge 1 L.length with hlt|hlt
    ·have g1:decide ((1:Int)<(L.length:Int))=true:=decide_eq_true (by omega)
     have g2:decide ((1:Int)≥(L.length:Int))=false:=decide_eq_false (by omega)
     cases hq:kindOk (L.getD 1 0) b regs with
     |true=>
      have hok:opk L regs 1 ([a,b,c,d].getD 1 0)=true:=by unfold opk;rw [if_pos hlt];exact hq
      with_reducible repeat' first|(refine nx ?_;intros)|refine t_br (fun hc=>?_) fun hc=>?_|apply And.intro|intro vr|(refine ny ?_;intros;simp only [go_sem,kp34,geff,h0,g1,g2,hq,yes])
      all_goals try exact nd
      exact ⟨⟨1+1,by omega,stepP hP hok⟩,wf,lf⟩
     |false=>
      have hno:opk L regs 1 b=false:=by unfold opk;rw [if_pos hlt];exact hq
      with_reducible repeat' first|(refine nx ?_;intros)|refine t_br (fun hc=>?_) fun hc=>?_|apply And.intro|intro vr|(refine ny ?_;intros;simp only [go_sem,kp34,geff,h0,g1,g2,hq,yes])
      all_goals try exact nd
      all_goals (refine nl ?_;simp only [go_sem])
      exact LeA.of_eq (by rw [hRR,hno];simp)
    ·have g1:decide ((1:Int)<(L.length:Int))=false:=decide_eq_false (by omega)
     have g2:decide ((1:Int)≥(L.length:Int))=true:=decide_eq_true (by omega)
     have hq:opk L regs 1 b=decide (b=0):=by unfold opk;rw [if_neg (by omega)]
     with_reducible repeat' first|(refine nx ?_;intros)|refine t_br (fun hc=>?_) fun hc=>?_|apply And.intro|intro vr|(refine ny ?_;intros;simp only [go_sem,kp34,geff,h0,g1,g2,yes])
     all_goals try exact nd
     ·skip
      all_goals (refine nl ?_;simp only [go_sem])
      have hno:opk L regs 1 b=false:=by rw [hq];exact decide_eq_false (by simpa using hc)
      exact LeA.of_eq (by rw [hRR,hno];simp)
     ·have hok:opk L regs 1 ([a,b,c,d].getD 1 0)=true:=by
        show opk L regs 1 b=true
        rw [hq];exact decide_eq_true (by simpa using hc)
      exact ⟨⟨1+1,by omega,stepP hP hok⟩,wf,lf⟩
   ·have h0:((((2:Nat):Int)):Int)=2:=rfl
    rcases Nat.lt_or_ge 2 L.length with hlt|hlt
    ·have g1:decide ((2:Int)<(L.length:Int))=true:=decide_eq_true (by omega)
     have g2:decide ((2:Int)≥(L.length:Int))=false:=decide_eq_false (by omega)
     cases hq:kindOk (L.getD 2 0) c regs with
     |true=>
      have hok:opk L regs 2 ([a,b,c,d].getD 2 0)=true:=by unfold opk;rw [if_pos hlt];exact hq
      with_reducible repeat' first|(refine nx ?_;intros)|refine t_br (fun hc=>?_) fun hc=>?_|apply And.intro|intro vr|(refine ny ?_;intros;simp only [go_sem,kp34,geff,h0,g1,g2,hq,yes])
      all_goals try exact nd
      exact ⟨⟨2+1,by omega,stepP hP hok⟩,wf,lf⟩
     |false=>
      have hno:opk L regs 2 c=false:=by unfold opk;rw [if_pos hlt];exact hq
      with_reducible repeat' first|(refine nx ?_;intros)|refine t_br (fun hc=>?_) fun hc=>?_|apply And.intro|intro vr|(refine ny ?_;intros;simp only [go_sem,kp34,geff,h0,g1,g2,hq,yes])
      all_goals try exact nd
      all_goals (refine nl ?_;simp only [go_sem])
      exact LeA.of_eq (by rw [hRR,hno];simp)
    ·have g1:decide ((2:Int)<(L.length:Int))=false:=decide_eq_false (by omega)
     have g2:decide ((2:Int)≥(L.length:Int))=true:=decide_eq_true (by omega)
     have hq:opk L regs 2 c=decide (c=0):=by unfold opk;rw [if_neg (by omega)]
     with_reducible repeat' first|(refine nx ?_;intros)|refine t_br (fun hc=>?_) fun hc=>?_|apply And.intro|intro vr|(refine ny ?_;intros;simp only [go_sem,kp34,geff,h0,g1,g2,yes])
     all_goals try exact nd
     ·skip
      all_goals (refine nl ?_;simp only [go_sem])
      have hno:opk L regs 2 c=false:=by rw [hq];exact decide_eq_false (by simpa using hc)
      exact LeA.of_eq (by rw [hRR,hno];simp)
     ·have hok:opk L regs 2 ([a,b,c,d].getD 2 0)=true:=by
        show opk L regs 2 c=true
        rw [hq];exact decide_eq_true (by simpa using hc)
      exact ⟨⟨2+1,by omega,stepP hP hok⟩,wf,lf⟩
   ·have h0:((((3:Nat):Int)):Int)=3:=rfl
    rcases Nat.lt_or_ge 3 L.length with hlt|hlt
    ·have g1:decide ((3:Int)<(L.length:Int))=true:=decide_eq_true (by omega)
     have g2:decide ((3:Int)≥(L.length:Int))=false:=decide_eq_false (by omega)
     cases hq:kindOk (L.getD 3 0) d regs with
     |true=>
      have hok:opk L regs 3 ([a,b,c,d].getD 3 0)=true:=by unfold opk;rw [if_pos hlt];exact hq
      with_reducible repeat' first|(refine nx ?_;intros)|refine t_br (fun hc=>?_) fun hc=>?_|apply And.intro|intro vr|(refine ny ?_;intros;simp only [go_sem,kp34,geff,h0,g1,g2,hq,yes])
      all_goals try exact nd
      exact ⟨⟨3+1,by omega,stepP hP hok⟩,wf,lf⟩
     |false=>
      have hno:opk L regs 3 d=false:=by unfold opk;rw [if_pos hlt];exact hq
      with_reducible repeat' first|(refine nx ?_;intros)|refine t_br (fun hc=>?_) fun hc=>?_|apply And.intro|intro vr|(refine ny ?_;intros;simp only [go_sem,kp34,geff,h0,g1,g2,hq,yes])
      all_goals try exact nd
      all_goals (refine nl ?_;simp only [go_sem])
      exact LeA.of_eq (by rw [hRR,hno];simp)
    ·have g1:decide ((3:Int)<(L.length:Int))=false:=decide_eq_false (by omega)
     have g2:decide ((3:Int)≥(L.length:Int))=true:=decide_eq_true (by omega)
     have hq:opk L regs 3 d=decide (d=0):=by unfold opk;rw [if_neg (by omega)]
     with_reducible repeat' first|(refine nx ?_;intros)|refine t_br (fun hc=>?_) fun hc=>?_|apply And.intro|intro vr|(refine ny ?_;intros;simp only [go_sem,kp34,geff,h0,g1,g2,yes])
     all_goals try exact nd
     ·skip
      all_goals (refine nl ?_;simp only [go_sem])
      have hno:opk L regs 3 d=false:=by rw [hq];exact decide_eq_false (by simpa using hc)
      exact LeA.of_eq (by rw [hRR,hno];simp)
     ·have hok:opk L regs 3 ([a,b,c,d].getD 3 0)=true:=by
        show opk L regs 3 d=true
        rw [hq];exact decide_eq_true (by simpa using hc)
      exact ⟨⟨3+1,by omega,stepP hP hok⟩,wf,lf⟩
   ·have hR4:R=true:=by
      rw [hRR,show opk L regs 0 a=true from hP 0 (by omega),show opk L regs 1 b=true from hP 1 (by omega),show opk L regs 2 c=true from hP 2 (by omega),show opk L regs 3 d=true from hP 3 (by omega),hpk]
      rfl
    have h0:((((4:Nat):Int)):Int)=4:=rfl
    with_reducible repeat' first|(refine nx ?_;intros)|refine t_br (fun hc=>?_) fun hc=>?_|apply And.intro|intro vr|(refine ny ?_;intros;simp only [go_sem,kp34,geff,h0])
    all_goals try exact nd
    all_goals (refine nl ?_;simp only [go_sem])
    exact LeA.of_eq (by rw [hR4])
noncomputable def con34:PCon Tryz.prog where
  f:=34
  c:=fun
   |[xx,.lit (.int .i64 r)]=>match opOf xx with|some x=>some (True,.lit (.bool (rightS x r)))|_=>none
   |_=>none
  ok:=by
   intro args p r hc hp
   split at hc
   ·split at hc
    ·rename_i hx
     cases hc
     exact PC.weak right_pc ⟨opOf_le hx,LeA.refl _,trivial⟩
    ·cases hc
   ·cases hc
  fk:=fk34
theorem con34_f:con34.f=34:=rfl
theorem con34_c {xx:AV} {r:Int}:con34.c [xx,.lit (.int .i64 r)]=match opOf xx with|some x=>some (True,.lit (.bool (rightS x r)))|_=>none:=rfl
attribute [go_sem] con34_f con34_c
end Go.Proofs.YtnlimcijgpaegaaGreat

namespace Go.Proofs.YtnlimcijgpaegaaGreat
open Go Go.Fw Bm
set_option maxRecDepth 20000
def opAt (a b c d m:Int):Int:=[a,b,c,d].getD m.toNat 0
theorem reads_red (k:Int) (p:ByteArray) (a b c d:Int):readsS ⟨k,p,a,b,c,d⟩=(redS ⟨k,p,a,b,c,d⟩).map (opAt a b c d):=by
  rcases (show k<1∨k>15∨k=5∨k=1∨k=2∨k=3∨k=4∨k=6∨k=7∨k=8∨k=9∨k=10∨k=11∨k=12∨k=13∨k=14∨k=15 by omega) with h|h|rfl|rfl|rfl|rfl|rfl|rfl|rfl|rfl|rfl|rfl|rfl|rfl|rfl|rfl|rfl
  ·have e1:formS ⟨k,p,a,b,c,d⟩=none:=by unfold formS;simp only;repeat rw [if_neg (by omega)]
   have e2:redS ⟨k,p,a,b,c,d⟩=[]:=by unfold redS redL;repeat rw [if_neg (by simp only;omega)]
   simp [readsS,e1,e2]
  ·have e1:formS ⟨k,p,a,b,c,d⟩=none:=by unfold formS;simp only;repeat rw [if_neg (by omega)]
   have e2:redS ⟨k,p,a,b,c,d⟩=[]:=by unfold redS redL;repeat rw [if_neg (by simp only;omega)]
   simp [readsS,e1,e2]
  ·cases hT:El.typesS p with
   |none=>
    have e1:formS ⟨5,p,a,b,c,d⟩=none:=by simp [formS,hT]
    simp [readsS,e1,redS_5,hT]
   |some r=>
    have e1:formS ⟨5,p,a,b,c,d⟩=some (List.replicate (1+r.ps.length) true):=by simp [formS,hT]
    have e2:redS ⟨5,p,a,b,c,d⟩=rB r.ps.length:=by rw [redS_5,hT]
    rcases typesS_len hT with h|h|h<;>rw [h] at e1 e2<;>simp only [readsS,e1,e2]<;>rfl
  all_goals rfl
theorem redS_lit {k a b c d:Int} {p:ByteArray} (h:k≠5):redS ⟨k,p,a,b,c,d⟩=redL k:=if_neg h
theorem mem_getD {l:List Int} {i:Nat} (h:i<l.length):l.getD i 0∈l:=by
  rw [List.getD_eq_getElem?_getD,List.getElem?_eq_getElem h];exact List.getElem_mem h
theorem redS_bd (x:Ins):(redS x).length≤3∧∀ m∈redS x,m=0∨m=1∨m=2∨m=3:=by
  obtain ⟨k,p,a,b,c,d⟩:=x
  rcases (show k<1∨k>15∨k=5∨k=1∨k=2∨k=3∨k=4∨k=6∨k=7∨k=8∨k=9∨k=10∨k=11∨k=12∨k=13∨k=14∨k=15 by omega) with h|h|rfl|rfl|rfl|rfl|rfl|rfl|rfl|rfl|rfl|rfl|rfl|rfl|rfl|rfl|rfl
  ·have e2:redS ⟨k,p,a,b,c,d⟩=[]:=by unfold redS redL;repeat rw [if_neg (by simp only;omega)]
   rw [e2];simp
  ·have e2:redS ⟨k,p,a,b,c,d⟩=[]:=by unfold redS redL;repeat rw [if_neg (by simp only;omega)]
   rw [e2];simp
  ·cases hT:El.typesS p with
   |none=>rw [redS_5,hT];simp
   |some r=>
    have e2:redS ⟨5,p,a,b,c,d⟩=rB r.ps.length:=by rw [redS_5,hT]
    rw [e2]
    rcases typesS_len hT with h|h|h<;>rw [h]<;>exact ⟨by decide,by decide⟩
  all_goals (rw [redS_lit (by decide)];exact ⟨by decide,by decide⟩)
noncomputable def V8:Env:=envJ (P:=Tryz.prog) jkV zer (fun _=>false) (fun _=>false) [con58,con59] []
theorem V8_ok:EnvOk Tryz.prog V8:=envJOk zer_ok
set_option maxHeartbeats 8000000 in
theorem reads_pc {x:Ins}:PC Tryz.prog 71 [opV x] (.sl false 1 (ints .i64 (readsS x))):=by
  obtain ⟨hM,hB⟩:=redS_bd x
  obtain ⟨k,p,a,b,c,d⟩:=x
  rw [reads_red]
  simp only [opV]
  have hS:shpV ⟨k,p,a,b,c,d⟩= .tup [.agg [.lit (.string (namL k)),.sl false 1 (ints .i64 (kndS ⟨k,p,a,b,c,d⟩)),.lit (.bool (wrtB k)),.sl false 1 (ints .i64 (redS ⟨k,p,a,b,c,d⟩))],.lit (.bool (shpOk ⟨k,p,a,b,c,d⟩))]:=rfl
  generalize kndS ⟨k,p,a,b,c,d⟩=L at hS
  generalize redS ⟨k,p,a,b,c,d⟩=M at hS hM hB
  generalize shpOk ⟨k,p,a,b,c,d⟩=ok at hS
  have hMl:(ints .i64 M).length=M.length:=ints_length _ _
  refine pcR V8_ok (kp71) Tryz.func71 [.tmp 2] (h:=fun KF=>?_)
  unfold V8
  with_reducible repeat' first|(refine nx ?_;intros)|apply And.intro|intro vr|(refine ny ?_;intros;simp only [go_sem,kp71,geff,hS])
  all_goals try exact nd
  refine t_loopF (ι:={q:Nat×Nat // q.1≤M.length}) (fun i=>[(16,.lit (.int .i64 i.1.1)),(5,.arr 2 i.1.2)]) (fun i=>[.box 56 [.lit (.int .i64 k),.lit (.string p),.lit (.int .i64 a),.lit (.int .i64 b),.lit (.int .i64 c),.lit (.int .i64 d)],.box 106 [.lit (.string (namL k)),.sl false 1 (ints .i64 L),.lit (.bool (wrtB k)),.sl false 1 (ints .i64 M)],.arr 3 1 (ints .i64 ((M.take i.1.1).map (opAt a b c d))) i.1.2 false]) (fun i=>M.length - i.1.1) ⟨(0,0),by simp⟩ ?_ ?_
  ·refine (le_nil 5 3 1 rfl).trans ?_
   exact lf
  rintro ⟨⟨i,v⟩,hi⟩ K0
  simp only at hi
  rcases Nat.lt_or_ge i M.length with hc|hc
  ·have g3:decide ((i:Int)<(M.length:Int))=true:=decide_eq_true (by omega)
   have hn:((M.take i).map (opAt a b c d)).length=i:=by simp;omega
   have hap:∀ n:Int,ints .i64 ((M.take i).map (opAt a b c d))++[.lit (.int .i64 n)]=ints .i64 ((M.take i).map (opAt a b c d)++[n]):=fun n=>ints_append1 _ _ _
   have htk:∀ m,M.getD i 0=m→(M.take i).map (opAt a b c d)++[opAt a b c d m]=(M.take (i+1)).map (opAt a b c d):=fun m hm=>by
     rw [List.take_add_one,List.getElem?_eq_getElem hc,List.map_append]
     rw [List.getD_eq_getElem?_getD,List.getElem?_eq_getElem hc] at hm
     simp only [Option.getD_some] at hm
     rw [hm];rfl
   rcases hB _ (mem_getD hc) with hm|hm|hm|hm
   ·have hq:(M.take i).map (opAt a b c d)++[a]=(M.take (i+1)).map (opAt a b c d):=htk 0 hm
    with_reducible repeat' first|(refine nx ?_;intros)|apply And.intro|intro vr|(refine ny ?_;intros;simp only [go_sem,kp71,geff,g3,hm,hap,hq,Int.toNat_natCast,yes])
    all_goals try exact nd
    exact ⟨⟨(i+1,v+1),by simp only;omega⟩,wf,lf⟩
   ·have hq:(M.take i).map (opAt a b c d)++[b]=(M.take (i+1)).map (opAt a b c d):=htk 1 hm
    with_reducible repeat' first|(refine nx ?_;intros)|apply And.intro|intro vr|(refine ny ?_;intros;simp only [go_sem,kp71,geff,g3,hm,hap,hq,Int.toNat_natCast,yes])
    all_goals try exact nd
    exact ⟨⟨(i+1,v+1),by simp only;omega⟩,wf,lf⟩
   ·have hq:(M.take i).map (opAt a b c d)++[c]=(M.take (i+1)).map (opAt a b c d):=htk 2 hm
    with_reducible repeat' first|(refine nx ?_;intros)|apply And.intro|intro vr|(refine ny ?_;intros;simp only [go_sem,kp71,geff,g3,hm,hap,hq,Int.toNat_natCast,yes])
    all_goals try exact nd
    exact ⟨⟨(i+1,v+1),by simp only;omega⟩,wf,lf⟩
   ·have hq:(M.take i).map (opAt a b c d)++[d]=(M.take (i+1)).map (opAt a b c d):=htk 3 hm
    with_reducible repeat' first|(refine nx ?_;intros)|apply And.intro|intro vr|(refine ny ?_;intros;simp only [go_sem,kp71,geff,g3,hm,hap,hq,Int.toNat_natCast,yes])
    all_goals try exact nd
    exact ⟨⟨(i+1,v+1),by simp only;omega⟩,wf,lf⟩
  ·have g3:decide ((i:Int)<(M.length:Int))=false:=decide_eq_false (by omega)
   have e:M.take i=M:=List.take_of_length_le hc
   with_reducible repeat' first|(refine nx ?_;intros)|apply And.intro|intro vr|(refine ny ?_;intros;simp only [go_sem,kp71,geff,g3,e])
   all_goals try exact nd
   all_goals (refine nl ?_;simp only [go_sem])
   exact LeA.slx rfl
noncomputable def con71:PCon Tryz.prog where
  f:=71
  c:=fun
   |[xx]=>match opOf xx with|some x=>some (True,.sl false 1 (ints .i64 (readsS x)))|_=>none
   |_=>none
  ok:=by
   intro args p r hc hp
   split at hc
   ·split at hc
    ·rename_i hx
     cases hc
     exact PC.weak reads_pc ⟨opOf_le hx,trivial⟩
    ·cases hc
   ·cases hc
  fk:=fk71
theorem con71_f:con71.f=71:=rfl
theorem con71_c {xx:AV}:con71.c [xx]=match opOf xx with|some x=>some (True,.sl false 1 (ints .i64 (readsS x)))|_=>none:=rfl
noncomputable def V8r:Env:=envJ (P:=Tryz.prog) jkV zer (fun _=>false) (fun _=>false) [con168,con169,con170] []
theorem V8r_ok:EnvOk Tryz.prog V8r:=envJOk zer_ok
theorem readsS_some {x:Ins} {f:List Bool} (h:formS x=some f):readsS x=pickR (wrtB x.code) 0 f (oprs x):=by unfold readsS;rw [h]
theorem readsS_none {x:Ins} (h:formS x=none):readsS x=[]:=by unfold readsS;rw [h]
set_option maxHeartbeats 8000000 in
theorem rreads_pc {x:Ins}:PC Tryz.prog 153 [opV x] (.sl false 1 (ints .i64 (readsS x))):=by
  obtain ⟨k,p,a,b,c,d⟩:=x
  simp only [opV]
  cases hF:formS ⟨k,p,a,b,c,d⟩ with
  |none=>
   have hV:=formV_none hF
   rw [readsS_none hF]
   refine pcR V8r_ok (kp153) Tryz.func153 [.tmp 2] (h:=fun KF=>?_)
   unfold V8r
   with_reducible repeat' first|(refine nx ?_;intros)|apply And.intro|intro vr|(refine ny ?_;intros;simp only [go_sem,kp153,geff,hV])
   all_goals try exact nd
   all_goals (refine nl ?_;simp only [go_sem])
   exact LeA.nil _ _
  |some f=>
   have hV:=formV_some hF
   have hl:=formS_len hF
   have hsz:=frB_size f
   rw [readsS_some hF]
   show PC _ _ _ (.sl false 1 (ints .i64 (pickR (wrtB k) 0 f [a,b,c,d])))
   generalize hw:wrtB k=w
   generalize hR:pickR w 0 f [a,b,c,d]=R
   refine pcR V8r_ok (kp153) Tryz.func153 [.tmp 2] (h:=fun KF=>?_)
   unfold V8r
   with_reducible repeat' first|(refine nx ?_;intros)|apply And.intro|intro vr|(refine ny ?_;intros;simp only [go_sem,kp153,geff,hV,hw])
   all_goals try exact nd
   refine t_loopF (ι:={q:Nat×Nat×List Int // q.1≤f.length∧q.2.2.length≤q.1∧q.2.2++pickR w q.1 (f.drop q.1) ([a,b,c,d].drop q.1)=R}) (fun i=>[(9,.lit (.int .i64 i.1.1)),(5,.arr 2 i.1.2.1)]) (fun i=>[.box 56 [.lit (.int .i64 k),.lit (.string p),.lit (.int .i64 a),.lit (.int .i64 b),.lit (.int .i64 c),.lit (.int .i64 d)],.box 109 [.lit (.int .i64 a),.lit (.int .i64 b),.lit (.int .i64 c),.lit (.int .i64 d)],.arr 3 1 (ints .i64 i.1.2.2) i.1.2.1 false]) (fun i=>f.length - i.1.1) ⟨(0,0,[]),by simp,by simp,by simpa using hR⟩ ?_ ?_
   ·refine (le_nil 5 3 1 rfl).trans ?_
    exact lf
   rintro ⟨⟨i,v,acc⟩,hi,ha,hF2⟩ K0
   simp only at hi ha hF2
   rcases Nat.lt_or_ge i f.length with hc|hc
   ·have hap:∀ n:Int,ints .i64 acc++[.lit (.int .i64 n)]=ints .i64 (acc++[n]):=fun n=>ints_append1 _ _ _
    have hlen:(ints .i64 acc).length=acc.length:=ints_length _ _
    rw [drop_getD false hc] at hF2
    rcases (show i=0∨i=1∨i=2∨i=3 by omega) with rfl|rfl|rfl|rfl
    ·have h0:((((0:Nat):Int)):Int)=0:=rfl
     have g1:decide ((0:Int)<(f.length:Int))=true:=decide_eq_true (by omega)
     cases hr:f.getD 0 false with
     |true=>
      have g2:strAt (frB f) 0=114:=by rw [frB_at f 0 hc,hr];rfl
      rw [hr] at hF2
      cases w with
      |true=>
       have hN:acc++pickR true 1 (f.drop 1) [b,c,d]=R:=hF2
       with_reducible repeat' first|(refine nx ?_;intros)|apply And.intro|intro vr|(refine ny ?_;intros;simp only [go_sem,kp153,geff,hsz,h0,g1,g2,hw,hap,hlen])
       all_goals try exact nd
       exact ⟨⟨(1,v,acc),by simp only;omega,by simp only;omega,hN⟩,wf,lf⟩
      |false=>
       have hN:(acc++[a])++pickR false 1 (f.drop 1) [b,c,d]=R:=by rw [List.append_assoc];exact hF2
       with_reducible repeat' first|(refine nx ?_;intros)|apply And.intro|intro vr|(refine ny ?_;intros;simp only [go_sem,kp153,geff,hsz,h0,g1,g2,hw,hap,hlen])
       all_goals try exact nd
       exact ⟨⟨(1,v+1,acc++[a]),by simp only;omega,by simp only [List.length_append,List.length_cons,List.length_nil];omega,hN⟩,wf,lf⟩
     |false=>
      have g2:strAt (frB f) 0=110:=by rw [frB_at f 0 hc,hr];rfl
      rw [hr] at hF2
      have hN:acc++pickR w 1 (f.drop 1) ([a,b,c,d].drop 1)=R:=hF2
      with_reducible repeat' first|(refine nx ?_;intros)|apply And.intro|intro vr|(refine ny ?_;intros;simp only [go_sem,kp153,geff,hsz,h0,g1,g2,hap,hlen])
      all_goals try exact nd
      exact ⟨⟨(1,v,acc),by simp only;omega,by simp only;omega,hN⟩,wf,lf⟩
    ·have h0:((((1:Nat):Int)):Int)=1:=rfl
     have g1:decide ((1:Int)<(f.length:Int))=true:=decide_eq_true (by omega)
     cases hr:f.getD 1 false with
     |true=>
      have g2:strAt (frB f) 1=114:=by rw [frB_at f 1 hc,hr];rfl
      rw [hr] at hF2
      have hN:(acc++[b])++pickR w 2 (f.drop 2) ([a,b,c,d].drop 2)=R:=by
        rw [List.append_assoc]
        have:pickR w 1 (true::f.drop (1+1)) ([a,b,c,d].drop 1)=b::pickR w 2 (f.drop 2) ([a,b,c,d].drop 2):=by
          show (if 0<1∨w=false then _ else _)=_
          rw [if_pos (.inl (by omega))];rfl
        rw [this] at hF2;exact hF2
      with_reducible repeat' first|(refine nx ?_;intros)|apply And.intro|intro vr|(refine ny ?_;intros;simp only [go_sem,kp153,geff,hsz,h0,g1,g2,hap,hlen])
      all_goals try exact nd
      exact ⟨⟨(2,v+1,acc++[b]),by simp only;omega,by simp only [List.length_append,List.length_cons,List.length_nil];omega,hN⟩,wf,lf⟩
     |false=>
      have g2:strAt (frB f) 1=110:=by rw [frB_at f 1 hc,hr];rfl
      rw [hr] at hF2
      have hN:acc++pickR w 2 (f.drop 2) ([a,b,c,d].drop 2)=R:=hF2
      with_reducible repeat' first|(refine nx ?_;intros)|apply And.intro|intro vr|(refine ny ?_;intros;simp only [go_sem,kp153,geff,hsz,h0,g1,g2,hap,hlen])
      all_goals try exact nd
      exact ⟨⟨(2,v,acc),by simp only;omega,by simp only;omega,hN⟩,wf,lf⟩
    ·have h0:((((2:Nat):Int)):Int)=2:=rfl
     have g1:decide ((2:Int)<(f.length:Int))=true:=decide_eq_true (by omega)
     cases hr:f.getD 2 false with
     |true=>
      have g2:strAt (frB f) 2=114:=by rw [frB_at f 2 hc,hr];rfl
      rw [hr] at hF2
      have hN:(acc++[c])++pickR w 3 (f.drop 3) ([a,b,c,d].drop 3)=R:=by
        rw [List.append_assoc]
        have:pickR w 2 (true::f.drop (2+1)) ([a,b,c,d].drop 2)=c::pickR w 3 (f.drop 3) ([a,b,c,d].drop 3):=by
          show (if 0<2∨w=false then _ else _)=_
          rw [if_pos (.inl (by omega))];rfl
        rw [this] at hF2;exact hF2
      with_reducible repeat' first|(refine nx ?_;intros)|apply And.intro|intro vr|(refine ny ?_;intros;simp only [go_sem,kp153,geff,hsz,h0,g1,g2,hap,hlen])
      all_goals try exact nd
      exact ⟨⟨(3,v+1,acc++[c]),by simp only;omega,by simp only [List.length_append,List.length_cons,List.length_nil];omega,hN⟩,wf,lf⟩
     |false=>
      have g2:strAt (frB f) 2=110:=by rw [frB_at f 2 hc,hr];rfl
      rw [hr] at hF2
      have hN:acc++pickR w 3 (f.drop 3) ([a,b,c,d].drop 3)=R:=hF2
      with_reducible repeat' first|(refine nx ?_;intros)|apply And.intro|intro vr|(refine ny ?_;intros;simp only [go_sem,kp153,geff,hsz,h0,g1,g2,hap,hlen])
      all_goals try exact nd
      exact ⟨⟨(3,v,acc),by simp only;omega,by simp only;omega,hN⟩,wf,lf⟩
    ·have h0:((((3:Nat):Int)):Int)=3:=rfl
     have g1:decide ((3:Int)<(f.length:Int))=true:=decide_eq_true (by omega)
     cases hr:f.getD 3 false with
     |true=>
      have g2:strAt (frB f) 3=114:=by rw [frB_at f 3 hc,hr];rfl
      rw [hr] at hF2
      have hN:(acc++[d])++pickR w 4 (f.drop 4) ([a,b,c,d].drop 4)=R:=by
        rw [List.append_assoc]
        have:pickR w 3 (true::f.drop (3+1)) ([a,b,c,d].drop 3)=d::pickR w 4 (f.drop 4) ([a,b,c,d].drop 4):=by
          show (if 0<3∨w=false then _ else _)=_
          rw [if_pos (.inl (by omega))];rfl
        rw [this] at hF2;exact hF2
      with_reducible repeat' first|(refine nx ?_;intros)|apply And.intro|intro vr|(refine ny ?_;intros;simp only [go_sem,kp153,geff,hsz,h0,g1,g2,hap,hlen])
      all_goals try exact nd
      exact ⟨⟨(4,v+1,acc++[d]),by simp only;omega,by simp only [List.length_append,List.length_cons,List.length_nil];omega,hN⟩,wf,lf⟩
     |false=>
      have g2:strAt (frB f) 3=110:=by rw [frB_at f 3 hc,hr];rfl
      rw [hr] at hF2
      have hN:acc++pickR w 4 (f.drop 4) ([a,b,c,d].drop 4)=R:=hF2
      with_reducible repeat' first|(refine nx ?_;intros)|apply And.intro|intro vr|(refine ny ?_;intros;simp only [go_sem,kp153,geff,hsz,h0,g1,g2,hap,hlen])
      all_goals try exact nd
      exact ⟨⟨(4,v,acc),by simp only;omega,by simp only;omega,hN⟩,wf,lf⟩
   ·have g1:decide ((i:Int)<(f.length:Int))=false:=decide_eq_false (by omega)
    rw [List.drop_eq_nil_of_le hc] at hF2
    have e:acc=R:=by rw [←hF2];simp [pickR]
    subst e
    with_reducible repeat' first|(refine nx ?_;intros)|apply And.intro|intro vr|(refine ny ?_;intros;simp only [go_sem,kp153,geff,hsz,g1])
    all_goals try exact nd
    all_goals (refine nl ?_;simp only [go_sem])
    exact LeA.slx rfl
noncomputable def con153:PCon Tryz.prog where
  f:=153
  c:=fun
   |[xx]=>match opOf xx with|some x=>some (True,.sl false 1 (ints .i64 (readsS x)))|_=>none
   |_=>none
  ok:=by
   intro args p r hc hp
   split at hc
   ·split at hc
    ·rename_i hx
     cases hc
     exact PC.weak rreads_pc ⟨opOf_le hx,trivial⟩
    ·cases hc
   ·cases hc
  fk:=fk153
theorem con153_f:con153.f=153:=rfl
theorem con153_c {xx:AV}:con153.c [xx]=match opOf xx with|some x=>some (True,.sl false 1 (ints .i64 (readsS x)))|_=>none:=rfl
attribute [go_sem] con71_f con71_c con153_f con153_c
end Go.Proofs.YtnlimcijgpaegaaGreat

namespace Go.Proofs.YtnlimcijgpaegaaGreat
open Go Go.Fw Bm
set_option maxRecDepth 20000
theorem opV_mk {k a b c d:Int} {p:ByteArray}:opV ⟨k,p,a,b,c,d⟩= .agg [.lit (.int .i64 k),.lit (.string p),.lit (.int .i64 a),.lit (.int .i64 b),.lit (.int .i64 c),.lit (.int .i64 d)]:=rfl
attribute [go_sem] opV_mk
def stI (st:List Nat):List Int:=st.reverse.map fun n:Nat=>(n:Int)
theorem stI_cons (j:Nat) (st:List Nat):stI (j::st)=stI st++[(j:Int)]:=by simp [stI]
theorem stI_length (st:List Nat):(stI st).length=st.length:=by simp [stI]
def matchV (ops:List Ins):AV:=match matchS ops with
  |some mt=> .tup [.sl false 1 (ints .i64 mt),.lit (.bool true)]
  |none=> .tup [.sl false 1 [],.lit (.bool false)]
def mtV (r:Option (List Int)):AV:=match r with
  |some mt=> .tup [.sl false 1 (ints .i64 mt),.lit (.bool true)]
  |none=> .tup [.sl false 1 [],.lit (.bool false)]
theorem drop_getI {l:List Ins} {i:Nat} (h:i<l.length):l.drop i=l.getD i nilI::l.drop (i+1):=by
  rw [List.drop_eq_getElem_cons h,List.getD_eq_getElem?_getD,List.getElem?_eq_getElem h];rfl
theorem mt_none {r:Option (List Int)} (h:r=none):LeA (.tup [.lit (.slice none 0 0),.lit (.bool false)]) (mtV r):=by
  subst h;exact LeA.tup ⟨LeA.nil _ _,LeA.refl _,trivial⟩
theorem mt_some {r:Option (List Int)} {l:List Int} (h:r=some l):LeA (.tup [.sl false 1 (ints .i64 l),.lit (.bool true)]) (mtV r):=by
  subst h;exact LeA.refl _
theorem stP {i:Nat} {st:List Nat} (hs:∀ j∈st,j<i):∀ j∈i::st,j<i+1:=fun j hj=>(List.mem_cons.1 hj).elim (fun h=>by omega) (fun h=>by have:=hs j h;omega)
theorem stQ {i j:Nat} {st:List Nat} (hs:∀ k∈j::st,k<i):∀ k∈st,k<i:=fun k hk=>hs k (List.mem_cons_of_mem _ hk)
theorem stW {i:Nat} {st:List Nat} (hs:∀ j∈st,j<i):∀ j∈st,j<i+1:=fun j hj=>by have:=hs j hj;omega
theorem stI_last (j:Nat) (st:List Nat):(stI (j::st)).getD st.length 0=(j:Int):=by
  rw [stI_cons,getD_app_right _ _ _ (by rw [stI_length];exact Nat.le_refl _),stI_length,Nat.sub_self];rfl
theorem stI_take (j:Nat) (st:List Nat):(ints .i64 (stI (j::st))).take st.length=ints .i64 (stI st):=by
  rw [stI_cons]
  simp only [ints,List.map_append]
  rw [List.take_append_of_le_length (by simp [stI_length]),List.take_of_length_le (by simp [stI_length])]
theorem stI_tk (j:Nat) (st:List Nat):(stI (j::st)).take (0+st.length)=stI st:=by
  rw [Nat.zero_add,stI_cons,List.take_append_of_le_length (by simp [stI_length]),List.take_of_length_le (by simp [stI_length])]
theorem stI_n0:((stI []).length:Int) - 1= -1:=rfl
theorem stI_n1 (j:Nat) (st:List Nat):((stI (j::st)).length:Int) - 1=(st.length:Int):=by rw [stI_length,List.length_cons];omega
noncomputable def V9:Env:=envJ (P:=Tryz.prog) jkV zer (fun _=>false) (fun _=>false) [] []
theorem V9_ok:EnvOk Tryz.prog V9:=envJOk zer_ok
structure Mt (ops:List Ins) (R:Option (List Int)) where
  i:Nat
  u:Nat
  v:Nat
  out:List Int
  st:List Nat
  hi:i≤ops.length
  ho:out.length=i
  hs:∀ j∈st,j<i
  h4:st.length≤40
  hF:matchG ops (ops.drop i) i out st=R
set_option maxHeartbeats 8000000 in
theorem match_pc {ops:List Ins} (hl:ops.length≤1000000):PC Tryz.prog 31 [.sl false 6 (opsV ops)] (matchV ops):=by
  show PC _ _ _ (mtV (matchS ops))
  generalize hR:matchS ops=R
  unfold matchS at hR
  by_cases hn:ops.length>5000
  ·rw [if_pos hn] at hR
   have g1:decide ((ops.length:Int)>5000)=true:=decide_eq_true (by omega)
   refine pcR V9_ok (kp31) Tryz.func31 [.tmp 2,.tmp 3] (h:=fun KF=>?_)
   unfold V9
   with_reducible repeat' first|(refine nx ?_;intros)|refine t_br (fun hc=>?_) fun hc=>?_|apply And.intro|intro vr|(refine ny ?_;intros;simp only [go_sem,kp31,geff,g1])
   all_goals try exact nd
   all_goals (refine nl ?_;simp only [go_sem])
   exact mt_none hR.symm
  ·rw [if_neg hn] at hR
   have g1:decide ((ops.length:Int)>5000)=false:=decide_eq_false (by omega)
   refine pcR V9_ok (kp31) Tryz.func31 [.tmp 2,.tmp 3] (h:=fun KF=>?_)
   unfold V9
   with_reducible repeat' first|(refine nx ?_;intros)|refine t_br (fun hc=>?_) fun hc=>?_|apply And.intro|intro vr|(refine ny ?_;intros;simp only [go_sem,kp31,geff,g1])
   all_goals try exact nd
   refine t_loopF (ι:=Mt ops R) (fun i=>[(14,.lit (.int .i64 i.i)),(4,.arr 0 i.u),(5,.arr 1 i.v)]) (fun i=>[.arr 3 1 (ints .i64 i.out) i.u false,.arr 3 1 (ints .i64 (stI i.st)) i.v false]) (fun i=>ops.length - i.i) ⟨0,0,0,[],[],by omega,rfl,by simp,by simp,by simpa using hR⟩ ?_ ?_
   ·refine (le_nil 4 3 1 rfl).trans ?_
    refine (le_nil 5 3 1 rfl).trans ?_
    exact lf
   rintro ⟨i,u,v,out,st,hi,ho,hs,h4,hF⟩ K0
   have hol:(ints .i64 out).length=i:=by rw [ints_length,ho]
   have hsl:(ints .i64 (stI st)).length=st.length:=by rw [ints_length,stI_length]
   rcases Nat.lt_or_ge i ops.length with hc|hc
   ·have g3:decide ((i:Int)<(ops.length:Int))=true:=decide_eq_true (by omega)
    have hap:∀ n:Int,ints .i64 out++[.lit (.int .i64 n)]=ints .i64 (out++[n]):=fun n=>ints_append1 _ _ _
    have has:∀ n:Int,ints .i64 (stI st)++[.lit (.int .i64 n)]=ints .i64 (stI st++[n]):=fun n=>ints_append1 _ _ _
    rw [drop_getI hc] at hF
    generalize hx:ops.getD i nilI=x at hF
    obtain ⟨k,p,a,b,c,d⟩:=x
    simp only [matchG] at hF
    rcases (show k=10∨k=11∨k=12∨k=13∨(k≠10∧k≠11∧k≠12∧k≠13) by omega) with rfl|rfl|rfl|rfl|hk
    ·rw [if_pos (by omega)] at hF
     have hnx:stI st++[(i:Int)]=stI (i::st):=(stI_cons i st).symm
     by_cases h40:st.length≥40
     ·rw [if_pos h40] at hF
      have k5:decide ((st.length:Int)+1>40)=true:=decide_eq_true (by omega)
      with_reducible repeat' first|(refine nx ?_;intros)|refine t_br (fun hc=>?_) fun hc=>?_|apply And.intro|intro vr|(refine ny ?_;intros;simp only [go_sem,kp31,geff,g3,hx,k5,hap,has,hol,hnx,stI_length,List.length_cons,Int.natCast_add,Int.natCast_one,Int.toNat_natCast,yes])
      all_goals try exact nd
      all_goals (refine nl ?_;simp only [go_sem])
      exact mt_none hF.symm
     ·rw [if_neg h40] at hF
      have k5:decide ((st.length:Int)+1>40)=false:=decide_eq_false (by omega)
      with_reducible repeat' first|(refine nx ?_;intros)|refine t_br (fun hc=>?_) fun hc=>?_|apply And.intro|intro vr|(refine ny ?_;intros;simp only [go_sem,kp31,geff,g3,hx,k5,hap,has,hol,hnx,stI_length,List.length_cons,Int.natCast_add,Int.natCast_one,Int.toNat_natCast,yes])
      all_goals try exact nd
      refine ⟨⟨i+1,u+1,v+1,out++[(i:Int)],i::st,by omega,by simp [ho],stP hs,by simp only [List.length_cons];omega,hF⟩,by first|(simp only;omega)|omega,?_⟩
      try simp only [updL_nil,updL_cons,delF_top,delF_upd,Nat.reduceEqDiff,reduceIte]
      refine le_backD (by first|rfl|(simp only [go_sem];try rfl)) (by first|exact Nat.zero_le _|simp) (by first|rfl|simp [lowO,low_lit,low_sl,low_ref,low_arr,low_sub,low_mp]) ?_ ?_
      ·repeat' (first|exact low_top|(refine low_upd rfl ?_))
      exact lq
    ·rw [if_pos (by omega)] at hF
     have hnx:stI st++[(i:Int)]=stI (i::st):=(stI_cons i st).symm
     by_cases h40:st.length≥40
     ·rw [if_pos h40] at hF
      have k5:decide ((st.length:Int)+1>40)=true:=decide_eq_true (by omega)
      with_reducible repeat' first|(refine nx ?_;intros)|refine t_br (fun hc=>?_) fun hc=>?_|apply And.intro|intro vr|(refine ny ?_;intros;simp only [go_sem,kp31,geff,g3,hx,k5,hap,has,hol,hnx,stI_length,List.length_cons,Int.natCast_add,Int.natCast_one,Int.toNat_natCast,yes])
      all_goals try exact nd
      all_goals (refine nl ?_;simp only [go_sem])
      exact mt_none hF.symm
     ·rw [if_neg h40] at hF
      have k5:decide ((st.length:Int)+1>40)=false:=decide_eq_false (by omega)
      with_reducible repeat' first|(refine nx ?_;intros)|refine t_br (fun hc=>?_) fun hc=>?_|apply And.intro|intro vr|(refine ny ?_;intros;simp only [go_sem,kp31,geff,g3,hx,k5,hap,has,hol,hnx,stI_length,List.length_cons,Int.natCast_add,Int.natCast_one,Int.toNat_natCast,yes])
      all_goals try exact nd
      refine ⟨⟨i+1,u+1,v+1,out++[(i:Int)],i::st,by omega,by simp [ho],stP hs,by simp only [List.length_cons];omega,hF⟩,by first|(simp only;omega)|omega,?_⟩
      try simp only [updL_nil,updL_cons,delF_top,delF_upd,Nat.reduceEqDiff,reduceIte]
      refine le_backD (by first|rfl|(simp only [go_sem];try rfl)) (by first|exact Nat.zero_le _|simp) (by first|rfl|simp [lowO,low_lit,low_sl,low_ref,low_arr,low_sub,low_mp]) ?_ ?_
      ·repeat' (first|exact low_top|(refine low_upd rfl ?_))
      exact lq
    ·rw [if_neg (by omega),if_pos rfl] at hF
     cases st with
     |nil=>
      have k6:decide ((-1:Int)<0)=true:=by decide
      with_reducible repeat' first|(refine nx ?_;intros)|refine t_br (fun hc=>?_) fun hc=>?_|apply And.intro|intro vr|(refine ny ?_;intros;simp only [go_sem,kp31,geff,g3,hx,hap,hol,stI_n0,k6,Int.toNat_natCast,yes])
      all_goals try exact nd
      all_goals (refine nl ?_;simp only [go_sem])
      exact mt_none hF.symm
     |cons j st=>
      have hj:=hs j (List.mem_cons_self ..)
      have h4s:st.length≤39:=by simp only [List.length_cons] at h4;omega
      have hL:=stI_length st
      have hLj:(stI (j::st)).length=st.length+1:=stI_length (j::st)
      have k6:decide ((st.length:Int)<0)=false:=decide_eq_false (by omega)
      have hso:∀ n:Int,(ints .i64 (out++[(i:Int)])).set j (.lit (.int .i64 n))=ints .i64 ((out++[(i:Int)]).set j n):=fun n=>ints_set _ _ _ _
      simp only at hF
      generalize hy:ops.getD j nilI=y at hF
      obtain ⟨k',p',a',b',c',d'⟩:=y
      simp only at hF
      by_cases h11:k'=11
      ·rw [if_pos h11] at hF
       have k7:(k' !=11)=false:=by simp [h11]
       have hnx:ints .i64 (stI st)++[.lit (.int .i64 (i:Int))]=ints .i64 (stI (i::st)):=by rw [stI_cons];exact ints_append1 _ _ _
       with_reducible repeat' first|(refine nx ?_;intros)|refine t_br (fun hc=>?_) fun hc=>?_|apply And.intro|intro vr|(refine ny ?_;intros;simp only [go_sem,kp31,geff,g3,hx,hy,hap,hol,hso,stI_n1,stI_last,stI_take,stI_tk,hnx,k6,k7,Int.toNat_natCast,yes])
       all_goals try exact nd
       refine ⟨⟨i+1,u+1,v+2,(out++[(i:Int)]).set j (i:Int),i::st,by omega,by simp [ho],stP (stQ hs),h4,hF⟩,by first|(simp only;omega)|omega,?_⟩
       try simp only [updL_nil,updL_cons,delF_top,delF_upd,Nat.reduceEqDiff,reduceIte]
       refine le_backD (by first|rfl|(simp only [go_sem];try rfl)) (by first|exact Nat.zero_le _|simp) (by first|rfl|simp [lowO,low_lit,low_sl,low_ref,low_arr,low_sub,low_mp]) ?_ ?_
       ·repeat' (first|exact low_top|(refine low_upd rfl ?_))
       exact lq
      ·rw [if_neg h11] at hF
       have k7:(k' !=11)=true:=by simp [h11]
       with_reducible repeat' first|(refine nx ?_;intros)|refine t_br (fun hc=>?_) fun hc=>?_|apply And.intro|intro vr|(refine ny ?_;intros;simp only [go_sem,kp31,geff,g3,hx,hy,hap,hol,hso,stI_n1,stI_last,stI_take,stI_tk,k6,k7,Int.toNat_natCast,yes])
       all_goals try exact nd
       all_goals (refine nl ?_;simp only [go_sem])
       exact mt_none hF.symm
    ·rw [if_neg (by omega),if_neg (by omega),if_pos rfl] at hF
     cases st with
     |nil=>
      have k6:decide ((-1:Int)<0)=true:=by decide
      with_reducible repeat' first|(refine nx ?_;intros)|refine t_br (fun hc=>?_) fun hc=>?_|apply And.intro|intro vr|(refine ny ?_;intros;simp only [go_sem,kp31,geff,g3,hx,hap,hol,stI_n0,k6,Int.toNat_natCast,yes])
      all_goals try exact nd
      all_goals (refine nl ?_;simp only [go_sem])
      exact mt_none hF.symm
     |cons j st=>
      have hj:=hs j (List.mem_cons_self ..)
      have h4s:st.length≤39:=by simp only [List.length_cons] at h4;omega
      have hL:=stI_length st
      have hLj:(stI (j::st)).length=st.length+1:=stI_length (j::st)
      have k6:decide ((st.length:Int)<0)=false:=decide_eq_false (by omega)
      have hso:∀ n:Int,(ints .i64 (out++[(i:Int)])).set j (.lit (.int .i64 n))=ints .i64 ((out++[(i:Int)]).set j n):=fun n=>ints_set _ _ _ _
      simp only at hF
      with_reducible repeat' first|(refine nx ?_;intros)|refine t_br (fun hc=>?_) fun hc=>?_|apply And.intro|intro vr|(refine ny ?_;intros;simp only [go_sem,kp31,geff,g3,hx,hap,hol,hso,stI_n1,stI_last,stI_take,stI_tk,k6,Int.toNat_natCast,yes])
      all_goals try exact nd
      refine ⟨⟨i+1,u+1,v+1,(out++[(i:Int)]).set j (i:Int),st,by omega,by simp [ho],stW (stQ hs),by simp only [List.length_cons] at h4;omega,hF⟩,by simp only;omega,?_⟩
      refine (le_cut 5 (by simp only [go_sem];rfl) rfl).trans ?_
      try simp only [go_sem,stI_take,stI_tk]
      try simp only [updL_nil,updL_cons,delF_top,delF_upd,Nat.reduceEqDiff,reduceIte]
      refine le_backD (by first|rfl|(simp only [go_sem];try rfl)) (by first|exact Nat.zero_le _|simp) (by first|rfl|simp [lowO,low_lit,low_sl,low_ref,low_arr,low_sub,low_mp]) ?_ ?_
      ·repeat' (first|exact low_top|(refine low_upd rfl ?_))
      exact lq
    ·rw [if_neg (by omega),if_neg (by omega),if_neg (by omega)] at hF
     have k1:(k==10)=false:=by simpa using hk.1
     have k2:(k==11)=false:=by simpa using hk.2.1
     have k3:(k==12)=false:=by simpa using hk.2.2.1
     have k4:(k==13)=false:=by simpa using hk.2.2.2
     with_reducible repeat' first|(refine nx ?_;intros)|refine t_br (fun hc=>?_) fun hc=>?_|apply And.intro|intro vr|(refine ny ?_;intros;simp only [go_sem,kp31,geff,g3,hx,k1,k2,k3,k4,hap,hol,stI_length,Int.toNat_natCast,yes])
     all_goals try exact nd
     refine ⟨⟨i+1,u+1,v,out++[(i:Int)],st,by omega,by simp [ho],fun j hj=>by have:=hs j hj;omega,h4,hF⟩,by first|(simp only;omega)|omega,?_⟩
     try simp only [updL_nil,updL_cons,delF_top,delF_upd,Nat.reduceEqDiff,reduceIte]
     refine le_backD (by first|rfl|(simp only [go_sem];try rfl)) (by first|exact Nat.zero_le _|simp) (by first|rfl|simp [lowO,low_lit,low_sl,low_ref,low_arr,low_sub,low_mp]) ?_ ?_
     ·repeat' (first|exact low_top|(refine low_upd rfl ?_))
     exact lq
   ·have g3:decide ((i:Int)<(ops.length:Int))=false:=decide_eq_false (by omega)
    rw [List.drop_eq_nil_of_le hc] at hF
    cases st with
    |nil=>
     with_reducible repeat' first|(refine nx ?_;intros)|refine t_br (fun hc=>?_) fun hc=>?_|apply And.intro|intro vr|(refine ny ?_;intros;simp only [go_sem,kp31,geff,g3,stI_length,List.length_nil,yes])
     all_goals try exact nd
     all_goals (refine nl ?_;simp only [go_sem])
     exact mt_some (by rw [←hF];rfl)
    |cons j st=>
     have k5:decide (((j::st).length:Int)>0)=true:=decide_eq_true (by simp only [List.length_cons];omega)
     with_reducible repeat' first|(refine nx ?_;intros)|refine t_br (fun hc=>?_) fun hc=>?_|apply And.intro|intro vr|(refine ny ?_;intros;simp only [go_sem,kp31,geff,g3,stI_length,k5,yes])
     all_goals try exact nd
     all_goals (refine nl ?_;simp only [go_sem])
     exact mt_none (by rw [←hF];rfl)
end Go.Proofs.YtnlimcijgpaegaaGreat

namespace Go.Proofs.YtnlimcijgpaegaaGreat
open Go Go.Fw Bm
set_option maxRecDepth 20000
def zs (n:Nat):List Int:=List.replicate n 0
theorem zs_ints (n:Nat):List.replicate n (AV.lit (.int .i64 0))=ints .i64 (zs n):=by simp [ints,zs]
theorem zs_length (n:Nat):(zs n).length=n:=by simp [zs]
theorem zs_set {out:List Int} {i n:Nat} (x:Int) (ho:out.length=i) (hi:i<n):(out++zs (n - i)).set i x=(out++[x])++zs (n - (i+1)):=by
  rw [List.set_append_right _ _ (by omega),ho,Nat.sub_self,show n - i=(n - (i+1))+1 by omega,zs,List.replicate_succ]
  simp [zs]
theorem zs_put {l z:List Int} {j:Nat} (x:Int) (h:j<l.length):(l++z).set j x=l.set j x++z:=List.set_append_left _ _ h
theorem stI_put (i j:Nat) (st:List Nat):(stI (j::st)).set st.length (i:Int)=stI (i::st):=by
  rw [stI_cons,List.set_append_right _ _ (by rw [stI_length];exact Nat.le_refl _),stI_length,Nat.sub_self,stI_cons];rfl
theorem stI_e0:(((stI []).length:Int)==0)=true:=rfl
theorem stI_e1 (j:Nat) (st:List Nat):(((stI (j::st)).length:Int)==0)=false:=by rw [stI_length,List.length_cons];simp;omega
structure Mr (ops:List Ins) (R:Option (List Int)) where
  i:Nat
  u:Nat
  v:Nat
  out:List Int
  st:List Nat
  hi:i≤ops.length
  ho:out.length=i
  hs:∀ j∈st,j<i
  h4:st.length≤40
  hF:matchG ops (ops.drop i) i out st=R
noncomputable def V10:Env:=envJ (P:=Tryz.prog) jkV zer (fun _=>false) (fun _=>false) [] []
theorem V10_ok:EnvOk Tryz.prog V10:=envJOk zer_ok
set_option maxHeartbeats 8000000 in
theorem rmatch_pc {ops:List Ins} (hl:ops.length≤1000000):PC Tryz.prog 55 [.sl false 6 (opsV ops)] (matchV ops):=by
  show PC _ _ _ (mtV (matchS ops))
  generalize hR:matchS ops=R
  unfold matchS at hR
  by_cases hn:ops.length>5000
  ·rw [if_pos hn] at hR
   have g1:decide ((ops.length:Int)>5000)=true:=decide_eq_true (by omega)
   refine pcR V10_ok (kp55) Tryz.func55 [.tmp 2,.tmp 3] (h:=fun KF=>?_)
   unfold V10
   with_reducible repeat' first|(refine nx ?_;intros)|refine t_br (fun hc=>?_) fun hc=>?_|apply And.intro|intro vr|(refine ny ?_;intros;simp only [go_sem,kp55,geff,g1])
   all_goals try exact nd
   all_goals (refine nl ?_;simp only [go_sem])
   exact mt_none hR.symm
  ·rw [if_neg hn] at hR
   have g1:decide ((ops.length:Int)>5000)=false:=decide_eq_false (by omega)
   refine pcR V10_ok (kp55) Tryz.func55 [.tmp 2,.tmp 3] (h:=fun KF=>?_)
   unfold V10
   with_reducible repeat' first|(refine nx ?_;intros)|refine t_br (fun hc=>?_) fun hc=>?_|apply And.intro|intro vr|(refine ny ?_;intros;simp only [go_sem,kp55,geff,g1,zs_ints,Int.toNat_natCast])
   all_goals try exact nd
   refine t_loopF (ι:=Mr ops R) (fun i=>[(6,.lit (.int .i64 i.i)),(4,.arr 0 i.u),(5,.arr 1 i.v)]) (fun i=>[.arr 3 1 (ints .i64 (i.out++zs (ops.length - i.i))) i.u false,.arr 3 1 (ints .i64 (stI i.st)) i.v false]) (fun i=>ops.length - i.i) ⟨0,0,0,[],[],by omega,rfl,by simp,by simp,by simpa using hR⟩ ?_ ?_
   ·refine (le_nil 5 3 1 rfl).trans ?_
    exact lf
   rintro ⟨i,u,v,out,st,hi,ho,hs,h4,hF⟩ K0
   have hsl:(ints .i64 (stI st)).length=st.length:=by rw [ints_length,stI_length]
   have hol:(ints .i64 (out++zs (ops.length - i))).length=ops.length:=by rw [ints_length,List.length_append,zs_length,ho];omega
   rcases Nat.lt_or_ge i ops.length with hc|hc
   ·have g3:decide ((i:Int)<(ops.length:Int))=true:=decide_eq_true (by omega)
    have hst:=zs_set (i:Int) ho hc
    have hol2:(ints .i64 ((out++[(i:Int)])++zs (ops.length - (i+1)))).length=ops.length:=by rw [ints_length,List.length_append,List.length_append,zs_length,ho,List.length_singleton];omega
    have hput:∀ j:Nat,j<i→∀ x:Int,((out++[(i:Int)])++zs (ops.length - (i+1))).set j x=(out++[(i:Int)]).set j x++zs (ops.length - (i+1)):=fun j hj x=>zs_put x (by rw [List.length_append,List.length_singleton];omega)
    rw [drop_getI hc] at hF
    generalize hx:ops.getD i nilI=x at hF
    obtain ⟨k,p,a,b,c,d⟩:=x
    simp only [matchG] at hF
    have has:ints .i64 (stI st)++[.lit (.int .i64 (i:Int))]=ints .i64 (stI (i::st)):=by rw [stI_cons];exact ints_append1 _ _ _
    rcases (show k=10∨k=11∨k=12∨k=13∨(k≠10∧k≠11∧k≠12∧k≠13) by omega) with rfl|rfl|rfl|rfl|hk
    ·rw [if_pos (by omega)] at hF
     by_cases h40:st.length≥40
     ·rw [if_pos h40] at hF
      have k5:((st.length:Int)==40)=true:=by simp;omega
      with_reducible repeat' first|(refine nx ?_;intros)|refine t_br (fun hc=>?_) fun hc=>?_|apply And.intro|intro vr|(refine ny ?_;intros;simp only [go_sem,kp55,geff,g3,hx,k5,hst,has,hol,stI_length,Int.toNat_natCast,yes])
      all_goals try exact nd
      all_goals (refine nl ?_;simp only [go_sem])
      exact mt_none hF.symm
     ·rw [if_neg h40] at hF
      have k5:((st.length:Int)==40)=false:=by simp;omega
      with_reducible repeat' first|(refine nx ?_;intros)|refine t_br (fun hc=>?_) fun hc=>?_|apply And.intro|intro vr|(refine ny ?_;intros;simp only [go_sem,kp55,geff,g3,hx,k5,hst,has,hol,hsl,stI_length,Int.toNat_natCast,yes])
      all_goals try exact nd
      exact ⟨⟨i+1,u,v+1,out++[(i:Int)],i::st,by omega,by simp [ho],stP hs,by simp only [List.length_cons];omega,hF⟩,wf,lf⟩
    ·rw [if_pos (by omega)] at hF
     by_cases h40:st.length≥40
     ·rw [if_pos h40] at hF
      have k5:((st.length:Int)==40)=true:=by simp;omega
      with_reducible repeat' first|(refine nx ?_;intros)|refine t_br (fun hc=>?_) fun hc=>?_|apply And.intro|intro vr|(refine ny ?_;intros;simp only [go_sem,kp55,geff,g3,hx,k5,hst,has,hol,stI_length,Int.toNat_natCast,yes])
      all_goals try exact nd
      all_goals (refine nl ?_;simp only [go_sem])
      exact mt_none hF.symm
     ·rw [if_neg h40] at hF
      have k5:((st.length:Int)==40)=false:=by simp;omega
      with_reducible repeat' first|(refine nx ?_;intros)|refine t_br (fun hc=>?_) fun hc=>?_|apply And.intro|intro vr|(refine ny ?_;intros;simp only [go_sem,kp55,geff,g3,hx,k5,hst,has,hol,hsl,stI_length,Int.toNat_natCast,yes])
      all_goals try exact nd
      exact ⟨⟨i+1,u,v+1,out++[(i:Int)],i::st,by omega,by simp [ho],stP hs,by simp only [List.length_cons];omega,hF⟩,wf,lf⟩
    ·rw [if_neg (by omega),if_pos rfl] at hF
     cases st with
     |nil=>
      with_reducible repeat' first|(refine nx ?_;intros)|refine t_br (fun hc=>?_) fun hc=>?_|apply And.intro|intro vr|(refine ny ?_;intros;simp only [go_sem,kp55,geff,g3,hx,hst,hol,stI_e0,Int.toNat_natCast,yes])
      all_goals try exact nd
      all_goals (refine nl ?_;simp only [go_sem])
      exact mt_none hF.symm
     |cons j st=>
      have hj:=hs j (List.mem_cons_self ..)
      have h4s:st.length≤39:=by simp only [List.length_cons] at h4;omega
      have hL:=stI_length st
      have hLj:(stI (j::st)).length=st.length+1:=stI_length (j::st)
      have hp:=hput j hj (i:Int)
      simp only at hF
      generalize hy:ops.getD j nilI=y at hF
      obtain ⟨k',p',a',b',c',d'⟩:=y
      simp only at hF
      by_cases h11:k'=11
      ·rw [if_pos h11] at hF
       have k7:(k' !=11)=false:=by simp [h11]
       with_reducible repeat' first|(refine nx ?_;intros)|refine t_br (fun hc=>?_) fun hc=>?_|apply And.intro|intro vr|(refine ny ?_;intros;simp only [go_sem,kp55,geff,g3,hx,hy,hst,hp,hol,hol2,stI_e1,stI_n1,stI_last,stI_put,k7,Int.toNat_natCast,yes])
       all_goals try exact nd
       exact ⟨⟨i+1,u,v,(out++[(i:Int)]).set j (i:Int),i::st,by omega,by simp [ho],stP (stQ hs),h4,hF⟩,wf,lf⟩
      ·rw [if_neg h11] at hF
       have k7:(k' !=11)=true:=by simp [h11]
       with_reducible repeat' first|(refine nx ?_;intros)|refine t_br (fun hc=>?_) fun hc=>?_|apply And.intro|intro vr|(refine ny ?_;intros;simp only [go_sem,kp55,geff,g3,hx,hy,hst,hp,hol,hol2,stI_e1,stI_n1,stI_last,stI_put,k7,Int.toNat_natCast,yes])
       all_goals try exact nd
       all_goals (refine nl ?_;simp only [go_sem])
       exact mt_none hF.symm
    ·rw [if_neg (by omega),if_neg (by omega),if_pos rfl] at hF
     cases st with
     |nil=>
      with_reducible repeat' first|(refine nx ?_;intros)|refine t_br (fun hc=>?_) fun hc=>?_|apply And.intro|intro vr|(refine ny ?_;intros;simp only [go_sem,kp55,geff,g3,hx,hst,hol,stI_e0,Int.toNat_natCast,yes])
      all_goals try exact nd
      all_goals (refine nl ?_;simp only [go_sem])
      exact mt_none hF.symm
     |cons j st=>
      have hj:=hs j (List.mem_cons_self ..)
      have h4s:st.length≤39:=by simp only [List.length_cons] at h4;omega
      have hL:=stI_length st
      have hLj:(stI (j::st)).length=st.length+1:=stI_length (j::st)
      have hp:=hput j hj (i:Int)
      simp only at hF
      with_reducible repeat' first|(refine nx ?_;intros)|refine t_br (fun hc=>?_) fun hc=>?_|apply And.intro|intro vr|(refine ny ?_;intros;simp only [go_sem,kp55,geff,g3,hx,hst,hp,hol,hol2,stI_e1,stI_n1,stI_last,Int.toNat_natCast,yes])
      all_goals try exact nd
      refine ⟨⟨i+1,u,v+1,(out++[(i:Int)]).set j (i:Int),st,by omega,by simp [ho],stW (stQ hs),by simp only [List.length_cons] at h4;omega,hF⟩,by simp only;omega,?_⟩
      refine (le_cut 5 (by simp only [go_sem];rfl) rfl).trans ?_
      try simp only [go_sem,stI_take,stI_tk]
      first|exact lf|(refine Le.frameS (by first|rfl|(simp only [go_sem];try rfl)) ?_;repeat' (first|exact leF_top _|exact (fun _=>LeR.refl _)|(with_reducible refine leF_sl ?_ ?_)|(refine leF_upd ?_ ?_)))<;>(first|exact LeR.top _|exact LeR.refl _|(refine LeR.of_eq ?_;(try simp only [go_sem]);try rfl)|((try simp only [go_sem]);try rfl))
    ·rw [if_neg (by omega),if_neg (by omega),if_neg (by omega)] at hF
     have k1:(k==10)=false:=by simpa using hk.1
     have k2:(k==11)=false:=by simpa using hk.2.1
     have k3:(k==12)=false:=by simpa using hk.2.2.1
     have k4:(k==13)=false:=by simpa using hk.2.2.2
     with_reducible repeat' first|(refine nx ?_;intros)|refine t_br (fun hc=>?_) fun hc=>?_|apply And.intro|intro vr|(refine ny ?_;intros;simp only [go_sem,kp55,geff,g3,hx,k1,k2,k3,k4,hst,hol,Int.toNat_natCast,yes])
     all_goals try exact nd
     exact ⟨⟨i+1,u,v,out++[(i:Int)],st,by omega,by simp [ho],fun j hj=>by have:=hs j hj;omega,h4,hF⟩,wf,lf⟩
   ·have g3:decide ((i:Int)<(ops.length:Int))=false:=decide_eq_false (by omega)
    rw [List.drop_eq_nil_of_le hc] at hF
    have hz:out++zs (ops.length - i)=out:=by rw [show ops.length - i=0 by omega];simp [zs]
    cases st with
    |nil=>
     with_reducible repeat' first|(refine nx ?_;intros)|refine t_br (fun hc=>?_) fun hc=>?_|apply And.intro|intro vr|(refine ny ?_;intros;simp only [go_sem,kp55,geff,g3,hz,stI_length,List.length_nil,yes])
     all_goals try exact nd
     all_goals (refine nl ?_;simp only [go_sem])
     exact mt_some (by rw [←hF];rfl)
    |cons j st=>
     have k5:decide (((j::st).length:Int)>0)=true:=decide_eq_true (by simp only [List.length_cons];omega)
     with_reducible repeat' first|(refine nx ?_;intros)|refine t_br (fun hc=>?_) fun hc=>?_|apply And.intro|intro vr|(refine ny ?_;intros;simp only [go_sem,kp55,geff,g3,hz,stI_length,k5,yes])
     all_goals try exact nd
     all_goals (refine nl ?_;simp only [go_sem])
     exact mt_none (by rw [←hF];rfl)
noncomputable def con55:PCon Tryz.prog where
  f:=55
  c:=fun
   |[xx]=>match opsOf xx with|some x=>some ((x.length≤1000000),matchV x)|_=>none
   |_=>none
  ok:=by
   intro args p r hc hp
   split at hc
   ·split at hc
    ·rename_i hx
     cases hc
     exact PC.weak (rmatch_pc hp) ⟨opsOf_le hx,trivial⟩
    ·cases hc
   ·cases hc
  fk:=fk55
theorem con55_f:con55.f=55:=rfl
theorem con55_c {xx:AV}:con55.c [xx]=match opsOf xx with|some x=>some ((x.length≤1000000),matchV x)|_=>none:=rfl
attribute [go_sem] con55_f con55_c
end Go.Proofs.YtnlimcijgpaegaaGreat

namespace Go.Proofs.YtnlimcijgpaegaaGreat
open Go Go.Fw
set_option maxRecDepth 20000
theorem le_nil {n0:Nat} {f:Nat→AV} {σ:List AObj} (i e sz:Nat) (h:f i= .lit (.slice none 0 0)):Le n0 ⟨f,σ⟩ ⟨upd f i (.arr σ.length 0),σ++[.arr e sz [] 0 false]⟩:=by
  intro cx G w N a _ hr hf
  obtain ⟨G',h1,h2,h3⟩:=Rel.newEmpty hr e sz none
  refine ⟨G',h2,hf.size,hf.defers,fun j=>?_⟩
  have hj:R G' (f j) (a.tmps.getD j undef):=(hf.rel j).mono h1
  simp only [upd]
  split
  ·rename_i e;subst e;rw [h] at hj;rw [hj.lit_inv];exact h3
  ·exact hj
theorem getD_mem {α:Type} {l:List α} {i:Nat} (z:α) (h:i<l.length):l.getD i z∈l:=by
  rw [List.getD_eq_getElem?_getD,List.getElem?_eq_getElem h];exact List.getElem_mem _
end Go.Proofs.YtnlimcijgpaegaaGreat

namespace Go.Proofs.YtnlimcijgpaegaaGreat
open Go Go.Fw
set_option maxRecDepth 20000
theorem dself {α:Type} [DecidableEq α] (a:α):decide (a=a)=true:=decide_eq_true rfl
end Go.Proofs.YtnlimcijgpaegaaGreat

namespace Go.Proofs.YtnlimcijgpaegaaGreat
open Go Go.Fw
set_option maxRecDepth 20000
end Go.Proofs.YtnlimcijgpaegaaGreat

namespace Go.Proofs.YtnlimcijgpaegaaGreat
open Go Go.Fw
set_option maxRecDepth 20000
def eqA (a b:Arr):Bool:=eqS a.e b.e&&(decide (a.d=b.d)&&decide (a.x=b.x))
theorem eqA_refl (a:Arr):eqA a a=true:=by unfold eqA;rw [eqS_refl,dself,dself];rfl
noncomputable def E21:Env:=envOf (P:=Tryz.prog) zer (fun _=>false) (fun _=>false) [con17] []
theorem E21_ok:EnvOk Tryz.prog E21:=envOk zer_ok
set_option maxRecDepth 20000 in
set_option maxHeartbeats 1000000 in
theorem eqa_pc {a b:Arr} (ha:okA a):PC Tryz.prog 53 [arrV a,arrV b] (.lit (.bool (eqA a b))):=by
  have ha1:=ha.1
  have ha2:=ha.2
  unfold eqA
  by_cases h1:eqS a.e b.e=true
  ·by_cases h2:a.d=b.d
   ·have d2:decide (a.d=b.d)=true:=decide_eq_true h2
    rw [h1,d2]
    refine pcO E21_ok (fun _=>[2,3,4]) Tryz.func53 (h:=fun KF=>?_)
    unfold E21
    with_reducible repeat' first|(refine nx ?_;intros)|apply And.intro|intro vr|(refine ny ?_;intros;simp only [go_sem,geff,con17_f,con17_c,arrV_def,slK_sl,h1,d2])
    all_goals try exact om
    refine end_ret rfl ?_
    simp only [fin,go_sem]
    exact LeA.refl _
   ·have d2:decide (a.d=b.d)=false:=decide_eq_false h2
    rw [h1,d2]
    refine pcO E21_ok (fun _=>[2,3,4]) Tryz.func53 (h:=fun KF=>?_)
    unfold E21
    with_reducible repeat' first|(refine nx ?_;intros)|apply And.intro|intro vr|(refine ny ?_;intros;simp only [go_sem,geff,con17_f,con17_c,arrV_def,slK_sl,h1,d2])
    all_goals try exact om
    refine end_ret rfl ?_
    simp only [fin,go_sem]
    exact LeA.refl _
  ·have h1':eqS a.e b.e=false:=by simpa using h1
   rw [h1']
   refine pcO E21_ok (fun _=>[2,3,4]) Tryz.func53 (h:=fun KF=>?_)
   unfold E21
   with_reducible repeat' first|(refine nx ?_;intros)|apply And.intro|intro vr|(refine ny ?_;intros;simp only [go_sem,geff,con17_f,con17_c,arrV_def,slK_sl,h1'])
   all_goals try exact om
   refine end_ret rfl ?_
   simp only [fin,go_sem]
   exact LeA.refl _
noncomputable def con53:PCon Tryz.prog where
  f:=53
  c:=fun
   |[xa,xb]=>match arrOf xa,arrOf xb with|some a,some b=>some (okA a,.lit (.bool (eqA a b)))|_,_=>none
   |_=>none
  ok:=by
   intro args p r hc hp
   split at hc
   ·split at hc
    ·rename_i ha hb
     cases hc
     exact PC.weak (eqa_pc hp) ⟨arrOf_le ha,arrOf_le hb,trivial⟩
    ·cases hc
   ·cases hc
  fk:=fk53
theorem con53_f:con53.f=53:=rfl
theorem con53_c {xa:AV} {xb:AV}:con53.c [xa,xb]=match arrOf xa,arrOf xb with|some a,some b=>some (okA a,.lit (.bool (eqA a b)))|_,_=>none:=rfl
end Go.Proofs.YtnlimcijgpaegaaGreat

namespace Go.Proofs.YtnlimcijgpaegaaGreat
open Go Go.Fw Bm
set_option maxRecDepth 20000
abbrev oVa11_0:List (Nat×Nat):=[(0,1),(1,1),(2,1),(4,1),(5,1),(3,0),(6,0),(7,1)]
attribute [go_sem] oVa11_0
def bcV (B:Prg):AV:= .agg [.lit (.int .i64 B.regs),.lit (.int .i64 B.arena),.sl false 6 (opsV B.ops),.sl false 2 (plsV B.ins),.sl false 2 (plsV B.outs),.sl false 3 (arrs B.types)]
theorem bcV_mk {r a:Int} {o:List Ins} {i u:List (Int×Int)} {t:List Arr}:bcV ⟨r,a,o,i,u,t⟩= .agg [.lit (.int .i64 r),.lit (.int .i64 a),.sl false 6 (opsV o),.sl false 2 (plsV i),.sl false 2 (plsV u),.sl false 3 (arrs t)]:=rfl
def bcOf:AV→Option Prg
  |.agg [.lit (.int .i64 r),.lit (.int .i64 a),o,i,u,t]=>match opsOf o,plsOf i,plsOf u,arrsOf t with
   |some o,some i,some u,some t=>some ⟨r,a,o,i,u,t⟩
   |_,_,_,_=>none
  |_=>none
theorem bcOf_agg {r a:Int} {o i u t:AV}:bcOf (.agg [.lit (.int .i64 r),.lit (.int .i64 a),o,i,u,t])=match opsOf o,plsOf i,plsOf u,arrsOf t with
    |some o,some i,some u,some t=>some ⟨r,a,o,i,u,t⟩
    |_,_,_,_=>none:=rfl
theorem bcOf_le {x:AV} {B:Prg} (h:bcOf x=some B):LeA x (bcV B):=by
  unfold bcOf at h
  split at h
  ·split at h
   ·rename_i h1 h2 h3 h4
    cases h
    exact LeA.agg ⟨LeA.refl _,LeA.refl _,opsOf_le h1,plsOf_le h2,plsOf_le h3,arrsOf_le h4,trivial⟩
   ·cases h
  ·cases h
structure OkB (B:Prg):Prop where
  ops:B.ops.length≤1000000
  ins:B.ins.length≤1000000
  outs:B.outs.length≤1000000
  types:B.types.length≤1000000
  dims:∀ t∈B.types,okA t
noncomputable def V11:Env:=envJ (P:=Tryz.prog) jkV zer (fun _=>false) (fun _=>false) [con55,con152,con62,con90] []
theorem V11_ok:EnvOk Tryz.prog V11:=envJOk zer_ok
attribute [go_sem] con55_f con55_c con62_f con62_c con90_f con90_c opsOf_sl plsOf_sl arrsOf_sl slK_sl szV_def arrOf_agg
def typdB (t:Arr):Bool:=((sizeS t.d).2==0)&&(eqS t.e sInt||eqS t.e sBool)&&((t.x.length:Int)==0)
theorem typeOk_eq (arena:Int) (t:Arr) (p:Int×Int):typeOk arena t p=(typdB t&&(p.2==(sizeS t.d).1)&& !decide (p.1<0)&& !decide (p.1>arena - (sizeS t.d).1)):=by
  rw [Bool.eq_iff_iff];simp [typeOk,typdB]
  intros;exact and_comm
set_option maxHeartbeats 4000000 in
theorem typed_pc {t:Arr} (h:okA t):PC Tryz.prog 36 [arrV t] (.tup [.lit (.int .i64 (sizeS t.d).1),.lit (.bool (typdB t))]):=by
  obtain ⟨h1,h2⟩:=h
  simp only [arrV]
  refine pcR V11_ok (kp36) Tryz.func36 [.tmp 2,.tmp 3] (h:=fun KF=>?_)
  unfold V11
  with_reducible repeat' first|(refine nx ?_;intros)|apply And.intro|intro vr|((first|refine ny ?_|refine t_dwh (h:=fun K KL=>?_));intros;simp only [go_sem,kp36,geff])
  all_goals try exact nd
  all_goals (refine nl ?_;simp only [go_sem])
  refine LeA.of_eq ?_
  simp only [typdB,sInt,sBool]
  try rfl
noncomputable def con36:PCon Tryz.prog where
  f:=36
  c:=fun
   |[xt]=>match arrOf xt with|some t=>some (okA t,.tup [.lit (.int .i64 (sizeS t.d).1),.lit (.bool (typdB t))])|_=>none
   |_=>none
  ok:=by
   intro args p r hc hp
   split at hc
   ·split at hc
    ·rename_i ht
     cases hc
     exact PC.weak (typed_pc hp) ⟨arrOf_le ht,trivial⟩
    ·cases hc
   ·cases hc
  fk:=fk36
theorem con36_f:con36.f=36:=rfl
theorem con36_c {xt:AV}:con36.c [xt]=match arrOf xt with|some t=>some (okA t,.tup [.lit (.int .i64 (sizeS t.d).1),.lit (.bool (typdB t))])|_=>none:=rfl
def formedB (ops:List Ins) (regs:Int):Bool:=ops.all (fun x=>rightS x regs)&&(matchS ops).isSome
theorem matchV_eq (ops:List Ins):∃ l,matchV ops= .tup [.sl false 1 (ints .i64 l),.lit (.bool (matchS ops).isSome)]:=by
  unfold matchV
  cases matchS ops with
  |none=>exact ⟨[],rfl⟩
  |some l=>exact ⟨l,rfl⟩
theorem all_dropI {p:Ins→Bool} {l:List Ins} {i:Nat} (h:i<l.length):(l.drop i).all p=(p (l.getD i nilI)&&(l.drop (i+1)).all p):=by rw [drop_getI h];rfl
set_option maxHeartbeats 4000000 in
theorem formed_pc {ops:List Ins} {regs:Int} (h:ops.length≤1000000):PC Tryz.prog 134 [.sl false 6 (opsV ops),.lit (.int .i64 regs)] (.lit (.bool (formedB ops regs))):=by
  generalize hR:formedB ops regs=R
  unfold formedB at hR
  obtain ⟨ml,hm⟩:=matchV_eq ops
  refine pcR V11_ok (kp134) Tryz.func134 [.tmp 4] (h:=fun KF=>?_)
  unfold V11
  with_reducible repeat' first|(refine nx ?_;intros)|apply And.intro|intro vr|(refine ny ?_;intros;simp only [go_sem,kp134,geff])
  all_goals try exact nd
  refine t_loopF (ι:={i:Nat // i≤ops.length∧((ops.drop i).all (fun x=>rightS x regs)&&(matchS ops).isSome)=R}) (fun i=>[(5,.lit (.int .i64 i.1))]) (fun i=>[]) (fun i=>ops.length - i.1) ⟨0,by omega,hR⟩ ?_ ?_
  ·exact lf
  rintro ⟨i,hi,hF⟩ K0
  rcases Nat.lt_or_ge i ops.length with hc|hc
  ·have g3:decide ((i:Int)<(ops.length:Int))=true:=decide_eq_true (by omega)
   rw [all_dropI hc] at hF
   generalize hx:ops.getD i nilI=x at hF
   cases hr:rightS x regs with
   |true=>
    rw [hr,Bool.true_and] at hF
    obtain ⟨k,p,a,b,c,d⟩:=x
    with_reducible repeat' first|(refine nx ?_;intros)|apply And.intro|intro vr|(refine ny ?_;intros;simp only [go_sem,kp134,geff,g3,hx,hr,Int.toNat_natCast,yes,Bool.not_true])
    all_goals try exact nd
    exact ⟨⟨i+1,by omega,hF⟩,wf,lf⟩
   |false=>
    rw [hr,Bool.false_and,Bool.false_and] at hF
    obtain ⟨k,p,a,b,c,d⟩:=x
    with_reducible repeat' first|(refine nx ?_;intros)|apply And.intro|intro vr|(refine ny ?_;intros;simp only [go_sem,kp134,geff,g3,hx,hr,Int.toNat_natCast,yes,Bool.not_false])
    all_goals try exact nd
    all_goals (refine nl ?_;simp only [go_sem])
    exact LeA.of_eq (by rw [←hF])
  ·have g3:decide ((i:Int)<(ops.length:Int))=false:=decide_eq_false (by omega)
   rw [List.drop_eq_nil_of_le hc] at hF
   with_reducible repeat' first|(refine nx ?_;intros)|apply And.intro|intro vr|(refine ny ?_;intros;simp only [go_sem,kp134,geff,g3,hm])
   all_goals try exact nd
   all_goals (refine nl ?_;simp only [go_sem])
   exact LeA.of_eq (by rw [←hF];rfl)
noncomputable def con134:PCon Tryz.prog where
  f:=134
  c:=fun
   |[xo,.lit (.int .i64 r)]=>match opsOf xo with|some o=>some (o.length≤1000000,.lit (.bool (formedB o r)))|_=>none
   |_=>none
  ok:=by
   intro args p r hc hp
   split at hc
   ·split at hc
    ·rename_i ho
     cases hc
     exact PC.weak (formed_pc hp) ⟨opsOf_le ho,LeA.refl _,trivial⟩
    ·cases hc
   ·cases hc
  fk:=fk134
theorem con134_f:con134.f=134:=rfl
theorem con134_c {xo:AV} {r:Int}:con134.c [xo,.lit (.int .i64 r)]=match opsOf xo with|some o=>some (o.length≤1000000,.lit (.bool (formedB o r)))|_=>none:=rfl
attribute [go_sem] con36_f con36_c con134_f con134_c
theorem plsV_app (a b:List (Int×Int)):plsV a++plsV b=plsV (a++b):=by simp [plsV]
set_option maxHeartbeats 4000000 in
theorem places_pc {B:Prg} (h:OkB B):PC Tryz.prog 135 [bcV B] (.sl false 2 (plsV (B.ins++B.outs))):=by
  obtain ⟨r,a,o,i,u,t⟩:=B
  have h1:=h.ins
  have h2:=h.outs
  simp only at h1 h2
  simp only [bcV_mk]
  refine pcR V11_ok (kp135) Tryz.func135 [.tmp 2] (h:=fun KF=>?_)
  unfold V11
  repeat' first|(with_reducible first|(refine nx ?_;intros)|apply And.intro|intro vr)|exact kpd|((with_reducible first|refine ny ?_|refine t_kLF ?_ ?_|refine t_dO 1 (fun i=>i==0) oVa11_0 fun K=>?_);intros;simp only [go_sem,kp135,geff,plsV_app])
  all_goals try exact nd
  all_goals (refine nl ?_;simp only [go_sem])
  exact LeA.refl _
end Go.Proofs.YtnlimcijgpaegaaGreat

namespace Go.Fw
open Go
variable {P:Program}
theorem le_dropM {n0:Nat} {f:Nat→AV} {l m:List AObj} (hn:n0≤l.length) (hb:l.all (lowO l.length)=true) (hf:∀ j,low1 l.length (f j)=true):Le n0 ⟨f,l++m⟩ ⟨f,l⟩:=by
  intro cx G w N a h0 hr hfr
  have get:∀ {o:Nat} {x:AObj},l[o]? =some x→(l++m)[o]? =some x:=fun {o x} h=>by
    rw [List.getElem?_append_left (List.getElem?_eq_some_iff.1 h).1];exact h
  refine ⟨{G with n:=l.length},⟨rfl,?_,?_,?_,hr.cell,hr.os,hr.tape,hr.output,hr.size,hr.block,hr.old,?_⟩,hfr.size,hfr.defers,fun j=>low1_R (hfr.rel j) (hf j)⟩
  ·intro o x ho
   have hk:=hr.ok o x (get ho)
   cases x with
   |gone=>trivial
   |box t cs=>
    have hm:lowO l.length (.box t cs)=true:=by
      rw [List.all_eq_true] at hb
      exact hb _ (List.mem_of_getElem? ho)
    obtain ⟨g,cur,h1,h2,h3,h4,h5⟩:=hk
    simp only [lowO,List.all_eq_true] at hm
    exact ⟨g,cur,h1,h2,h3,fun i hi=>⟨low1_R (h4 i hi).1 (hm _ (getD_mem' hi)),(h4 i hi).2⟩,h5⟩
   |arr e sz xs ver fz=>
    obtain ⟨h1,h2,h3⟩:=hk
    refine ⟨h1,h2,?_⟩
    cases fz with
    |true=>exact h3
    |false=>
     simp only [Bool.false_eq_true,if_false] at h3 ⊢
     rcases h3 with h3|⟨g,cap,cur,h3⟩
     ·exact .inl h3
     ·exact .inr ⟨g,cap,cur,h3.keep (CLe.refl _) rfl h3.unc⟩
   |map es=>
    obtain ⟨g,ents,clock,h1,h2⟩:=hk
    exact ⟨g,ents,clock,h1,h2.keep (CLe.refl _) rfl h2.unc⟩
  ·intro o1 o2 ob1 ob2 g h1 h2 h3 h4 h5 h6
   exact hr.inj o1 o2 ob1 ob2 g (get h1) h2 (get h3) h4 h5 h6
  ·intro o x g h1 h2 h3
   exact hr.own o x g (get h1) h2 h3
  ·have h:=hr.le0
   exact ⟨h.C,by show cx.G0.n≤l.length;omega,h.ver,h.b,h.p⟩
theorem le_backM {n0:Nat} {f g:Nat→AV} {σ l m:List AObj} (e:σ=l++m) (hn:n0≤l.length) (hb:l.all (lowO l.length)=true) (hg:∀ j,low1 l.length (g j)=true) (h:∀ j,LeR (f j) (g j)):Le n0 ⟨f,σ⟩ ⟨g,l⟩:=by
  subst e
  exact (Le.frame h).trans (le_dropM hn hb hg)
end Go.Fw

namespace Go.Proofs.YtnlimcijgpaegaaGreat
open Go Go.Fw Bm
set_option maxRecDepth 20000
noncomputable def con135:PCon Tryz.prog where
  f:=135
  c:=fun
   |[xB]=>match bcOf xB with|some B=>some (OkB B,.sl false 2 (plsV (B.ins++B.outs)))|_=>none
   |_=>none
  ok:=by
   intro args p r hc hp
   split at hc
   ·split at hc
    ·rename_i hB
     cases hc
     exact PC.weak (places_pc hp) ⟨bcOf_le hB,trivial⟩
    ·cases hc
   ·cases hc
  fk:=fk135
theorem con135_f:con135.f=135:=rfl
theorem con135_c {xB:AV}:con135.c [xB]=match bcOf xB with|some B=>some (OkB B,.sl false 2 (plsV (B.ins++B.outs)))|_=>none:=rfl
theorem bcOf_mk {r a:Int} {o:List Ins} {i u:List (Int×Int)} {t:List Arr}:bcOf (.agg [.lit (.int .i64 r),.lit (.int .i64 a),.sl false 6 (opsV o),.sl false 2 (plsV i),.sl false 2 (plsV u),.sl false 3 (arrs t)])=some ⟨r,a,o,i,u,t⟩:=by
  rw [bcOf_agg,opsOf_sl,plsOf_sl,plsOf_sl,arrsOf_sl]
attribute [go_sem] arrs_length con135_f con135_c bcOf_mk
noncomputable def V12:Env:=envJ (P:=Tryz.prog) jkV zer (fun _=>false) (fun _=>false) [con134,con135,con90] []
theorem V12_ok:EnvOk Tryz.prog V12:=envJOk zer_ok
def headB (B:Prg):Bool:=decide (B.regs<0)||decide (B.regs>200)||decide (B.arena<0)||decide (B.arena>1048576)|| !formedB B.ops B.regs||((B.types.length:Int) !=(B.ins.length:Int)+(B.outs.length:Int))
theorem valid_eq (B:Prg):validS B=(!headB B&&typesOk B.arena B.types (B.ins++B.outs)):=by
  rw [Bool.eq_iff_iff];simp only [validS,headB,formedB,maxA,Bool.and_eq_true,Bool.not_eq_true',Bool.or_eq_false_iff,decide_eq_true_eq,decide_eq_false_iff_not,bne_eq_false_iff_eq,Bool.not_eq_false']
  constructor
  ·rintro ⟨⟨⟨⟨⟨h1,h2⟩,h3⟩,h4⟩,h5⟩,h6⟩;have h2:=of_decide_eq_true h2;exact ⟨⟨⟨⟨⟨⟨by omega,by omega⟩,by omega⟩,by omega⟩,h4,h5⟩,by omega⟩,h6⟩
  ·rintro ⟨⟨⟨⟨⟨⟨h1,h2⟩,h3⟩,h3'⟩,h4,h5⟩,h⟩,h6⟩;exact ⟨⟨⟨⟨⟨by omega,decide_eq_true (by omega)⟩,by omega⟩,h4⟩,h5⟩,h6⟩
theorem drop_getP {l:List (Int×Int)} {i:Nat} (h:i<l.length):l.drop i=l.getD i (0,0)::l.drop (i+1):=drop_getD _ h
theorem rtypedB {t:Arr}:(!eqS t.e ⟨#[105,110,116]⟩&& !eqS t.e ⟨#[98,111,111,108]⟩||((sizeS t.d).2 !=0)||((t.x.length:Int) !=0))= !typdB t:=by
  simp only [typdB,sInt,sBool,bne]
  cases eqS t.e ⟨#[105,110,116]⟩<;>cases eqS t.e ⟨#[98,111,111,108]⟩<;>cases ((sizeS t.d).2==0)<;>cases ((t.x.length:Int)==0)<;>rfl
set_option maxHeartbeats 8000000 in
theorem rbvalid_pc {B:Prg} (h:OkB B):PC Tryz.prog 93 [bcV B] (.lit (.bool (validS B))):=by
  rw [valid_eq]
  have hT:=h.types;have hD:=h.dims;have hI:=h.ins;have hU:=h.outs;have hO:=h.ops
  obtain ⟨r,a,o,ii,u,t⟩:=B
  simp only at hT hD hI hU hO
  generalize hR:(!headB ⟨r,a,o,ii,u,t⟩&&typesOk a t (ii++u))=R
  simp only [headB] at hR
  simp only [bcV_mk]
  refine pcR V12_ok (kp93) Tryz.func93 [.tmp 2] (h:=fun KF=>?_)
  unfold V12
  with_reducible repeat' first|(refine nx ?_;intros)|refine t_br (fun hc=>?_) fun hc=>?_|apply And.intro|intro vr|(refine ny ?_;intros;simp only [go_sem,kp93,geff])
  all_goals try exact nd
  ·skip
   all_goals (refine nl ?_;simp only [go_sem])
   refine LeA.of_eq ?_
   rw [←hR]
   simp_all
   intro k1 k2 k3 k4 k5 k6
   exfalso
   rw [k5] at hc
   simp only [Bool.true_eq_false,or_false] at hc
   omega
  have hH:headB ⟨r,a,o,ii,u,t⟩=false:=by simp only [headB];simp_all
  have hRT:typesOk a t (ii++u)=R:=by rw [←hR];simp only [headB] at hH;rw [hH];rfl
  have hla:0≤a∧a≤1048576:=by simp only [headB,Bool.or_eq_false_iff,decide_eq_false_iff_not] at hH;omega
  have hlt:t.length=ii.length+u.length:=by simp only [headB,Bool.or_eq_false_iff,bne_eq_false_iff_eq] at hH;omega
  clear hR hH hc
  refine t_loopF (ι:={j:Nat // j≤t.length∧typesOk a (t.drop j) ((ii++u).drop j)=R}) (fun i=>[(3,.lit (.int .i64 i.1))]) (fun i=>[.box 26 [.lit (.int .i64 r),.lit (.int .i64 a),.sl false 6 (opsV o),.sl false 2 (plsV ii),.sl false 2 (plsV u),.sl false 3 (arrs t)]]) (fun i=>t.length - i.1) ⟨0,by omega,hRT⟩ ?_ ?_
  ·exact lf
  rintro ⟨j,hj,hF⟩ K0
  rcases Nat.lt_or_ge j t.length with hc|hc
  ·have g3:decide ((j:Int)<(t.length:Int))=true:=decide_eq_true (by omega)
   have hpl:j<(ii++u).length:=by rw [List.length_append];omega
   rw [drop_getD nilA hc,drop_getP hpl,typesOk,typeOk_eq] at hF
   have hm:okA (t.getD j nilA):=hD _ (getD_mem nilA hc)
   generalize hp:(ii++u).getD j (0,0)=p at hF
   generalize hy:t.getD j nilA=y at hF hm
   obtain ⟨po,ps⟩:=p
   have hbd:=sizeS_bd y.d
   have hdl:=hm.1
   obtain ⟨e,d,x⟩:=y
   have hrt:=rtypedB (t:=⟨e,d,x⟩)
   simp only at hF hbd hdl hrt
   have hpy:arrV ⟨e,d,x⟩= .agg [.lit (.string e),.sl false 1 (ints .i64 d),.sl false 1 (ints .i64 x)]:=rfl
   have hpp:plV (po,ps)= .agg [.lit (.int .i64 po),.lit (.int .i64 ps)]:=rfl
   with_reducible repeat' first|(refine nx ?_;intros)|refine t_br (fun hc=>?_) fun hc=>?_|apply And.intro|intro vr|(refine ny ?_;intros;simp only [go_sem,kp93,geff,g3,hy,hpy,hp,hpp,hrt,Int.toNat_natCast,yes])
   all_goals try exact nd
   ·skip
    all_goals (refine nl ?_;simp only [go_sem])
    refine LeA.of_eq ?_
    rw [←hF]
    simp only [Bool.not_eq_true'] at hc
    rw [hc];rfl
   ·skip
    all_goals (refine nl ?_;simp only [go_sem])
    refine LeA.of_eq ?_
    rw [←hF]
    simp_all
    try (intros;exfalso;omega)
   ·skip
    have hF':typesOk a (t.drop (j+1)) ((ii++u).drop (j+1))=R:=by rw [←hF];simp_all
    refine ⟨⟨j+1,by omega,hF'⟩,by first|(simp only;omega)|omega,?_⟩
    try simp only [updL_nil,updL_cons,delF_top,delF_upd,Nat.reduceEqDiff,reduceIte]
    refine le_backM (by first|rfl|(simp only [go_sem];try rfl)) (by first|exact Nat.zero_le _|simp) (by first|rfl|simp [lowO,low_lit,low_sl,low_ref,low_arr,low_sub,low_mp]) ?_ ?_
    ·repeat' (first|exact low_top|(refine low_upd rfl ?_))
    exact lq
  ·have g3:decide ((j:Int)<(t.length:Int))=false:=decide_eq_false (by omega)
   rw [List.drop_eq_nil_of_le hc] at hF
   with_reducible repeat' first|(refine nx ?_;intros)|refine t_br (fun hc=>?_) fun hc=>?_|apply And.intro|intro vr|(refine ny ?_;intros;simp only [go_sem,kp93,geff,g3])
   all_goals try exact nd
   all_goals (refine nl ?_;simp only [go_sem])
   exact LeA.of_eq (by rw [←hF];rfl)
end Go.Proofs.YtnlimcijgpaegaaGreat

namespace Go.Proofs.YtnlimcijgpaegaaGreat
open Go Go.Fw Bm
set_option maxRecDepth 20000
noncomputable def V13:Env:=envJ (P:=Tryz.prog) jkV zer (fun _=>false) (fun _=>false) [con34] []
theorem V13_ok:EnvOk Tryz.prog V13:=envJOk zer_ok
theorem notr_ec {r:Int} {c1 c2 c3 c4 c5:AV} {x:Ins} {k:AV→List AObj→Prop} (hk:k (.lit (.bool (!rightS x r))) [.box 26 [.lit (.int .i64 r),c1,c2,c3,c4,c5]]):
    EC Tryz.prog 33 [opV x,.ref 0 0] [.box 26 [.lit (.int .i64 r),c1,c2,c3,c4,c5]] k:=by
  refine ec_fin fun hbd=>?_
  obtain ⟨q,p,a,b,c,d⟩:=x
  simp only [opV]
  refine ecR V13_ok (kp33) Tryz.func33 [.tmp 3] (h:=fun KF=>?_)
  unfold V13
  with_reducible repeat' first|(refine nx ?_;intros)|apply And.intro|intro vr|(refine ny ?_;intros;simp only [go_sem,kp33,geff,yes])
  all_goals try exact nd
  all_goals (refine nl ?_;simp only [go_sem,finE])
  exact ⟨_,_,rfl,LeA.refl _,hbd,hk⟩
noncomputable def ecn33:ECon Tryz.prog where
  f:=33
  c:=fun args σ k=>match args,σ with
   |[x,.ref 0 0],[.box 26 [.lit (.int .i64 r),c1,c2,c3,c4,c5]]=>match opOf x with
    |some x=>k (.lit (.bool (!rightS x r))) [.box 26 [.lit (.int .i64 r),c1,c2,c3,c4,c5]]
    |none=>False
   |_,_=>False
  ok:=by
   intro args σ k h
   split at h
   ·split at h
    ·rename_i hx
     rw [opOf_inv hx]
     exact notr_ec h
    ·exact h.elim
   ·exact h.elim
  fk:=fk33
theorem ecn33_f:ecn33.f=33:=rfl
theorem ecn33_c {x c1 c2 c3 c4 c5:AV} {r:Int} {k:AV→List AObj→Prop}:ecn33.c [x,.ref 0 0] [.box 26 [.lit (.int .i64 r),c1,c2,c3,c4,c5]] k=match opOf x with
      |some x=>k (.lit (.bool (!rightS x r))) [.box 26 [.lit (.int .i64 r),c1,c2,c3,c4,c5]]
      |none=>False:=rfl
attribute [go_sem] ecn33_f ecn33_c
noncomputable def W13:Env:=envJ (P:=Tryz.prog) jkV zer (fun _=>false) (fun _=>false) [] [ecn33]
theorem W13_ok:EnvOk Tryz.prog W13:=envJOk zer_ok
def idxI (p:Ins→Bool):List Ins→Int→Int
  |[],_=> -1
  |d::t,i=>if p d=true then i else idxI p t (i+1)
theorem idxI_any (p:Ins→Bool):∀ (l:List Ins) (i:Int),0≤i→decide (idxI p l i≥0)=l.any p
  |[],_,_=>rfl
  |d::t,i,hi=>by
   unfold idxI
   by_cases h:p d=true
   ·rw [if_pos h,List.any_cons,h,decide_eq_true hi];rfl
   ·rw [if_neg h,idxI_any p t (i+1) (by omega),List.any_cons]
    simp only [Bool.not_eq_true] at h
    rw [h];rfl
def notR (r:Int) (x:Ins):Bool:= !rightS x r
theorem idxi_ec {l:List Ins} {r:Int} {c1 c2 c3 c4 c5:AV} {k:AV→List AObj→Prop} (hl:l.length≤1000000)
    (hk:k (.lit (.int .i64 (idxI (notR r) l 0))) [.box 26 [.lit (.int .i64 r),c1,c2,c3,c4,c5]]):
    EC Tryz.prog 57 [.sl false 6 (opsV l),.fn (.func 33) [] [.ref 0 0]] [.box 26 [.lit (.int .i64 r),c1,c2,c3,c4,c5]] k:=by
  generalize hR:idxI (notR r) l 0=R at hk
  refine ecR W13_ok (kp57) Tryz.func57 [.tmp 4] (h:=fun KF=>?_)
  unfold W13
  with_reducible repeat' first|(refine nx ?_;intros)|apply And.intro|intro vr|(refine ny ?_;intros;simp only [go_sem,kp57,geff])
  all_goals try exact nd
  refine t_loopF (ι:={i:Nat // i≤l.length∧idxI (notR r) (l.drop i) i=R}) (fun i=>[(8,.lit (.int .i64 i.1))]) (fun i=>[.box 26 [.lit (.int .i64 r),c1,c2,c3,c4,c5]]) (fun i=>l.length - i.1) ⟨0,by omega,hR⟩ ?_ ?_
  ·exact lf
  rintro ⟨i,hi,hF⟩ K0
  rcases Nat.lt_or_ge i l.length with hc|hc
  ·rw [drop_getI hc,idxI] at hF
   have g3:decide ((i:Int)<(l.length:Int))=true:=decide_eq_true (by omega)
   generalize hx:l.getD i nilI=x at hF
   cases h4:rightS x r with
   |true=>
    rw [if_neg (by unfold notR;rw [h4];decide)] at hF
    obtain ⟨q,p,a,b,c,d⟩:=x
    with_reducible repeat' first|(refine nx ?_;intros)|apply And.intro|intro vr|(refine ny ?_;intros;simp only [go_sem,kp57,geff,g3,hx,h4,Int.toNat_natCast,Bool.not_true,yes])
    all_goals try exact nd
    exact ⟨⟨i+1,by omega,by rw [←hF];congr 1⟩,wf,lf⟩
   |false=>
    rw [if_pos (by unfold notR;rw [h4];decide)] at hF
    obtain ⟨q,p,a,b,c,d⟩:=x
    with_reducible repeat' first|(refine nx ?_;intros)|apply And.intro|intro vr|(refine ny ?_;intros;simp only [go_sem,kp57,geff,g3,hx,h4,Int.toNat_natCast,Bool.not_false,yes])
    all_goals try exact nd
    all_goals (refine nl ?_;simp only [go_sem])
    rw [hF];exact hk
  ·have g3:decide ((i:Int)<(l.length:Int))=false:=decide_eq_false (by omega)
   rw [List.drop_eq_nil_of_le (by omega),idxI] at hF
   with_reducible repeat' first|(refine nx ?_;intros)|apply And.intro|intro vr|(refine ny ?_;intros;simp only [go_sem,kp57,geff,g3,Int.toNat_natCast])
   all_goals try exact nd
   all_goals (refine nl ?_;simp only [go_sem])
   rw [hF];exact hk
noncomputable def ecn57:ECon Tryz.prog where
  f:=57
  c:=fun args σ k=>match args,σ with
   |[x,.fn (.func 33) [] [.ref 0 0]],[.box 26 [.lit (.int .i64 r),c1,c2,c3,c4,c5]]=>match opsOf x with
    |some x=>x.length≤1000000∧k (.lit (.int .i64 (idxI (notR r) x 0))) [.box 26 [.lit (.int .i64 r),c1,c2,c3,c4,c5]]
    |none=>False
   |_,_=>False
  ok:=by
   intro args σ k h
   split at h
   ·split at h
    ·rename_i hx
     exact EC.weak (idxi_ec h.1 h.2) (LeRL.cons (opsOf_leR hx) (LeRL.cons (LeR.refl _) LeRL.nil))
    ·exact h.elim
   ·exact h.elim
  fk:=fk57
theorem ecn57_f:ecn57.f=57:=rfl
theorem ecn57_c {x c1 c2 c3 c4 c5:AV} {r:Int} {k:AV→List AObj→Prop}:ecn57.c [x,.fn (.func 33) [] [.ref 0 0]] [.box 26 [.lit (.int .i64 r),c1,c2,c3,c4,c5]] k=match opsOf x with
      |some x=>x.length≤1000000∧k (.lit (.int .i64 (idxI (notR r) x 0))) [.box 26 [.lit (.int .i64 r),c1,c2,c3,c4,c5]]
      |none=>False:=rfl
attribute [go_sem] ecn57_f ecn57_c
noncomputable def X13:Env:=envJ (P:=Tryz.prog) jkV zer (fun _=>false) (fun _=>false) [] [ecn57]
theorem X13_ok:EnvOk Tryz.prog X13:=envJOk zer_ok
theorem anyi_ec {l:List Ins} {r:Int} {c1 c2 c3 c4 c5:AV} {k:AV→List AObj→Prop} (hl:l.length≤1000000)
    (hk:k (.lit (.bool (l.any (notR r)))) [.box 26 [.lit (.int .i64 r),c1,c2,c3,c4,c5]]):
    EC Tryz.prog 32 [.sl false 6 (opsV l),.fn (.func 33) [] [.ref 0 0]] [.box 26 [.lit (.int .i64 r),c1,c2,c3,c4,c5]] k:=by
  rw [←idxI_any (notR r) l 0 (by omega)] at hk
  refine ecR X13_ok (kp32) Tryz.func32 [.tmp 4] (h:=fun KF=>?_)
  unfold X13
  with_reducible repeat' first|(refine nx ?_;intros)|apply And.intro|intro vr|(refine ny ?_;intros;simp only [go_sem,kp32,geff])
  all_goals try exact nd
  all_goals (refine nl ?_;simp only [go_sem])
  exact hk
noncomputable def ecn32:ECon Tryz.prog where
  f:=32
  c:=fun args σ k=>match args,σ with
   |[x,.fn (.func 33) [] [.ref 0 0]],[.box 26 [.lit (.int .i64 r),c1,c2,c3,c4,c5]]=>match opsOf x with
    |some x=>x.length≤1000000∧k (.lit (.bool (x.any (notR r)))) [.box 26 [.lit (.int .i64 r),c1,c2,c3,c4,c5]]
    |none=>False
   |_,_=>False
  ok:=by
   intro args σ k h
   split at h
   ·split at h
    ·rename_i hx
     exact EC.weak (anyi_ec h.1 h.2) (LeRL.cons (opsOf_leR hx) (LeRL.cons (LeR.refl _) LeRL.nil))
    ·exact h.elim
   ·exact h.elim
  fk:=fk32
theorem ecn32_f:ecn32.f=32:=rfl
theorem ecn32_c {x c1 c2 c3 c4 c5:AV} {r:Int} {k:AV→List AObj→Prop}:ecn32.c [x,.fn (.func 33) [] [.ref 0 0]] [.box 26 [.lit (.int .i64 r),c1,c2,c3,c4,c5]] k=match opsOf x with
      |some x=>x.length≤1000000∧k (.lit (.bool (x.any (notR r)))) [.box 26 [.lit (.int .i64 r),c1,c2,c3,c4,c5]]
      |none=>False:=rfl
attribute [go_sem] ecn32_f ecn32_c
end Go.Proofs.YtnlimcijgpaegaaGreat

set_option linter.unusedVariables false
namespace Go.Proofs
open Go.RowKit
set_option maxHeartbeats 2000000 in
set_option maxRecDepth 100000 in
theorem Tryz.growP_run (n:Nat) (h0:0<n) (h63:n≤1000000) (w:World):
    Calls Tryz.prog 61 #[.slice none 0 0,.int .i64 n] w fun e w'=>e= .returned (.slice (some ⟨w.heap.size,0,none⟩) 0 (grownCap w n 0 73))∧∃ cur,cur.size=grownCap w n 0 73*2∧w'=w.drew.alloc (.cells cur 73):=by
  obtain ⟨i0,hi,hz0,hz1,hz2⟩:=info_parts (show (Tryz.prog.info? 73).map (fun i=>(i.zero,i.size,i.bytes))=some (some (.agg #[.int .i64 0,.int .i64 0]),2,16) from by kernel_rfl)
  have h:=Lib.run_append_nil_zeros (P:=Tryz.prog) w 23 3 23 73 i0 (.agg #[.int .i64 0,.int .i64 0]) .i64 .i64 Tryz.underlying23 Tryz.underlying3 hi hz0 n h0 (by omega) (by omega) (by rw [hz2];omega)
  go_enter Tryz.func61,Tryz.ntmps61
  go_wp2_with (at_builtin;refine Lib.wpList_append_run _ rfl _ _ _ _ rfl _ _ rfl rfl _ _ h ?_)
  go_ret
  exact ⟨rfl,_,by have:=grownCap_ge w n 0 73;simp [size_zeroCells];omega,rfl⟩
set_option maxHeartbeats 2000000 in
set_option maxRecDepth 100000 in
theorem Tryz.growP_zero (w:World):Calls Tryz.prog 61 #[.slice none 0 0,.int .i64 0] w fun e w'=>e= .returned (.slice none 0 0)∧w'=w:=by
  go_enter Tryz.func61,Tryz.ntmps61
  go_wp2
  go_ret
  exact ⟨rfl,rfl⟩
namespace YtnlimcijgpaegaaGreat
open Go.Fw
theorem growP_ec {n:Nat} (h0:0<n) (hn:n≤1000000) {σ:List AObj} {k:AV→List AObj→Prop} (hk:k (.arr σ.length 0) (σ++[.arr 73 2 [] 0 false])):EC Tryz.prog 61 [.lit (.slice none 0 0),.lit (.int .i64 n)] σ k:=by
  intro cx G w vs hr hl
  obtain ⟨h1,h2⟩:=hl
  match vs,h1 with
  |[a,b],_=>
   have ha:=(show R G (.lit (.slice none 0 0)) a from h2 0 (by simp)).lit_inv
   have hb:=(show R G (.lit (.int .i64 n)) b from h2 1 (by simp)).lit_inv
   subst ha;subst hb
   refine (Tryz.growP_run n h0 hn w).mono ?_
   rintro e w' ⟨rfl,cur,hc,rfl⟩
   have hge:=grownCap_ge w n 0 73
   obtain ⟨G',g1,g2,g3⟩:=(hr.more (More.drawn w (w.drawn+1))).newArr 73 2 (xs:=[]) (cur:=cur) (cap:=grownCap w n 0 73) (fz:=(0,0)) ⟨by simp,by simp,by simp⟩ (by omega) (by simp) (grownCap_le_maxLen w n 0 73 (by unfold maxLen;omega)) (by omega) ⟨Nat.le_refl _,fun off _ h=>by simp at h⟩
   exact ⟨_,G',_,_,rfl,g1,g2,g3,hk⟩
theorem growP_ec0 {σ:List AObj} {k:AV→List AObj→Prop} (hk:k (.lit (.slice none 0 0)) σ):EC Tryz.prog 61 [.lit (.slice none 0 0),.lit (.int .i64 0)] σ k:=by
  intro cx G w vs hr hl
  obtain ⟨h1,h2⟩:=hl
  match vs,h1 with
  |[a,b],_=>
   have ha:=(show R G (.lit (.slice none 0 0)) a from h2 0 (by simp)).lit_inv
   have hb:=(show R G (.lit (.int .i64 0)) b from h2 1 (by simp)).lit_inv
   subst ha;subst hb
   refine (Tryz.growP_zero w).mono ?_
   rintro e w' ⟨rfl,rfl⟩
   exact ⟨_,G,_,_,rfl,Gh.le.refl G,hr,.clo _ _ (.lit _),hk⟩
end YtnlimcijgpaegaaGreat
end Go.Proofs

namespace Go.Proofs.YtnlimcijgpaegaaGreat
open Go Go.Fw Bm
set_option maxRecDepth 20000
def pss (L:List (List (Int×Int))):List AV:=L.map fun l=> .sl false 2 (plsV l)
def jPs:AV:= .sl false 2 (plsV [])
def jkC:TypeId→AV:=fun t=>if t=23 then jPs else jkV t
theorem jkC_23:jkC 23=jPs:=rfl
theorem pss_length (L:List (List (Int×Int))):(pss L).length=L.length:=by simp [pss]
theorem pss_getJ (L:List (List (Int×Int))) (i:Nat):(pss L).getD i jPs= .sl false 2 (plsV (L.getD i [])):=by
  simp only [pss,jPs,List.getD_eq_getElem?_getD,List.getElem?_map];cases L[i]? <;>rfl
attribute [go_sem] jkC_23 pss_length pss_getJ
noncomputable def ecn61:ECon Tryz.prog where
  f:=61
  c:=fun args σ k=>match args with
   |[.lit (.slice none 0 0),.lit (.int .i64 n)]=>0≤n∧n≤1000000∧(n=0→k (.lit (.slice none 0 0)) σ)∧(n≠0→k (.arr σ.length 0) (σ++[.arr 73 2 [] 0 false]))
   |_=>False
  ok:=by
   intro args σ k h
   split at h
   ·rename_i n
    obtain ⟨m,rfl⟩:∃ m:Nat,n=m:=⟨n.toNat,by omega⟩
    rcases Nat.eq_zero_or_pos m with rfl|hm
    ·exact growP_ec0 (h.2.2.1 rfl)
    ·exact growP_ec hm (by omega) (h.2.2.2 (by omega))
   ·exact h.elim
  fk:=fk61
theorem ecn61_f:ecn61.f=61:=rfl
theorem ecn61_c {n:Int} {σ:List AObj} {k:AV→List AObj→Prop}:ecn61.c [.lit (.slice none 0 0),.lit (.int .i64 n)] σ k=(0≤n∧n≤1000000∧(n=0→k (.lit (.slice none 0 0)) σ)∧(n≠0→k (.arr σ.length 0) (σ++[.arr 73 2 [] 0 false]))):=rfl
attribute [go_sem] ecn61_f ecn61_c
noncomputable def V14:Env:=envJ (P:=Tryz.prog) jkC zer (fun _=>false) (fun _=>false) [] [ecn61]
theorem V14_ok:EnvOk Tryz.prog V14:=envJOk zer_ok
theorem flat_take {L:List (List (Int×Int))} {i:Nat} (h:i<L.length):(L.take (i+1)).flatten=(L.take i).flatten++L.getD i []:=by
  rw [List.take_add_one,List.getElem?_eq_getElem h,List.getD_eq_getElem?_getD,List.getElem?_eq_getElem h,List.flatten_append];simp
theorem flat_le (L:List (List (Int×Int))) (i:Nat):(L.take i).flatten.length≤L.flatten.length:=by
  have h:L.flatten=(L.take i).flatten++(L.drop i).flatten:=by rw [←List.flatten_append,List.take_append_drop]
  rw [h,List.length_append];omega
set_option maxHeartbeats 4000000 in
theorem concat_pc {L:List (List (Int×Int))} (hl:L.flatten.length≤1000000) (hL:L.length≤1000000):PC Tryz.prog 35 [.sl false 1 (pss L)] (.sl false 2 (plsV L.flatten)):=by
  refine pcR V14_ok (kp35) Tryz.func35 [.tmp 2] (h:=fun KF=>?_)
  unfold V14
  with_reducible repeat' first|(refine nx ?_;intros)|apply And.intro|intro vr|(refine ny ?_;intros;simp only [go_sem,kp35,geff])
  all_goals try exact nd
  refine t_loopF (ι:={i:Nat // i≤L.length}) (fun i=>[(11,.lit (.int .i64 i.1)),(3,.lit (.int .i64 (L.take i.1).flatten.length))]) (fun i=>[]) (fun i=>L.length - i.1) ⟨0,by omega⟩ ?_ ?_
  ·exact lf
  rintro ⟨i,hi⟩ K0
  rcases Nat.lt_or_ge i L.length with hc|hc
  ·have g3:decide ((i:Int)<(L.length:Int))=true:=decide_eq_true (by omega)
   have hf:=flat_take hc
   have hle:=flat_le L (i+1)
   have hlen:=congrArg List.length hf
   rw [List.length_append] at hlen
   have g8:((L.take i).flatten.length:Int)+((L.getD i []).length:Int)=((L.take (i+1)).flatten.length:Nat):=by omega
   have g9:decide ((((L.take (i+1)).flatten.length:Nat):Int)<0)=false:=decide_eq_false (by omega)
   with_reducible repeat' first|(refine nx ?_;intros)|apply And.intro|intro vr|(refine ny ?_;intros;simp only [go_sem,kp35,geff,updL_cons,updL_nil,Int.toNat_natCast,g3,g8,g9])
   all_goals try exact nd
   exact ⟨⟨i+1,by omega⟩,wf,lf⟩
  ·have g3:decide ((i:Int)<(L.length:Int))=false:=decide_eq_false (by omega)
   have e:L.take i=L:=List.take_of_length_le hc
   have z0:L.take 0=[]:=List.take_zero
   rcases Nat.eq_zero_or_pos L.flatten.length with ht|ht
   ·have g4:((L.flatten.length:Nat):Int)=0:=by omega
    with_reducible repeat' first|(refine nx ?_;intros)|apply And.intro|intro vr|(refine ny ?_;intros;simp only [go_sem,kp35,geff,updL_cons,updL_nil,Int.toNat_natCast,g3,e,g4,true_imp_iff,ne_eq,not_true_eq_false,false_imp_iff])
    all_goals try exact nd
    refine t_loopF (ι:={p:Nat×Nat // p.1≤L.length}) (fun i=>[(27,.lit (.int .i64 i.1.1)),(6,.arr 0 i.1.2)]) (fun i=>[.arr 73 2 (plsV (L.take i.1.1).flatten) i.1.2 false]) (fun i=>L.length - i.1.1) ⟨(0,0),by simp⟩ ?_ ?_
    ·refine (le_nil 6 73 2 rfl).trans ?_
     exact lf
    rintro ⟨⟨i,ver⟩,hi⟩ K1
    simp only at hi
    rcases Nat.lt_or_ge i L.length with hc|hc
    ·have g3:decide ((i:Int)<(L.length:Int))=true:=decide_eq_true (by omega)
     have hf:=flat_take hc
     have hle:=flat_le L (i+1)
     have hlen:=congrArg List.length hf
     rw [List.length_append] at hlen
     with_reducible repeat' first|(refine nx ?_;intros)|apply And.intro|intro vr|(refine ny ?_;intros;simp only [go_sem,kp35,geff,updL_cons,updL_nil,Int.toNat_natCast,g3,plsV_app,←hf])
     all_goals try (first|(with_reducible assumption)|(intros;(try simp only [Bool.and_eq_true,Bool.or_eq_true,Bool.or_eq_false_iff,Bool.not_eq_true',Bool.not_eq_false',decide_eq_true_eq,decide_eq_false_iff_not,beq_iff_eq,beq_eq_false_iff_ne,bne_iff_ne,bne_eq_false_iff_eq,ne_eq,inI64,plsV_length] at*)<;>omega)|(intros;(with_reducible first|refine impB_ofR ?_|refine and_ofB ?_ ?_)<;>with_reducible first|assumption|(refine impB_ofR ?_;assumption))|((try simp only [Bool.and_eq_true] at vr);simp only [impB,vr,Bool.or_true,Bool.true_or,Bool.and_self,Bool.not_true,Bool.not_false,Bool.and_true];done))
     exact ⟨⟨(i+1,ver+1),by simp only;omega⟩,wf,lf⟩
    ·have g3:decide ((i:Int)<(L.length:Int))=false:=decide_eq_false (by omega)
     have e:L.take i=L:=List.take_of_length_le hc
     with_reducible repeat' first|(refine nx ?_;intros)|apply And.intro|intro vr|(refine ny ?_;intros;simp only [go_sem,kp35,geff,updL_cons,updL_nil,Int.toNat_natCast,g3,e])
     all_goals try exact nd
     all_goals (refine nl ?_;simp only [go_sem])
     exact LeA.refl _
   ·have g4:(((L.flatten.length:Nat):Int)=0)=False:=eq_false (by omega)
    with_reducible repeat' first|(refine nx ?_;intros)|apply And.intro|intro vr|(refine ny ?_;intros;simp only [go_sem,kp35,geff,updL_cons,updL_nil,Int.toNat_natCast,g3,e,g4,true_imp_iff,ne_eq,not_false_eq_true,false_imp_iff])
    all_goals try exact nd
    refine t_loopF (ι:={p:Nat×Nat // p.1≤L.length}) (fun i=>[(27,.lit (.int .i64 i.1.1)),(6,.arr 0 i.1.2)]) (fun i=>[.arr 73 2 (plsV (L.take i.1.1).flatten) i.1.2 false]) (fun i=>L.length - i.1.1) ⟨(0,0),by simp⟩ ?_ ?_
    ·exact lf
    rintro ⟨⟨i,ver⟩,hi⟩ K1
    simp only at hi
    rcases Nat.lt_or_ge i L.length with hc|hc
    ·have g3:decide ((i:Int)<(L.length:Int))=true:=decide_eq_true (by omega)
     have hf:=flat_take hc
     have hle:=flat_le L (i+1)
     have hlen:=congrArg List.length hf
     rw [List.length_append] at hlen
     with_reducible repeat' first|(refine nx ?_;intros)|apply And.intro|intro vr|(refine ny ?_;intros;simp only [go_sem,kp35,geff,updL_cons,updL_nil,Int.toNat_natCast,g3,plsV_app,←hf])
     all_goals try (first|(with_reducible assumption)|(intros;(try simp only [Bool.and_eq_true,Bool.or_eq_true,Bool.or_eq_false_iff,Bool.not_eq_true',Bool.not_eq_false',decide_eq_true_eq,decide_eq_false_iff_not,beq_iff_eq,beq_eq_false_iff_ne,bne_iff_ne,bne_eq_false_iff_eq,ne_eq,inI64,plsV_length] at*)<;>omega)|(intros;(with_reducible first|refine impB_ofR ?_|refine and_ofB ?_ ?_)<;>with_reducible first|assumption|(refine impB_ofR ?_;assumption))|((try simp only [Bool.and_eq_true] at vr);simp only [impB,vr,Bool.or_true,Bool.true_or,Bool.and_self,Bool.not_true,Bool.not_false,Bool.and_true];done))
     exact ⟨⟨(i+1,ver+1),by simp only;omega⟩,wf,lf⟩
    ·have g3:decide ((i:Int)<(L.length:Int))=false:=decide_eq_false (by omega)
     have e:L.take i=L:=List.take_of_length_le hc
     with_reducible repeat' first|(refine nx ?_;intros)|apply And.intro|intro vr|(refine ny ?_;intros;simp only [go_sem,kp35,geff,updL_cons,updL_nil,Int.toNat_natCast,g3,e])
     all_goals try exact nd
     all_goals (refine nl ?_;simp only [go_sem])
     exact LeA.refl _
end Go.Proofs.YtnlimcijgpaegaaGreat

namespace Go.Proofs.YtnlimcijgpaegaaGreat
open Go Go.Fw Bm
set_option maxRecDepth 20000
noncomputable def con31:PCon Tryz.prog where
  f:=31
  c:=fun
   |[xx]=>match opsOf xx with|some x=>some ((x.length≤1000000),matchV x)|_=>none
   |_=>none
  ok:=by
   intro args p r hc hp
   split at hc
   ·split at hc
    ·rename_i hx
     cases hc
     exact PC.weak (match_pc hp) ⟨opsOf_le hx,trivial⟩
    ·cases hc
   ·cases hc
  fk:=fk31
theorem con31_f:con31.f=31:=rfl
theorem con31_c {xx:AV}:con31.c [xx]=match opsOf xx with|some x=>some ((x.length≤1000000),matchV x)|_=>none:=rfl
attribute [go_sem] con31_f con31_c
theorem concat2_pc {a b:List (Int×Int)} {b1 b2 b3:Bool} (h:a.length≤100000∧b.length≤100000):PC Tryz.prog 35 [.sl b1 1 [.sl b2 2 (plsV a),.sl b3 2 (plsV b)]] (.sl false 2 (plsV (a++b))):=by
  have:=concat_pc (L:=[a,b]) (by simp;omega) (by simp)
  rw [show [a,b].flatten=a++b by simp] at this
  refine PC.weak this ⟨LeA.sl rfl (by intro y hy;simp [pss] at hy;rcases hy with rfl|rfl<;>rfl) ⟨LeA.full _ _ _,LeA.full _ _ _,trivial⟩,trivial⟩
noncomputable def con35:PCon Tryz.prog where
  f:=35
  c:=fun
   |[.sl _ 1 [.sl _ 2 x,.sl _ 2 y]]=>match plL x,plL y with
    |some a,some b=>some (a.length≤100000∧b.length≤100000,.sl false 2 (plsV (a++b)))
    |_,_=>none
   |_=>none
  ok:=by
   intro args p r hc hp
   split at hc
   ·split at hc
    ·rename_i hx hy
     cases hc
     rw [plL_inv hx,plL_inv hy]
     exact concat2_pc hp
    ·cases hc
   ·cases hc
  fk:=fk35
theorem con35_f:con35.f=35:=rfl
theorem con35_c {b1 b2 b3:Bool} {x y:List AV}:con35.c [.sl b1 1 [.sl b2 2 x,.sl b3 2 y]]=match plL x,plL y with
      |some a,some b=>some (a.length≤100000∧b.length≤100000,.sl false 2 (plsV (a++b)))
      |_,_=>none:=rfl
attribute [go_sem] con35_f con35_c plL_pls
noncomputable def V15:Env:=envJ (P:=Tryz.prog) jkV zer (fun _=>false) (fun t=>t==52) [con31,con35,con36] [ecn32]
theorem V15_ok:EnvOk Tryz.prog V15:=envJOk zer_ok
theorem any_all {l:List Ins} {r:Int}:l.any (notR r)= !(l.all fun x=>rightS x r):=by
  induction l with
  |nil=>rfl
  |cons x l ih=>simp only [List.any_cons,List.all_cons,ih,notR,Bool.not_and]
set_option maxHeartbeats 8000000 in
theorem bvalid_pc {B:Prg} (h:OkB B) (hi:B.ins.length≤100000∧B.outs.length≤100000):PC Tryz.prog 20 [bcV B] (.lit (.bool (validS B))):=by
  rw [valid_eq]
  have hT:=h.types;have hD:=h.dims;have hO:=h.ops
  obtain ⟨r,a,o,ii,u,t⟩:=B
  simp only at hT hD hO hi
  obtain ⟨ml,hml⟩:=matchV_eq o
  generalize hR:(!headB ⟨r,a,o,ii,u,t⟩&&typesOk a t (ii++u))=R
  simp only [headB,formedB] at hR
  simp only [bcV_mk]
  refine pcR V15_ok (kp20) Tryz.func20 [.tmp 2] (h:=fun KF=>?_)
  unfold V15
  cases hm:(matchS o).isSome with
  |false=>
   rw [hm] at hR
   repeat' (first
    |(with_reducible first|refine nx ?_|refine t_seq fun K=>?_|refine t_bx ?_|apply And.intro|intro vr)
    |((with_reducible refine t_cond fun A B=>?_);simp only [go_sem,kp20,geff_true,geff_false,hml,any_all,hm];first|(with_reducible refine A.h ?_)|(with_reducible refine B.h ?_)|(refine And.intro (fun hc=>A.h ?_) (fun hc=>B.h ?_)))
    |((with_reducible first|refine ny ?_|refine t_dwh (h:=fun K KL=>?_));intros;simp only [go_sem,kp20,geff_true,geff_false,hml,any_all,hm])
    |((with_reducible refine t_geffS (fun hg=>?_) (fun hg=>?_))<;>((try simp only [Bool.not_eq_true',Bool.not_eq_false',Bool.and_eq_true,Bool.or_eq_false_iff] at hg);simp only [hg,go_sem,kp20,geff_true,geff_false,hml,any_all,hm])))
   all_goals try exact nd
   all_goals
     all_goals (refine nl ?_;simp only [go_sem])
     refine LeA.of_eq ?_
     rw [←hR]
     simp
  |true=>
  rw [hm] at hR
  cases hA:(o.all fun x=>rightS x r) with
  |false=>
   rw [hA] at hR
   repeat' (first
    |(with_reducible first|refine nx ?_|refine t_seq fun K=>?_|refine t_bx ?_|apply And.intro|intro vr)
    |((with_reducible refine t_cond fun A B=>?_);simp only [go_sem,kp20,geff_true,geff_false,hml,any_all,hm,hA];first|(with_reducible refine A.h ?_)|(with_reducible refine B.h ?_)|(refine And.intro (fun hc=>A.h ?_) (fun hc=>B.h ?_)))
    |((with_reducible first|refine ny ?_|refine t_dwh (h:=fun K KL=>?_));intros;simp only [go_sem,kp20,geff_true,geff_false,hml,any_all,hm,hA])
    |((with_reducible refine t_geffS (fun hg=>?_) (fun hg=>?_))<;>((try simp only [Bool.not_eq_true',Bool.not_eq_false',Bool.and_eq_true,Bool.or_eq_false_iff] at hg);simp only [hg,go_sem,kp20,geff_true,geff_false,hml,any_all,hm,hA])))
   all_goals try exact nd
   all_goals
     all_goals (refine nl ?_;simp only [go_sem])
     refine LeA.of_eq ?_
     rw [←hR]
     simp
  |true=>
  rw [hA] at hR
  repeat' (first
   |(with_reducible first|refine nx ?_|refine t_seq fun K=>?_|refine t_bx ?_|apply And.intro|intro vr)
   |((with_reducible refine t_cond fun A B=>?_);simp only [go_sem,kp20,geff_true,geff_false,hml,any_all,hm,hA];first|(with_reducible refine A.h ?_)|(with_reducible refine B.h ?_)|(refine And.intro (fun hc=>A.h ?_) (fun hc=>B.h ?_)))
   |((with_reducible first|refine ny ?_|refine t_dwh (h:=fun K KL=>?_));intros;simp only [go_sem,kp20,geff_true,geff_false,hml,any_all,hm,hA])
   |((with_reducible refine t_geffS (fun hg=>?_) (fun hg=>?_))<;>((try simp only [Bool.not_eq_true',Bool.not_eq_false',Bool.and_eq_true,Bool.or_eq_false_iff] at hg);simp only [hg,go_sem,kp20,geff_true,geff_false,hml,any_all,hm,hA])))
  all_goals try exact nd
  ·skip
   all_goals (refine nl ?_;simp only [go_sem])
   refine LeA.of_eq ?_
   rw [←hR]
   simp_all
   intro k1 k2 k3 k4 k5
   exfalso
   omega
  have hH:headB ⟨r,a,o,ii,u,t⟩=false:=by simp only [headB,formedB,hA,hm];simp_all
  have hRT:typesOk a t (ii++u)=R:=by rw [←hR];simp only [headB,formedB,hA,hm] at hH;rw [hH];rfl
  have hla:0≤a∧a≤1048576:=by simp only [headB,Bool.or_eq_false_iff,decide_eq_false_iff_not] at hH;omega
  have hlt:t.length=ii.length+u.length:=by simp only [headB,Bool.or_eq_false_iff,bne_eq_false_iff_eq] at hH;omega
  clear hR hH hc
  refine t_loopF (ι:={j:Nat // j≤t.length∧typesOk a (t.drop j) ((ii++u).drop j)=R}) (fun i=>[(61,.lit (.int .i64 i.1))]) (fun i=>[.box 26 [.lit (.int .i64 r),.lit (.int .i64 a),.sl false 6 (opsV o),.sl false 2 (plsV ii),.sl false 2 (plsV u),.sl false 3 (arrs t)]]) (fun i=>t.length - i.1) ⟨0,by omega,hRT⟩ ?_ ?_
  ·exact lf
  rintro ⟨j,hj,hF⟩ K0
  have hcl:(ii++u).length=t.length:=by rw [List.length_append];omega
  rcases Nat.lt_or_ge j t.length with hc|hc
  ·have g3:decide ((j:Int)<(t.length:Int))=true:=decide_eq_true (by omega)
   have hpl:j<(ii++u).length:=by rw [List.length_append];omega
   rw [drop_getD nilA hc,drop_getP hpl,typesOk,typeOk_eq] at hF
   have hm:okA (t.getD j nilA):=hD _ (getD_mem nilA hc)
   generalize hp:(ii++u).getD j (0,0)=p at hF
   generalize hy:t.getD j nilA=y at hF hm
   obtain ⟨po,ps⟩:=p
   have hbd:=sizeS_bd y.d
   obtain ⟨e,d,x⟩:=y
   simp only at hF hbd
   have hpy:arrV ⟨e,d,x⟩= .agg [.lit (.string e),.sl false 1 (ints .i64 d),.sl false 1 (ints .i64 x)]:=rfl
   have hpp:plV (po,ps)= .agg [.lit (.int .i64 po),.lit (.int .i64 ps)]:=rfl
   with_reducible repeat' first|(refine nx ?_;intros)|refine t_br (fun hc=>?_) fun hc=>?_|apply And.intro|intro vr|(refine ny ?_;intros;simp only [go_sem,kp20,geff,g3,hcl,hy,hpy,hp,hpp,Int.toNat_natCast,yes])
   all_goals try exact nd
   ·skip
    all_goals (refine nl ?_;simp only [go_sem])
    refine LeA.of_eq ?_
    rw [←hF]
    revert hc
    simp only [bne]
    cases typdB ⟨e,d,x⟩<;>cases (ps==(sizeS d).1)<;>cases decide (po<0)<;>cases decide (po>a - (sizeS d).1)<;>simp
   ·skip
    have hF':typesOk a (t.drop (j+1)) ((ii++u).drop (j+1))=R:=by rw [←hF];simp_all
    refine ⟨⟨j+1,by omega,hF'⟩,by first|(simp only;omega)|omega,?_⟩
    try simp only [updL_nil,updL_cons,delF_top,delF_upd,Nat.reduceEqDiff,reduceIte]
    refine le_backM (by first|rfl|(simp only [go_sem];try rfl)) (by first|exact Nat.zero_le _|simp) (by first|rfl|simp [lowO,low_lit,low_sl,low_ref,low_arr,low_sub,low_mp]) ?_ ?_
    ·repeat' (first|exact low_top|(refine low_upd rfl ?_))
    exact lq
  ·have g3:decide ((j:Int)<(t.length:Int))=false:=decide_eq_false (by omega)
   rw [List.drop_eq_nil_of_le hc] at hF
   with_reducible repeat' first|(refine nx ?_;intros)|refine t_br (fun hc=>?_) fun hc=>?_|apply And.intro|intro vr|(refine ny ?_;intros;simp only [go_sem,kp20,geff,g3,hcl])
   all_goals try exact nd
   all_goals (refine nl ?_;simp only [go_sem])
   exact LeA.of_eq (by rw [←hF];rfl)
end Go.Proofs.YtnlimcijgpaegaaGreat

namespace Go.Proofs.YtnlimcijgpaegaaGreat
open Go Go.Fw Bm
set_option maxRecDepth 20000
def rgV (r:Rng):AV:= .agg [.lit (.int .i64 r.lo),.lit (.int .i64 r.hi)]
theorem rgV_mk {a b:Int}:rgV ⟨a,b⟩= .agg [.lit (.int .i64 a),.lit (.int .i64 b)]:=rfl
theorem rgV_def {r:Rng}:rgV r= .agg [.lit (.int .i64 r.lo),.lit (.int .i64 r.hi)]:=rfl
def rgsV (l:List Rng):List AV:=l.map rgV
theorem rgsV_length (l:List Rng):(rgsV l).length=l.length:=by simp [rgsV]
def jR:AV:=rgV nilR
theorem rgsV_getJ (l:List Rng) (i:Nat):(rgsV l).getD i jR=rgV (l.getD i nilR):=by
  simp only [rgsV,jR,List.getD_eq_getElem?_getD,List.getElem?_map];cases l[i]? <;>rfl
def rngOf:AV→Option Rng
  |.agg [.lit (.int .i64 a),.lit (.int .i64 b)]=>some ⟨a,b⟩
  |_=>none
theorem rngOf_agg {a b:Int}:rngOf (.agg [.lit (.int .i64 a),.lit (.int .i64 b)])=some ⟨a,b⟩:=rfl
theorem rngOf_V {r:Rng}:rngOf (rgV r)=some r:=rfl
theorem rngOf_inv {x:AV} {s:Rng} (h:rngOf x=some s):x=rgV s:=by
  unfold rngOf at h
  split at h
  ·cases h;rfl
  ·cases h
def rngL:List AV→Option (List Rng)
  |[]=>some []
  |x::xs=>match rngOf x,rngL xs with
   |some s,some l=>some (s::l)
   |_,_=>none
theorem rngL_rgs:∀ l:List Rng,rngL (rgsV l)=some l
  |[]=>rfl
  |s::l=>by
   show rngL (rgV s::rgsV l)=_
   rw [rngL,rngOf_V,rngL_rgs l]
theorem rngL_inv:∀ {xs:List AV} {l:List Rng},rngL xs=some l→xs=rgsV l
  |[],l,h=>by cases h;rfl
  |x::xs,l,h=>by
   unfold rngL at h
   split at h
   ·rename_i s l' h1 h2
    cases h
    rw [rngOf_inv h1,rngL_inv h2];rfl
   ·cases h
def rngsOf (x:AV):Option (List Rng):=(slA 2 x).bind rngL
theorem rngsOf_le {x:AV} {l:List Rng} (h:rngsOf x=some l):LeA x (.sl false 2 (rgsV l)):=slA_le (by
  unfold rngsOf at h
  cases hx:slA 2 x with
  |none=>rw [hx] at h;cases h
  |some xs=>rw [hx] at h;rw [←rngL_inv h])
theorem rngsOf_sl {b:Bool} {l:List Rng}:rngsOf (.sl b 2 (rgsV l))=some l:=by simp [rngsOf,slA,rngL_rgs]
theorem rngsOf_nil:rngsOf (.lit (.slice none 0 0))=some []:=rfl
def jkR:TypeId→AV:=fun t=>if t=89 then jR else if t=180 then jR else jkC t
theorem jkR_89:jkR 89=jR:=rfl
theorem jkR_180:jkR 180=jR:=rfl
theorem jkR_56:jkR 56=jOp:=rfl
theorem jkR_73:jkR 73=jPl:=rfl
theorem jkR_23:jkR 23=jPs:=rfl
theorem jkR_3:jkR 3= .lit (.int .i64 0):=rfl
theorem jkR_9:jkR 9= .lit (.string ByteArray.empty):=rfl
theorem jkR_34:jkR 34=jI:=rfl
theorem jkR_45:jkR 45=jA:=rfl
attribute [go_sem] jkR_89 jkR_180 jkR_56 jkR_73 jkR_23 jkR_3 jkR_9 jkR_34 jkR_45 rgsV_getJ rgsV_length rngOf_V rngOf_agg rngsOf_sl rngsOf_nil
theorem intsR_V:rgV intsR= .agg [.lit (.int .i64 (-2147483648)),.lit (.int .i64 2147483647)]:=rfl
theorem machR_V:rgV machR= .agg [.lit (.int .i64 (-1099511627776)),.lit (.int .i64 1099511627776)]:=rfl
attribute [go_sem] intsR_V machR_V rgV_mk
end Go.Proofs.YtnlimcijgpaegaaGreat

namespace Go.Proofs.YtnlimcijgpaegaaGreat
open Go Go.Fw Bm
set_option maxRecDepth 20000
attribute [go_sem] rgV_def
section
end
end Go.Proofs.YtnlimcijgpaegaaGreat

namespace Go.Fw
open Go
variable {P:Program} {E:Env} {keep:Nat→List Nat} {n0:Nat}
theorem low1_bd {n:Nat} {x:AV} (h:low1 n x=true):Bd n x:=fun _ _ _ hr=>low1_R hr h
theorem bds_low {n:Nat} {σ:List AObj} (h:σ.all (lowO n)=true):BdS n σ:=by
  intro o t cs ho i hi
  rw [List.all_eq_true] at h
  have:=h _ (List.mem_of_getElem? ho)
  simp only [lowO,List.all_eq_true] at this
  exact low1_bd (this _ (getD_mem' hi))
theorem le_dropB {f:Nat→AV} {l m:List AObj} (hn:n0≤l.length) (hb:BdS l.length l) (hf:∀ j,low1 l.length (f j)=true):Le n0 ⟨f,l++m⟩ ⟨f,l⟩:=by
  intro cx G w N a h0 hr hfr
  have hlen:l.length≤(l++m).length:=by simp
  have e:(l++m).take l.length=l:=by simp
  have h1:=hr.trunc hlen (by omega) (by rw [e];exact hb)
  rw [e] at h1
  exact ⟨{G with n:=l.length},h1,hfr.size,hfr.defers,fun j=>low1_R (hfr.rel j) (hf j)⟩
theorem le_backB {f g:Nat→AV} {σ l m:List AObj} (e:σ=l++m) (hn:n0≤l.length) (hb:BdS l.length l) (hg:∀ j,low1 l.length (g j)=true) (h:∀ j,LeR (f j) (g j)):Le n0 ⟨f,σ⟩ ⟨g,l⟩:=by
  subst e
  exact (Le.frame h).trans (le_dropB hn hb hg)
theorem BdS.same {n:Nat} {σ τ:List AObj} (h:BdS n σ) (hs:∀ (o:Nat) (t:TypeId) (cs:List AV),τ[o]? =some (AObj.box t cs)→σ[o]? =some (AObj.box t cs)):BdS n τ:=
  fun o t cs ho=>h o t cs (hs o t cs ho)
section
variable {D:Nat→Bool} {ds:List (Option Tmp)} {K:AS→Prop} {f:Nat→AV} {σ σ':List AObj} {n:Nat} {x:AV} {d:Option Tmp}
theorem a4_nil:all4 P E D ds n f σ K []=True:=rfl
theorem a4_cons {i:Nat} {op:Op} {ty:TypeId} {pos:String} {af:Array Edge} {r:List (Nat×Oper)} {l:List ((Nat×Oper)×List (Nat×Oper))}:
    all4 P E D ds n f σ K (((i,⟨d,op,ty,pos,af,none⟩),r)::l)=(avop P E (aev f) σ ⟨d,op,ty,pos,af,none⟩ (kPE P E D ds n r K d f σ)∧all4 P E D ds n f σ K l):=rfl
theorem pk_nil {α:Type}:picks ([]:List α)=[]:=rfl
theorem pk_cons {α:Type} {a:α} {l:List α}:picks (a::l)=(a,l)::(picks l).map fun p=>(p.1,a::p.2):=rfl
instance {s:AS} {g:List (Nat×Oper)}:Ny (perm4 P E D ds 0 g K s) (K s):=⟨fun h=>h⟩
instance {g:List (Nat×Oper)}:Ny (perm4 P E D ds (n+1) g K ⟨f,σ⟩) (all4 P E D ds n f σ K (picks g)):=⟨t_p4⟩
end
attribute [go_sem] a4_nil a4_cons pk_nil pk_cons lp_some
theorem lg {G:Prop} (h:G:=by
  try simp only [updL_nil,updL_cons,delF_top,delF_upd,Nat.reduceEqDiff,reduceIte]
  refine Le.frameS (by first|rfl|(simp only [go_sem];try rfl)) ?_
  repeat' (first|exact leF_top _|exact (fun _=>LeR.refl _)|(with_reducible refine leF_sl ?_ ?_)|(refine leF_upd ?_ ?_))
  all_goals (first|exact LeR.top _|exact LeR.refl _|(refine LeR.of_eq ?_;(try simp only [go_sem]);try rfl)|((try simp only [go_sem]);try rfl))):G:=h
def sw (n o:Nat):Nat:=if o=n then n+1 else if o=n+1 then n else o
def renF (p:Nat→Nat) (f:Nat→AV):Nat→AV:=fun j=>ren1 p (f j)
theorem renF_top {p:Nat→Nat}:renF p topF=topF:=rfl
theorem renF_upd {p:Nat→Nat} {f:Nat→AV} {i:Nat} {x:AV}:renF p (upd f i x)=upd (renF p f) i (ren1 p x):=by
  funext j;simp only [renF,upd];split<;>rfl
theorem flatF_top:∀ j,flat1 (topF j)=true:=fun _=>rfl
theorem flatF_upd {f:Nat→AV} {i:Nat} {x:AV} (hx:flat1 x=true) (hf:∀ j,flat1 (f j)=true):∀ j,flat1 (upd f i x j)=true:=by
  intro j;simp only [upd];split
  ·exact hx
  ·exact hf j
theorem le_swap2 {τ:List AObj} {x y:AObj} {f:Nat→AV} {S:AS} (hn:n0≤τ.length) (hτ:BdS τ.length τ) (hx:flatO x=true) (hy:flatO y=true) (hf:∀ j,flat1 (f j)=true)
    (hs:Le n0 ⟨renF (sw τ.length) f,τ++[renO (sw τ.length) y,renO (sw τ.length) x]⟩ S):Le n0 ⟨f,τ++[x,y]⟩ S:=by
  refine Le.trans (le_ren (l:=[x,y]) (l':=[renO (sw τ.length) y,renO (sw τ.length) x]) (sw τ.length) (sw τ.length) hn hτ rfl ?_ ?_ ?_ ?_ fun j=>⟨hf j,rfl⟩) hs
  ·intro o ho;unfold sw;rw [if_neg (by omega),if_neg (by omega)];exact ⟨rfl,rfl⟩
  ·intro k hk
   simp only [List.length_cons,List.length_nil] at hk
   rcases (show k=0∨k=1 by omega) with rfl|rfl<;>simp [sw]
  ·intro k hk
   simp only [List.length_cons,List.length_nil] at hk
   rcases (show k=0∨k=1 by omega) with rfl|rfl<;>simp [sw]
  ·intro k hk
   simp only [List.length_cons,List.length_nil] at hk
   rcases (show k=0∨k=1 by omega) with rfl|rfl<;>simp [sw,hx,hy]
end Go.Fw

namespace Go.Proofs.YtnlimcijgpaegaaGreat
open Go Go.Fw Bm
set_option maxRecDepth 20000
end Go.Proofs.YtnlimcijgpaegaaGreat

namespace Go.Proofs.YtnlimcijgpaegaaGreat
open Go Go.Fw Bm
set_option maxRecDepth 20000
end Go.Proofs.YtnlimcijgpaegaaGreat

namespace Go.Proofs.YtnlimcijgpaegaaGreat
open Go Go.Fw Bm
set_option maxRecDepth 20000
end Go.Proofs.YtnlimcijgpaegaaGreat

namespace Go.Proofs.YtnlimcijgpaegaaGreat
open Go Go.Fw Bm
set_option maxRecDepth 20000
theorem intsR_lo:intsR.lo= -2147483648:=rfl
theorem intsR_hi:intsR.hi=2147483647:=rfl
theorem machR_lo:machR.lo= -1099511627776:=rfl
theorem machR_hi:machR.hi=1099511627776:=rfl
theorem boolR_lo:boolR.lo=0:=rfl
theorem boolR_hi:boolR.hi=1:=rfl
theorem nilR_lo:nilR.lo=0:=rfl
theorem nilR_hi:nilR.hi=0:=rfl
attribute [go_sem] intsR_lo intsR_hi machR_lo machR_hi boolR_lo boolR_hi nilR_lo nilR_hi
end Go.Proofs.YtnlimcijgpaegaaGreat

namespace Go.Proofs.YtnlimcijgpaegaaGreat
open Go Go.Fw Bm
set_option maxRecDepth 20000
end Go.Proofs.YtnlimcijgpaegaaGreat

namespace Go.Proofs.YtnlimcijgpaegaaGreat
open Go Go.Fw Bm
set_option maxRecDepth 20000
attribute [go_sem] con71_f con71_c
theorem reads_len (x:Ins):(readsS x).length≤3:=by obtain ⟨k,p,a,b,c,d⟩:=x;rw [reads_red,List.length_map];exact (redS_bd _).1
end Go.Proofs.YtnlimcijgpaegaaGreat

namespace Go.Proofs.YtnlimcijgpaegaaGreat
open Go Go.Fw Bm
set_option maxRecDepth 20000
attribute [go_sem] rngL_rgs
end Go.Proofs.YtnlimcijgpaegaaGreat

namespace Go.Proofs.YtnlimcijgpaegaaGreat
open Go Go.Fw Bm
set_option maxRecDepth 20000
end Go.Proofs.YtnlimcijgpaegaaGreat

namespace Go.Proofs.YtnlimcijgpaegaaGreat.Bm
open Go.Proofs.YtnlimcijgpaegaaGreat
open Go Go.Fw
section
variable {B:Prg} {mt:List Int}
variable {i to:Int} {s t:List Rng} {w w':W}
end
end Go.Proofs.YtnlimcijgpaegaaGreat.Bm

namespace Go.Proofs.YtnlimcijgpaegaaGreat
open Go Go.Fw Bm
set_option maxRecDepth 20000
def bfsV (l:List (List Rng)):List AV:=l.map fun s=> .sl false 2 (rgsV s)
def hdsV (l:List (Int×List Rng)):List (Value×AV):=l.map fun e=>(.int .i64 e.1,.sl false 2 (rgsV e.2))
def bxB (B:Prg):AObj:= .box 26 [.lit (.int .i64 B.regs),.lit (.int .i64 B.arena),.sl false 6 (opsV B.ops),.sl false 2 (plsV B.ins),.sl false 2 (plsV B.outs),.sl false 3 (arrs B.types)]
def wkO (B:Prg) (mt:List Int):AObj:= .box 86 [.lit (.int .i64 B.regs),.lit (.int .i64 B.arena),.sl false 6 (opsV B.ops),.sl false 2 (plsV B.ins),.sl false 2 (plsV B.outs),.sl false 3 (arrs B.types),.sl false 1 (ints .i64 mt),.arr 1 0,.mp 2]
def objs (B:Prg) (mt:List Int) (w:W) (ex:List AObj):List AObj:=bxB B:: .arr 53 1 (bfsV w.before) 0 false:: .map (hdsV w.heads)::wkO B mt::ex
section
variable {B:Prg} {mt:List Int} {w w':W} {ex:List AObj} {x y z:AObj}
theorem ob_len:(objs B mt w ex).length=ex.length+4:=rfl
theorem ob_0:(objs B mt w ex)[0]? =some (bxB B):=rfl
theorem ob_1:(objs B mt w ex)[1]? =some (.arr 53 1 (bfsV w.before) 0 false):=rfl
theorem ob_2:(objs B mt w ex)[2]? =some (.map (hdsV w.heads)):=rfl
theorem ob_3:(objs B mt w ex)[3]? =some (.box 86 [.lit (.int .i64 B.regs),.lit (.int .i64 B.arena),.sl false 6 (opsV B.ops),.sl false 2 (plsV B.ins),.sl false 2 (plsV B.outs),.sl false 3 (arrs B.types),.sl false 1 (ints .i64 mt),.arr 1 0,.mp 2]):=rfl
theorem ob_x {n:Nat}:(objs B mt w ex)[n+4]? =ex[n]? :=rfl
theorem ob_app {l:List AObj}:objs B mt w ex++l=objs B mt w (ex++l):=rfl
theorem ob_s1 {l:List (List Rng)}:(objs B mt w ex).set 1 (.arr 53 1 (bfsV l) 0 false)=objs B mt {w with before:=l} ex:=rfl
theorem ob_s2 {l:List (Int×List Rng)}:(objs B mt w ex).set 2 (.map (hdsV l))=objs B mt {w with heads:=l} ex:=rfl
theorem ob_sx {n:Nat}:(objs B mt w ex).set (n+4) y=objs B mt w (ex.set n y):=rfl
theorem bfsV_length (l:List (List Rng)):(bfsV l).length=l.length:=by simp [bfsV]
end
attribute [go_sem] ob_len ob_0 ob_1 ob_2 ob_3 ob_x ob_app ob_s1 ob_s2 ob_sx bfsV_length
end Go.Proofs.YtnlimcijgpaegaaGreat

namespace Go.Proofs.YtnlimcijgpaegaaGreat
open Go Go.Fw Bm
set_option maxRecDepth 20000
structure Wk (B:Prg) (mt:List Int) (n:Nat):Prop where
  nest:Nest B.ops mt
  rights:Rights B n
  len:B.ops.length≤1000000
  n:n≤1000000
  mtl:mt.length=B.ops.length
end Go.Proofs.YtnlimcijgpaegaaGreat

namespace Go.Proofs.YtnlimcijgpaegaaGreat
open Go Go.Fw Bm
set_option maxRecDepth 20000
end Go.Proofs.YtnlimcijgpaegaaGreat

namespace Go.Proofs.YtnlimcijgpaegaaGreat
open Go Go.Fw Bm
set_option maxRecDepth 20000
theorem lg_w {n0:Nat} {f:Nat→AV} {i o k:Nat} (h:∀ j,low1 n0 (f j)=true) (ho:o<n0):∀ j,low1 n0 (upd f i (.ref o k) j)=true:=low_upd (by simp [low1,low0,ho]) h
end Go.Proofs.YtnlimcijgpaegaaGreat

namespace Go.Fw
open Go
variable {P:Program} {n0:Nat}
theorem le_swapM {τ m:List AObj} {x y:AObj} {f:Nat→AV} {S:AS} (hn:n0≤τ.length) (hτ:BdS τ.length τ) (hx:flatO x=true) (hy:flatO y=true) (hm:m.all flatO=true) (hf:∀ j,flat1 (f j)=true)
    (hs:Le n0 ⟨renF (sw τ.length) f,τ++(renO (sw τ.length) y::renO (sw τ.length) x::m.map (renO (sw τ.length)))⟩ S):Le n0 ⟨f,τ++(x::y::m)⟩ S:=by
  have hbig:∀ k,2≤k→sw τ.length (τ.length+k)=τ.length+k:=fun k hk=>by unfold sw;rw [if_neg (by omega),if_neg (by omega)]
  have h0:sw τ.length (τ.length+0)=τ.length+1:=by simp [sw]
  have h1:sw τ.length (τ.length+1)=τ.length+0:=by simp [sw]
  refine Le.trans (le_ren (l:=x::y::m) (l':=renO (sw τ.length) y::renO (sw τ.length) x::m.map (renO (sw τ.length))) (sw τ.length) (sw τ.length) hn hτ (by simp) ?_ ?_ ?_ ?_ fun j=>⟨hf j,rfl⟩) hs
  ·intro o ho;unfold sw;rw [if_neg (by omega),if_neg (by omega)];exact ⟨rfl,rfl⟩
  ·intro k hk
   rcases (show k=0∨k=1∨2≤k by omega) with rfl|rfl|h2
   ·rw [h0,h1];simp
   ·rw [h1,h0];simp
   ·rw [hbig k h2,hbig k h2];exact ⟨by omega,by omega,rfl⟩
  ·intro k hk
   rcases (show k=0∨k=1∨2≤k by omega) with rfl|rfl|h2
   ·rw [h0,h1];simp
   ·rw [h1,h0];simp
   ·rw [hbig k h2,hbig k h2];exact ⟨by omega,by omega,rfl⟩
  ·intro k hk
   rcases (show k=0∨k=1∨2≤k by omega) with rfl|rfl|h2
   ·rw [h0];simp [hx]
   ·rw [h1];simp [hy]
   ·rw [hbig k h2]
    obtain ⟨k,rfl⟩:∃ j,k=j+2:=⟨k - 2,by omega⟩
    simp only [List.length_cons] at hk
    have hkm:k<m.length:=by omega
    rw [show τ.length+(k+2) - τ.length=k+2 by omega]
    have e1:(x::y::m).getD (k+2) .gone=m[k]:=by simp [List.getD,hkm]
    rw [e1]
    refine ⟨List.all_eq_true.1 hm _ (List.getElem_mem hkm),?_⟩
    simp [hkm]
end Go.Fw

namespace Go.Proofs.YtnlimcijgpaegaaGreat
open Go Go.Fw Bm
set_option maxRecDepth 20000
theorem valid_inv {B:Prg} (h:validS B=true):(0≤B.regs∧B.regs≤200)∧(0≤B.arena∧B.arena≤1048576)∧(∃ mt,matchS B.ops=some mt)∧Rights B B.regs.toNat∧B.types.length=B.ins.length+B.outs.length∧typesOk B.arena B.types (B.ins++B.outs)=true:=by
  rw [valid_eq,Bool.and_eq_true,Bool.not_eq_true'] at h
  obtain ⟨h1,h2⟩:=h
  simp only [headB,formedB,Bool.or_eq_false_iff,decide_eq_false_iff_not,bne_eq_false_iff_eq,Bool.not_eq_false',Bool.and_eq_true] at h1
  obtain ⟨⟨⟨⟨⟨k1,k2⟩,k3⟩,k4⟩,k5,k6⟩,k7⟩:=h1
  refine ⟨⟨by omega,by omega⟩,⟨by omega,by omega⟩,?_,?_,by omega,h2⟩
  ·cases hm:matchS B.ops with
   |none=>rw [hm] at k6;cases k6
   |some mt=>exact ⟨mt,rfl⟩
  ·intro i i0 i1
   rw [List.all_eq_true] at k5
   have hmem:B.op i∈B.ops:=by
     unfold Prg.op
     rw [List.getD_eq_getElem?_getD,List.getElem?_eq_getElem (by omega)]
     exact List.getElem_mem _
   have:=k5 _ hmem
   rw [show ((B.regs.toNat:Nat):Int)=B.regs by omega]
   exact this
theorem wk_of {B:Prg} {mt:List Int} (h:validS B=true) (hm:matchS B.ops=some mt) (hl:B.ops.length≤1000000):Wk B mt B.regs.toNat:=by
  obtain ⟨h1,_,_,h3,_⟩:=valid_inv h
  have hn:=match_nest hm
  exact ⟨hn,h3,hl,by omega,hn.len⟩
theorem bvalid_pc2 {B:Prg} (h:OkB B∧B.ins.length≤100000∧B.outs.length≤100000):PC Tryz.prog 20 [bcV B] (.lit (.bool (validS B))):=bvalid_pc h.1 h.2
noncomputable def con20:PCon Tryz.prog where
  f:=20
  c:=fun
   |[xB]=>match bcOf xB with|some B=>some ((OkB B∧B.ins.length≤100000∧B.outs.length≤100000),.lit (.bool (validS B)))|_=>none
   |_=>none
  ok:=by
   intro args p r hc hp
   split at hc
   ·split at hc
    ·rename_i hB
     cases hc
     exact PC.weak (bvalid_pc2 hp) ⟨bcOf_le hB,trivial⟩
    ·cases hc
   ·cases hc
  fk:=fk20
theorem con20_f:con20.f=20:=rfl
theorem con20_c {xB:AV}:con20.c [xB]=match bcOf xB with|some B=>some ((OkB B∧B.ins.length≤100000∧B.outs.length≤100000),.lit (.bool (validS B)))|_=>none:=rfl
attribute [go_sem] con20_f con20_c
theorem bcOf_B {B:Prg}:bcOf (.agg [.lit (.int .i64 B.regs),.lit (.int .i64 B.arena),.sl false 6 (opsV B.ops),.sl false 2 (plsV B.ins),.sl false 2 (plsV B.outs),.sl false 3 (arrs B.types)])=some B:=bcOf_mk
end Go.Proofs.YtnlimcijgpaegaaGreat

namespace Go.Proofs.YtnlimcijgpaegaaGreat.Bm
open Go.Proofs.YtnlimcijgpaegaaGreat
open Go Go.Fw
variable {B:Prg} {mt:List Int}
end Go.Proofs.YtnlimcijgpaegaaGreat.Bm

namespace Go.Proofs.YtnlimcijgpaegaaGreat
open Go Go.Fw Bm
set_option maxRecDepth 20000
def erV (p:Int×Int):AV:= .tup [.lit (.int .i64 p.1),.lit (.int .i64 p.2)]
end Go.Proofs.YtnlimcijgpaegaaGreat

namespace Go.Proofs.YtnlimcijgpaegaaGreat
open Go Go.Fw Bm
set_option maxRecDepth 20000
theorem bfsV_at {l:List (List Rng)} {i:Nat} (h:i<l.length) (z:AV):(bfsV l).getD i z= .sl false 2 (rgsV (l.getD i [])):=by
  simp [bfsV,List.getD,h]
theorem erV_def {p:Int×Int}:erV p= .tup [.lit (.int .i64 p.1),.lit (.int .i64 p.2)]:=rfl
attribute [go_sem] erV_def
end Go.Proofs.YtnlimcijgpaegaaGreat

namespace Go.Proofs.YtnlimcijgpaegaaGreat
open Go Go.Fw Bm
set_option maxRecDepth 20000
noncomputable def W0:Env:=envJ (P:=Tryz.prog) jkR zer (fun _=>false) (fun _=>false) [con153] []
theorem W0_ok:EnvOk Tryz.prog W0:=envJOk zer_ok
theorem stopped_pc {b1 b2 b3 b4:Bool} {R A V S:List AV} {c1 c2 c3 c4 l a:Int} {f o:Bool}:
    PC Tryz.prog 96 [.agg [.sl b1 1 R,.sl b2 1 A,.lit (.int .i64 c1),.lit (.int .i64 c2),.lit (.int .i64 c3),.lit (.int .i64 c4),.sl b3 1 V,.lit (.int .i64 l),.lit (.bool f),.sl b4 1 S,.lit (.bool o),.lit (.int .i64 a)]]
     (.lit (.bool (decide (l≤0)||f||o))):=by
  refine pcR W0_ok (kp96) Tryz.func96 [.tmp 2] (h:=fun KF=>?_)
  unfold W0
  with_reducible repeat' first|(refine nx ?_;intros)|apply And.intro|intro vr|(refine ny ?_;intros;simp only [go_sem,kp96,geff])
  all_goals try exact nd
  all_goals (refine nl ?_;simp only [go_sem])
  exact LeA.of_eq (by simp_all)
theorem registers_pc {x:Ins}:PC Tryz.prog 137 [opV x] (.sl false 1 (ints .i64 (readsS x))):=by
  have e:opV x=opV ⟨x.code,x.prim,x.a,x.b,x.c,x.d⟩:=rfl
  generalize hR:readsS x=R
  obtain ⟨k,p,a,b,c,d⟩:=x
  simp only [opV_mk]
  refine pcR W0_ok (kp137) Tryz.func137 [.tmp 2] (h:=fun KF=>?_)
  unfold W0
  with_reducible repeat' first|(refine nx ?_;intros)|refine t_br (fun hc=>?_) fun hc=>?_|refine t_bx ?_|apply And.intro|intro vr|((first|refine ny ?_|refine t_dwh (h:=fun K KL=>?_));intros;simp only [go_sem,kp137,geff,hR])
  all_goals try exact nd
  all_goals (refine nl ?_;simp only [go_sem])
  exact LeA.refl _
noncomputable def con137:PCon Tryz.prog where
  f:=137
  c:=fun
   |[xx]=>match opOf xx with|some x=>some (True,.sl false 1 (ints .i64 (readsS x)))|_=>none
   |_=>none
  ok:=by
   intro args p r hc hp
   split at hc
   ·split at hc
    ·rename_i hx
     cases hc
     exact PC.weak registers_pc ⟨opOf_le hx,trivial⟩
    ·cases hc
   ·cases hc
  fk:=fk137
theorem con137_f:con137.f=137:=rfl
theorem con137_c {xx:AV}:con137.c [xx]=match opOf xx with|some x=>some (True,.sl false 1 (ints .i64 (readsS x)))|_=>none:=rfl
theorem inR_at {R:List Int} {r:List Rng} (hl:R.length=r.length):inR R r=true ↔ ∀ i,i<R.length→(r.getD i nilR).lo≤R.getD i 0∧R.getD i 0≤(r.getD i nilR).hi:=by
  unfold inR
  rw [Bool.and_eq_true,decide_eq_true_eq,List.all_eq_true]
  constructor
  ·rintro ⟨_,h⟩ i hi
   have hi':i<r.length:=by omega
   have:=h (R[i],r[i]) (by
     rw [List.mem_iff_getElem]
     exact ⟨i,by rw [List.length_zip];omega,by rw [List.getElem_zip]⟩)
   simp only [decide_eq_true_eq] at this
   rw [List.getD_eq_getElem?_getD,List.getD_eq_getElem?_getD,List.getElem?_eq_getElem hi,List.getElem?_eq_getElem hi']
   exact this
  ·intro h
   refine ⟨hl,fun p hp=>?_⟩
   rw [List.mem_iff_getElem] at hp
   obtain ⟨i,hi,rfl⟩:=hp
   rw [List.length_zip] at hi
   have h1:i<R.length:=by omega
   have h2:i<r.length:=by omega
   have:=h i h1
   rw [List.getD_eq_getElem?_getD,List.getD_eq_getElem?_getD,List.getElem?_eq_getElem h1,List.getElem?_eq_getElem h2] at this
   rw [List.getElem_zip]
   simpa using this
set_option maxHeartbeats 4000000 in
theorem inside_pc {b1 b2:Bool} {R:List Int} {r:List Rng} (h:R.length≤1000000∧r.length≤1000000):PC Tryz.prog 97 [.sl b1 1 (ints .i64 R),.sl b2 2 (rgsV r)] (.lit (.bool (inR R r))):=by
  obtain ⟨h1,h2⟩:=h
  by_cases hl:R.length=r.length
  ·have g1:((R.length:Int) !=r.length)=false:=by rw [bne_eq_false_iff_eq];omega
   generalize hw:inR R r=w
   have hat:=inR_at hl
   rw [hw] at hat
   refine pcR W0_ok (kp97) Tryz.func97 [.tmp 4] (h:=fun KF=>?_)
   unfold W0
   with_reducible repeat' first|(refine nx ?_;intros)|apply And.intro|intro vr|((first|refine ny ?_|refine t_dwh (h:=fun K KL=>?_));intros;simp only [go_sem,kp97,geff,g1])
   all_goals try exact nd
   refine t_loopF (ι:={i:Nat // i≤R.length∧∀ j,j<i→(r.getD j nilR).lo≤R.getD j 0∧R.getD j 0≤(r.getD j nilR).hi}) (fun i=>[(5,.lit (.int .i64 i.1))]) (fun i=>[]) (fun i=>R.length - i.1) ⟨0,by omega,fun j hj=>absurd hj (by omega)⟩ ?_ ?_
   ·exact lf
   rintro ⟨i,hi,hq⟩ K0
   rcases Nat.lt_or_ge i R.length with hc|hc
   ·have g3:decide ((i:Int)<R.length)=true:=decide_eq_true (by omega)
    generalize hx:r.getD i nilR=x
    obtain ⟨x,x'⟩:=x
    generalize hy:R.getD i 0=y
    by_cases g5:(decide (y<x)||decide (y>x'))=true
    ·skip
     with_reducible repeat' first|(refine nx ?_;intros)|apply And.intro|intro vr|((first|refine ny ?_|refine t_dwh (h:=fun K KL=>?_));intros;simp only [go_sem,kp97,geff,g3,hx,hy,g5,Int.toNat_natCast])
     all_goals try exact nd
     all_goals (refine nl ?_;simp only [go_sem])
     refine LeA.of_eq ?_
     cases w with
     |false=>rfl
     |true=>
      have:=(hat.1 rfl) i hc
      rw [hx,hy] at this
      simp only [Bool.or_eq_true,decide_eq_true_eq] at g5 this
      omega
    ·have g6:=Bool.eq_false_iff.2 g5
     with_reducible repeat' first|(refine nx ?_;intros)|apply And.intro|intro vr|((first|refine ny ?_|refine t_dwh (h:=fun K KL=>?_));intros;simp only [go_sem,kp97,geff,g3,hx,hy,g6,Int.toNat_natCast])
     all_goals try exact nd
     have hq':∀ j,j<i+1→(r.getD j nilR).lo≤R.getD j 0∧R.getD j 0≤(r.getD j nilR).hi:=by
       intro j hj
       rcases Nat.lt_or_ge j i with hji|hji
       ·exact hq j hji
       ·have:j=i:=by omega
        subst this
        rw [hx,hy]
        simp only [Bool.or_eq_true,decide_eq_true_eq,not_or] at g5
        exact ⟨by show x≤y;omega,by show y≤x';omega⟩
     exact ⟨⟨i+1,by omega,hq'⟩,wf,lf⟩
   ·have g3:decide ((i:Int)<R.length)=false:=decide_eq_false (by omega)
    with_reducible repeat' first|(refine nx ?_;intros)|apply And.intro|intro vr|((first|refine ny ?_|refine t_dwh (h:=fun K KL=>?_));intros;simp only [go_sem,kp97,geff,g3])
    all_goals try exact nd
    all_goals (refine nl ?_;simp only [go_sem])
    refine LeA.of_eq ?_
    rw [hat.2 fun j hj=>hq j (by omega)]
  ·have g1:((R.length:Int) !=r.length)=true:=by rw [bne_iff_ne];omega
   have e:inR R r=false:=by
     unfold inR
     rw [decide_eq_false hl];rfl
   rw [e]
   refine pcR W0_ok (kp97) Tryz.func97 [.tmp 4] (h:=fun KF=>?_)
   unfold W0
   with_reducible repeat' first|(refine nx ?_;intros)|apply And.intro|intro vr|((first|refine ny ?_|refine t_dwh (h:=fun K KL=>?_));intros;simp only [go_sem,kp97,geff,g1])
   all_goals try exact nd
   all_goals (refine nl ?_;simp only [go_sem])
   exact LeA.refl _
noncomputable def con97:PCon Tryz.prog where
  f:=97
  c:=fun
   |[xR,xr]=>match slK .i64 xR,rngsOf xr with|some R,some r=>some ((R.length≤1000000∧r.length≤1000000),.lit (.bool (inR R r)))|_,_=>none
   |_=>none
  ok:=by
   intro args p r hc hp
   split at hc
   ·split at hc
    ·rename_i hR hr
     cases hc
     exact PC.weak (inside_pc hp) ⟨slK_le hR,rngsOf_le hr,trivial⟩
    ·cases hc
   ·cases hc
  fk:=fk97
theorem con97_f:con97.f=97:=rfl
theorem con97_c {xR:AV} {xr:AV}:con97.c [xR,xr]=match slK .i64 xR,rngsOf xr with|some R,some r=>some ((R.length≤1000000∧r.length≤1000000),.lit (.bool (inR R r)))|_,_=>none:=rfl
set_option maxHeartbeats 4000000 in
theorem endS_pc {B:Prg} {mt:List Int} {i:Int} (h:0≤i∧i<mt.length∧mt.length≤1000000∧B.ops.length≤1000000∧0≤gt mt i∧gt mt i<mt.length∧gt mt i<B.ops.length):PC Tryz.prog 98 [bcV B,.sl false 1 (ints .i64 mt),.lit (.int .i64 i)] (.lit (.int .i64 (endS B mt i))):=by
  obtain ⟨h0,h1,h2,h3,h4,h5,h6⟩:=h
  have gm:mt.getD i.toNat 0=gt mt i:=rfl
  have gf:mt.getD (gt mt i).toNat 0=gt mt (gt mt i):=rfl
  have go:B.ops.getD (gt mt i).toNat nilI=B.op (gt mt i):=rfl
  unfold endS
  generalize gt mt (gt mt i)=f at*
  generalize gt mt i=m at*
  generalize B.op m=X at*
  obtain ⟨r,a,o,ii,u,t⟩:=B
  obtain ⟨k,p,a,b,c,d⟩:=X
  simp only [bcV_mk] at*
  cases hc:decide (k=12) with
  |true=>
   rw [if_pos (of_decide_eq_true hc)]
   refine pcR W0_ok (kp98) Tryz.func98 [.tmp 6] (h:=fun KF=>?_)
   unfold W0
   with_reducible repeat' first|(refine nx ?_;intros)|refine t_br (fun hc=>?_) fun hc=>?_|apply And.intro|intro vr|(refine ny ?_;intros;simp only [go_sem,kp98,geff,gm,gf,go,hc])
   all_goals try exact nd
   all_goals (refine nl ?_;simp only [go_sem])
   exact LeA.refl _
  |false=>
   rw [if_neg (of_decide_eq_false hc)]
   refine pcR W0_ok (kp98) Tryz.func98 [.tmp 6] (h:=fun KF=>?_)
   unfold W0
   with_reducible repeat' first|(refine nx ?_;intros)|refine t_br (fun hc=>?_) fun hc=>?_|apply And.intro|intro vr|(refine ny ?_;intros;simp only [go_sem,kp98,geff,gm,gf,go,hc])
   all_goals try exact nd
   all_goals (refine nl ?_;simp only [go_sem])
   exact LeA.refl _
end Go.Proofs.YtnlimcijgpaegaaGreat

namespace Go.Proofs.YtnlimcijgpaegaaGreat
open Go Go.Fw Bm
set_option maxRecDepth 20000
abbrev oWw1_0:List (Nat×Nat):=[(0,1),(1,1),(2,1),(3,1),(5,1),(6,1),(8,1),(9,1),(10,1),(4,0),(7,0),(11,0),(12,1)]
attribute [go_sem] oWw1_0
def noteK (l:List Int) (n:Int):Nat:=(l.takeWhile fun m=>decide (m<n)).length
theorem noteK_le (l:List Int) (n:Int):noteK l n≤l.length:=(List.takeWhile_prefix _).length_le
theorem noteK_at {n:Int}:∀ {l:List Int} {i:Nat},i≤noteK l n→((i<l.length∧l.getD i 0<n) ↔ i<noteK l n)
  |[],i,_=>by simp [noteK]
  |a::l,i,h=>by
   unfold noteK at h ⊢
   by_cases c:a<n
   ·rw [List.takeWhile_cons_of_pos (by simpa using c)] at h ⊢
    cases i with
    |zero=>simp [c]
    |succ i=>
     have:=noteK_at (n:=n) (l:=l) (i:=i) (by unfold noteK;simpa using h)
     unfold noteK at this
     simpa using this
   ·rw [List.takeWhile_cons_of_neg (by simpa using c)] at h ⊢
    have:i=0:=by simpa using h
    subst this
    simp [c]
set_option maxHeartbeats 4000000 in
theorem note_pc {l:List Int} {n:Int} (h:l.length≤1000000):PC Tryz.prog 139 [.sl false 1 (ints .i64 l),.lit (.int .i64 n)] (.sl false 1 (ints .i64 (noteS l n))):=by
  have hkl:=noteK_le l n
  have e:noteS l n=if noteK l n<l.length∧l.getD (noteK l n) 0=n then l else l.take (noteK l n)++[n]++l.drop (noteK l n):=rfl
  rw [e]
  have hat:=fun {i:Nat} (hi:i≤noteK l n)=>noteK_at hi
  generalize noteK l n=m at*
  generalize hE:(if m<l.length∧l.getD m 0=n then l else l.take m++[n]++l.drop m)=E
  refine pcR W0_ok (kp139) Tryz.func139 [.tmp 4] (h:=fun KF=>?_)
  unfold W0
  repeat' first|(with_reducible first|(refine nx ?_;intros)|refine t_br (fun hc=>?_) fun hc=>?_|apply And.intro|intro vr)|exact kpd|((with_reducible first|refine ny ?_|refine t_kLF ?_ ?_|refine t_dO 6 (fun _=>true) oWw1_0 fun K=>?_);intros;simp only [go_sem,kp139,geff])
  all_goals try exact nd
  refine t_loopF (ι:={i:Nat // i≤m}) (fun i=>[(5,.lit (.int .i64 i.1))]) (fun i=>[]) (fun i=>m - i.1) ⟨0,Nat.zero_le _⟩ ?_ ?_
  ·exact lf
  rintro ⟨i,hi⟩ K0
  have hati:=hat hi
  by_cases hc:i<m
  ·have g1:decide ((i:Int)<l.length)=true:=decide_eq_true (by omega)
   have g2:decide (l.getD i 0<n)=true:=decide_eq_true (hati.2 hc).2
   repeat' first|(with_reducible first|(refine nx ?_;intros)|refine t_br (fun hc=>?_) fun hc=>?_|apply And.intro|intro vr)|exact kpd|((with_reducible first|refine ny ?_|refine t_kLF ?_ ?_|refine t_dO 6 (fun _=>true) oWw1_0 fun K=>?_);intros;simp only [go_sem,kp139,geff,g1,g2,Int.toNat_natCast])
   all_goals try exact nd
   exact ⟨⟨i+1,by omega⟩,wf,lf⟩
  ·have hiK:i=m:=by omega
   subst hiK
   by_cases hc2:i<l.length
   ·have g1:decide ((i:Int)<l.length)=true:=decide_eq_true (by omega)
    have hge: ¬ l.getD i 0<n:=fun q=>hc (hati.1 ⟨hc2,q⟩)
    have g2:decide (l.getD i 0<n)=false:=decide_eq_false hge
    by_cases hc3:l.getD i 0=n
    ·have g4:decide (l.getD i 0=n)=true:=decide_eq_true hc3
     have hE':E=l:=by rw [←hE,if_pos ⟨hc2,hc3⟩]
     repeat' first|(with_reducible first|(refine nx ?_;intros)|refine t_br (fun hc=>?_) fun hc=>?_|apply And.intro|intro vr)|exact kpd|((with_reducible first|refine ny ?_|refine t_kLF ?_ ?_|refine t_dO 6 (fun _=>true) oWw1_0 fun K=>?_);intros;simp only [go_sem,kp139,geff,g1,g2,g4,Int.toNat_natCast])
     all_goals try exact nd
     all_goals (refine nl ?_;simp only [go_sem])
     exact LeA.of_eq (by rw [hE'])
    ·have g4:decide (l.getD i 0=n)=false:=decide_eq_false hc3
     have hE':E=l.take i++[n]++l.drop i:=by rw [←hE,if_neg (fun q=>hc3 q.2)]
     have ht:(l.take i).length=i:=by rw [List.length_take];omega
     have hd:(l.drop i).length=l.length - i:=List.length_drop
     repeat' first|(with_reducible first|(refine nx ?_;intros)|refine t_br (fun hc=>?_) fun hc=>?_|apply And.intro|intro vr)|exact kpd|((with_reducible first|refine ny ?_|refine t_kLF ?_ ?_|refine t_dO 6 (fun _=>true) oWw1_0 fun K=>?_);intros;simp only [go_sem,kp139,geff,g1,g2,g4,ht,hd,List.take_length,Int.toNat_natCast])
     all_goals try exact nd
     all_goals (refine nl ?_;simp only [go_sem])
     exact LeA.of_eq (by rw [hE'])
   ·have g1:decide ((i:Int)<l.length)=false:=decide_eq_false (by omega)
    have hE':E=l.take i++[n]++l.drop i:=by rw [←hE,if_neg (fun q=>hc2 q.1)]
    have ht:(l.take i).length=i:=by rw [List.length_take];omega
    have hd:(l.drop i).length=l.length - i:=List.length_drop
    repeat' first|(with_reducible first|(refine nx ?_;intros)|refine t_br (fun hc=>?_) fun hc=>?_|apply And.intro|intro vr)|exact kpd|((with_reducible first|refine ny ?_|refine t_kLF ?_ ?_|refine t_dO 6 (fun _=>true) oWw1_0 fun K=>?_);intros;simp only [go_sem,kp139,geff,g1,ht,hd,List.take_length,Int.toNat_natCast])
    all_goals try exact nd
    all_goals (refine nl ?_;simp only [go_sem])
    exact LeA.of_eq (by rw [hE'])
noncomputable def con139:PCon Tryz.prog where
  f:=139
  c:=fun
   |[xl,.lit (.int .i64 n)]=>match slK .i64 xl with|some l=>some (l.length≤1000000,.sl false 1 (ints .i64 (noteS l n)))|_=>none
   |_=>none
  ok:=by
   intro args p r hc hp
   split at hc
   ·split at hc
    ·rename_i hl
     cases hc
     exact PC.weak (note_pc hp) ⟨slK_le hl,LeA.refl _,trivial⟩
    ·cases hc
   ·cases hc
  fk:=fk139
theorem con139_f:con139.f=139:=rfl
theorem con139_c {xl:AV} {n:Int}:con139.c [xl,.lit (.int .i64 n)]=match slK .i64 xl with|some l=>some (l.length≤1000000,.sl false 1 (ints .i64 (noteS l n)))|_=>none:=rfl
end Go.Proofs.YtnlimcijgpaegaaGreat

namespace Go.Proofs.YtnlimcijgpaegaaGreat.Bm
open Go.Proofs.YtnlimcijgpaegaaGreat
open Go Go.Fw
structure Gd (n A:Nat) (c:Int) (s:St):Prop where
  regs:s.regs.length=n
  arena:s.arena.length=A
  rv:∀ r∈s.regs, -maxC≤r∧r≤maxC
  words:Words s
  pos:0≤s.reads∧0≤s.writes∧0≤s.ops∧0≤s.peak∧0≤s.left
  sum:s.reads+s.writes+s.ops+s.viol.length+s.left≤c
  peak:s.peak≤A
variable {n A:Nat} {c:Int} {s:St} {x:Ins} {B:Prg} {mt:List Int} {seen:List (List Rng)}
theorem Gd.gt (h:Gd n A c s) (i:Int): -maxC≤Bm.gt s.regs i∧Bm.gt s.regs i≤maxC:=by
  unfold Bm.gt
  rw [List.getD_eq_getElem?_getD]
  cases e:s.regs[i.toNat]? with
  |none=>exact ⟨by simp [maxC],by simp [maxC]⟩
  |some r=>exact h.rv r (List.mem_of_getElem? e)
theorem Gd.word (h:Gd n A c s) (i:Int): -2147483648≤Bm.gt s.arena i∧Bm.gt s.arena i≤2147483647:=by
  unfold Bm.gt
  rw [List.getD_eq_getElem?_getD]
  cases e:s.arena[i.toNat]? with
  |none=>exact ⟨by simp,by simp⟩
  |some r=>
   have:=h.words r (List.mem_of_getElem? e)
   have e2:vld sInt r=decide (-2147483648≤r∧r≤2147483647):=rfl
   rw [e2] at this
   exact of_decide_eq_true this
theorem Gd.put (h:Gd n A c s) {i v:Int} (hv: -maxC≤v∧v≤maxC):Gd n A c (s.put i v):=by
  obtain ⟨h1,h2,h3,h4,h5,h6,h7⟩:=h
  refine ⟨by simp only [St.put,List.length_set];exact h1,h2,fun r hr=>?_,h4,h5,h6,h7⟩
  rcases List.mem_or_eq_of_mem_set hr with hr|rfl
  ·exact h3 r hr
  ·exact hv
theorem Gd.le (h:Gd n A (c - 1) s):Gd n A c s:=⟨h.regs,h.arena,h.rv,h.words,h.pos,by have:=h.sum;omega,h.peak⟩
theorem noteS_length (l:List Int) (k:Int):(noteS l k).length≤l.length+1:=by
  unfold noteS
  simp only
  split
  ·omega
  ·simp only [List.length_append,List.length_take,List.length_drop,List.length_singleton];omega
theorem w32_in (k:Int): -2147483648≤El.w32 k∧El.w32 k≤2147483647:=by
  have:=El.w32_el k
  unfold El.el at this;omega
theorem Gd.fail (h:Gd n A (c - 1) s):Gd n A c {s with failed:=true}:=⟨h.regs,h.arena,h.rv,h.words,h.pos,h.le.sum,h.peak⟩
theorem wide_cases (op:ByteArray):wideR op=boolR∨wideR op=intsR:=by
  unfold wideR
  split
  ·split
   ·exact .inl rfl
   ·exact .inr rfl
  ·exact .inr rfl
theorem Gd.simple (h:Gd n A (c - 1) s) (hx:Regs x n):Gd n A c (simpleS x s):=by
  have hs:=h.sum
  have hp:=h.pos
  have hg:=h.gt
  have mc:maxC=1099511627776:=rfl
  unfold simpleS
  rcases hx.code with e|e|e|e|e|e|e|e|e|e|e|e|e|e|e
  ·rw [if_pos e]
   exact (h.le).put (hx.k1 e)
  ·rw [if_neg (by omega),if_pos e]
   split
   ·rename_i hm
    exact (h.le).put (by simpa [inMc] using hm)
   ·exact h.fail
  ·rw [if_neg (by omega),if_neg (by omega),if_pos e]
   refine (h.le).put ?_
   have h1:=hg x.b;have h2:=hg x.c
   unfold minI;split<;>assumption
  ·rw [if_neg (by omega),if_neg (by omega),if_neg (by omega),if_pos e]
   refine (h.le).put ?_
   have h1:=hg x.b;have h2:=hg x.c
   unfold maxI;split<;>assumption
  ·rw [if_neg (by omega),if_neg (by omega),if_neg (by omega),if_neg (by omega),if_pos e]
   split
   ·exact h.fail
   ·rename_i k hk
    have hw:=apply_wide hk
    have hb: -maxC≤k∧k≤maxC:=by
      rcases wide_cases x.prim with q|q<;>(rw [q] at hw;simp only [Rng.has,intsR,boolR] at hw;omega)
    have:=(h.put (i:=x.a) hb)
    exact ⟨this.regs,this.arena,this.rv,this.words,⟨hp.1,hp.2.1,by simp only [St.put];omega,hp.2.2.2⟩,by simp only [St.put];omega,this.peak⟩
  ·rw [if_neg (by omega),if_neg (by omega),if_neg (by omega),if_neg (by omega),if_neg (by omega),if_pos e]
   split
   ·have hw:=h.word (Bm.gt s.regs x.b)
    have:=h.put (i:=x.a) (v:=Bm.gt s.arena (Bm.gt s.regs x.b)) (by omega)
    exact ⟨this.regs,this.arena,this.rv,this.words,⟨by simp only [St.put];omega,hp.2⟩,by simp only [St.put];omega,this.peak⟩
   ·exact h.fail
  ·rw [if_neg (by omega),if_neg (by omega),if_neg (by omega),if_neg (by omega),if_neg (by omega),if_neg (by omega),if_pos e]
   split
   ·rename_i hc
    have hA:=h.arena
    have hpk:=h.peak
    refine ⟨h.regs,by simp only [List.length_set];exact hA,h.rv,fun k hk=>?_,⟨hp.1,by simp only;omega,hp.2.2.1,?_,hp.2.2.2.2⟩,by simp only;omega,?_⟩
    ·rcases List.mem_or_eq_of_mem_set hk with hk|rfl
     ·exact h.words k hk
     ·exact hc.2
    ·simp only [maxI];split<;>omega
    ·simp only [maxI];split<;>omega
   ·exact h.fail
  ·rw [if_neg (by omega),if_neg (by omega),if_neg (by omega),if_neg (by omega),if_neg (by omega),if_neg (by omega),if_neg (by omega),if_neg (by omega),if_neg (by omega),if_pos e]
   have:=h.put (i:=x.a) (v:=0) (by omega)
   exact ⟨this.regs,this.arena,this.rv,this.words,⟨by simp only [St.put];omega,hp.2⟩,by simp only [St.put];omega,this.peak⟩
  ·rw [if_neg (by omega),if_neg (by omega),if_neg (by omega),if_neg (by omega),if_neg (by omega),if_neg (by omega),if_neg (by omega),if_neg (by omega),if_neg (by omega),if_neg (by omega),if_pos e]
   split
   ·have:=noteS_length s.viol x.a
    exact ⟨h.regs,h.arena,h.rv,h.words,h.pos,by simp only;omega,h.peak⟩
   ·exact h.le
  all_goals try (rw [if_neg (by omega),if_neg (by omega),if_neg (by omega),if_neg (by omega),if_neg (by omega),if_neg (by omega),if_neg (by omega),if_neg (by omega),if_neg (by omega),if_neg (by omega),if_neg (by omega)];exact h.le)
  ·rw [if_neg (by omega),if_neg (by omega),if_neg (by omega),if_neg (by omega),if_neg (by omega),if_neg (by omega),if_neg (by omega),if_pos e]
   have:=w32_in (Bm.gt s.regs x.b)
   exact (h.le).put (by omega)
  ·rw [if_neg (by omega),if_neg (by omega),if_neg (by omega),if_neg (by omega),if_neg (by omega),if_neg (by omega),if_neg (by omega),if_neg (by omega),if_pos e]
   exact ⟨h.regs,h.arena,h.rv,h.words,⟨hp.1,by simp only;omega,hp.2.2⟩,by simp only;omega,h.peak⟩
theorem Gd.tick (h:Gd n A c s) (hs:stpS s=false) (i:Int):Gd n A (c - 1) (Bm.tick (look seen i s)):=by
  obtain ⟨o,ho⟩:=look_eq (seen:=seen) i s
  rw [ho]
  obtain ⟨h1,h2,h3,h4,h5,h6,h7⟩:=h
  have hl: ¬ s.left≤0:=by
    simp only [stpS,Bool.or_eq_false_iff,decide_eq_false_iff_not] at hs
    exact hs.1.1
  exact ⟨h1,h2,h3,h4,⟨h5.1,h5.2.1,h5.2.2.1,h5.2.2.2.1,by simp only [Bm.tick];omega⟩,by simp only [Bm.tick];omega,h7⟩
theorem Gd.turn (h:Gd n A c s) (hs:stpS s=false) {i v:Int} (hv: -maxC≤v∧v≤maxC):Gd n A c ((Bm.tick s).put i v):=by
  have hl: ¬ s.left≤0:=by
    simp only [stpS,Bool.or_eq_false_iff,decide_eq_false_iff_not] at hs
    exact hs.1.1
  obtain ⟨h1,h2,h3,h4,h5,h6,h7⟩:=h
  have:Gd n A c (Bm.tick s):=⟨h1,h2,h3,h4,⟨h5.1,h5.2.1,h5.2.2.1,h5.2.2.2.1,by simp only [Bm.tick];omega⟩,by simp only [Bm.tick];omega,h7⟩
  exact this.put hv
end Go.Proofs.YtnlimcijgpaegaaGreat.Bm

namespace Go.Fw
open Go
variable {P:Program} {σ:List AObj}
def finK (n:Nat) (x:AV) (σ:List AObj) (k:AV→List AObj→Prop):Prop:=
  ∃ r,LeR x r∧Bd n r∧BdS n (σ.take n)∧k r (σ.take n)
theorem ec_finK {f:FuncId} {args:List AV} {k:AV→List AObj→Prop} (h:BdS σ.length σ→EC P f args σ fun x σ'=>finK σ.length x σ' k):EC P f args σ k:=by
  intro cx G w vs hr hl
  refine (h hr.bds cx G w vs hr hl).mono ?_
  rintro e w' ⟨v,G',σ',x,rfl,hle,hr',hx,r,hLe,hbx,hbd,hk⟩
  have hlen:σ.length≤σ'.length:=by rw [←hr.n,←hr'.n];exact hle.n
  have h0:cx.G0.n≤σ.length:=by rw [←hr.n];exact hr.le0.n
  have hn:σ.length≤G'.n:=by rw [hr'.n];exact hlen
  exact ⟨v,{G' with n:=σ.length},_,r,rfl,⟨hle.C,by rw [hr.n];exact Nat.le_refl _,hle.ver,hle.b,hle.p⟩,hr'.trunc hlen h0 hbd,hbx G' v hn (hLe _ _ hx),hk⟩
end Go.Fw

namespace Go.Proofs.YtnlimcijgpaegaaGreat
open Go Go.Fw Bm
set_option maxRecDepth 20000
def stV (p:Nat) (s:St) (S:List (List Rng)):AV:= .agg [.arr p 0,.arr (p+1) 0,.lit (.int .i64 s.reads),.lit (.int .i64 s.writes),.lit (.int .i64 s.ops),.lit (.int .i64 s.peak),.sl false 1 (ints .i64 s.viol),.lit (.int .i64 s.left),.lit (.bool s.failed),.sl false 1 (bfsV S),.lit (.bool s.out),.lit (.int .i64 s.at_)]
theorem stV_mk {p:Nat} {R A V:List Int} {rd wr op pk l a:Int} {f o:Bool} {S:List (List Rng)}:stV p ⟨R,A,rd,wr,op,pk,V,l,f,a,o⟩ S=
    .agg [.arr p 0,.arr (p+1) 0,.lit (.int .i64 rd),.lit (.int .i64 wr),.lit (.int .i64 op),.lit (.int .i64 pk),.sl false 1 (ints .i64 V),.lit (.int .i64 l),.lit (.bool f),.sl false 1 (bfsV S),.lit (.bool o),.lit (.int .i64 a)]:=rfl
def mob (pre:List AObj) (R A:List Int) (ex:List AObj):List AObj:=pre++(.arr 3 1 (ints .i64 R) 0 false:: .arr 3 1 (ints .i64 A) 0 false::ex)
section
variable {pre ex:List AObj} {R A R' A':List Int} {x y z u:AObj}
theorem mob_len:(mob pre R A ex).length=pre.length+(ex.length+2):=by simp [mob]
theorem mob_0:(mob pre R A ex)[pre.length]? =some (.arr 3 1 (ints .i64 R) 0 false):=by simp [mob]
theorem mob_1:(mob pre R A ex)[pre.length+1]? =some (.arr 3 1 (ints .i64 A) 0 false):=by simp [mob]
theorem mob_x {n:Nat}:(mob pre R A ex)[pre.length+(n+2)]? =ex[n]? :=by
  unfold mob
  rw [List.getElem?_append_right (by omega),show pre.length+(n+2) - pre.length=n+2 by omega];rfl
theorem mob_app {l:List AObj}:mob pre R A ex++l=mob pre R A (ex++l):=by simp [mob]
theorem mob_s0:(mob pre R A ex).set pre.length (.arr 3 1 (ints .i64 R') 0 false)=mob pre R' A ex:=by simp [mob]
theorem mob_s1:(mob pre R A ex).set (pre.length+1) (.arr 3 1 (ints .i64 A') 0 false)=mob pre R A' ex:=by simp [mob]
theorem mob_sx {n:Nat}:(mob pre R A ex).set (pre.length+(n+2)) y=mob pre R A (ex.set n y):=by
  unfold mob
  rw [List.set_append_right _ _ (by omega),show pre.length+(n+2) - pre.length=n+2 by omega];rfl
theorem mob_take {l:List AObj}:(mob pre R A (ex++l)).take (pre.length+(ex.length+2))=mob pre R A ex:=by
  rw [←mob_app,←mob_len (R:=R) (A:=A),List.take_left'];rfl
theorem mob_bds {n:Nat} (h:BdS n (mob pre R A ex)):BdS n (mob pre R' A' ex):=h.same fun o t cs ho=>by
  rcases Nat.lt_or_ge o pre.length with c|c
  ·simp only [mob,List.getElem?_append_left c] at ho ⊢;exact ho
  ·simp only [mob,List.getElem?_append_right c] at ho ⊢
   rcases hq:o - pre.length with _|_|q
   ·rw [hq] at ho;cases ho
   ·rw [hq] at ho;cases ho
   ·rw [hq] at ho;exact ho
theorem kp_mob {D:Nat→Bool} {l m:List AObj} (h:∀ (o:Nat) (t:TypeId) (cs:List AV),l[o]? =some (AObj.box t cs)→m[o]? =some (AObj.box t cs)):Kp D (mob pre R A l) (mob pre R' A' m):=fun o t cs _ ho=>by
  rcases Nat.lt_or_ge o pre.length with c|c
  ·simp only [mob,List.getElem?_append_left c] at ho ⊢;exact ho
  ·simp only [mob,List.getElem?_append_right c] at ho ⊢
   rcases hq:o - pre.length with _|_|q
   ·rw [hq] at ho;cases ho
   ·rw [hq] at ho;cases ho
   ·rw [hq] at ho;exact h q t cs ho
end
attribute [go_sem] mob_len mob_0 mob_1 mob_x mob_app mob_s0 mob_s1 mob_sx mob_take
theorem stV_bd {n p:Nat} {s:St} {S:List (List Rng)} (h:p+1<n):Bd n (stV p s S):=by
  refine Bd.agg fun i hi=>?_
  simp only [List.length_cons,List.length_nil] at hi
  have:i=0∨i=1∨i=2∨i=3∨i=4∨i=5∨i=6∨i=7∨i=8∨i=9∨i=10∨i=11:=by omega
  rcases this with rfl|rfl|rfl|rfl|rfl|rfl|rfl|rfl|rfl|rfl|rfl|rfl
  ·exact Bd.arr (by omega)
  ·exact Bd.arr h
  ·exact Bd.lit _ _
  ·exact Bd.lit _ _
  ·exact Bd.lit _ _
  ·exact Bd.lit _ _
  ·exact Bd.sl _ _ _ _
  ·exact Bd.lit _ _
  ·exact Bd.lit _ _
  ·exact Bd.sl _ _ _ _
  ·exact Bd.lit _ _
  ·exact Bd.lit _ _
end Go.Proofs.YtnlimcijgpaegaaGreat
