import Derived.Test.YtnlimcijgpaegaaGreatSC
import Derived.Test.YtnlimcijgpaegaaGreatSB
import Derived.Test.YtnlimcijgpaegaaGreatSA

set_option linter.all false

namespace Go.Proofs.YtnlimcijgpaegaaGreat.Mm
open Go.Proofs.YtnlimcijgpaegaaGreat
open Go Go.Fw Bm
set_option maxRecDepth 20000
def nrm (e:ByteArray) (n:Int):Int:=if eqS e sBool=true∧n≠0 then 1 else n
def resA (B:Prg) (ar:List Int) (i:Nat):Arr:=⟨(B.types.getD (B.ins.length+i) nilA).e,(B.types.getD (B.ins.length+i) nilA).d,((ar.drop (B.outs.getD i (0,0)).1.toNat).take (B.outs.getD i (0,0)).2.toNat).map (nrm (B.types.getD (B.ins.length+i) nilA).e)⟩
def resL (B:Prg) (ar:List Int):List Arr:=(List.range B.outs.length).map (resA B ar)
theorem res_succ {B:Prg} {ar:List Int} {i:Nat}:(List.range i).map (resA B ar)++[resA B ar i]=(List.range (i+1)).map (resA B ar):=by rw [List.range_succ,List.map_append];rfl
theorem nrm_take {e:ByteArray} {D:List Int} {k:Nat} (h:k<D.length):(D.take (k+1)).map (nrm e)=(D.take k).map (nrm e)++[nrm e (D.getD k 0)]:=by
  have e1:D.getD k 0=D[k]:=by simp [List.getD,h]
  rw [List.take_add_one,List.getElem?_eq_getElem h,e1,List.map_append];rfl
theorem nrm_succ {e:ByteArray} {D:List Int} {k:Nat} (h:k<D.length) (hn:nrm e (D.getD k 0)=D.getD k 0):(D.take k).map (nrm e)++D.drop k=(D.take (k+1)).map (nrm e)++D.drop (k+1):=by
  rw [drop_getD 0 h,nrm_take h,hn,List.append_assoc];rfl
theorem nrm_set {e:ByteArray} {D:List Int} {k:Nat} (h:k<D.length) (hn:nrm e (D.getD k 0)=1):((D.take k).map (nrm e)++D.drop k).set k 1=(D.take (k+1)).map (nrm e)++D.drop (k+1):=by
  have hl:((D.take k).map (nrm e)).length=k:=by rw [List.length_map,List.length_take];omega
  rw [List.set_append_right _ _ (by omega),hl,Nat.sub_self,drop_getD 0 h,List.set_cons_zero,nrm_take h,hn,List.append_assoc];rfl
theorem nrm_getD {e:ByteArray} {D:List Int} {k:Nat} (h:k<D.length):((D.take k).map (nrm e)++D.drop k).getD k 0=D.getD k 0:=by
  have hl:((D.take k).map (nrm e)).length=k:=by rw [List.length_map,List.length_take];omega
  simp only [List.getD]
  rw [List.getElem?_append_right (by omega),hl,Nat.sub_self,List.getElem?_drop]
  rfl
structure Out1 (B:Prg) (i:Nat):Prop where
  ty:B.ins.length+i<B.types.length
  p0:0≤(B.outs.getD i (0,0)).1
  p1:0≤(B.outs.getD i (0,0)).2
  p2:(B.outs.getD i (0,0)).1+(B.outs.getD i (0,0)).2≤B.arena
  d:(B.types.getD (B.ins.length+i) nilA).d.length≤6
theorem out1_of {B:Prg} {i:Nat} (hv:validS B=true) (hi:i<B.outs.length):Out1 B i:=by
  obtain ⟨_,_,_,_,h5,h6⟩:=valid_inv hv
  have ht:=types_at (i:=B.ins.length+i) h6 (by omega) (by simp;omega)
  have e:(B.ins++B.outs).getD (B.ins.length+i) (0,0)=B.outs.getD i (0,0):=by
    simp only [List.getD];rw [List.getElem?_append_right (by omega),Nat.add_sub_cancel_left]
  rw [e] at ht
  simp only [typeOk,Bool.and_eq_true,decide_eq_true_eq] at ht
  obtain ⟨⟨⟨⟨⟨_,t2⟩,t3⟩,t4⟩,t5⟩,t6⟩:=ht
  have hb:=sizeS_bd (B.types.getD (B.ins.length+i) nilA).d
  refine ⟨by omega,t5,by omega,by omega,?_⟩
  rcases Nat.lt_or_ge 6 (B.types.getD (B.ins.length+i) nilA).d.length with c|c
  ·exfalso
   unfold sizeS at t2
   rw [if_pos c] at t2
   cases t2
  ·exact c
noncomputable def M9:Env:=envU Tryz.prog jkR zer (fun _=>false) (fun _=>false) []
theorem M9_ok:EnvOk Tryz.prog M9:=envUOk zer_ok
section
variable {σ:List AObj} {l:List Int} {k:AV→List AObj→Prop}
theorem clone_ec (hl:l.length≤1000000) (hk:k (.arr σ.length 0) (σ++[.arr 3 1 (ints .i64 l) 0 false])):EC Tryz.prog 51 [.sl false 1 (ints .i64 l)] σ k:=by
  refine EC.nilArr 3 1 ?_
  refine ecR M9_ok (kp51) Tryz.func51 [.tmp 2] (h:=fun KF=>?_)
  unfold M9
  with_reducible repeat' first|(refine nx ?_;intros)|apply And.intro|intro vr|(refine ny ?_;intros;simp only [go_sem,kp51,geff])
  all_goals try exact nd
  all_goals (refine nl ?_;simp only [go_sem])
  ·exact .inr (by simp_all [ints])
  ·exact .inl hk
theorem cloneS_ec {lo hi:Nat} (h4:σ[4]? =some (.arr 3 1 (ints .i64 l) 0 false)) (hl:l.length≤1048576) (hk:k (.arr σ.length 0) (σ++[.arr 3 1 (ints .i64 ((l.take hi).drop lo)) 0 false])):EC Tryz.prog 51 [.sub 4 0 1 lo hi] σ k:=by
  have hle:((l.take hi).drop lo).length≤1048576:=by rw [List.length_drop,List.length_take];omega
  have e:((ints .i64 l).take hi).drop lo=ints .i64 ((l.take hi).drop lo):=by simp [ints,List.map_take,List.map_drop]
  refine EC.nilArr 3 1 ?_
  obtain ⟨D,hD⟩:∃ D,(l.take hi).drop lo=D:=⟨_,rfl⟩
  rw [hD] at hle hk e
  refine ecR M9_ok (kp51) Tryz.func51 [.tmp 2] (h:=fun KF=>?_)
  unfold M9
  with_reducible repeat' first|(refine nx ?_;intros)|apply And.intro|intro vr|(refine ny ?_;intros;simp only [go_sem,kp51,geff,h4,e,hD,yes])
  all_goals try exact nd
  all_goals (refine nl ?_;simp only [go_sem])
  ·refine .inr ?_
   have hD2:D=[]:=by
     cases D with
     |nil=>rfl
     |cons a D=>cases vr
   rw [hD2] at hk
   exact hk
  ·exact .inl hk
end
section
variable {x y:AObj} {B:Prg} {mt:List Int} {m:MS} {k:AV→List AObj→Prop} {l:List AObj}
theorem bdm {n:Nat} (h:BdS 7 (mobj x y B mt m [])) (hn:(mobj x y B mt m l).length=n) (hl:l.all (lowO n)=true):BdS n (mobj x y B mt m l):=BdS.app (σ:=mobj x y B mt m []) (l:=l) h (by rw [←hn];show 7≤l.length+7;omega) hl
theorem bd8 {e sz ver:Nat} {xs:List AV} {fz:Bool} (h:BdS 7 (mobj x y B mt m [])):BdS 8 (mobj x y B mt m [.arr e sz xs ver fz]):=BdS.app (σ:=mobj x y B mt m []) (l:=[.arr e sz xs ver fz]) h (by omega) rfl
theorem le_mo2 {n0:Nat} {f g:Nat→AV} {e sz ver:Nat} {xs:List AV} {fz:Bool} (hn:n0≤8) (hb:BdS 7 (mobj x y B mt m [])) (hg:∀ j,low1 8 (g j)=true) (h:∀ j,LeR (f j) (g j)):
    Le n0 ⟨f,mobj x y B mt m (.arr e sz xs ver fz::l)⟩ ⟨g,mobj x y B mt m [.arr e sz xs ver fz]⟩:=le_backB (l:=mobj x y B mt m [.arr e sz xs ver fz]) (m:=l) rfl hn (bd8 hb) hg h
theorem kp_mo5 {l':List AObj}:Kp (fun i=>i==5) (mobj x y B mt m l) (mobj x y B mt m l'):=fun o t cs hD ho=>by
  have e:o=5:=by simpa using hD
  subst e
  exact ho
noncomputable def ecn51:ECon Tryz.prog where
  f:=51
  c:=fun args σ k=>match args with
   |[.sl false 1 xs]=>(∃ l,xs=ints .i64 l∧l.length≤1000000)∧k (.arr σ.length 0) (σ++[.arr 3 1 xs 0 false])
   |[.sub 4 0 1 lo hi]=>∃ l:List Int,σ[4]? =some (.arr 3 1 (ints .i64 l) 0 false)∧l.length≤1048576∧k (.arr σ.length 0) (σ++[.arr 3 1 (ints .i64 ((l.take hi).drop lo)) 0 false])
   |_=>False
  ok:=by
   intro args σ k h
   split at h
   ·obtain ⟨⟨l,rfl,h1⟩,h2⟩:=h
    exact clone_ec h1 h2
   ·obtain ⟨l,h4,h1,h2⟩:=h
    exact cloneS_ec h4 h1 h2
   ·exact h.elim
  fk:=fk51
theorem ints_inj:∀ {l m:List Int},ints .i64 l=ints .i64 m→l=m
  |[],[],_=>rfl
  |[],_::_,h=>by cases h
  |_::_,[],h=>by cases h
  |a::l,b::m,h=>by
   simp only [ints,List.map_cons,List.cons.injEq,AV.lit.injEq,Value.int.injEq,true_and] at h
   rw [h.1,ints_inj (l:=l) (m:=m) h.2]
theorem ecn51_f:ecn51.f=51:=rfl
theorem ecn51_b {l:List AObj} {lo hi:Nat} {k:AV→List AObj→Prop}:ecn51.c [.sub 4 0 1 lo hi] (mobj x y B mt m l) k=(m.arena.length≤1048576∧k (.arr (l.length+7) 0) (mobj x y B mt m (l++[.arr 3 1 (ints .i64 ((m.arena.take hi).drop lo)) 0 false]))):=by
  refine propext ⟨fun h=>?_,fun h=>⟨m.arena,rfl,h.1,h.2⟩⟩
  obtain ⟨D,h1,h2,h3⟩:=h
  have e:D=m.arena:=by
    have h1:some (AObj.arr 3 1 (ints .i64 m.arena) 0 false)=some (.arr 3 1 (ints .i64 D) 0 false):=h1
    have h2:ints .i64 m.arena=ints .i64 D:=by
      have:=Option.some.inj h1
      exact (AObj.arr.inj this).2.2.1
    exact (ints_inj h2).symm
  subst e
  exact ⟨h2,h3⟩
theorem ecn51_a {τ:List AObj} {D:List Int} {k:AV→List AObj→Prop}:ecn51.c [.sl false 1 (ints .i64 D)] τ k=(D.length≤1000000∧k (.arr τ.length 0) (τ++[.arr 3 1 (ints .i64 D) 0 false])):=by
  refine propext ⟨fun h=>?_,fun h=>⟨⟨D,rfl,h.1⟩,h.2⟩⟩
  obtain ⟨⟨l,h1,h2⟩,h3⟩:=h
  rw [ints_inj h1]
  exact ⟨h2,by rw [←ints_inj h1];exact h3⟩
attribute [go_sem] ecn51_f ecn51_a ecn51_b
noncomputable def M10:Env:=envJ (P:=Tryz.prog) jkR zer (fun _=>false) (fun _=>false) [] [ecn51]
theorem M10_ok:EnvOk Tryz.prog M10:=envJOk zer_ok
theorem kp_mo58 {a b c:AObj} {l l':List AObj} {a':AObj}:Kp (fun i=>i==5||i==8||i==9) (mobj x y B mt m (a::b::c::l)) (mobj x y B mt m (a'::b::c::l')):=fun o t cs hD ho=>by
  have e:o=5∨o=8∨o=9:=by
    simp only [Bool.or_eq_true,beq_iff_eq] at hD;omega
  rcases e with rfl|rfl|rfl<;>exact ho
section
variable {a b c d e f:AObj}
theorem mo_9 {ex:List AObj}:(mobj x y B mt m (a::b::c::ex))[9]? =some c:=rfl
theorem mo_10 {ex:List AObj}:(mobj x y B mt m (a::b::c::d::ex))[10]? =some d:=rfl
theorem mo_11 {ex:List AObj}:(mobj x y B mt m (a::b::c::d::e::ex))[11]? =some e:=rfl
theorem mo_12 {ex:List AObj}:(mobj x y B mt m (a::b::c::d::e::f::ex))[12]? =some f:=rfl
theorem mo_s8 {u:AObj} {ex:List AObj}:(mobj x y B mt m (a::b::ex)).set 8 u=mobj x y B mt m (a::u::ex):=rfl
theorem mo_s9 {u:AObj} {ex:List AObj}:(mobj x y B mt m (a::b::c::ex)).set 9 u=mobj x y B mt m (a::b::u::ex):=rfl
theorem mo_s10 {u:AObj} {ex:List AObj}:(mobj x y B mt m (a::b::c::d::ex)).set 10 u=mobj x y B mt m (a::b::c::u::ex):=rfl
theorem mo_s11 {u:AObj} {ex:List AObj}:(mobj x y B mt m (a::b::c::d::e::ex)).set 11 u=mobj x y B mt m (a::b::c::d::u::ex):=rfl
theorem mo_s12 {u:AObj} {ex:List AObj}:(mobj x y B mt m (a::b::c::d::e::f::ex)).set 12 u=mobj x y B mt m (a::b::c::d::e::u::ex):=rfl
end
attribute [go_sem] mo_9 mo_10 mo_11 mo_12 mo_s8 mo_s9 mo_s10 mo_s11 mo_s12
def rtl (b:Bool) (te:ByteArray) (td D:List Int):List AObj:=[.arr 3 1 (ints .i64 td) 0 b,.arr 3 1 (ints .i64 D) 0 b,.box 45 [.lit (.string te),if b=true then .sl false 1 (ints .i64 td) else .arr 10 0,if b=true then .sl false 1 (ints .i64 D) else .arr 11 0]]
theorem rtl_f {te:ByteArray} {td D:List Int}:rtl false te td D=[.arr 3 1 (ints .i64 td) 0 false,.arr 3 1 (ints .i64 D) 0 false,.box 45 [.lit (.string te),.arr 10 0,.arr 11 0]]:=rfl
theorem rtl_t {te:ByteArray} {td D:List Int}:rtl true te td D=[.arr 3 1 (ints .i64 td) 0 true,.arr 3 1 (ints .i64 D) 0 true,.box 45 [.lit (.string te),.sl false 1 (ints .i64 td),.sl false 1 (ints .i64 D)]]:=rfl
theorem le_rtl {n0:Nat} {f:Nat→AV} {te:ByteArray} {td D:List Int} {a b c:AObj}:Le n0 ⟨f,mobj x y B mt m [a,b,c,.arr 3 1 (ints .i64 td) 0 false,.arr 3 1 (ints .i64 D) 0 false,.box 45 [.lit (.string te),.arr 10 0,.arr 11 0]]⟩
    ⟨f,mobj x y B mt m [a,b,c,.arr 3 1 (ints .i64 td) 0 true,.arr 3 1 (ints .i64 D) 0 true,.box 45 [.lit (.string te),.sl false 1 (ints .i64 td),.sl false 1 (ints .i64 D)]]⟩:=
  (le_frzB (e:=3) (sz:=1) (ver:=0) (xs:=ints .i64 td) (t:=45) (cs:=[.lit (.string te),.arr 10 0,.arr 11 0]) 10 12 1 rfl rfl (by simp) rfl).trans
    (le_frzB (e:=3) (sz:=1) (ver:=0) (xs:=ints .i64 D) (t:=45) (cs:=[.lit (.string te),.sl false 1 (ints .i64 td),.arr 11 0]) 11 12 2 rfl rfl (by simp) rfl)
set_option maxHeartbeats 8000000 in
theorem results_ec (hO:OkB B) (hv:validS B=true) (hA:(m.arena.length:Int)=B.arena) (hk:k (.sl false 3 (arrs (resL B m.arena))) (mobj x y B mt m [])):EC Tryz.prog 25 [.ref 5 0] (mobj x y B mt m []) k:=by
  refine ec_fin fun hbd=>?_
  have hol:=hO.outs
  have hil:=hO.ins
  have htl:=hO.types
  obtain ⟨_,⟨a0,a1⟩,_,_,h5,_⟩:=valid_inv hv
  refine ecR M10_ok (kp25) Tryz.func25 [.tmp 2] (h:=fun KF=>?_)
  unfold M10
  repeat' first|(with_reducible first|(refine nx ?_;intros)|apply And.intro|intro vr)|exact kp_fls|exact kp_mo58|exact kp_mo5|exact kpd|((with_reducible refine t_drawG (id:=5) (fun i=>i==5) 15 [(0,1),(1,1),(2,1),(3,1),(4,1),(5,1),(6,1),(7,1),(8,1),(9,1),(10,1),(11,1),(12,1),(13,1),(14,1),(15,3),(16,0)] (by kernel_rfl) (by kernel_rfl) (by kernel_rfl) fun K=>?_);simp only [noA,List.filter_cons,List.filter_nil,Nat.reduceBEq,Bool.not_false,Bool.not_true,reduceIte,if_true,Bool.false_eq_true];simp only [pickO,List.getElem?_toArray,List.getElem?_cons_zero,List.getElem?_cons_succ,Nat.reduceAdd,Nat.reduceSub,fo_some];refine nh ?_;intro KL;simp only [go_sem,kp25,geff,yes])|((with_reducible first|refine ny ?_|refine t_kLF ?_ ?_);intros;simp only [go_sem,kp25,geff,yes])
  all_goals try exact nd
  refine t_loopF (ι:={q:Nat×Nat // q.1≤B.outs.length}) (fun i=>[(16,.lit (.int .i64 i.1.1)),(3,.arr 7 i.1.2)]) (fun i=>mobj x y B mt m [.arr 45 3 (arrs ((List.range i.1.1).map (resA B m.arena))) i.1.2 false]) (fun i=>B.outs.length - i.1.1) ⟨(0,0),by simp⟩ ?_ ?_
  ·refine (le_nil 3 45 3 rfl).trans ?_
   exact lf
  rintro ⟨⟨j0,v⟩,hi⟩ K0
  simp only at hi
  rcases Nat.lt_or_ge j0 B.outs.length with hc|hc
  ·have g3:decide ((j0:Int)<(B.outs.length:Int))=true:=decide_eq_true (by omega)
   have ho:=out1_of hv hc
   have hrs:=res_succ (B:=B) (ar:=m.arena) (i:=j0)
   obtain ⟨o1,o2,o3,o4,o5⟩:=ho
   have hdd:resA B m.arena j0=⟨(B.types.getD (B.ins.length+j0) nilA).e,(B.types.getD (B.ins.length+j0) nilA).d,((m.arena.drop (B.outs.getD j0 (0,0)).1.toNat).take (B.outs.getD j0 (0,0)).2.toNat).map (nrm (B.types.getD (B.ins.length+j0) nilA).e)⟩:=rfl
   have hix:((B.ins.length:Int)+(j0:Int)).toNat=B.ins.length+j0:=by omega
   generalize hT:B.types.getD (B.ins.length+j0) nilA=T at*
   generalize hP:B.outs.getD j0 (0,0)=P at*
   obtain ⟨te,td,tx⟩:=T
   obtain ⟨po,ps⟩:=P
   simp only at o2 o3 o4 o5 hdd
   have vT:arrV ⟨te,td,tx⟩= .agg [.lit (.string te),.sl false 1 (ints .i64 td),.sl false 1 (ints .i64 tx)]:=rfl
   have vP:plV (po,ps)= .agg [.lit (.int .i64 po),.lit (.int .i64 ps)]:=rfl
   have hts:(m.arena.take (po+ps).toNat).drop po.toNat=(m.arena.drop po.toNat).take ps.toNat:=by
     rw [List.drop_take,show (po+ps).toNat - po.toNat=ps.toNat by omega]
   have hE:((ints .i64 m.arena).take (po+ps).toNat).drop po.toNat=ints .i64 ((m.arena.drop po.toNat).take ps.toNat):=by
     rw [←hts];simp [ints,List.map_take,List.map_drop]
   repeat' first|(with_reducible first|(refine nx ?_;intros)|apply And.intro|intro vr)|exact kp_fls|exact kp_mo58|exact kp_mo5|exact kpd|((with_reducible refine t_drawG (id:=5) (fun i=>i==5) 15 [(0,1),(1,1),(2,1),(3,1),(4,1),(5,1),(6,1),(7,1),(8,1),(9,1),(10,1),(11,1),(12,1),(13,1),(14,1),(15,3),(16,0)] (by kernel_rfl) (by kernel_rfl) (by kernel_rfl) fun K=>?_);simp only [noA,List.filter_cons,List.filter_nil,Nat.reduceBEq,Bool.not_false,Bool.not_true,reduceIte,if_true,Bool.false_eq_true];simp only [pickO,List.getElem?_toArray,List.getElem?_cons_zero,List.getElem?_cons_succ,Nat.reduceAdd,Nat.reduceSub,fo_some];refine nh ?_;intro KL;simp only [go_sem,kp25,geff,g3,hT,hP,vT,vP,hix,List.cons_append,List.nil_append,Int.toNat_natCast,yes])|((with_reducible first|refine ny ?_|refine t_kLF ?_ ?_);intros;simp only [go_sem,kp25,geff,g3,hT,hP,vT,vP,hix,List.cons_append,List.nil_append,Int.toNat_natCast,yes])
   all_goals try exact nd
   generalize (m.arena.drop po.toNat).take ps.toNat=D0 at*
   refine t_drawPD ⟨upd (upd (upd (upd (upd (upd (upd topF 0 (.ref 5 0)) 3 (.arr 7 v)) 6 (.ref 9 0)) 7 (.ref 12 0)) 14 (.sl false 2 (plsV B.outs))) 15 (.lit (.int .i64 B.outs.length))) 16 (.lit (.int .i64 j0)),
     mobj x y B mt m [.arr 45 3 (arrs ((List.range j0).map (resA B m.arena))) v false,.box 73 [.lit (.int .i64 po),.lit (.int .i64 ps)],.box 45 [.lit (.string te),.sl false 1 (ints .i64 td),.sl false 1 (ints .i64 tx)],.arr 3 1 (ints .i64 td) 0 false,.arr 3 1 (ints .i64 D0) 0 false,.box 45 [.lit (.string te),.arr 10 0,.arr 11 0]]⟩
     (fun i=>i==5||i==8||i==9) [(0,1),(1,1),(2,1),(3,1),(5,1),(6,1),(7,1),(8,1),(9,1),(10,1),(11,1),(12,1),(13,1),(14,1),(15,1)] [4,16,17,18,19] [(4,17),(16,17),(17,18)] [(20,0)] (by kernel_rfl) ?_ ?_
   rotate_left
   ·skip
    intro K
    simp only [pickO,pickG,List.getElem?_toArray,List.getElem?_cons_zero,List.getElem?_cons_succ,List.length_cons,List.length_nil,Nat.reduceAdd,lp_some]
    simp only [go_sem,pickO,pickG,geff,kp25,picksD,List.filter_cons,List.filter_nil,List.all_cons,List.all_nil,List.any_cons,List.any_nil,Nat.reduceBEq,List.map_cons,List.map_nil,List.cons_append,List.nil_append,Nat.zero_add,hts,beq_self_eq_true]
    repeat' first|(with_reducible first|(refine nx ?_;intros)|apply And.intro|intro vr)|exact kp_fls|exact kp_mo58|exact kp_mo5|exact kpd|((with_reducible refine t_drawG (id:=5) (fun i=>i==5) 15 [(0,1),(1,1),(2,1),(3,1),(4,1),(5,1),(6,1),(7,1),(8,1),(9,1),(10,1),(11,1),(12,1),(13,1),(14,1),(15,3),(16,0)] (by kernel_rfl) (by kernel_rfl) (by kernel_rfl) fun K=>?_);simp only [noA,List.filter_cons,List.filter_nil,Nat.reduceBEq,Bool.not_false,Bool.not_true,reduceIte,if_true,Bool.false_eq_true];simp only [pickO,List.getElem?_toArray,List.getElem?_cons_zero,List.getElem?_cons_succ,Nat.reduceAdd,Nat.reduceSub,fo_some];refine nh ?_;intro KL;simp only [go_sem,kp25,geff,picksD,List.filter_cons,List.filter_nil,List.all_cons,List.all_nil,List.any_cons,List.any_nil,Nat.reduceBEq,List.map_cons,List.map_nil,List.cons_append,List.nil_append,Nat.zero_add,hts,beq_self_eq_true])|((with_reducible first|refine ny ?_|refine t_kLF ?_ ?_|refine t_kPD ?_ ?_);intros;simp only [go_sem,kp25,geff,picksD,List.filter_cons,List.filter_nil,List.all_cons,List.all_nil,List.any_cons,List.any_nil,Nat.reduceBEq,List.map_cons,List.map_nil,List.cons_append,List.nil_append,Nat.zero_add,hts,beq_self_eq_true])
    all_goals try exact nd
    all_goals first
      |exact lg
      |(refine le_swap2 (τ:=mobj x y B mt m [_,_,_,_]) (by simp [mo_len]) (bdm hbd rfl rfl) rfl rfl ?_ ?_
        ·repeat' (first|exact flatF_top|(refine flatF_upd rfl ?_))
        simp only [mo_len,mo_app,renF_upd,renF_top,ren1,renA,renO,sw,List.map_cons,List.map_nil,List.length_cons,List.length_nil,Nat.reduceAdd,Nat.reduceEqDiff,reduceIte,List.cons_append,List.nil_append]
        exact lg)
      |(refine le_swapM (τ:=mobj x y B mt m [_,_,_]) (m:=[_]) (by simp [mo_len]) (bdm hbd rfl rfl) rfl rfl rfl ?_ ?_
        ·repeat' (first|exact flatF_top|(refine flatF_upd rfl ?_))
        simp only [mo_len,mo_app,renF_upd,renF_top,ren1,renA,renO,sw,List.map_cons,List.map_nil,List.length_cons,List.length_nil,Nat.reduceAdd,Nat.reduceEqDiff,reduceIte,List.cons_append,List.nil_append]
        refine le_swap2 (τ:=mobj x y B mt m [_,_,_,_]) (by simp [mo_len]) (bdm hbd rfl rfl) rfl rfl ?_ ?_
        ·repeat' (first|exact flatF_top|(refine flatF_upd rfl ?_))
        simp only [mo_len,mo_app,renF_upd,renF_top,ren1,renA,renO,sw,List.map_cons,List.map_nil,List.length_cons,List.length_nil,Nat.reduceAdd,Nat.reduceEqDiff,reduceIte,List.cons_append,List.nil_append]
        exact lg)
   have hDl:D0.length≤1048576:=by rw [←hts,List.length_drop,List.length_take];omega
   repeat' first|(with_reducible first|(refine nx ?_;intros)|apply And.intro|intro vr)|exact kp_fls|exact kp_mo58|exact kp_mo5|exact kpd|((with_reducible refine t_drawG (id:=5) (fun i=>i==5) 15 [(0,1),(1,1),(2,1),(3,1),(4,1),(5,1),(6,1),(7,1),(8,1),(9,1),(10,1),(11,1),(12,1),(13,1),(14,1),(15,3),(16,0)] (by kernel_rfl) (by kernel_rfl) (by kernel_rfl) fun K=>?_);simp only [noA,List.filter_cons,List.filter_nil,Nat.reduceBEq,Bool.not_false,Bool.not_true,reduceIte,if_true,Bool.false_eq_true];simp only [pickO,List.getElem?_toArray,List.getElem?_cons_zero,List.getElem?_cons_succ,Nat.reduceAdd,Nat.reduceSub,fo_some];refine nh ?_;intro KL;simp only [go_sem,kp25,geff,Int.toNat_natCast,yes])|((with_reducible first|refine ny ?_|refine t_kLF ?_ ?_);intros;simp only [go_sem,kp25,geff,Int.toNat_natCast,yes])
   all_goals try exact nd
   refine t_loopF (ι:={k:Nat // k≤D0.length}) (fun i=>[(58,.lit (.int .i64 (i.1:Int)))]) (fun i=>mobj x y B mt m (.arr 45 3 (arrs ((List.range j0).map (resA B m.arena))) v false:: .box 73 [.lit (.int .i64 po),.lit (.int .i64 ps)]:: .box 45 [.lit (.string te),.sl false 1 (ints .i64 td),.sl false 1 (ints .i64 tx)]::
     rtl (decide (i.1=D0.length)) te td ((D0.take i.1).map (nrm te)++D0.drop i.1))) (fun i=>D0.length - i.1) ⟨0,Nat.zero_le _⟩ ?_ ?_
   ·by_cases hD0:0=D0.length
    ·simp only [decide_eq_true hD0,rtl_t,List.take_zero,List.map_nil,List.nil_append,List.drop_zero]
     refine le_rtl.trans ?_
     exact lg
    ·simp only [decide_eq_false hD0,rtl_f,List.take_zero,List.map_nil,List.nil_append,List.drop_zero]
     exact lg
   rintro ⟨k0,hk0⟩ K1
   have hnl:((D0.take k0).map (nrm te)++D0.drop k0).length=D0.length:=by rw [List.length_append,List.length_map,List.length_take,List.length_drop];omega
   rcases Nat.lt_or_ge k0 D0.length with hc2|hc2
   ·have g5:decide ((k0:Int)<(D0.length:Int))=true:=decide_eq_true (by omega)
    have g6:decide (k0=D0.length)=false:=decide_eq_false (by omega)
    have hbk:∀ {n0:Nat} {f:Nat→AV} {L:List Int},L=(D0.take (k0+1)).map (nrm te)++D0.drop (k0+1)→Le n0 ⟨f,mobj x y B mt m (.arr 45 3 (arrs ((List.range j0).map (resA B m.arena))) v false:: .box 73 [.lit (.int .i64 po),.lit (.int .i64 ps)]:: .box 45 [.lit (.string te),.sl false 1 (ints .i64 td),.sl false 1 (ints .i64 tx)]::rtl false te td L)⟩
      ⟨f,mobj x y B mt m (.arr 45 3 (arrs ((List.range j0).map (resA B m.arena))) v false:: .box 73 [.lit (.int .i64 po),.lit (.int .i64 ps)]:: .box 45 [.lit (.string te),.sl false 1 (ints .i64 td),.sl false 1 (ints .i64 tx)]::rtl (decide (k0+1=D0.length)) te td ((D0.take (k0+1)).map (nrm te)++D0.drop (k0+1)))⟩:=fun e=>by
      subst e
      by_cases q:k0+1=D0.length
      ·rw [decide_eq_true q];exact le_rtl
      ·rw [decide_eq_false q];exact Le.refl _ _
    have hgd:=nrm_getD (e:=te) hc2
    have hbl:eqS te ⟨#[98,111,111,108]⟩=eqS te sBool:=rfl
    have hns:=nrm_succ (e:=te) hc2
    have hnt:=nrm_set (e:=te) hc2
    generalize hN:D0.getD k0 0=N at*
    cases hb:eqS te sBool with
    |true=>
     cases hz:(N !=0) with
     |true=>
      have hn1:nrm te N=1:=by unfold nrm;rw [if_pos ⟨hb,by simpa using hz⟩]
      have hnt:=hnt hn1
      repeat' first|(with_reducible first|(refine nx ?_;intros)|apply And.intro|intro vr)|exact kp_fls|exact kp_mo58|exact kp_mo5|exact kpd|((with_reducible refine t_drawG (id:=5) (fun i=>i==5) 15 [(0,1),(1,1),(2,1),(3,1),(4,1),(5,1),(6,1),(7,1),(8,1),(9,1),(10,1),(11,1),(12,1),(13,1),(14,1),(15,3),(16,0)] (by kernel_rfl) (by kernel_rfl) (by kernel_rfl) fun K=>?_);simp only [noA,List.filter_cons,List.filter_nil,Nat.reduceBEq,Bool.not_false,Bool.not_true,reduceIte,if_true,Bool.false_eq_true];simp only [pickO,List.getElem?_toArray,List.getElem?_cons_zero,List.getElem?_cons_succ,Nat.reduceAdd,Nat.reduceSub,fo_some];refine nh ?_;intro KL;simp only [go_sem,kp25,geff,g5,g6,rtl_f,hgd,hbl,hb,hz,hnl,Int.toNat_natCast,yes])|((with_reducible first|refine ny ?_|refine t_kLF ?_ ?_);intros;simp only [go_sem,kp25,geff,g5,g6,rtl_f,hgd,hbl,hb,hz,hnl,Int.toNat_natCast,yes])
      all_goals try exact nd
      refine ⟨⟨k0+1,by omega⟩,by simp only;omega,?_⟩
      refine Le.trans ?_ (hbk hnt)
      exact lg
     |false=>
      have hn1:nrm te N=N:=by unfold nrm;rw [if_neg (fun q=>by have:N=0:=by simpa using hz
                                                               exact q.2 this)]
      have hns:=hns hn1
      repeat' first|(with_reducible first|(refine nx ?_;intros)|apply And.intro|intro vr)|exact kp_fls|exact kp_mo58|exact kp_mo5|exact kpd|((with_reducible refine t_drawG (id:=5) (fun i=>i==5) 15 [(0,1),(1,1),(2,1),(3,1),(4,1),(5,1),(6,1),(7,1),(8,1),(9,1),(10,1),(11,1),(12,1),(13,1),(14,1),(15,3),(16,0)] (by kernel_rfl) (by kernel_rfl) (by kernel_rfl) fun K=>?_);simp only [noA,List.filter_cons,List.filter_nil,Nat.reduceBEq,Bool.not_false,Bool.not_true,reduceIte,if_true,Bool.false_eq_true];simp only [pickO,List.getElem?_toArray,List.getElem?_cons_zero,List.getElem?_cons_succ,Nat.reduceAdd,Nat.reduceSub,fo_some];refine nh ?_;intro KL;simp only [go_sem,kp25,geff,g5,g6,rtl_f,hgd,hbl,hb,hz,hnl,Int.toNat_natCast,yes])|((with_reducible first|refine ny ?_|refine t_kLF ?_ ?_);intros;simp only [go_sem,kp25,geff,g5,g6,rtl_f,hgd,hbl,hb,hz,hnl,Int.toNat_natCast,yes])
      all_goals try exact nd
      refine ⟨⟨k0+1,by omega⟩,by simp only;omega,?_⟩
      refine Le.trans ?_ (hbk hns)
      exact lg
    |false=>
     have hn1:nrm te N=N:=by unfold nrm;rw [if_neg (fun q=>by rw [hb] at q;cases q.1)]
     have hns:=hns hn1
     repeat' first|(with_reducible first|(refine nx ?_;intros)|apply And.intro|intro vr)|exact kp_fls|exact kp_mo58|exact kp_mo5|exact kpd|((with_reducible refine t_drawG (id:=5) (fun i=>i==5) 15 [(0,1),(1,1),(2,1),(3,1),(4,1),(5,1),(6,1),(7,1),(8,1),(9,1),(10,1),(11,1),(12,1),(13,1),(14,1),(15,3),(16,0)] (by kernel_rfl) (by kernel_rfl) (by kernel_rfl) fun K=>?_);simp only [noA,List.filter_cons,List.filter_nil,Nat.reduceBEq,Bool.not_false,Bool.not_true,reduceIte,if_true,Bool.false_eq_true];simp only [pickO,List.getElem?_toArray,List.getElem?_cons_zero,List.getElem?_cons_succ,Nat.reduceAdd,Nat.reduceSub,fo_some];refine nh ?_;intro KL;simp only [go_sem,kp25,geff,g5,g6,rtl_f,hgd,hbl,hb,hnl,Int.toNat_natCast,yes])|((with_reducible first|refine ny ?_|refine t_kLF ?_ ?_);intros;simp only [go_sem,kp25,geff,g5,g6,rtl_f,hgd,hbl,hb,hnl,Int.toNat_natCast,yes])
     all_goals try exact nd
     refine ⟨⟨k0+1,by omega⟩,by simp only;omega,?_⟩
     refine Le.trans ?_ (hbk hns)
     exact lg
   ·have g5:decide ((k0:Int)<(D0.length:Int))=false:=decide_eq_false (by omega)
    have hF:(D0.take k0).map (nrm te)++D0.drop k0=D0.map (nrm te):=by rw [List.take_of_length_le hc2,List.drop_eq_nil_of_le hc2,List.append_nil]
    have hln:(arrs ((List.range j0).map (resA B m.arena))).length=j0:=by simp [arrs]
    have g6:decide (k0=D0.length)=true:=decide_eq_true (by omega)
    repeat' first|(with_reducible first|(refine nx ?_;intros)|apply And.intro|intro vr)|exact kp_fls|exact kp_mo58|exact kp_mo5|exact kpd|((with_reducible refine t_drawG (id:=5) (fun i=>i==5) 15 [(0,1),(1,1),(2,1),(3,1),(4,1),(5,1),(6,1),(7,1),(8,1),(9,1),(10,1),(11,1),(12,1),(13,1),(14,1),(15,3),(16,0)] (by kernel_rfl) (by kernel_rfl) (by kernel_rfl) fun K=>?_);simp only [noA,List.filter_cons,List.filter_nil,Nat.reduceBEq,Bool.not_false,Bool.not_true,reduceIte,if_true,Bool.false_eq_true];simp only [pickO,List.getElem?_toArray,List.getElem?_cons_zero,List.getElem?_cons_succ,Nat.reduceAdd,Nat.reduceSub,fo_some];refine nh ?_;intro KL;simp only [go_sem,kp25,geff,g5,g6,rtl_t,hF,hnl,hln,yes])|((with_reducible first|refine ny ?_|refine t_kLF ?_ ?_);intros;simp only [go_sem,kp25,geff,g5,g6,rtl_t,hF,hnl,hln,yes])
    all_goals try exact nd
    have hv2:arrs ((List.range j0).map (resA B m.arena))++[.agg [.lit (.string te),.sl false 1 (ints .i64 td),.sl false 1 (ints .i64 (D0.map (nrm te)))]]=arrs ((List.range (j0+1)).map (resA B m.arena)):=by
      rw [←hrs,hdd];simp [arrs,arrV]
    simp only [hv2]
    refine ⟨⟨(j0+1,v+1),by simp only;omega⟩,by simp only;omega,?_⟩
    try simp only [updL_nil,updL_cons,delF_top,delF_upd,Nat.reduceEqDiff,reduceIte]
    refine le_mo2 (by simp [mo_len]) hbd ?_ ?_
    ·repeat' (first|exact low_top|(refine low_upd rfl ?_))
    exact lq
  ·have g3:decide ((j0:Int)<(B.outs.length:Int))=false:=decide_eq_false (by omega)
   obtain rfl:j0=B.outs.length:=by omega
   repeat' first|(with_reducible first|(refine nx ?_;intros)|apply And.intro|intro vr)|exact kp_fls|exact kp_mo58|exact kp_mo5|exact kpd|((with_reducible refine t_drawG (id:=5) (fun i=>i==5) 15 [(0,1),(1,1),(2,1),(3,1),(4,1),(5,1),(6,1),(7,1),(8,1),(9,1),(10,1),(11,1),(12,1),(13,1),(14,1),(15,3),(16,0)] (by kernel_rfl) (by kernel_rfl) (by kernel_rfl) fun K=>?_);simp only [noA,List.filter_cons,List.filter_nil,Nat.reduceBEq,Bool.not_false,Bool.not_true,reduceIte,if_true,Bool.false_eq_true];simp only [pickO,List.getElem?_toArray,List.getElem?_cons_zero,List.getElem?_cons_succ,Nat.reduceAdd,Nat.reduceSub,fo_some];refine nh ?_;intro KL;simp only [go_sem,kp25,geff,g3,yes])|((with_reducible first|refine ny ?_|refine t_kLF ?_ ?_);intros;simp only [go_sem,kp25,geff,g3,yes])
   all_goals try exact nd
   all_goals (refine nl ?_;simp only [go_sem,finE])
   exact ⟨_,_,rfl,LeA.refl _,hbd,hk⟩
end
end Go.Proofs.YtnlimcijgpaegaaGreat.Mm

namespace Go.Proofs.YtnlimcijgpaegaaGreat.Mm
open Go.Proofs.YtnlimcijgpaegaaGreat
open Go Go.Fw Bm
set_option maxRecDepth 20000
abbrev oMs2_0:List (Nat×Nat):=[(0,1),(2,1),(3,1),(4,1),(5,1),(6,1),(7,1),(8,1),(9,1),(1,0),(10,0),(11,1),(12,0),(13,1)]
attribute [go_sem] oMs2_0
theorem EC.gone1 {P:Program} {f:FuncId} {args:List AV} {σ:List AObj} {k:AV→List AObj→Prop} (h:EC P f args (σ++[.gone]) k):EC P f args σ k:=by
  intro cx G w vs hr hl
  have hle:G.le {G with n:=G.n+1}:=⟨CLe.refl _,Nat.le_succ _,fun _ _=>Nat.le_refl _,fun _ _ _=>rfl,fun _ _ _=>rfl⟩
  have get:∀ {o:Nat} {ob:AObj},(σ++[AObj.gone])[o]? =some ob→ob.live=true→σ[o]? =some ob:=fun {o ob} ho hlv=>by
    rcases Nat.lt_or_ge o σ.length with c|c
    ·rwa [List.getElem?_append_left c] at ho
    ·rw [List.getElem?_append_right c] at ho
     rcases hq:o - σ.length with _|q
     ·rw [hq] at ho;cases ho;cases hlv
     ·rw [hq] at ho;cases ho
  have hr':Rel cx {G with n:=G.n+1} (σ++[.gone]) w:=by
    refine ⟨by show G.n+1=_;rw [hr.n];simp,fun o ob ho=>?_,fun o1 o2 ob1 ob2 g h1 l1 h2 l2 g1 g2=>hr.inj o1 o2 ob1 ob2 g (get h1 l1) l1 (get h2 l2) l2 g1 g2,fun o ob g h1 l1 g1=>hr.own o ob g (get h1 l1) l1 g1,hr.cell,hr.os,hr.tape,hr.output,hr.size,hr.block,hr.old,hr.le0.trans hle⟩
    rcases Nat.lt_or_ge o σ.length with c|c
    ·rw [List.getElem?_append_left c] at ho
     exact (hr.ok o ob ho).keep hle rfl rfl (fun hlv g hg=>⟨rfl,((hr.ok o ob ho).lt hlv hg).2⟩)
    ·rw [List.getElem?_append_right c] at ho
     rcases hq:o - σ.length with _|q
     ·rw [hq] at ho;cases ho;trivial
     ·rw [hq] at ho;cases ho
  refine (h cx _ w vs hr' ⟨hl.1,fun i hi=>(hl.2 i hi).mono hle⟩).mono ?_
  rintro e w' ⟨v,G',σ',x,h1,h2,h3⟩
  exact ⟨v,G',σ',x,h1,hle.trans h2,h3⟩
def mtS (B:Prg):List Int:=(matchS B.ops).getD []
noncomputable def endM (B:Prg) (ar:List Int) (pk:Int):St:=endR B (mtS B) [] (.blk 0 B.ops.length) (s0 B ar pk)
noncomputable def runE (B:Prg) (ins:List Arr):Int ⊕ St:=match startS B ins with
  |.inl e=> .inl e
  |.inr (ar,pk)=>if (endM B ar pk).left≤0 then .inl 3 else if (endM B ar pk).failed=true then .inl 22 else .inr (endM B ar pk)
def outV (l:List Arr) (rd wr op pk:Int) (V:List Int):AV:= .agg [.sl false 3 (arrs l),.lit (.int .i64 rd),.lit (.int .i64 wr),.lit (.int .i64 op),.lit (.int .i64 pk),.sl false 1 (ints .i64 V)]
def runV (B:Prg):Int ⊕ St→AV
  |.inl e=> .tup [outV [] 0 0 0 0 [],.lit (.int .i64 e)]
  |.inr s=> .tup [outV (resL B s.arena) s.reads s.writes s.ops s.peak s.viol,.lit (.int .i64 0)]
def stepsV:Int ⊕ St→AV
  |.inl e=> .tup [.lit (.int .i64 0),.lit (.int .i64 e)]
  |.inr s=> .tup [.lit (.int .i64 (200001 - s.left)),.lit (.int .i64 0)]
theorem runE_1 {B:Prg} {ins:List Arr} {e:Int} (h:startS B ins= .inl e):runE B ins= .inl e:=by unfold runE;rw [h]
theorem runE_2 {B:Prg} {ins:List Arr} {mt ar:List Int} {pk:Int} {s:St} {m:MS} {n:Nat} (h:startS B ins= .inr (ar,pk)) (hm:matchS B.ops=some mt) (hr:Runs B mt [] (.blk 0 B.ops.length) (s0 B ar pk) s) (hp:Rp n m s):
    (m.e=0∧Live m s∧runE B ins= .inr s)∨(¬ m.e=0∧runE B ins= .inl m.e):=by
  have e1:mtS B=mt:=by unfold mtS;rw [hm];rfl
  have e2:endM B ar pk=s:=by
    unfold endM
    rw [e1]
    exact Runs.det (endR_runs) hr
  unfold runE
  rw [h]
  simp only [e2]
  rcases hp.rel with ⟨q1,L⟩|⟨q1,q2⟩|⟨q1,q2,q3,_⟩
  ·left
   have hl:=L.left
   refine ⟨q1,L,?_⟩
   rw [if_neg (by omega),if_neg (by rw [L.fl];decide)]
  ·right
   refine ⟨by rw [q1];decide,?_⟩
   rw [if_pos q2,q1]
  ·right
   refine ⟨by rw [q1];decide,?_⟩
   rw [if_neg (by omega),if_pos q3,q1]
section
variable {x y u:AObj} {B:Prg} {mt:List Int} {m:MS} {ex l l':List AObj}
theorem mo_0:(mobj x y B mt m ex)[0]? =some x:=rfl
theorem mo_f6:((mobj x y B mt m ex).set 6 u)[6]? =some u:=rfl
theorem mo_1:(mobj x y B mt m ex)[1]? =some y:=rfl
theorem mo_s1:(mobj x y B mt m ex).set 1 u=mobj x u B mt m ex:=rfl
theorem kp_moV {V:List Int} {n:Nat}:Kp (fun i=>i==5) (mobj x y B mt m l) (mobj x y B mt {m with viol:=V,vv:=n} l'):=fun o t cs hD ho=>by
  have e:o=5:=by simpa using hD
  subst e
  exact ho
theorem kp_mo6s:Kp (fun i=>i==5) (mobj x y B mt m l) ((mobj x y B mt m l).set 6 u):=fun o t cs hD ho=>by
  have e:o=5:=by simpa using hD
  subst e
  exact ho
theorem kp_mo1:Kp (fun i=>i==5) (mobj x y B mt m l) (mobj x u B mt m l'):=fun o t cs hD ho=>by
  have e:o=5:=by simpa using hD
  subst e
  exact ho
end
attribute [go_sem] mo_0 mo_1 mo_s1 mo_f6
noncomputable def M11:Env:=envU Tryz.prog jkR zer (fun _=>false) (fun _=>false) []
theorem M11_ok:EnvOk Tryz.prog M11:=envUOk zer_ok
theorem fill_ne {B:Prg}:∀ (l:List Arr) (i:Nat) (ar:List Int) (pk e:Int),fillS B l i ar pk= .inl e→e≠0
  |[],_,_,_,_,h=>by cases h
  |a::l,i,ar,pk,e,h=>by
   unfold fillS at h
   split at h
   ·cases h;decide
   ·split at h
    ·cases h;decide
    ·exact fill_ne l _ _ _ _ h
theorem start_ne {B:Prg} {ins:List Arr} {e:Int} (h:startS B ins= .inl e):e≠0:=by
  unfold startS at h
  split at h
  ·cases h;decide
  ·exact fill_ne _ _ _ _ _ h
section
variable {B:Prg} {ins:List Arr}
set_option maxHeartbeats 8000000 in
theorem steps_pc (hO:OkB B∧B.ins.length≤100000∧B.outs.length≤100000) (hi:ins.length≤1000000∧∀ a∈ins,okA a):PC Tryz.prog 13 [bcV B,.sl false 3 (arrs ins)] (stepsV (runE B ins)):=by
  simp only [bcV]
  generalize hR:stepsV (runE B ins)=R
  refine pcR M11_ok (kp13) Tryz.func13 [.tmp 4,.tmp 5] (h:=fun KF=>?_)
  unfold M11
  with_reducible repeat' first|(refine nx ?_;intros)|refine t_br (fun hc=>?_) fun hc=>?_|refine t_bx ?_|apply And.intro|intro vr|((first|refine ny ?_|refine t_dwh (h:=fun K KL=>?_));intros;simp only [go_sem,kp13,geff,List.cons_append,List.nil_append,yes])
  all_goals try exact nd
  refine ⟨fk23,EC.gone1 (start_ec (x:= .box 26 [.lit (.int .i64 B.regs),.lit (.int .i64 B.arena),.sl false 6 (opsV B.ops),.sl false 2 (plsV B.ins),.sl false 2 (plsV B.outs),.sl false 3 (arrs B.types)]) (y:= .gone) hO hi (fun e σ' he=>?_) (fun mt ar pk m2 s2 hs hv hm hfl hr hp hg=>?_))⟩
  ·rw [runE_1 he] at hR
   subst hR
   have g1:(e !=0)=true:=by
     have:=start_ne he
     simpa using this
   with_reducible repeat' first|(refine nx ?_;intros)|refine t_br (fun hc=>?_) fun hc=>?_|refine t_bx ?_|apply And.intro|intro vr|((first|refine ny ?_|refine t_dwh (h:=fun K KL=>?_));intros;simp only [go_sem,kp13,geff,g1,yes])
   all_goals try exact nd
   all_goals (refine nl ?_;simp only [go_sem])
   exact LeA.refl _
  ·rcases runE_2 hs hm hr hp with ⟨h0,L,hE⟩|⟨h0,hE⟩
   ·rw [hE] at hR
    subst hR
    have g1:(m2.e !=0)=false:=by simpa using h0
    have hst:m2.steps=200001 - s2.left:=by have:=L.steps;omega
    with_reducible repeat' first|(refine nx ?_;intros)|refine t_br (fun hc=>?_) fun hc=>?_|refine t_bx ?_|apply And.intro|intro vr|((first|refine ny ?_|refine t_dwh (h:=fun K KL=>?_));intros;simp only [go_sem,kp13,geff,g1,yes])
    all_goals try exact nd
    all_goals (refine nl ?_;simp only [go_sem])
    rw [hst]
    exact LeA.refl _
   ·rw [hE] at hR
    subst hR
    have g1:(m2.e !=0)=true:=by simpa using h0
    with_reducible repeat' first|(refine nx ?_;intros)|refine t_br (fun hc=>?_) fun hc=>?_|refine t_bx ?_|apply And.intro|intro vr|((first|refine ny ?_|refine t_dwh (h:=fun K KL=>?_));intros;simp only [go_sem,kp13,geff,g1,yes])
    all_goals try exact nd
    all_goals (refine nl ?_;simp only [go_sem])
    exact LeA.refl _
set_option maxHeartbeats 8000000 in
theorem run_pc (hO:OkB B∧B.ins.length≤100000∧B.outs.length≤100000) (hi:ins.length≤1000000∧∀ a∈ins,okA a):PC Tryz.prog 9 [bcV B,.sl false 3 (arrs ins)] (runV B (runE B ins)):=by
  simp only [bcV]
  generalize hR:runV B (runE B ins)=R
  refine pcR M11_ok (kp9) Tryz.func9 [.cell 4 36,.tmp 5] (h:=fun KF=>?_)
  unfold M11
  repeat' first|(with_reducible first|(refine nx ?_;intros)|apply And.intro|intro vr)|exact kp_fls|exact kp_self|exact kp_moV|exact kp_mo1|exact kp_mo6s|exact kpd|((with_reducible first|refine ny ?_|refine t_kLF ?_ ?_|refine t_dO 5 (fun i=>i==5) oMs2_0 fun K=>?_);intros;simp only [go_sem,kp9,geff,List.cons_append,List.nil_append,yes])
  all_goals try exact nd
  refine ⟨fk23,start_ec hO hi (fun e σ' he=>?_) (fun mt ar pk m2 s2 hs hv hm hfl hr hp hg=>?_)⟩
  ·rw [runE_1 he] at hR
   subst hR
   have g1:(e !=0)=true:=by
     have:=start_ne he
     simpa using this
   repeat' first|(with_reducible first|(refine nx ?_;intros)|apply And.intro|intro vr)|exact kp_fls|exact kp_self|exact kp_moV|exact kp_mo1|exact kp_mo6s|exact kpd|((with_reducible first|refine ny ?_|refine t_kLF ?_ ?_|refine t_dO 5 (fun i=>i==5) oMs2_0 fun K=>?_);intros;simp only [go_sem,kp9,geff,g1,yes])
   all_goals try exact nd
   all_goals (refine nl ?_;simp only [go_sem])
   exact LeA.tup ⟨LeA.agg ⟨LeA.full _ _ _,LeA.refl _,LeA.refl _,LeA.refl _,LeA.refl _,LeA.full _ _ _,trivial⟩,LeA.refl _,trivial⟩
  ·rcases runE_2 hs hm hr hp with ⟨h0,L,hE⟩|⟨h0,hE⟩
   ·rw [hE] at hR
    subst hR
    have g1:(m2.e !=0)=false:=by simpa using h0
    have hver:=hp.ver
    have hvl:m2.viol.length≤1000000:=by have:=L.vl;have:=hp.st;omega
    have hAr:(m2.arena.length:Int)=B.arena:=by rw [L.arena];have:=(hg h0).arena;have:=hfl.len;omega
    repeat' first|(with_reducible first|(refine nx ?_;intros)|apply And.intro|intro vr)|exact kp_fls|exact kp_self|exact kp_moV|exact kp_mo1|exact kp_mo6s|exact kpd|((with_reducible first|refine ny ?_|refine t_kLF ?_ ?_|refine t_dO 5 (fun i=>i==5) oMs2_0 fun K=>?_);intros;simp only [go_sem,kp9,geff,g1,hver,yes])
    all_goals try exact nd
    refine ⟨fk24,sort_ec (V:=m2.viol) rfl hvl ?_⟩
    by_cases hV:m2.viol=[]
    ·have hV0:s2.viol=[]:=by rw [←L.viol,hV];rfl
     have e0:srt m2.viol=[]:=by rw [hV];simp [srt]
     rw [e0]
     repeat' first|(with_reducible first|(refine nx ?_;intros)|apply And.intro|intro vr)|exact kp_fls|exact kp_self|exact kp_moV|exact kp_mo1|exact kp_mo6s|exact kpd|((with_reducible first|refine ny ?_|refine t_kLF ?_ ?_|refine t_dO 5 (fun i=>i==5) oMs2_0 fun K=>?_);intros;simp only [go_sem,kp9,geff,hver,yes])
     all_goals try exact nd
     refine ⟨fk25,results_ec hO.1 hv hAr ?_⟩
     repeat' first|(with_reducible first|(refine nx ?_;intros)|apply And.intro|intro vr)|exact kp_fls|exact kp_self|exact kp_moV|exact kp_mo1|exact kp_mo6s|exact kpd|((with_reducible first|refine ny ?_|refine t_kLF ?_ ?_|refine t_dO 5 (fun i=>i==5) oMs2_0 fun K=>?_);intros;simp only [go_sem,kp9,geff,hver,yes])
     all_goals try exact nd
     refine ⟨fk26,compact0_ec rfl ?_⟩
     repeat' first|(with_reducible first|(refine nx ?_;intros)|apply And.intro|intro vr)|exact kp_fls|exact kp_self|exact kp_moV|exact kp_mo1|exact kp_mo6s|exact kpd|((with_reducible first|refine ny ?_|refine t_kLF ?_ ?_|refine t_dO 5 (fun i=>i==5) oMs2_0 fun K=>?_);intros;simp only [go_sem,kp9,geff,hver,yes])
     all_goals try exact nd
     all_goals (refine nl ?_;simp only [go_sem])
     exact LeA.of_eq (by rw [L.arena,L.reads,L.writes,L.ops,L.peak];simp only [runV,outV,hV0])
    ·have hsn:srt m2.viol≠[]:=fun q=>hV (by have:=srt_len m2.viol;rw [q] at this;exact List.length_eq_zero_iff.1 this.symm)
     have hcv:Lib.compact (srt m2.viol)=s2.viol:=(sort_compact m2.viol).trans L.viol
     repeat' first|(with_reducible first|(refine nx ?_;intros)|apply And.intro|intro vr)|exact kp_fls|exact kp_self|exact kp_moV|exact kp_mo1|exact kp_mo6s|exact kpd|((with_reducible first|refine ny ?_|refine t_kLF ?_ ?_|refine t_dO 5 (fun i=>i==5) oMs2_0 fun K=>?_);intros;simp only [go_sem,kp9,geff,hver,yes])
     all_goals try exact nd
     refine ⟨fk25,results_ec hO.1 hv hAr ?_⟩
     repeat' first|(with_reducible first|(refine nx ?_;intros)|apply And.intro|intro vr)|exact kp_fls|exact kp_self|exact kp_moV|exact kp_mo1|exact kp_mo6s|exact kpd|((with_reducible first|refine ny ?_|refine t_kLF ?_ ?_|refine t_dO 5 (fun i=>i==5) oMs2_0 fun K=>?_);intros;simp only [go_sem,kp9,geff,hver,yes])
     all_goals try exact nd
     refine ⟨fk26,compact_ec (V:=srt m2.viol) rfl hsn (by rw [srt_len];exact hvl) ?_⟩
     repeat' first|(with_reducible first|(refine nx ?_;intros)|apply And.intro|intro vr)|exact kp_fls|exact kp_self|exact kp_moV|exact kp_mo1|exact kp_mo6s|exact kpd|((with_reducible first|refine ny ?_|refine t_kLF ?_ ?_|refine t_dO 5 (fun i=>i==5) oMs2_0 fun K=>?_);intros;simp only [go_sem,kp9,geff,hver,hcv,yes])
     all_goals try exact nd
     all_goals (refine nl ?_;simp only [go_sem])
     exact LeA.of_eq (by rw [L.arena,L.reads,L.writes,L.ops,L.peak];simp only [runV,outV])
   ·rw [hE] at hR
    subst hR
    have g1:(m2.e !=0)=true:=by simpa using h0
    repeat' first|(with_reducible first|(refine nx ?_;intros)|apply And.intro|intro vr)|exact kp_fls|exact kp_self|exact kp_moV|exact kp_mo1|exact kp_mo6s|exact kpd|((with_reducible first|refine ny ?_|refine t_kLF ?_ ?_|refine t_dO 5 (fun i=>i==5) oMs2_0 fun K=>?_);intros;simp only [go_sem,kp9,geff,g1,yes])
    all_goals try exact nd
    all_goals (refine nl ?_;simp only [go_sem])
    exact LeA.tup ⟨LeA.agg ⟨LeA.full _ _ _,LeA.refl _,LeA.refl _,LeA.refl _,LeA.refl _,LeA.full _ _ _,trivial⟩,LeA.refl _,trivial⟩
end
end Go.Proofs.YtnlimcijgpaegaaGreat.Mm

namespace Go.Proofs.YtnlimcijgpaegaaGreat
open Go Go.Fw Bm
set_option maxRecDepth 20000
theorem ft56:fieldTs Tryz.prog 56=[3,9,3,3,3,3]:=by kernel_rfl
theorem ft73:fieldTs Tryz.prog 73=[3,3]:=by kernel_rfl
theorem ft26:fieldTs Tryz.prog 26=[3,3,22,23,23,24]:=by kernel_rfl
theorem shv_op {x:AV} (h:ShV Tryz.prog 56 x):∃ o:Ins,x=opV o∧o.prim.size≤maxLen:=by
  obtain ⟨c,rfl,hc⟩:=shv_agg ag56 h
  obtain ⟨xss,h1,h2,h3⟩:=sh_fields (by simp) ft56 hc
  match xss,h2 with
  |[p,q,r,s,t,u],_=>
   obtain ⟨k,rfl,_⟩:=sh_int u3 (h3 0 3 p rfl rfl)
   obtain ⟨m,rfl,hm⟩:=sh_str u9 (h3 1 9 q rfl rfl)
   obtain ⟨a,rfl,_⟩:=sh_int u3 (h3 2 3 r rfl rfl)
   obtain ⟨b,rfl,_⟩:=sh_int u3 (h3 3 3 s rfl rfl)
   obtain ⟨c,rfl,_⟩:=sh_int u3 (h3 4 3 t rfl rfl)
   obtain ⟨d,rfl,_⟩:=sh_int u3 (h3 5 3 u rfl rfl)
   exact ⟨⟨k,m,a,b,c,d⟩,by rw [h1];rfl,hm⟩
theorem list_ops:∀ {ys:List AV},(∀ y∈ys,∃ o:Ins,y=opV o∧o.prim.size≤maxLen)→∃ l:List Ins,ys=opsV l∧∀ o∈l,o.prim.size≤maxLen
  |[],_=>⟨[],rfl,fun r h=>by cases h⟩
  |y::ys,h=>by
   obtain ⟨r,rfl,hr⟩:=h y (by simp)
   obtain ⟨l,rfl,hl⟩:=list_ops (ys:=ys) fun z hz=>h z (by simp [hz])
   exact ⟨r::l,rfl,fun q hq=>(List.mem_cons.1 hq).elim (fun e=>by rw [e];exact hr) (hl q)⟩
theorem shv_pl {x:AV} (h:ShV Tryz.prog 73 x):∃ o:Int×Int,x=plV o:=by
  obtain ⟨c,rfl,hc⟩:=shv_agg ag73 h
  obtain ⟨p,q,rfl,h1,h2⟩:=sh_two ft73 hc
  obtain ⟨a,rfl,_⟩:=sh_int u3 h1
  obtain ⟨b,rfl,_⟩:=sh_int u3 h2
  exact ⟨(a,b),rfl⟩
theorem list_pls:∀ {ys:List AV},(∀ y∈ys,∃ o:Int×Int,y=plV o)→∃ l:List (Int×Int),ys=plsV l
  |[],_=>⟨[],rfl⟩
  |y::ys,h=>by
   obtain ⟨r,rfl⟩:=h y (by simp)
   obtain ⟨l,rfl⟩:=list_pls (ys:=ys) fun z hz=>h z (by simp [hz])
   exact ⟨r::l,rfl⟩
structure ArgB (B:Prg):Prop where
  regs:inI64 B.regs
  arena:inI64 B.arena
  ops:B.ops.length≤maxLen
  prims:∀ o∈B.ops,o.prim.size≤maxLen
  ins:B.ins.length≤maxLen
  outs:B.outs.length≤maxLen
  types:B.types.length≤maxLen
  arr:∀ a∈B.types,okW a
theorem shv_bc {x:AV} (h:ShV Tryz.prog 26 x):∃ B:Prg,x=bcV B∧ArgB B:=by
  obtain ⟨c,rfl,hc⟩:=shv_agg ag26 h
  obtain ⟨xss,h1,h2,h3⟩:=sh_fields (by simp) ft26 hc
  have one:∀ {t:TypeId} {x:List AV},aggT Tryz.prog t=some false→Sh Tryz.prog t x→(∃ y,x=[y])→∃ y,x=[y]∧ShV Tryz.prog t y:=by
    rintro t x ha hs ⟨y,rfl⟩
    exact ⟨y,rfl,⟨[y],hs,by rw [mkV_one ha]⟩⟩
  match xss,h2 with
  |[p,q,r,s,t,u],_=>
   obtain ⟨k,rfl,wk⟩:=sh_int u3 (h3 0 3 p rfl rfl)
   obtain ⟨m,rfl,wm⟩:=sh_int u3 (h3 1 3 q rfl rfl)
   obtain ⟨os,rfl,ol,oy⟩:=sh_slice u22 (h3 2 22 r rfl rfl)
   obtain ⟨is,rfl,il,iy⟩:=sh_slice u23 (h3 3 23 s rfl rfl)
   obtain ⟨us,rfl,ul,uy⟩:=sh_slice u23 (h3 4 23 t rfl rfl)
   obtain ⟨ts,rfl,tl,ty⟩:=sh_slice u24 (h3 5 24 u rfl rfl)
   obtain ⟨o,rfl,ho⟩:=list_ops fun y hy=>shv_op (oy y hy)
   obtain ⟨i,rfl⟩:=list_pls fun y hy=>shv_pl (iy y hy)
   obtain ⟨v,rfl⟩:=list_pls fun y hy=>shv_pl (uy y hy)
   obtain ⟨w,rfl,hw⟩:=list_arrs fun y hy=>shv_arr (ty y hy)
   refine ⟨⟨k,m,o,i,v,w⟩,by rw [h1,sz56,sz73,sz45];rfl,wf_i64 wk,wf_i64 wm,?_,ho,?_,?_,?_,hw⟩
   ·simpa [opsV] using ol
   ·simpa [plsV] using il
   ·simpa [plsV] using ul
   ·simpa [arrs] using tl
def fewO (n:Int) (l:List Ins):Bool:=(l.all fun x=> !decide ((x.prim.size:Int)>20))&&decide ((l.length:Int)≤n)
def fewT (t:Arr):Bool:=decide ((t.d.length:Int)>8)||decide ((t.e.size:Int)>20)||decide ((t.x.length:Int)>20)
def smB (n:Int) (B:Prg):Bool:=(B.types.all fun t=> !fewT t)&&(fewO n B.ops&&decide ((B.ins.length:Int)≤6)&&decide ((B.outs.length:Int)≤6)&&decide ((B.types.length:Int)≤14))
noncomputable def H0:Env:=envJ (P:=Tryz.prog) jkR zer (fun _=>false) (fun _=>false) [] []
theorem H0_ok:EnvOk Tryz.prog H0:=envJOk zer_ok
set_option maxHeartbeats 4000000 in
theorem fewo_pc {l:List Ins} {n:Int} (hl:l.length≤maxLen) (hp:∀ o∈l,o.prim.size≤maxLen):PC Tryz.prog 30 [.sl false 6 (opsV l),.lit (.int .i64 n)] (.lit (.bool (fewO n l))):=by
  unfold maxLen at hl hp
  generalize hR:fewO n l=R
  unfold fewO at hR
  refine pcR H0_ok (kp30) Tryz.func30 [.tmp 4] (h:=fun KF=>?_)
  unfold H0
  with_reducible repeat' first|(refine nx ?_;intros)|apply And.intro|intro vr|(refine ny ?_;intros;simp only [go_sem,kp30,geff])
  all_goals try exact nd
  refine t_loopF (ι:={i:Nat // i≤l.length∧(((l.drop i).all fun x=> !decide ((x.prim.size:Int)>20))&&decide ((l.length:Int)≤n))=R}) (fun i=>[(5,.lit (.int .i64 i.1))]) (fun i=>[]) (fun i=>l.length - i.1) ⟨0,by omega,hR⟩ ?_ ?_
  ·exact lf
  rintro ⟨i,hi,hF⟩ K0
  rcases Nat.lt_or_ge i l.length with hc|hc
  ·have g3:decide ((i:Int)<(l.length:Int))=true:=decide_eq_true (by omega)
   rw [drop_getI hc,List.all_cons] at hF
   have hps:=hp _ (show l.getD i nilI∈l by rw [List.getD_eq_getElem?_getD,List.getElem?_eq_getElem hc];exact List.getElem_mem _)
   generalize hx:l.getD i nilI=x at hF hps
   obtain ⟨q,p,a,b,c,d⟩:=x
   simp only at hF hps
   cases hb:decide ((p.size:Int)>20) with
   |true=>
    rw [hb] at hF
    with_reducible repeat' first|(refine nx ?_;intros)|apply And.intro|intro vr|(refine ny ?_;intros;simp only [go_sem,kp30,geff,g3,hx,hb,Int.toNat_natCast,yes])
    all_goals try exact nd
    all_goals (refine nl ?_;simp only [go_sem])
    exact LeA.of_eq (by rw [←hF];rfl)
   |false=>
    rw [hb,Bool.not_false,Bool.true_and] at hF
    with_reducible repeat' first|(refine nx ?_;intros)|apply And.intro|intro vr|(refine ny ?_;intros;simp only [go_sem,kp30,geff,g3,hx,hb,Int.toNat_natCast,yes])
    all_goals try exact nd
    exact ⟨⟨i+1,by omega,hF⟩,wf,lf⟩
  ·have g3:decide ((i:Int)<(l.length:Int))=false:=decide_eq_false (by omega)
   rw [List.drop_eq_nil_of_le hc] at hF
   with_reducible repeat' first|(refine nx ?_;intros)|apply And.intro|intro vr|(refine ny ?_;intros;simp only [go_sem,kp30,geff,g3])
   all_goals try exact nd
   all_goals (refine nl ?_;simp only [go_sem])
   exact LeA.of_eq (by rw [←hF];rfl)
theorem fewo_pc2 {l:List Ins} {n:Int} (h:l.length≤maxLen∧∀ o∈l,o.prim.size≤maxLen):PC Tryz.prog 30 [.sl false 6 (opsV l),.lit (.int .i64 n)] (.lit (.bool (fewO n l))):=fewo_pc h.1 h.2
noncomputable def con30:PCon Tryz.prog where
  f:=30
  c:=fun
   |[xl,.lit (.int .i64 n)]=>match opsOf xl with|some l=>some ((l.length≤maxLen∧∀ o∈l,o.prim.size≤maxLen),.lit (.bool (fewO n l)))|_=>none
   |_=>none
  ok:=by
   intro args p r hc hp
   split at hc
   ·split at hc
    ·rename_i hl
     cases hc
     exact PC.weak (fewo_pc2 hp) ⟨opsOf_le hl,LeA.refl _,trivial⟩
    ·cases hc
   ·cases hc
  fk:=fk30
theorem con30_f:con30.f=30:=rfl
theorem con30_c {xl:AV} {n:Int}:con30.c [xl,.lit (.int .i64 n)]=match opsOf xl with|some l=>some ((l.length≤maxLen∧∀ o∈l,o.prim.size≤maxLen),.lit (.bool (fewO n l)))|_=>none:=rfl
attribute [go_sem] con30_f con30_c
noncomputable def H1:Env:=envJ (P:=Tryz.prog) jkR zer (fun _=>false) (fun _=>false) [con30] []
theorem H1_ok:EnvOk Tryz.prog H1:=envJOk zer_ok
set_option maxHeartbeats 4000000 in
theorem sm_pc {B:Prg} {n:Int} (h:ArgB B):PC Tryz.prog 19 [bcV B,.lit (.int .i64 n)] (.lit (.bool (smB n B))):=by
  obtain ⟨_,_,ho,hp,hi,hu,ht,ha⟩:=h
  have ht':=ht
  have hi':=hi
  have hu':=hu
  unfold maxLen at ht' hi' hu'
  generalize hR:smB n B=R
  unfold smB at hR
  simp only [bcV]
  refine pcR H1_ok (kp19) Tryz.func19 [.tmp 4] (h:=fun KF=>?_)
  unfold H1
  with_reducible repeat' first|(refine nx ?_;intros)|apply And.intro|intro vr|(refine ny ?_;intros;simp only [go_sem,kp19,geff])
  all_goals try exact nd
  refine t_loopF (ι:={i:Nat // i≤B.types.length∧(((B.types.drop i).all fun t=> !fewT t)&&(fewO n B.ops&&decide ((B.ins.length:Int)≤6)&&decide ((B.outs.length:Int)≤6)&&decide ((B.types.length:Int)≤14)))=R}) (fun i=>[(5,.lit (.int .i64 i.1))]) (fun i=>[.box 26 [.lit (.int .i64 B.regs),.lit (.int .i64 B.arena),.sl false 6 (opsV B.ops),.sl false 2 (plsV B.ins),.sl false 2 (plsV B.outs),.sl false 3 (arrs B.types)]]) (fun i=>B.types.length - i.1) ⟨0,by omega,hR⟩ ?_ ?_
  ·exact lf
  rintro ⟨i,hi2,hF⟩ K0
  rcases Nat.lt_or_ge i B.types.length with hc|hc
  ·have g3:decide ((i:Int)<(B.types.length:Int))=true:=decide_eq_true (by omega)
   rw [drop_getD nilA hc,List.all_cons] at hF
   generalize hx:B.types.getD i nilA=x at hF
   obtain ⟨e,d,x⟩:=x
   have hpy:arrV ⟨e,d,x⟩= .agg [.lit (.string e),.sl false 1 (ints .i64 d),.sl false 1 (ints .i64 x)]:=rfl
   have hfe:(decide ((d.length:Int)>8)||decide ((e.size:Int)>20)||decide ((x.length:Int)>20))=fewT ⟨e,d,x⟩:=rfl
   cases hb:fewT ⟨e,d,x⟩ with
   |true=>
    rw [hb] at hF hfe
    with_reducible repeat' first|(refine nx ?_;intros)|apply And.intro|intro vr|(refine ny ?_;intros;simp only [go_sem,kp19,geff,g3,hx,hpy,ints_length,hfe,Int.toNat_natCast,yes])
    all_goals try exact nd
    all_goals (refine nl ?_;simp only [go_sem])
    exact LeA.of_eq (by rw [←hF];rfl)
   |false=>
    rw [hb,Bool.not_false,Bool.true_and] at hF
    rw [hb] at hfe
    with_reducible repeat' first|(refine nx ?_;intros)|apply And.intro|intro vr|(refine ny ?_;intros;simp only [go_sem,kp19,geff,g3,hx,hpy,ints_length,hfe,Int.toNat_natCast,yes])
    all_goals try exact nd
    exact ⟨⟨i+1,by omega,hF⟩,wf,lf⟩
  ·have g3:decide ((i:Int)<(B.types.length:Int))=false:=decide_eq_false (by omega)
   rw [List.drop_eq_nil_of_le hc] at hF
   with_reducible repeat' first|(refine nx ?_;intros)|apply And.intro|intro vr|(refine ny ?_;intros;simp only [go_sem,kp19,geff,g3])
   all_goals try exact hp _ (by assumption)
   all_goals try exact nd
   all_goals (refine nl ?_;simp only [go_sem])
   exact LeA.of_eq (by rw [←hF];rfl)
noncomputable def con19:PCon Tryz.prog where
  f:=19
  c:=fun
   |[xB,.lit (.int .i64 n)]=>match bcOf xB with|some B=>some (ArgB B,.lit (.bool (smB n B)))|_=>none
   |_=>none
  ok:=by
   intro args p r hc hp
   split at hc
   ·split at hc
    ·rename_i hB
     cases hc
     exact PC.weak (sm_pc hp) ⟨bcOf_le hB,LeA.refl _,trivial⟩
    ·cases hc
   ·cases hc
  fk:=fk19
theorem con19_f:con19.f=19:=rfl
theorem con19_c {xB:AV} {n:Int}:con19.c [xB,.lit (.int .i64 n)]=match bcOf xB with|some B=>some (ArgB B,.lit (.bool (smB n B)))|_=>none:=rfl
attribute [go_sem] con19_f con19_c
def smallS (B:Prg):Bool:=smB 30 B&&decide (B.regs≤20)&&decide (B.arena≤1000)
theorem small_inv {B:Prg} (h:smallS B=true):OkB B∧B.ins.length≤6∧B.outs.length≤6∧B.ops.length≤30∧B.regs≤20∧B.arena≤1000:=by
  simp only [smallS,smB,fewO,Bool.and_eq_true,decide_eq_true_eq] at h
  obtain ⟨⟨⟨h1,⟨⟨⟨h2,h3⟩,h4⟩,h5⟩,h6⟩,h7⟩,h8⟩:=h
  refine ⟨⟨by omega,by omega,by omega,by omega,fun t ht=>?_⟩,by omega,by omega,by omega,h7,h8⟩
  rw [List.all_eq_true] at h1
  have:=h1 t ht
  simp only [fewT,Bool.not_eq_true',Bool.or_eq_false_iff,decide_eq_false_iff_not] at this
  exact ⟨by omega,by omega⟩
end Go.Proofs.YtnlimcijgpaegaaGreat

namespace Go.Proofs.YtnlimcijgpaegaaGreat.Bm
open Go.Proofs.YtnlimcijgpaegaaGreat
open Go Go.Fw
section
variable {n:Nat} {z:List Rng}
end
variable {B B':Prg} {mt:List Int}
end Go.Proofs.YtnlimcijgpaegaaGreat.Bm

namespace Go.Proofs.YtnlimcijgpaegaaGreat.Bm
open Go.Proofs.YtnlimcijgpaegaaGreat
open Go Go.Fw
variable {B:Prg} {mt:List Int}
end Go.Proofs.YtnlimcijgpaegaaGreat.Bm

namespace Go.Proofs.YtnlimcijgpaegaaGreat
open Go Go.Fw Bm
set_option maxRecDepth 20000
end Go.Proofs.YtnlimcijgpaegaaGreat

namespace Go.Proofs.YtnlimcijgpaegaaGreat.Mm
open Go.Proofs.YtnlimcijgpaegaaGreat
open Go Go.Fw Bm
variable {B:Prg} {ins:List Arr} {k:Int} {s:St}
theorem fill_fl (hv:validS B=true):∀ (l:List Arr) (i:Nat) (ar:List Int) (pk:Int) (ar':List Int) (pk':Int),(∀ a∈l,invA a=false)→i+l.length≤B.ins.length→Fl B ar pk→fillS B l i ar pk= .inr (ar',pk')→Fl B ar' pk'
  |[],_,_,_,_,_,_,_,hf,h=>by cases h;exact hf
  |a::l,i,ar,pk,ar',pk',ha,hi,hf,h=>by
   simp only [List.length_cons] at hi
   unfold fillS at h
   split at h
   ·cases h
   ·split at h
    ·cases h
    ·rename_i hd
     have hd':a.d=(B.types.getD i nilA).d:=Classical.byContradiction hd
     have h1:=in1_of hv (ha a (by simp)) (by omega) hd'
     exact fill_fl hv l (i+1) _ _ _ _ (fun b hb=>ha b (by simp [hb])) (by omega) (hf.next h1) h
theorem start_inv {ar:List Int} {pk:Int} (h:startS B ins= .inr (ar,pk)):validS B=true∧ins.length=B.ins.length∧(∀ a∈ins,invA a=false)∧fillS B ins 0 (List.replicate B.arena.toNat 0) 0= .inr (ar,pk)∧Fl B ar pk:=by
  unfold startS at h
  split at h
  ·cases h
  ·rename_i hc
   simp only [Bool.or_eq_true,Bool.not_eq_true',not_or,Bool.not_eq_true,bne_eq_false_iff_eq,Bool.not_eq_false] at hc
   obtain ⟨⟨h1,h2⟩,h3⟩:=hc
   have hv:validS B=true:=h1
   have ha:∀ a∈ins,invA a=false:=fun a ha=>by
     have:=List.any_eq_false.1 h3 a ha
     simpa using this
   obtain ⟨_,⟨a0,_⟩,_⟩:=valid_inv hv
   exact ⟨hv,by omega,ha,h,fill_fl hv ins 0 _ _ _ _ ha (by omega) (fl_start a0) h⟩
theorem runE_inv (h:runE B ins= .inr s):∃ ar pk,startS B ins= .inr (ar,pk)∧endM B ar pk=s∧0<s.left∧s.failed=false:=by
  unfold runE at h
  split at h
  ·cases h
  ·rename_i ar pk hs
   split at h
   ·cases h
   ·rename_i h1
    split at h
    ·cases h
    ·rename_i h2
     cases h
     exact ⟨ar,pk,hs,rfl,by omega,by simpa using h2⟩
theorem end_len {ar:List Int} {pk:Int} (h:Fl B ar pk):((endM B ar pk).arena.length:Int)=B.arena:=by
  have hr:Runs B (mtS B) [] (.blk 0 B.ops.length) (s0 B ar pk) (endM B ar pk):=endR_runs
  have:=hr.inv (P:=fun s=>s.arena.length=ar.length) fun f=>(exec_cnt (B:=B) (mt:=mtS B) (seen:=[]) (c:=200001) (n:=ar.length) (m:=B.regs.toNat) f _ ⟨by simp [s0],rfl,by simp [s0],by have:=h.pk;have:=h.len;simp only [s0];omega⟩).arena
  rw [this];exact h.len
end Go.Proofs.YtnlimcijgpaegaaGreat.Mm

namespace Go.Proofs.YtnlimcijgpaegaaGreat.Mm
open Go.Proofs.YtnlimcijgpaegaaGreat
open Go Go.Fw Bm
set_option maxRecDepth 20000
def smM (B:Prg) (ins:List Arr):Bool:=ins.all (fun a=>fewA a 100)&&smB 30 B&&decide (B.regs≤20)&&decide (B.arena≤1000)&&decide ((ins.length:Int)≤4)
attribute [go_sem] con18_f con18_c con19_f con19_c con17_f con17_c con53_f con53_c
noncomputable def N0:Env:=envJ (P:=Tryz.prog) jkR zer (fun _=>false) (fun _=>false) [con18,con19,con17,con53] []
theorem N0_ok:EnvOk Tryz.prog N0:=envJOk zer_ok
structure ArgM (B:Prg) (ins:List Arr):Prop where
  b:ArgB B
  len:ins.length≤maxLen
set_option maxHeartbeats 8000000 in
theorem small_pc {B:Prg} {ins:List Arr} (hh:ArgM B ins):PC Tryz.prog 7 [bcV B,.sl false 3 (arrs ins)] (.lit (.bool (smM B ins))):=by
  obtain ⟨h,hl⟩:=hh
  unfold maxLen at hl
  generalize hR:smM B ins=R
  have hR':((ins.drop 0).all (fun a=>fewA a 100)&&(smB 30 B&&decide (B.regs≤20)&&decide (B.arena≤1000)&&decide ((ins.length:Int)≤4)))=R:=by
    rw [←hR];unfold smM;simp only [List.drop_zero,Bool.and_assoc]
  simp only [bcV]
  refine pcR N0_ok (kp7) Tryz.func7 [.tmp 4] (h:=fun KF=>?_)
  unfold N0
  with_reducible repeat' first|(refine nx ?_;intros)|apply And.intro|intro vr|(refine ny ?_;intros;simp only [go_sem,kp7,geff])
  all_goals try exact nd
  refine t_loopF (ι:={j:Nat // j≤ins.length∧((ins.drop j).all (fun a=>fewA a 100)&&(smB 30 B&&decide (B.regs≤20)&&decide (B.arena≤1000)&&decide ((ins.length:Int)≤4)))=R}) (fun i=>[(5,.lit (.int .i64 i.1))]) (fun i=>[.box 26 [.lit (.int .i64 B.regs),.lit (.int .i64 B.arena),.sl false 6 (opsV B.ops),.sl false 2 (plsV B.ins),.sl false 2 (plsV B.outs),.sl false 3 (arrs B.types)]]) (fun i=>ins.length - i.1) ⟨0,Nat.zero_le _,hR'⟩ ?_ ?_
  ·exact lf
  rintro ⟨j,hj,hq⟩ K0
  rcases Nat.lt_or_ge j ins.length with hc|hc
  ·have g3:decide ((j:Int)<(ins.length:Int))=true:=decide_eq_true (by omega)
   rw [drop_getD nilA hc,List.all_cons] at hq
   generalize hX:ins.getD j nilA=X at*
   obtain ⟨xe,xd,xx⟩:=X
   have vX:arrV ⟨xe,xd,xx⟩= .agg [.lit (.string xe),.sl false 1 (ints .i64 xd),.sl false 1 (ints .i64 xx)]:=rfl
   cases hf:fewA ⟨xe,xd,xx⟩ 100 with
   |true=>
    rw [hf,Bool.true_and] at hq
    with_reducible repeat' first|(refine nx ?_;intros)|apply And.intro|intro vr|(refine ny ?_;intros;simp only [go_sem,kp7,geff,g3,hX,vX,hf,Int.toNat_natCast,arrOf_agg,slK_sl,yes])
    all_goals try exact nd
    exact ⟨⟨j+1,by omega,hq⟩,wf,lf⟩
   |false=>
    rw [hf] at hq
    have hR0:R=false:=by rw [←hq];simp
    with_reducible repeat' first|(refine nx ?_;intros)|apply And.intro|intro vr|(refine ny ?_;intros;simp only [go_sem,kp7,geff,g3,hX,vX,hf,Int.toNat_natCast,arrOf_agg,slK_sl,yes])
    all_goals try exact nd
    all_goals (refine nl ?_;simp only [go_sem])
    exact LeA.of_eq (by rw [hR0])
  ·have g3:decide ((j:Int)<(ins.length:Int))=false:=decide_eq_false (by omega)
   rw [List.drop_eq_nil_of_le hc,List.all_nil,Bool.true_and] at hq
   rcases Bool.eq_false_or_eq_true (smB 30 B) with h1|h1
   ·rcases Bool.eq_false_or_eq_true (decide (B.regs≤20)) with h2|h2
    ·rcases Bool.eq_false_or_eq_true (decide (B.arena≤1000)) with h3|h3
     ·rw [h1,h2,h3,Bool.true_and,Bool.true_and,Bool.true_and] at hq
      with_reducible repeat' first|(refine nx ?_;intros)|apply And.intro|intro vr|(refine ny ?_;intros;simp only [go_sem,kp7,geff,g3,bcOf_B,h1,h2,h3,hq,yes])
      all_goals try exact h
      all_goals try exact nd
      all_goals (refine nl ?_;simp only [go_sem])
      exact LeA.refl _
     ·rw [h1,h2,h3] at hq
      with_reducible repeat' first|(refine nx ?_;intros)|apply And.intro|intro vr|(refine ny ?_;intros;simp only [go_sem,kp7,geff,g3,bcOf_B,h1,h2,h3,yes])
      all_goals try exact h
      all_goals try exact nd
      all_goals (refine nl ?_;simp only [go_sem])
      exact LeA.of_eq (by rw [←hq];rfl)
    ·rw [h1,h2] at hq
     with_reducible repeat' first|(refine nx ?_;intros)|apply And.intro|intro vr|(refine ny ?_;intros;simp only [go_sem,kp7,geff,g3,bcOf_B,h1,h2,yes])
     all_goals try exact h
     all_goals try exact nd
     all_goals (refine nl ?_;simp only [go_sem])
     exact LeA.of_eq (by rw [←hq];rfl)
   ·rw [h1] at hq
    with_reducible repeat' first|(refine nx ?_;intros)|apply And.intro|intro vr|(refine ny ?_;intros;simp only [go_sem,kp7,geff,g3,bcOf_B,h1,yes])
    all_goals try exact h
    all_goals try exact nd
    all_goals (refine nl ?_;simp only [go_sem])
    exact LeA.of_eq (by rw [←hq];rfl)
noncomputable def con7:PCon Tryz.prog where
  f:=7
  c:=fun
   |[xB,xl]=>match bcOf xB,arrsOf xl with|some B,some l=>some (ArgM B l,.lit (.bool (smM B l)))|_,_=>none
   |_=>none
  ok:=by
   intro args p r hc hp
   split at hc
   ·split at hc
    ·rename_i hB hl
     cases hc
     exact PC.weak (small_pc hp) ⟨bcOf_le hB,arrsOf_le hl,trivial⟩
    ·cases hc
   ·cases hc
  fk:=fk7
theorem con7_f:con7.f=7:=rfl
theorem con7_c {xB:AV} {xl:AV}:con7.c [xB,xl]=match bcOf xB,arrsOf xl with|some B,some l=>some (ArgM B l,.lit (.bool (smM B l)))|_,_=>none:=rfl
end Go.Proofs.YtnlimcijgpaegaaGreat.Mm

namespace Go.Proofs.YtnlimcijgpaegaaGreat.Mm
open Go.Proofs.YtnlimcijgpaegaaGreat
open Go Go.Fw Bm
def execO (B:Prg) (mt:List Int):Nat→Tk→St→Option St
  |0,_,_=>none
  |f+1,.blk i to,s=>if i<to∧stpS s=false then (
    if (B.op i).code=10 then (match execO B mt f (.lop i (gt s.regs (B.op i).b) (gt s.regs (B.op i).c)) (tick s) with
     |some s2=>execO B mt f (.blk (gt mt i+1) to) s2
     |none=>none)
    else if (B.op i).code=11 then none
    else execO B mt f (.blk (i+1) to) (if (simpleS (B.op i) (tick s)).failed=true then {simpleS (B.op i) (tick s) with at_:=i} else simpleS (B.op i) (tick s))) else some s
  |f+1,.lop i n hi,s=>if n<hi∧stpS s=false then (match execO B mt f (.blk (i+1) (gt mt i)) ((tick s).put (B.op i).a n) with
    |some s2=>execO B mt f (.lop i (n+(B.op i).d) hi) s2
    |none=>none) else some s
theorem execO_runs {B:Prg} {mt:List Int}:∀ (f:Nat) (t:Tk) (s s':St),execO B mt f t s=some s'→Runs B mt [] t s s'
  |0,_,_,_,h=>by cases h
  |f+1,.blk i to,s,s',h=>by
   simp only [execO] at h
   split at h
   ·rename_i hc
    split at h
    ·rename_i h1
     split at h
     ·rename_i s2 h2
      exact runs_for (seen:=[]) hc h1 (execO_runs f _ _ _ h2) (execO_runs f _ _ _ h)
     ·cases h
    ·rename_i h1
     split at h
     ·cases h
     ·rename_i h2
      exact runs_simple (seen:=[]) hc h1 h2 (execO_runs f _ _ _ h)
   ·rename_i hc
    cases h
    exact runs_end hc
  |f+1,.lop i n hi,s,s',h=>by
   simp only [execO] at h
   split at h
   ·rename_i hc
    split at h
    ·rename_i s2 h2
     exact runs_turn (seen:=[]) hc (execO_runs f _ _ _ h2) (execO_runs f _ _ _ h)
    ·cases h
   ·rename_i hc
    cases h
    exact runs_lend hc
variable {B:Prg} {ins:List Arr} {s:St} {m:List Ins}
end Go.Proofs.YtnlimcijgpaegaaGreat.Mm

namespace Go.Proofs.YtnlimcijgpaegaaGreat.Mm
open Go.Proofs.YtnlimcijgpaegaaGreat
open Go Go.Fw Bm
set_option maxRecDepth 20000
set_option maxHeartbeats 4000000 in
theorem sameA_pc {l:List Arr} (h:l.length≤1000000∧∀ a∈l,okA a):PC Tryz.prog 28 [.sl false 3 (arrs l),.sl false 3 (arrs l)] (.lit (.bool true)):=by
  obtain ⟨hl,ha⟩:=h
  refine pcR N0_ok (kp28) Tryz.func28 [.tmp 4] (h:=fun KF=>?_)
  unfold N0
  with_reducible repeat' first|(refine nx ?_;intros)|apply And.intro|intro vr|((first|refine ny ?_|refine t_dwh (h:=fun K KL=>?_));intros;simp only [go_sem,kp28,geff,bne_self_eq_false])
  all_goals try exact nd
  refine t_loopF (ι:={j:Nat // j≤l.length}) (fun i=>[(5,.lit (.int .i64 i.1))]) (fun i=>[]) (fun i=>l.length - i.1) ⟨0,Nat.zero_le _⟩ ?_ ?_
  ·exact lf
  rintro ⟨j,hj⟩ K0
  rcases Nat.lt_or_ge j l.length with hc|hc
  ·have g3:decide ((j:Int)<(l.length:Int))=true:=decide_eq_true (by omega)
   have hmem:l.getD j nilA∈l:=by rw [List.getD_eq_getElem?_getD,List.getElem?_eq_getElem hc];exact List.getElem_mem hc
   have hoa:=ha _ hmem
   generalize hX:l.getD j nilA=X at*
   have he:=eqA_refl X
   obtain ⟨xe,xd,xx⟩:=X
   have vX:arrV ⟨xe,xd,xx⟩= .agg [.lit (.string xe),.sl false 1 (ints .i64 xd),.sl false 1 (ints .i64 xx)]:=rfl
   with_reducible repeat' first|(refine nx ?_;intros)|apply And.intro|intro vr|((first|refine ny ?_|refine t_dwh (h:=fun K KL=>?_));intros;simp only [go_sem,kp28,geff,g3,hX,vX,he,Int.toNat_natCast,arrOf_agg,slK_sl,yes])
   all_goals try exact hoa
   all_goals try exact nd
   exact ⟨⟨j+1,by omega⟩,wf,lf⟩
  ·have g3:decide ((j:Int)<(l.length:Int))=false:=decide_eq_false (by omega)
   with_reducible repeat' first|(refine nx ?_;intros)|apply And.intro|intro vr|((first|refine ny ?_|refine t_dwh (h:=fun K KL=>?_));intros;simp only [go_sem,kp28,geff,g3])
   all_goals try exact nd
   all_goals (refine nl ?_;simp only [go_sem])
   exact LeA.refl _
noncomputable def con28:PCon Tryz.prog where
  f:=28
  c:=fun
   |[x,y]=>match arrsOf x,arrsOf y with
    |some l,some l'=> @ite (Option (Prop×AV)) (l=l') (Classical.propDecidable _) (some (l.length≤1000000∧∀ a∈l,okA a,.lit (.bool true))) none
    |_,_=>none
   |_=>none
  ok:=by
   intro args p r hc hp
   split at hc
   ·split at hc
    ·rename_i hx hy
     split at hc
     ·rename_i e
      subst e
      cases hc
      exact PC.weak (sameA_pc hp) ⟨arrsOf_le hx,arrsOf_le hy,trivial⟩
     ·cases hc
    ·cases hc
   ·cases hc
  fk:=fk28
theorem con28_f:con28.f=28:=rfl
theorem con28_c {l:List Arr}:con28.c [.sl false 3 (arrs l),.sl false 3 (arrs l)]=some (l.length≤1000000∧∀ a∈l,okA a,.lit (.bool true)):=by
  show (match arrsOf (.sl false 3 (arrs l)),arrsOf (.sl false 3 (arrs l)) with
    |some l,some l'=> @ite (Option (Prop×AV)) (l=l') (Classical.propDecidable _) (some (l.length≤1000000∧∀ a∈l,okA a,.lit (.bool true))) none
    |_,_=>none)=_
  rw [arrsOf_sl]
  exact if_pos rfl
attribute [go_sem] con28_f con28_c
noncomputable def N1:Env:=envJ (P:=Tryz.prog) jkR zer (fun _=>false) (fun _=>false) [con17,con28] []
theorem N1_ok:EnvOk Tryz.prog N1:=envJOk zer_ok
structure OutOk (l:List Arr) (V:List Int):Prop where
  len:l.length≤1000000
  arr:∀ a∈l,okA a
  v:V.length≤1000000
set_option maxHeartbeats 4000000 in
theorem same_pc {l:List Arr} {rd wr op pk:Int} {V:List Int} (h:OutOk l V):PC Tryz.prog 12 [outV l rd wr op pk V,outV l rd wr op pk V] (.lit (.bool true)):=by
  obtain ⟨h1,h2,h3⟩:=h
  have g1:decide (V=V)=true:=decide_eq_true rfl
  simp only [outV]
  refine pcR N1_ok (kp12) Tryz.func12 [.tmp 4] (h:=fun KF=>?_)
  unfold N1
  with_reducible repeat' first|(refine nx ?_;intros)|apply And.intro|intro vr|(refine ny ?_;intros;simp only [go_sem,kp12,geff,slK_sl,g1,beq_self_eq_true,Bool.and_self,yes])
  all_goals try exact h2 _ (by assumption)
  all_goals try exact nd
  all_goals (refine nl ?_;simp only [go_sem])
  exact LeA.refl _
noncomputable def con12:PCon Tryz.prog where
  f:=12
  c:=fun
   |[x,y]=> @ite (Option (Prop×AV)) (x=y) (Classical.propDecidable _) (some ((∃ l rd wr op pk V,x=outV l rd wr op pk V∧OutOk l V),AV.lit (.bool true))) none
   |_=>none
  ok:=by
   intro args p r hc hp
   split at hc
   ·split at hc
    ·rename_i e
     subst e
     cases hc
     obtain ⟨l,rd,wr,op,pk,V,rfl,h⟩:=hp
     exact same_pc h
    ·cases hc
   ·cases hc
  fk:=fk12
theorem con12_f:con12.f=12:=rfl
theorem con12_c {x:AV}:con12.c [x,x]=some ((∃ l rd wr op pk V,x=outV l rd wr op pk V∧OutOk l V),AV.lit (.bool true)):=if_pos rfl
attribute [go_sem] con12_f con12_c con7_f con7_c
structure RunOk (B:Prg) (ins:List Arr):Prop where
  b:OkB B∧B.ins.length≤100000∧B.outs.length≤100000
  i:ins.length≤1000000∧∀ a∈ins,okA a
theorem run_pc2 {B:Prg} {ins:List Arr} (h:RunOk B ins):PC Tryz.prog 9 [bcV B,.sl false 3 (arrs ins)] (runV B (runE B ins)):=run_pc h.b h.i
theorem steps_pc2 {B:Prg} {ins:List Arr} (h:RunOk B ins):PC Tryz.prog 13 [bcV B,.sl false 3 (arrs ins)] (stepsV (runE B ins)):=steps_pc h.b h.i
noncomputable def con9:PCon Tryz.prog where
  f:=9
  c:=fun
   |[xB,xl]=>match bcOf xB,arrsOf xl with|some B,some l=>some ((RunOk B l),runV B (runE B l))|_,_=>none
   |_=>none
  ok:=by
   intro args p r hc hp
   split at hc
   ·split at hc
    ·rename_i hB hl
     cases hc
     exact PC.weak (run_pc2 hp) ⟨bcOf_le hB,arrsOf_le hl,trivial⟩
    ·cases hc
   ·cases hc
  fk:=fk9
theorem con9_f:con9.f=9:=rfl
theorem con9_c {xB:AV} {xl:AV}:con9.c [xB,xl]=match bcOf xB,arrsOf xl with|some B,some l=>some ((RunOk B l),runV B (runE B l))|_,_=>none:=rfl
noncomputable def con13:PCon Tryz.prog where
  f:=13
  c:=fun
   |[xB,xl]=>match bcOf xB,arrsOf xl with|some B,some l=>some ((RunOk B l),stepsV (runE B l))|_,_=>none
   |_=>none
  ok:=by
   intro args p r hc hp
   split at hc
   ·split at hc
    ·rename_i hB hl
     cases hc
     exact PC.weak (steps_pc2 hp) ⟨bcOf_le hB,arrsOf_le hl,trivial⟩
    ·cases hc
   ·cases hc
  fk:=fk13
theorem con13_f:con13.f=13:=rfl
theorem con13_c {xB:AV} {xl:AV}:con13.c [xB,xl]=match bcOf xB,arrsOf xl with|some B,some l=>some ((RunOk B l),stepsV (runE B l))|_,_=>none:=rfl
attribute [go_sem] con9_f con9_c con13_f con13_c
def exT:Arr:=⟨sInt,[3],[]⟩
def exO:List Ins:=[⟨1,⟨#[]⟩,1,3,0,0⟩,⟨10,⟨#[]⟩,2,0,1,1⟩,⟨6,⟨#[]⟩,3,2,0,0⟩,⟨5,⟨#[110,101,103]⟩,3,3,0,0⟩,⟨7,⟨#[]⟩,2,3,0,0⟩,⟨13,⟨#[]⟩,0,0,0,0⟩]
def exM:Prg:=⟨4,3,exO,[(0,3)],[(0,3)],[exT,exT]⟩
def exI:List Arr:=[⟨sInt,[3],[5,6,7]⟩]
def exS:St:=⟨[0,3,2, -7],[-5, -6, -7],3,3,3,3,[],199987,false,0,false⟩
theorem ex_start:startS exM exI= .inr ([5,6,7],3):=by kernel_rfl
theorem ex_mt:mtS exM=[0,5,2,3,4,5]:=by kernel_rfl
theorem ex_exec:execO exM [0,5,2,3,4,5] 60 (.blk 0 6) (s0 exM [5,6,7] 3)=some exS:=by kernel_rfl
theorem ex_run:runE exM exI= .inr exS:=by
  have h:=execO_runs _ _ _ _ ex_exec
  have e:endM exM [5,6,7] 3=exS:=by
    unfold endM
    rw [ex_mt]
    exact Runs.det endR_runs h
  unfold runE
  rw [ex_start]
  simp only [e]
  rw [if_neg (by decide),if_neg (by decide)]
theorem ex_res:resL exM exS.arena=[⟨sInt,[3],[-5, -6, -7]⟩]:=by kernel_rfl
end Go.Proofs.YtnlimcijgpaegaaGreat.Mm

namespace Go.Fw
open Go
variable {P:Program} {σ:List AObj}
abbrev oZs1_0:List (Nat×Nat):=[(0,2),(1,2),(2,1),(3,1),(4,1),(5,1),(6,1),(7,2),(8,2),(9,2),(10,1),(11,2),(12,2),(13,2),(14,0)]
abbrev oZs1_1:List (Nat×Nat):=[(0,2),(1,2),(2,2),(3,1),(4,1),(5,1),(6,2),(7,2),(8,2),(9,1),(10,1),(11,1),(12,2),(13,2),(14,0)]
attribute [go_sem] oZs1_0 oZs1_1
theorem ec_finM {f:FuncId} {args:List AV} {k:AV→List AObj→Prop} (h:BdS σ.length σ→EC P f args σ fun x σ'=>∃ m,σ.length+m≤σ'.length∧finK (σ.length+m) x σ' k):EC P f args σ k:=by
  intro cx G w vs hr hl
  refine (h hr.bds cx G w vs hr hl).mono ?_
  rintro e w' ⟨v,G',σ',x,rfl,hle,hr',hx,m,hlen,r,hLe,hbx,hbd,hk⟩
  have h0:cx.G0.n≤σ.length:=by rw [←hr.n];exact hr.le0.n
  have hn:σ.length+m≤G'.n:=by rw [hr'.n];exact hlen
  exact ⟨v,{G' with n:=σ.length+m},_,r,rfl,⟨hle.C,by rw [hr.n];exact Nat.le_add_right _ _,hle.ver,hle.b,hle.p⟩,hr'.trunc hlen (by omega) hbd,hbx G' v hn (hLe _ _ hx),hk⟩
end Go.Fw
namespace Go.Proofs.YtnlimcijgpaegaaGreat.Mz
open Go.Proofs.YtnlimcijgpaegaaGreat
open Go Go.Fw Bm Mm
set_option maxRecDepth 20000
theorem putI_snoc (a:Int):∀ (m l:List Int) (i:Nat),putI l i (m++[a])=(putI l i m).set (i+m.length) a
  |[],_,_=>rfl
  |b::m,l,i=>by
   show putI (l.set i b) (i+1) (m++[a])=(putI (l.set i b) (i+1) m).set (i+(m.length+1)) a
   rw [putI_snoc a m,show i+1+m.length=i+(m.length+1) by omega]
theorem putI_take {x ar:List Int} {i k:Nat} (h:k<x.length):(putI ar i (x.take k)).set (i+k) (x.getD k 0)=putI ar i (x.take (k+1)):=by
  have e:x.take (k+1)=x.take k++[x.getD k 0]:=by
    rw [List.take_add_one,List.getElem?_eq_getElem h]
    simp [List.getD,h]
  rw [e,putI_snoc,List.length_take,Nat.min_eq_left (by omega)]
def zst:List AV:=[.sl true 1 [],.sl true 1 [],.lit (.int .i64 0),.lit (.int .i64 0),.lit (.int .i64 0),.lit (.int .i64 0),.sl true 1 [],.lit (.int .i64 0),.lit (.bool false),.sl true 1 [],.lit (.bool false),.lit (.int .i64 0)]
theorem zst_bd {n:Nat} {e:Int} (h:0≤n):Bd n (.tup [.agg zst,.lit (.int .i64 e)]):=by
  refine Bd.tup fun i hi=>?_
  simp only [List.length_cons,List.length_nil] at hi
  have:i=0∨i=1:=by omega
  rcases this with rfl|rfl
  ·refine Bd.agg fun j hj=>?_
   simp only [zst,List.length_cons,List.length_nil] at hj
   have:j=0∨j=1∨j=2∨j=3∨j=4∨j=5∨j=6∨j=7∨j=8∨j=9∨j=10∨j=11:=by omega
   rcases this with rfl|rfl|rfl|rfl|rfl|rfl|rfl|rfl|rfl|rfl|rfl|rfl
   all_goals first|exact Bd.lit _ _|exact Bd.sl _ _ _ _
  ·exact Bd.lit _ _
theorem stV_bl {s:St}:BdL 8 [.arr 6 0,.arr 7 0,.lit (.int .i64 s.reads),.lit (.int .i64 s.writes),.lit (.int .i64 s.ops),.lit (.int .i64 s.peak),.sl false 1 (ints .i64 s.viol),.lit (.int .i64 s.left),.lit (.bool s.failed),.sl false 1 (bfsV []),.lit (.bool s.out),.lit (.int .i64 s.at_)]:=fun i hi=>by
  simp only [List.length_cons,List.length_nil] at hi
  have:i=0∨i=1∨i=2∨i=3∨i=4∨i=5∨i=6∨i=7∨i=8∨i=9∨i=10∨i=11:=by omega
  rcases this with rfl|rfl|rfl|rfl|rfl|rfl|rfl|rfl|rfl|rfl|rfl|rfl
  all_goals first|exact Bd.arr (by omega)|exact Bd.lit _ _|exact Bd.sl _ _ _ _
theorem st_bd {s:St} {e:Int}:Bd 8 (.tup [stV 6 s [],.lit (.int .i64 e)]):=by
  refine Bd.tup fun i hi=>?_
  simp only [List.length_cons,List.length_nil] at hi
  have:i=0∨i=1:=by omega
  rcases this with rfl|rfl
  ·exact stV_bd (by omega)
  ·exact Bd.lit _ _
noncomputable def con93:PCon Tryz.prog where
  f:=93
  c:=fun
   |[xB]=>match bcOf xB with|some B=>some (OkB B,.lit (.bool (validS B)))|_=>none
   |_=>none
  ok:=by
   intro args p r hc hp
   split at hc
   ·split at hc
    ·rename_i hB
     cases hc
     exact PC.weak (rbvalid_pc hp) ⟨bcOf_le hB,trivial⟩
    ·cases hc
   ·cases hc
  fk:=fk93
theorem con93_f:con93.f=93:=rfl
theorem con93_c {xB:AV}:con93.c [xB]=match bcOf xB with|some B=>some (OkB B,.lit (.bool (validS B)))|_=>none:=rfl
attribute [go_sem] con93_f con93_c con94_f con94_c con17_f con17_c
noncomputable def Z1:Env:=envU Tryz.prog jkR zer (fun _=>false) (fun _=>false) [con93,con94,con17]
theorem Z1_ok:EnvOk Tryz.prog Z1:=envUOk zer_ok
section
variable {x1 x2 x3 x4:AObj} {B:Prg} {ins:List Arr} {k:AV→List AObj→Prop}
set_option maxHeartbeats 8000000 in
theorem startR_ec (hO:OkB B∧B.ins.length≤100000∧B.outs.length≤100000) (hi:ins.length≤1000000∧∀ a∈ins,okA a)
    (hk1:∀ e,startS B ins= .inl e→k (.tup [.agg zst,.lit (.int .i64 e)]) [x1,x2,x3,x4])
    (hk2:∀ mt ar pk p q,startS B ins= .inr (ar,pk)→validS B=true→matchS B.ops=some mt→Fl B ar pk→BdS 8 [x1,x2,x3,x4,p,q,.arr 3 1 (ints .i64 (List.replicate B.regs.toNat 0)) 0 false,.arr 3 1 (ints .i64 ar) 0 false]→
      k (.tup [.agg [.arr 6 0,.arr 7 0,.lit (.int .i64 0),.lit (.int .i64 0),.lit (.int .i64 0),.lit (.int .i64 pk),.sl false 1 [],.lit (.int .i64 200001),.lit (.bool false),.sl false 1 [],.lit (.bool false),.lit (.int .i64 0)],.lit (.int .i64 0)]) [x1,x2,x3,x4,p,q,.arr 3 1 (ints .i64 (List.replicate B.regs.toNat 0)) 0 false,.arr 3 1 (ints .i64 ar) 0 false]):
    EC Tryz.prog 54 [bcV B,.sl false 3 (arrs ins),.lit (.int .i64 200000)] [x1,x2,x3,x4] k:=by
  refine ec_finM fun hbd=>?_
  obtain ⟨hO,hi1,hi2⟩:=hO
  obtain ⟨hn1,hn2⟩:=hi
  simp only [bcV]
  cases hv:validS B with
  |false=>
   have e:startS B ins= .inl 1:=by unfold startS;rw [hv];rfl
   have hk:=hk1 1 e
   refine ecR Z1_ok (kp54) Tryz.func54 [.cell 6 69,.tmp 7] (h:=fun KF=>?_)
   unfold Z1
   repeat' first|(with_reducible first|(refine nx ?_;intros)|apply And.intro|intro vr)|exact kpd|((with_reducible first|refine ny ?_|refine t_kLF ?_ ?_|refine t_dO 20 (fun _=>false) oZs1_0 fun K=>?_|refine t_dO 21 (fun _=>false) oZs1_1 fun K=>?_|refine t_dwh (h:=fun K KL=>?_));intros;simp only [go_sem,kp54,geff,bcOf_B,hv,Bool.not_false,List.cons_append,List.nil_append,yes])
   all_goals try exact nd
   all_goals (refine nl ?_;simp only [go_sem,finK])
   exact ⟨0,by simp,_,LeR.refl _,zst_bd (by simp),hbd,hk⟩
  |true=>
   cases hl:((ins.length:Int) !=B.ins.length) with
   |true=>
    have e:startS B ins= .inl 1:=by unfold startS;rw [hv,hl];rfl
    have hk:=hk1 1 e
    refine ecR Z1_ok (kp54) Tryz.func54 [.cell 6 69,.tmp 7] (h:=fun KF=>?_)
    unfold Z1
    repeat' first|(with_reducible first|(refine nx ?_;intros)|apply And.intro|intro vr)|exact kpd|((with_reducible first|refine ny ?_|refine t_kLF ?_ ?_|refine t_dO 20 (fun _=>false) oZs1_0 fun K=>?_|refine t_dO 21 (fun _=>false) oZs1_1 fun K=>?_|refine t_dwh (h:=fun K KL=>?_));intros;simp only [go_sem,kp54,geff,bcOf_B,hv,hl,Bool.not_true,List.cons_append,List.nil_append,yes])
    all_goals try exact nd
    all_goals (refine nl ?_;simp only [go_sem,finK])
    exact ⟨0,by simp,_,LeR.refl _,zst_bd (by simp),hbd,hk⟩
   |false=>
    obtain ⟨⟨r0,r1⟩,⟨a0,a1⟩,⟨mt,hm⟩,hR,_,_⟩:=valid_inv hv
    have hll:(ins.length:Int)=B.ins.length:=by simpa using hl
    refine ecR Z1_ok (kp54) Tryz.func54 [.cell 6 69,.tmp 7] (h:=fun KF=>?_)
    unfold Z1
    repeat' first|(with_reducible first|(refine nx ?_;intros)|apply And.intro|intro vr)|exact kpd|((with_reducible first|refine ny ?_|refine t_kLF ?_ ?_|refine t_dO 20 (fun _=>false) oZs1_0 fun K=>?_|refine t_dO 21 (fun _=>false) oZs1_1 fun K=>?_|refine t_dwh (h:=fun K KL=>?_));intros;simp only [go_sem,kp54,geff,bcOf_B,hv,hl,Bool.not_true,List.cons_append,List.nil_append,yes])
    all_goals try exact nd
    refine t_loopF (ι:={j:Nat // j≤ins.length∧(ins.drop j).any invA=ins.any invA}) (fun i=>[(8,.lit (.int .i64 i.1))]) (fun i=>[x1,x2,x3,x4,.box 26 [.lit (.int .i64 B.regs),.lit (.int .i64 B.arena),.sl false 6 (opsV B.ops),.sl false 2 (plsV B.ins),.sl false 2 (plsV B.outs),.sl false 3 (arrs B.types)],.box 69 [.sl true 1 [],.sl true 1 [],.lit (.int .i64 0),.lit (.int .i64 0),.lit (.int .i64 0),.lit (.int .i64 0),.sl true 1 [],.lit (.int .i64 0),.lit (.bool false),.sl true 1 [],.lit (.bool false),.lit (.int .i64 0)]]) (fun i=>ins.length - i.1) ⟨0,Nat.zero_le _,rfl⟩ ?_ ?_
    ·exact lf
    rintro ⟨j,hj,hq⟩ K0
    rcases Nat.lt_or_ge j ins.length with hc|hc
    ·have g3:decide ((j:Int)<(ins.length:Int))=true:=decide_eq_true (by omega)
     rw [drop_getD nilA hc,List.any_cons] at hq
     have hmem:ins.getD j nilA∈ins:=by rw [List.getD_eq_getElem?_getD,List.getElem?_eq_getElem hc];exact List.getElem_mem hc
     have hoa:=hn2 _ hmem
     generalize hX:ins.getD j nilA=X at*
     obtain ⟨xe,xd,xx⟩:=X
     obtain ⟨ho1,ho2⟩:=hoa
     have vX:arrV ⟨xe,xd,xx⟩= .agg [.lit (.string xe),.sl false 1 (ints .i64 xd),.sl false 1 (ints .i64 xx)]:=rfl
     simp only at ho1 ho2
     cases hf:(ofE ⟨xe,xd,xx⟩==0) with
     |true=>
      rw [show invA ⟨xe,xd,xx⟩=false by unfold invA;rw [hf];rfl,Bool.false_or] at hq
      repeat' first|(with_reducible first|(refine nx ?_;intros)|apply And.intro|intro vr)|exact kpd|((with_reducible first|refine ny ?_|refine t_kLF ?_ ?_|refine t_dO 20 (fun _=>false) oZs1_0 fun K=>?_|refine t_dO 21 (fun _=>false) oZs1_1 fun K=>?_|refine t_dwh (h:=fun K KL=>?_));intros;simp only [go_sem,kp54,geff,g3,hX,vX,hf,Bool.not_true,Int.toNat_natCast,arrOf_agg,slK_sl,yes])
      all_goals try exact nd
      exact ⟨⟨j+1,by omega,hq⟩,wf,lf⟩
     |false=>
      rw [show invA ⟨xe,xd,xx⟩=true by unfold invA;rw [hf];rfl,Bool.true_or] at hq
      have e:startS B ins= .inl 1:=by unfold startS;rw [hv,hl,←hq];rfl
      have hk:=hk1 1 e
      repeat' first|(with_reducible first|(refine nx ?_;intros)|apply And.intro|intro vr)|exact kpd|((with_reducible first|refine ny ?_|refine t_kLF ?_ ?_|refine t_dO 20 (fun _=>false) oZs1_0 fun K=>?_|refine t_dO 21 (fun _=>false) oZs1_1 fun K=>?_|refine t_dwh (h:=fun K KL=>?_));intros;simp only [go_sem,kp54,geff,g3,hX,vX,hf,Bool.not_false,Int.toNat_natCast,arrOf_agg,slK_sl,yes])
      all_goals try exact nd
      all_goals (refine nl ?_;simp only [go_sem,finK])
      exact ⟨0,by simp,_,LeR.refl _,zst_bd (by simp),hbd,hk⟩
    ·have g3:decide ((j:Int)<(ins.length:Int))=false:=decide_eq_false (by omega)
     rw [List.drop_eq_nil_of_le hc,List.any_nil] at hq
     have ha:ins.any invA=false:=hq.symm
     have e:startS B ins=fillS B ins 0 (List.replicate B.arena.toNat 0) 0:=by unfold startS;rw [hv,hl,ha];rfl
     repeat' first|(with_reducible first|(refine nx ?_;intros)|apply And.intro|intro vr)|exact kpd|((with_reducible first|refine ny ?_|refine t_kLF ?_ ?_|refine t_dO 20 (fun _=>false) oZs1_0 fun K=>?_|refine t_dO 21 (fun _=>false) oZs1_1 fun K=>?_|refine t_dwh (h:=fun K KL=>?_));intros;simp only [go_sem,kp54,geff,g3,yes])
     all_goals try exact nd
     refine ⟨fk95,Mx.start0_ec ⟨r0,r1⟩ ⟨a0,a1⟩ ?_⟩
     repeat' first|(with_reducible first|(refine nx ?_;intros)|apply And.intro|intro vr)|exact kpd|((with_reducible first|refine ny ?_|refine t_kLF ?_ ?_|refine t_dO 20 (fun _=>false) oZs1_0 fun K=>?_|refine t_dO 21 (fun _=>false) oZs1_1 fun K=>?_|refine t_dwh (h:=fun K KL=>?_));intros;simp only [go_sem,kp54,geff,List.cons_append,List.nil_append,yes])
     all_goals try exact nd
     refine t_loopF (ι:=Fq B ins) (fun q=>[(10,.lit (.int .i64 (q.i:Int)))]) (fun q=>[x1,x2,x3,x4,.box 26 [.lit (.int .i64 B.regs),.lit (.int .i64 B.arena),.sl false 6 (opsV B.ops),.sl false 2 (plsV B.ins),.sl false 2 (plsV B.outs),.sl false 3 (arrs B.types)],.box 69 [.sl true 1 [],.sl true 1 [],.lit (.int .i64 0),.lit (.int .i64 0),.lit (.int .i64 0),.lit (.int .i64 0),.sl true 1 [],.lit (.int .i64 0),.lit (.bool false),.sl true 1 [],.lit (.bool false),.lit (.int .i64 0)],.arr 3 1 (ints .i64 (List.replicate B.regs.toNat 0)) 0 false,.arr 3 1 (ints .i64 (q.ar)) 0 false,.box 69 [.arr 6 0,.arr 7 0,.lit (.int .i64 0),.lit (.int .i64 0),.lit (.int .i64 0),.lit (.int .i64 (q.pk)),.sl false 1 [],.lit (.int .i64 200001),.lit (.bool false),.sl false 1 [],.lit (.bool false),.lit (.int .i64 0)]]) (fun q=>ins.length - q.i) ⟨0,List.replicate B.arena.toNat 0,0,Nat.zero_le _,fl_start a0,e⟩ ?_ ?_
     ·exact lf
     rintro ⟨i,ar,pk,hil,hfl,hq⟩ K1
     have f1:=hfl.len
     have f2:=hfl.pk
     rcases Nat.lt_or_ge i ins.length with hc|hc
     ·have g4:decide ((i:Int)<(ins.length:Int))=true:=decide_eq_true (by omega)
      have hib:i<B.ins.length:=by omega
      have hmem:ins.getD i nilA∈ins:=by rw [List.getD_eq_getElem?_getD,List.getElem?_eq_getElem hc];exact List.getElem_mem hc
      have hoa:=hn2 _ hmem
      have hiv:invA (ins.getD i nilA)=false:=by
        have:=List.any_eq_false.1 ha _ hmem
        simpa using this
      have hdr:ins.drop i=ins.getD i nilA::ins.drop (i+1):=drop_getD nilA hc
      rw [hdr,fillS] at hq
      have hin:=fun hd=>in1_of hv hiv hib hd
      have hfn:=fun hd=>hfl.next (hin hd)
      generalize hX:ins.getD i nilA=X at*
      generalize hT:B.types.getD i nilA=T at*
      generalize hP:B.ins.getD i (0,0)=P at*
      obtain ⟨xe,xd,xx⟩:=X
      obtain ⟨te,td,tx⟩:=T
      obtain ⟨po,ps⟩:=P
      obtain ⟨ho1,ho2⟩:=hoa
      have vX:arrV ⟨xe,xd,xx⟩= .agg [.lit (.string xe),.sl false 1 (ints .i64 xd),.sl false 1 (ints .i64 xx)]:=rfl
      have vT:arrV ⟨te,td,tx⟩= .agg [.lit (.string te),.sl false 1 (ints .i64 td),.sl false 1 (ints .i64 tx)]:=rfl
      have vP:plV (po,ps)= .agg [.lit (.int .i64 po),.lit (.int .i64 ps)]:=rfl
      simp only at hq ho1 ho2
      cases he:eqS xe te with
      |false=>
       rw [if_pos he] at hq
       have hk:=hk1 12 hq
       repeat' first|(with_reducible first|(refine nx ?_;intros)|apply And.intro|intro vr)|exact kpd|((with_reducible first|refine ny ?_|refine t_kLF ?_ ?_|refine t_dO 20 (fun _=>false) oZs1_0 fun K=>?_|refine t_dO 21 (fun _=>false) oZs1_1 fun K=>?_|refine t_dwh (h:=fun K KL=>?_));intros;simp only [go_sem,kp54,geff,g4,hX,hT,vX,vT,he,Bool.not_false,Int.toNat_natCast,yes])
       all_goals try exact nd
       all_goals (refine nl ?_;simp only [go_sem,finK])
       exact ⟨0,by simp,_,LeR.refl _,zst_bd (by simp),hbd,hk⟩
      |true=>
       rw [if_neg (by rw [he];decide)] at hq
       by_cases hd:xd=td
       ·subst hd
        rw [if_neg (by simp)] at hq
        have h1:=hin rfl
        have h2:=hfn rfl
        have q1:=h1.off
        have q2:=h1.size
        have q3:=h1.fit
        rw [hP] at q1 q2 q3
        simp only at q1 q2 q3 h2
        subst q2
        have g5:decide (xd=xd)=true:=decide_eq_true rfl
        repeat' first|(with_reducible first|(refine nx ?_;intros)|apply And.intro|intro vr)|exact kpd|((with_reducible first|refine ny ?_|refine t_kLF ?_ ?_|refine t_dO 20 (fun _=>false) oZs1_0 fun K=>?_|refine t_dO 21 (fun _=>false) oZs1_1 fun K=>?_|refine t_dwh (h:=fun K KL=>?_));intros;simp only [go_sem,kp54,geff,g4,hX,hT,hP,vX,vT,vP,he,g5,Bool.not_true,slK_sl,Int.toNat_natCast,yes])
        all_goals try exact nd
        refine t_loopF (ι:={c:Nat // c≤xx.length}) (fun i=>[(12,.lit (.int .i64 i.1))]) (fun i=>[x1,x2,x3,x4,.box 26 [.lit (.int .i64 B.regs),.lit (.int .i64 B.arena),.sl false 6 (opsV B.ops),.sl false 2 (plsV B.ins),.sl false 2 (plsV B.outs),.sl false 3 (arrs B.types)],.box 69 [.sl true 1 [],.sl true 1 [],.lit (.int .i64 0),.lit (.int .i64 0),.lit (.int .i64 0),.lit (.int .i64 0),.sl true 1 [],.lit (.int .i64 0),.lit (.bool false),.sl true 1 [],.lit (.bool false),.lit (.int .i64 0)],.arr 3 1 (ints .i64 (List.replicate B.regs.toNat 0)) 0 false,.arr 3 1 (ints .i64 (putI ar po.toNat (xx.take i.1))) 0 false,.box 69 [.arr 6 0,.arr 7 0,.lit (.int .i64 0),.lit (.int .i64 0),.lit (.int .i64 0),.lit (.int .i64 (pk)),.sl false 1 [],.lit (.int .i64 200001),.lit (.bool false),.sl false 1 [],.lit (.bool false),.lit (.int .i64 0)]]) (fun i=>xx.length - i.1) ⟨0,Nat.zero_le _⟩ ?_ ?_
        ·exact lf
        rintro ⟨c,hcx⟩ K2
        have hpl:(ints .i64 (putI ar po.toNat (xx.take c))).length=ar.length:=by rw [ints_length,putI_length]
        rcases Nat.lt_or_ge c xx.length with hcc|hcc
        ·have g6:decide ((c:Int)<(xx.length:Int))=true:=decide_eq_true (by omega)
         have hpt:=putI_take (ar:=ar) (i:=po.toNat) hcc
         have ht:(po+(c:Int)).toNat=po.toNat+c:=by omega
         have hst:∀ v:Int,(ints .i64 (putI ar po.toNat (xx.take c))).set (po.toNat+c) (.lit (.int .i64 v))=ints .i64 ((putI ar po.toNat (xx.take c)).set (po.toNat+c) v):=fun v=>by simp [ints,List.map_set]
         have hg:∀ z,(ints .i64 xx).getD c z= .lit (.int .i64 (xx.getD c 0)):=fun z=>by simp [ints,List.getD,hcc]
         generalize hV:xx.getD c 0=V at hg hpt
         repeat' first|(with_reducible first|(refine nx ?_;intros)|apply And.intro|intro vr)|exact kpd|((with_reducible first|refine ny ?_|refine t_kLF ?_ ?_|refine t_dO 20 (fun _=>false) oZs1_0 fun K=>?_|refine t_dO 21 (fun _=>false) oZs1_1 fun K=>?_|refine t_dwh (h:=fun K KL=>?_));intros;simp only [go_sem,kp54,geff,g4,hX,vX,g6,hpl,ht,hst,hg,hpt,Int.toNat_natCast,yes])
         all_goals try omega
         all_goals try exact nd
         exact ⟨⟨c+1,by omega⟩,wf,lf⟩
        ·have g6:decide ((c:Int)<(xx.length:Int))=false:=decide_eq_false (by omega)
         have htk:xx.take c=xx:=List.take_of_length_le hcc
         repeat' first|(with_reducible first|(refine nx ?_;intros)|apply And.intro|intro vr)|exact kpd|((with_reducible first|refine ny ?_|refine t_kLF ?_ ?_|refine t_dO 20 (fun _=>false) oZs1_0 fun K=>?_|refine t_dO 21 (fun _=>false) oZs1_1 fun K=>?_|refine t_dwh (h:=fun K KL=>?_));intros;simp only [go_sem,kp54,geff,g4,hX,vX,g6,htk,Int.toNat_natCast,yes])
         all_goals try exact nd
         exact ⟨⟨i+1,putI ar po.toNat xx,maxI pk (po+xx.length),by omega,h2,hq⟩,wf,lf⟩
       ·rw [if_pos hd] at hq
        have hk:=hk1 14 hq
        have g5:decide (xd=td)=false:=decide_eq_false hd
        repeat' first|(with_reducible first|(refine nx ?_;intros)|apply And.intro|intro vr)|exact kpd|((with_reducible first|refine ny ?_|refine t_kLF ?_ ?_|refine t_dO 20 (fun _=>false) oZs1_0 fun K=>?_|refine t_dO 21 (fun _=>false) oZs1_1 fun K=>?_|refine t_dwh (h:=fun K KL=>?_));intros;simp only [go_sem,kp54,geff,g4,hX,hT,vX,vT,he,g5,Bool.not_true,Bool.not_false,slK_sl,Int.toNat_natCast,yes])
        all_goals try exact nd
        all_goals (refine nl ?_;simp only [go_sem,finK])
        exact ⟨0,by simp,_,LeR.refl _,zst_bd (by simp),hbd,hk⟩
     ·have g4:decide ((i:Int)<(ins.length:Int))=false:=decide_eq_false (by omega)
      rw [List.drop_eq_nil_of_le hc] at hq
      have hk:=fun p q=>hk2 mt ar pk p q hq hv hm hfl
      repeat' first|(with_reducible first|(refine nx ?_;intros)|apply And.intro|intro vr)|exact kpd|((with_reducible first|refine ny ?_|refine t_kLF ?_ ?_|refine t_dO 20 (fun _=>false) oZs1_0 fun K=>?_|refine t_dO 21 (fun _=>false) oZs1_1 fun K=>?_|refine t_dwh (h:=fun K KL=>?_));intros;simp only [go_sem,kp54,geff,g4,yes])
      all_goals try exact nd
      all_goals (refine nl ?_;simp only [go_sem,finK])
      have hB:BdS 8 [x1,x2,x3,x4,.box 26 [.lit (.int .i64 B.regs),.lit (.int .i64 B.arena),.sl false 6 (opsV B.ops),.sl false 2 (plsV B.ins),.sl false 2 (plsV B.outs),.sl false 3 (arrs B.types)],.box 69 [.arr 6 0,.arr 7 0,.lit (.int .i64 0),.lit (.int .i64 0),.lit (.int .i64 0),.lit (.int .i64 pk),.sl false 1 [],.lit (.int .i64 200001),.lit (.bool false),.sl false 1 [],.lit (.bool false),.lit (.int .i64 0)],.arr 3 1 (ints .i64 (List.replicate B.regs.toNat 0)) 0 false,.arr 3 1 (ints .i64 ar) 0 false]:=
        Mm.BdS.app (σ:=[x1,x2,x3,x4]) (l:=[.box 26 [.lit (.int .i64 B.regs),.lit (.int .i64 B.arena),.sl false 6 (opsV B.ops),.sl false 2 (plsV B.ins),.sl false 2 (plsV B.outs),.sl false 3 (arrs B.types)],.box 69 [.arr 6 0,.arr 7 0,.lit (.int .i64 0),.lit (.int .i64 0),.lit (.int .i64 0),.lit (.int .i64 pk),.sl false 1 [],.lit (.int .i64 200001),.lit (.bool false),.sl false 1 [],.lit (.bool false),.lit (.int .i64 0)],.arr 3 1 (ints .i64 (List.replicate B.regs.toNat 0)) 0 false,.arr 3 1 (ints .i64 ar) 0 false]) hbd (by simp) (by simp [lowO,low_lit,low_sl,low_arr])
      exact ⟨4,by simp,_,LeR.refl _,st_bd (s:=s0 B ar pk),hB,hk _ _ hB⟩
end
end Go.Proofs.YtnlimcijgpaegaaGreat.Mz

namespace Go.Proofs.YtnlimcijgpaegaaGreat.Mz
open Go.Proofs.YtnlimcijgpaegaaGreat
open Go Go.Fw Bm Mm
set_option maxRecDepth 20000
theorem sn_nil {B:Prg}:Mx.Sn B []:=⟨fun h=>absurd h (Nat.lt_irrefl _),fun l h=>by cases h⟩
theorem exec6 {B:Prg} {mt:List Int} {n m N:Nat} {cb:Int} (hK:Wk B mt n) (hcb:cb≤1000000) (hm:m≤1048576) {i to:Int} {s:St} {p0 p1 p2 p3 p4 p5 q:AObj} {k:AV→List AObj→Prop} (h1:to - i≤N) (h2:Cl B mt i to) (h3:Gd n m cb s)
    (h:∀ s',Runs B mt [] (.blk i to) s s'→Gd n m cb s'→k (.agg [.arr 6 0,.arr 7 0,.lit (.int .i64 s'.reads),.lit (.int .i64 s'.writes),.lit (.int .i64 s'.ops),.lit (.int .i64 s'.peak),.sl false 1 (ints .i64 s'.viol),.lit (.int .i64 s'.left),.lit (.bool s'.failed),.sl false 1 (bfsV []),.lit (.bool s'.out),.lit (.int .i64 s'.at_)]) [p0,p1,p2,p3,p4,p5,.arr 3 1 (ints .i64 s'.regs) 0 false,.arr 3 1 (ints .i64 s'.arena) 0 false,q]):
    EC Tryz.prog 56 [.agg [.lit (.int .i64 B.regs),.lit (.int .i64 B.arena),.sl false 6 (opsV B.ops),.sl false 2 (plsV B.ins),.sl false 2 (plsV B.outs),.sl false 3 (arrs B.types)],.sl false 1 (ints .i64 mt),.lit (.int .i64 i),.lit (.int .i64 to),
     .agg [.arr 6 0,.arr 7 0,.lit (.int .i64 s.reads),.lit (.int .i64 s.writes),.lit (.int .i64 s.ops),.lit (.int .i64 s.peak),.sl false 1 (ints .i64 s.viol),.lit (.int .i64 s.left),.lit (.bool s.failed),.sl false 1 (bfsV []),.lit (.bool s.out),.lit (.int .i64 s.at_)]] [p0,p1,p2,p3,p4,p5,.arr 3 1 (ints .i64 s.regs) 0 false,.arr 3 1 (ints .i64 s.arena) 0 false,q] k:=
  Mx.exec_all hK sn_nil hcb hm N i to s [p0,p1,p2,p3,p4,p5] [q] k h1 h2 h3 h
def errE (s:St):Int:=if s.left≤0 then 3 else if s.failed=true then 22 else 0
attribute [go_sem] con55_f con55_c
noncomputable def Z2:Env:=envU Tryz.prog jkR zer (fun _=>false) (fun _=>false) [con55]
theorem Z2_ok:EnvOk Tryz.prog Z2:=envUOk zer_ok
section
variable {x y:AObj} {B:Prg} {ins:List Arr} {k:AV→List AObj→Prop}
set_option maxHeartbeats 8000000 in
theorem whole_ec (hO:OkB B∧B.ins.length≤100000∧B.outs.length≤100000) (hi:ins.length≤1000000∧∀ a∈ins,okA a)
    (hk1:∀ e,startS B ins= .inl e→k (.tup [.agg zst,.lit (.int .i64 e)]) [x,y])
    (hk2:∀ ar pk s p q r t,startS B ins= .inr (ar,pk)→validS B=true→s=endM B ar pk→Gd B.regs.toNat B.arena.toNat 200001 s→BdS 8 [x,y,p,q,r,t,.arr 3 1 (ints .i64 s.regs) 0 false,.arr 3 1 (ints .i64 s.arena) 0 false]→
      k (.tup [.agg [.arr 6 0,.arr 7 0,.lit (.int .i64 s.reads),.lit (.int .i64 s.writes),.lit (.int .i64 s.ops),.lit (.int .i64 s.peak),.sl false 1 (ints .i64 s.viol),.lit (.int .i64 s.left),.lit (.bool s.failed),.sl false 1 (bfsV []),.lit (.bool s.out),.lit (.int .i64 s.at_)],.lit (.int .i64 (errE s))]) [x,y,p,q,r,t,.arr 3 1 (ints .i64 s.regs) 0 false,.arr 3 1 (ints .i64 s.arena) 0 false]):
    EC Tryz.prog 29 [bcV B,.sl false 3 (arrs ins),.lit (.int .i64 200000)] [x,y] k:=by
  refine ec_finM fun hbd=>?_
  simp only [bcV]
  refine ecR Z2_ok (kp29) Tryz.func29 [.cell 6 69,.tmp 7] (h:=fun KF=>?_)
  unfold Z2
  with_reducible repeat' first|(refine nx ?_;intros)|apply And.intro|intro vr|(refine ny ?_;intros;simp only [go_sem,kp29,geff,List.cons_append,List.nil_append,yes])
  all_goals try exact nd
  refine ⟨fk54,startR_ec hO hi (fun e he=>?_) (fun mt ar pk p q hs hv hm hfl hB=>?_)⟩
  ·have g1:(e !=0)=true:=by
     have:=start_ne he
     simpa using this
   have hk:=hk1 e he
   with_reducible repeat' first|(refine nx ?_;intros)|apply And.intro|intro vr|(refine ny ?_;intros;simp only [go_sem,kp29,geff,g1,zst,List.cons_append,List.nil_append,yes])
   all_goals try exact nd
   all_goals (refine nl ?_;simp only [go_sem,finK])
   exact ⟨0,by simp,_,LeR.refl _,zst_bd (by simp),hbd,hk⟩
  ·obtain ⟨⟨r0,r1⟩,⟨a0,a1⟩,_,hR,_,_⟩:=valid_inv hv
   have hmv:matchV B.ops= .tup [.sl false 1 (ints .i64 mt),.lit (.bool true)]:=by unfold matchV;rw [hm]
   have hol:=hO.1.ops
   have hK:=wk_of hv hm hol
   have hcl:Cl B mt 0 B.ops.length:=⟨Int.le_refl _,Int.le_refl _,fun j j0 j1 j2=>(hK.nest.at j0 j1 j2).2.1⟩
   have hgd:=gd_start (B:=B) (ar:=ar) (pk:=pk) B.regs.toNat B.arena.toNat rfl (by omega) hfl
   with_reducible repeat' first|(refine nx ?_;intros)|apply And.intro|intro vr|(refine ny ?_;intros;simp only [go_sem,kp29,geff,hmv,List.cons_append,List.nil_append,yes])
   all_goals try exact nd
   refine ⟨fk56,exec6 hK (by omega) (by omega) (N:=B.ops.length) (s:=s0 B ar pk) (by omega) hcl hgd fun s' hrun hg'=>?_⟩
   have e1:mtS B=mt:=by unfold mtS;rw [hm];rfl
   have hE:s'=endM B ar pk:=by
     unfold endM
     rw [e1]
     exact Runs.det hrun endR_runs
   have hk:=fun p q r t=>hk2 ar pk s' p q r t hs hv hE hg'
   have hB2:∀ (c:List AV) (R A:List Int),BdL 8 c→BdS 8 [x,y,.box 26 [.lit (.int .i64 B.regs),.lit (.int .i64 B.arena),.sl false 6 (opsV B.ops),.sl false 2 (plsV B.ins),.sl false 2 (plsV B.outs),.sl false 3 (arrs B.types)],.box 69 c,p,q,.arr 3 1 (ints .i64 R) 0 false,.arr 3 1 (ints .i64 A) 0 false]:=fun c R A hc=>
     ((hB.set 3 69 hc).set_arr 6 3 1 (ints .i64 R) 0 false).set_arr 7 3 1 (ints .i64 A) 0 false
   by_cases h1:s'.left≤0
   ·have g1:decide (s'.left≤0)=true:=decide_eq_true h1
    have ee:errE s'=3:=by unfold errE;rw [if_pos h1]
    rw [ee] at hk
    with_reducible repeat' first|(refine nx ?_;intros)|apply And.intro|intro vr|(refine ny ?_;intros;simp only [go_sem,kp29,geff,g1,List.cons_append,List.nil_append,yes])
    all_goals try exact nd
    all_goals (refine nl ?_;simp only [go_sem,finK])
    have hb:=hB2 _ s'.regs s'.arena (stV_bl (s:=s'))
    exact ⟨6,by simp,_,LeR.refl _,st_bd,hb,hk _ _ _ _ hb⟩
   ·have g1:decide (s'.left≤0)=false:=decide_eq_false h1
    cases h2:s'.failed with
    |true=>
     have ee:errE s'=22:=by unfold errE;rw [if_neg h1,if_pos h2]
     rw [ee,h2] at hk
     with_reducible repeat' first|(refine nx ?_;intros)|apply And.intro|intro vr|(refine ny ?_;intros;simp only [go_sem,kp29,geff,g1,h2,List.cons_append,List.nil_append,yes])
     all_goals try exact nd
     all_goals (refine nl ?_;simp only [go_sem,finK])
     have hb:=hB2 _ s'.regs s'.arena (stV_bl (s:=s'))
     have hs:=st_bd (s:=s') (e:=22)
     unfold stV at hs
     rw [h2] at hb hs
     exact ⟨6,by simp,_,LeR.refl _,hs,hb,hk _ _ _ _ hb⟩
    |false=>
     have ee:errE s'=0:=by unfold errE;rw [if_neg h1,if_neg (by rw [h2];decide)]
     rw [ee,h2] at hk
     with_reducible repeat' first|(refine nx ?_;intros)|apply And.intro|intro vr|(refine ny ?_;intros;simp only [go_sem,kp29,geff,g1,h2,List.cons_append,List.nil_append,yes])
     all_goals try exact nd
     all_goals (refine nl ?_;simp only [go_sem,finK])
     have hb:=hB2 _ s'.regs s'.arena (stV_bl (s:=s'))
     have hs:=st_bd (s:=s') (e:=0)
     unfold stV at hs
     rw [h2] at hb hs
     exact ⟨6,by simp,_,LeR.refl _,hs,hb,hk _ _ _ _ hb⟩
end
end Go.Proofs.YtnlimcijgpaegaaGreat.Mz

namespace Go.Proofs.YtnlimcijgpaegaaGreat.Mm
open Go.Proofs.YtnlimcijgpaegaaGreat
open Go Go.Fw Bm
set_option maxRecDepth 20000
noncomputable def N2:Env:=envJ (P:=Tryz.prog) jkR zer (fun _=>false) (fun _=>false) [] []
theorem N2_ok:EnvOk Tryz.prog N2:=envJOk zer_ok
set_option maxHeartbeats 4000000 in
theorem ex_pc:PC Tryz.prog 16 [] (.agg [.lit (.int .i64 4),.lit (.int .i64 3),.sl true 6 [.agg [.lit (.int .i64 1),.lit (.string ByteArray.empty),.lit (.int .i64 1),.lit (.int .i64 3),.lit (.int .i64 0),.lit (.int .i64 0)],.agg [.lit (.int .i64 10),.lit (.string ByteArray.empty),.lit (.int .i64 2),.lit (.int .i64 0),.lit (.int .i64 1),.lit (.int .i64 1)],.agg [.lit (.int .i64 6),.lit (.string ByteArray.empty),.lit (.int .i64 3),.lit (.int .i64 2),.lit (.int .i64 0),.lit (.int .i64 0)],.agg [.lit (.int .i64 5),.lit (.string ⟨#[110,101,103]⟩),.lit (.int .i64 3),.lit (.int .i64 3),.lit (.int .i64 0),.lit (.int .i64 0)],.agg [.lit (.int .i64 7),.lit (.string ByteArray.empty),.lit (.int .i64 2),.lit (.int .i64 3),.lit (.int .i64 0),.lit (.int .i64 0)],.agg [.lit (.int .i64 13),.lit (.string ByteArray.empty),.lit (.int .i64 0),.lit (.int .i64 0),.lit (.int .i64 0),.lit (.int .i64 0)]],.sl true 2 [.agg [.lit (.int .i64 0),.lit (.int .i64 3)]],.sl true 2 [.agg [.lit (.int .i64 0),.lit (.int .i64 3)]],.sl true 3 [.agg [.lit (.string ⟨#[105,110,116]⟩),.sl true 1 [.lit (.int .i64 3)],.sl true 1 []],.agg [.lit (.string ⟨#[105,110,116]⟩),.sl true 1 [.lit (.int .i64 3)],.sl true 1 []]]]):=by
  refine pcR N2_ok (kp16) Tryz.func16 [.cell 0 26] (h:=fun KF=>?_)
  unfold N2
  with_reducible repeat' first|(refine nx ?_;intros)|refine t_br (fun hc=>?_) fun hc=>?_|refine t_bx ?_|apply And.intro|intro vr|((first|refine ny ?_|refine t_dwh (h:=fun K KL=>?_));intros;simp only [go_sem,kp16,geff])
  all_goals try exact nd
  all_goals (refine nl ?_;simp only [go_sem])
  exact LeA.refl _
noncomputable def con16:PCon Tryz.prog where
  f:=16
  c:=fun
   |[]=>some (True,.agg [.lit (.int .i64 4),.lit (.int .i64 3),.sl true 6 [.agg [.lit (.int .i64 1),.lit (.string ByteArray.empty),.lit (.int .i64 1),.lit (.int .i64 3),.lit (.int .i64 0),.lit (.int .i64 0)],.agg [.lit (.int .i64 10),.lit (.string ByteArray.empty),.lit (.int .i64 2),.lit (.int .i64 0),.lit (.int .i64 1),.lit (.int .i64 1)],.agg [.lit (.int .i64 6),.lit (.string ByteArray.empty),.lit (.int .i64 3),.lit (.int .i64 2),.lit (.int .i64 0),.lit (.int .i64 0)],.agg [.lit (.int .i64 5),.lit (.string ⟨#[110,101,103]⟩),.lit (.int .i64 3),.lit (.int .i64 3),.lit (.int .i64 0),.lit (.int .i64 0)],.agg [.lit (.int .i64 7),.lit (.string ByteArray.empty),.lit (.int .i64 2),.lit (.int .i64 3),.lit (.int .i64 0),.lit (.int .i64 0)],.agg [.lit (.int .i64 13),.lit (.string ByteArray.empty),.lit (.int .i64 0),.lit (.int .i64 0),.lit (.int .i64 0),.lit (.int .i64 0)]],.sl true 2 [.agg [.lit (.int .i64 0),.lit (.int .i64 3)]],.sl true 2 [.agg [.lit (.int .i64 0),.lit (.int .i64 3)]],.sl true 3 [.agg [.lit (.string ⟨#[105,110,116]⟩),.sl true 1 [.lit (.int .i64 3)],.sl true 1 []],.agg [.lit (.string ⟨#[105,110,116]⟩),.sl true 1 [.lit (.int .i64 3)],.sl true 1 []]]])
   |_=>none
  ok:=by
   intro args p r hc hp
   split at hc
   ·cases hc;exact ex_pc
   ·cases hc
  fk:=fk16
theorem con16_f:con16.f=16:=rfl
theorem con16_c:con16.c []=some (True,.agg [.lit (.int .i64 4),.lit (.int .i64 3),.sl true 6 [.agg [.lit (.int .i64 1),.lit (.string ByteArray.empty),.lit (.int .i64 1),.lit (.int .i64 3),.lit (.int .i64 0),.lit (.int .i64 0)],.agg [.lit (.int .i64 10),.lit (.string ByteArray.empty),.lit (.int .i64 2),.lit (.int .i64 0),.lit (.int .i64 1),.lit (.int .i64 1)],.agg [.lit (.int .i64 6),.lit (.string ByteArray.empty),.lit (.int .i64 3),.lit (.int .i64 2),.lit (.int .i64 0),.lit (.int .i64 0)],.agg [.lit (.int .i64 5),.lit (.string ⟨#[110,101,103]⟩),.lit (.int .i64 3),.lit (.int .i64 3),.lit (.int .i64 0),.lit (.int .i64 0)],.agg [.lit (.int .i64 7),.lit (.string ByteArray.empty),.lit (.int .i64 2),.lit (.int .i64 3),.lit (.int .i64 0),.lit (.int .i64 0)],.agg [.lit (.int .i64 13),.lit (.string ByteArray.empty),.lit (.int .i64 0),.lit (.int .i64 0),.lit (.int .i64 0),.lit (.int .i64 0)]],.sl true 2 [.agg [.lit (.int .i64 0),.lit (.int .i64 3)]],.sl true 2 [.agg [.lit (.int .i64 0),.lit (.int .i64 3)]],.sl true 3 [.agg [.lit (.string ⟨#[105,110,116]⟩),.sl true 1 [.lit (.int .i64 3)],.sl true 1 []],.agg [.lit (.string ⟨#[105,110,116]⟩),.sl true 1 [.lit (.int .i64 3)],.sl true 1 []]]]):=rfl
theorem ex_bc:bcOf (.agg [.lit (.int .i64 4),.lit (.int .i64 3),.sl true 6 [.agg [.lit (.int .i64 1),.lit (.string ByteArray.empty),.lit (.int .i64 1),.lit (.int .i64 3),.lit (.int .i64 0),.lit (.int .i64 0)],.agg [.lit (.int .i64 10),.lit (.string ByteArray.empty),.lit (.int .i64 2),.lit (.int .i64 0),.lit (.int .i64 1),.lit (.int .i64 1)],.agg [.lit (.int .i64 6),.lit (.string ByteArray.empty),.lit (.int .i64 3),.lit (.int .i64 2),.lit (.int .i64 0),.lit (.int .i64 0)],.agg [.lit (.int .i64 5),.lit (.string ⟨#[110,101,103]⟩),.lit (.int .i64 3),.lit (.int .i64 3),.lit (.int .i64 0),.lit (.int .i64 0)],.agg [.lit (.int .i64 7),.lit (.string ByteArray.empty),.lit (.int .i64 2),.lit (.int .i64 3),.lit (.int .i64 0),.lit (.int .i64 0)],.agg [.lit (.int .i64 13),.lit (.string ByteArray.empty),.lit (.int .i64 0),.lit (.int .i64 0),.lit (.int .i64 0),.lit (.int .i64 0)]],.sl true 2 [.agg [.lit (.int .i64 0),.lit (.int .i64 3)]],.sl true 2 [.agg [.lit (.int .i64 0),.lit (.int .i64 3)]],.sl true 3 [.agg [.lit (.string ⟨#[105,110,116]⟩),.sl true 1 [.lit (.int .i64 3)],.sl true 1 []],.agg [.lit (.string ⟨#[105,110,116]⟩),.sl true 1 [.lit (.int .i64 3)],.sl true 1 []]]])=some exM:=by rfl
theorem ex_in:arrsOf (.sl true 3 [.agg [.lit (.string ⟨#[105,110,116]⟩),.sl true 1 [.lit (.int .i64 3)],.sl true 1 [.lit (.int .i64 5),.lit (.int .i64 6),.lit (.int .i64 7)]]])=some exI:=by rfl
attribute [go_sem] con16_f con16_c
noncomputable def N3:Env:=envJ (P:=Tryz.prog) jkR zer (fun _=>false) (fun _=>false) [con16,con9,con13,con17] []
theorem N3_ok:EnvOk Tryz.prog N3:=envJOk zer_ok
theorem ex_ok:RunOk exM exI:=by
  refine ⟨⟨⟨by decide,by decide,by decide,by decide,fun t ht=>?_⟩,by decide,by decide⟩,by decide,fun a ha=>?_⟩
  ·have:t=exT:=by simpa [exM] using ht
   subst this;exact ⟨by decide,by decide⟩
  ·have:a=⟨sInt,[3],[5,6,7]⟩:=by simpa [exI] using ha
   subst this;exact ⟨by decide,by decide⟩
theorem ex_rv:runV exM (runE exM exI)= .tup [.agg [.sl false 3 [.agg [.lit (.string sInt),.sl false 1 (ints .i64 [3]),.sl false 1 (ints .i64 [-5, -6, -7])]],.lit (.int .i64 3),.lit (.int .i64 3),.lit (.int .i64 3),.lit (.int .i64 3),.sl false 1 (ints .i64 [])],.lit (.int .i64 0)]:=by
  rw [ex_run]
  show AV.tup [outV (resL exM exS.arena) _ _ _ _ _,_]=_
  rw [ex_res];rfl
theorem ex_sv:stepsV (runE exM exI)= .tup [.lit (.int .i64 14),.lit (.int .i64 0)]:=by
  rw [ex_run];rfl
set_option maxHeartbeats 8000000 in
theorem awakeM_pc:PC Tryz.prog 6 [] (.lit (.bool true)):=by
  have k1:slK .i64 (.sl true 1 [.lit (.int .i64 (-5)),.lit (.int .i64 (-6)),.lit (.int .i64 (-7))])=some [-5, -6, -7]:=rfl
  have k2:decide (([-5, -6, -7]:List Int)=[-5, -6, -7])=true:=by decide
  refine pcR N3_ok (kp6) Tryz.func6 [.tmp 0] (h:=fun KF=>?_)
  unfold N3
  with_reducible repeat' first|(refine nx ?_;intros)|apply And.intro|intro vr|(refine ny ?_;intros;simp only [go_sem,kp6,geff,ex_bc,ex_in,ex_rv,ex_sv,slK_sl,k1,k2,yes])
  all_goals try exact ex_ok
  all_goals try exact nd
  all_goals (refine nl ?_;simp only [go_sem])
  exact LeA.refl _
noncomputable def con6:PCon Tryz.prog where
  f:=6
  c:=fun
   |[]=>some (True,.lit (.bool true))
   |_=>none
  ok:=by
   intro args p r hc hp
   split at hc
   ·cases hc;exact awakeM_pc
   ·cases hc
  fk:=fk6
theorem con6_f:con6.f=6:=rfl
theorem con6_c:con6.c []=some (True,.lit (.bool true)):=rfl
attribute [go_sem] con6_f con6_c
theorem runE_ne {B:Prg} {ins:List Arr} {e:Int} (h:runE B ins= .inl e):e≠0:=by
  unfold runE at h
  split at h
  ·rename_i e' he
   cases h
   exact start_ne he
  ·split at h
   ·cases h;decide
   ·split at h
    ·cases h;decide
    ·cases h
theorem smM_inv {B:Prg} {ins:List Arr} (h:smM B ins=true):smallS B=true∧(∀ a∈ins,fewA a 100=true)∧ins.length≤4:=by
  simp only [smM,Bool.and_eq_true,List.all_eq_true,decide_eq_true_eq] at h
  obtain ⟨⟨⟨⟨h1,h2⟩,h3⟩,h4⟩,h5⟩:=h
  refine ⟨?_,h1,by omega⟩
  unfold smallS
  rw [h2,decide_eq_true h3,decide_eq_true h4];rfl
theorem few_ok {a:Arr} {n:Int} (hn:n≤1000000) (h:fewA a n=true):okA a:=by
  simp only [fewA,Bool.and_eq_true,decide_eq_true_eq] at h
  exact ⟨by omega,by omega⟩
theorem runOk_of {B:Prg} {ins:List Arr} (h:smM B ins=true):RunOk B ins:=by
  obtain ⟨h1,h2,h3⟩:=smM_inv h
  obtain ⟨hO,hi,hu,_⟩:=small_inv h1
  exact ⟨⟨hO,by omega,by omega⟩,by omega,fun a ha=>few_ok (by omega) (h2 a ha)⟩
theorem simple_viol (x:Ins) (s:St):(simpleS x s).viol.length≤s.viol.length+1:=by
  have h0:s.viol.length≤s.viol.length+1:=Nat.le_succ _
  unfold simpleS
  by_cases c:x.code=1
  ·rw [if_pos c];exact h0
  rw [if_neg c];clear c
  by_cases c:x.code=2
  ·rw [if_pos c];split
   ·exact h0
   ·exact h0
  rw [if_neg c];clear c
  by_cases c:x.code=3
  ·rw [if_pos c];exact h0
  rw [if_neg c];clear c
  by_cases c:x.code=4
  ·rw [if_pos c];exact h0
  rw [if_neg c];clear c
  by_cases c:x.code=5
  ·rw [if_pos c];split
   ·exact h0
   ·exact h0
  rw [if_neg c];clear c
  by_cases c:x.code=6
  ·rw [if_pos c];split
   ·exact h0
   ·exact h0
  rw [if_neg c];clear c
  by_cases c:x.code=7
  ·rw [if_pos c];split
   ·exact h0
   ·exact h0
  rw [if_neg c];clear c
  by_cases c:x.code=14
  ·rw [if_pos c];exact h0
  rw [if_neg c];clear c
  by_cases c:x.code=15
  ·rw [if_pos c];exact h0
  rw [if_neg c];clear c
  by_cases c:x.code=8
  ·rw [if_pos c];exact h0
  rw [if_neg c];clear c
  by_cases c:x.code=9
  ·rw [if_pos c];split
   ·exact noteS_length _ _
   ·exact h0
  rw [if_neg c];exact h0
theorem end_viol {B:Prg} {ar:List Int} {pk:Int}:((endM B ar pk).viol.length:Int)+(endM B ar pk).left≤200001:=by
  have hr:Runs B (mtS B) [] (.blk 0 B.ops.length) (s0 B ar pk) (endM B ar pk):=endR_runs
  refine hr.inv (P:=fun s=>(s.viol.length:Int)+s.left≤200001) fun f=>exec_inv (B:=B) (mt:=mtS B) (seen:=[]) (P:=fun s=>(s.viol.length:Int)+s.left≤200001) (fun i s h _=>?_) (fun i s h _=>?_) (fun i n s h _=>?_) f _ _ (by simp [s0])
  ·have e1:(tick (Bm.look [] i s)).left=s.left - 1:=rfl
   have e2:(tick (Bm.look [] i s)).viol=s.viol:=rfl
   have e3:=simple_viol (B.op i) (tick (Bm.look [] i s))
   have e4:(simpleS (B.op i) (tick (Bm.look [] i s))).left=s.left - 1:=by rw [simple_left,e1]
   rw [e2] at e3
   unfold step1
   split
   ·show ((simpleS (B.op i) (tick (Bm.look [] i s))).viol.length:Int)+(simpleS (B.op i) (tick (Bm.look [] i s))).left≤200001
    omega
   ·omega
  ·show (s.viol.length:Int)+(s.left - 1)≤200001
   omega
  ·show (s.viol.length:Int)+(s.left - 1)≤200001
   omega
theorem outOk_of {B:Prg} {ins:List Arr} {s:St} (h:runE B ins= .inr s) (ho:B.outs.length≤1000000) (ha:B.arena≤1000000):OutOk (resL B s.arena) s.viol:=by
  obtain ⟨ar,pk,h1,h2,h3,h4⟩:=runE_inv h
  obtain ⟨hv,_,_,_,hfl⟩:=start_inv h1
  have hl:(s.arena.length:Int)=B.arena:=by rw [←h2];exact end_len hfl
  refine ⟨by simp [resL];exact ho,fun a hm=>?_,?_⟩
  ·simp only [resL,List.mem_map,List.mem_range] at hm
   obtain ⟨i,hi,rfl⟩:=hm
   have hd:=(out1_of hv hi).d
   refine ⟨by show (B.types.getD (B.ins.length+i) nilA).d.length≤_;omega,?_⟩
   show (((s.arena.drop _).take _).map _).length≤_
   rw [List.length_map,List.length_take,List.length_drop];omega
  ·have:=end_viol (B:=B) (ar:=ar) (pk:=pk)
   rw [h2] at this
   omega
theorem shv_inputs {x:AV} (h:ShV Tryz.prog 24 x):∃ l:List Arr,x= .sl false 3 (arrs l)∧l.length≤maxLen:=by
  obtain ⟨l,h1,h2,_⟩:=shv_arrs h
  exact ⟨l,h1,h2⟩
end Go.Proofs.YtnlimcijgpaegaaGreat.Mm

namespace Go.Proofs.YtnlimcijgpaegaaGreat.Mm
open Go.Proofs.YtnlimcijgpaegaaGreat
open Go Go.Fw Bm
set_option maxRecDepth 20000
noncomputable def faultE (B:Prg) (ins:List Arr):Int×Int:=match startS B ins with
  |.inl e=>(0,e)
  |.inr (ar,pk)=>if (endM B ar pk).left≤0 then (0,3) else if (endM B ar pk).failed=true then ((endM B ar pk).at_,22) else (B.ops.length,0)
def pairV (p:Int×Int):AV:= .tup [.lit (.int .i64 p.1),.lit (.int .i64 p.2)]
theorem faultE_1 {B:Prg} {ins:List Arr} {e:Int} (h:startS B ins= .inl e):faultE B ins=(0,e):=by unfold faultE;rw [h]
theorem faultE_2 {B:Prg} {ins:List Arr} {mt ar:List Int} {pk:Int} {s:St} {m:MS} {n:Nat} (h:startS B ins= .inr (ar,pk)) (hm:matchS B.ops=some mt) (hr:Runs B mt [] (.blk 0 B.ops.length) (s0 B ar pk) s) (hp:Rp n m s):
    (m.e=0∧faultE B ins=((B.ops.length:Int),0))∨(m.e=3∧faultE B ins=(0,3))∨(m.e=22∧faultE B ins=(m.at_,22)):=by
  have e1:mtS B=mt:=by unfold mtS;rw [hm];rfl
  have e2:endM B ar pk=s:=by
    unfold endM
    rw [e1]
    exact Runs.det (endR_runs) hr
  unfold faultE
  rw [h]
  simp only [e2]
  rcases hp.rel with ⟨q1,L⟩|⟨q1,q2⟩|⟨q1,q2,q3,q4⟩
  ·left
   have hl:=L.left
   refine ⟨q1,?_⟩
   rw [if_neg (by omega),if_neg (by rw [L.fl];decide)]
  ·right;left
   exact ⟨q1,by rw [if_pos q2]⟩
  ·right;right
   exact ⟨q1,by rw [if_neg (by omega),if_pos q3,q4]⟩
theorem fill_e22 {B:Prg}:∀ (l:List Arr) (i:Nat) (ar:List Int) (pk e:Int),fillS B l i ar pk= .inl e→e≠22
  |[],_,_,_,_,h=>by cases h
  |a::l,i,ar,pk,e,h=>by
   unfold fillS at h
   split at h
   ·cases h;decide
   ·split at h
    ·cases h;decide
    ·exact fill_e22 l _ _ _ _ h
theorem start_e22 {B:Prg} {ins:List Arr} {e:Int} (h:startS B ins= .inl e):e≠22:=by
  unfold startS at h
  split at h
  ·cases h;decide
  ·exact fill_e22 _ _ _ _ _ h
section
variable {B:Prg} {ins:List Arr}
set_option maxHeartbeats 8000000 in
theorem fault_pc (hO:OkB B∧B.ins.length≤100000∧B.outs.length≤100000) (hi:ins.length≤1000000∧∀ a∈ins,okA a):PC Tryz.prog 10 [bcV B,.sl false 3 (arrs ins)] (pairV (faultE B ins)):=by
  simp only [bcV]
  generalize hR:pairV (faultE B ins)=R
  refine pcR M11_ok (kp10) Tryz.func10 [.tmp 4,.tmp 5] (h:=fun KF=>?_)
  unfold M11
  with_reducible repeat' first|(refine nx ?_;intros)|refine t_br (fun hc=>?_) fun hc=>?_|refine t_bx ?_|apply And.intro|intro vr|((first|refine ny ?_|refine t_dwh (h:=fun K KL=>?_));intros;simp only [go_sem,kp10,geff,List.cons_append,List.nil_append,yes])
  all_goals try exact nd
  refine ⟨fk23,EC.gone1 (start_ec (x:= .box 26 [.lit (.int .i64 B.regs),.lit (.int .i64 B.arena),.sl false 6 (opsV B.ops),.sl false 2 (plsV B.ins),.sl false 2 (plsV B.outs),.sl false 3 (arrs B.types)]) (y:= .gone) hO hi (fun e σ' he=>?_) (fun mt ar pk m2 s2 hs hv hm hfl hr hp hg=>?_))⟩
  ·rw [faultE_1 he] at hR
   subst hR
   have g1:(e==0)=false:=by
     have:=start_ne he
     simpa using this
   have g2:(e==22)=false:=by
     have:=start_e22 he
     simpa using this
   with_reducible repeat' first|(refine nx ?_;intros)|refine t_br (fun hc=>?_) fun hc=>?_|refine t_bx ?_|apply And.intro|intro vr|((first|refine ny ?_|refine t_dwh (h:=fun K KL=>?_));intros;simp only [go_sem,kp10,geff,g1,g2,yes])
   all_goals try exact nd
   all_goals (refine nl ?_;simp only [go_sem])
   exact LeA.refl _
  ·rcases faultE_2 hs hm hr hp with ⟨h0,hE⟩|⟨h0,hE⟩|⟨h0,hE⟩
   ·rw [hE] at hR
    subst hR
    with_reducible repeat' first|(refine nx ?_;intros)|refine t_br (fun hc=>?_) fun hc=>?_|refine t_bx ?_|apply And.intro|intro vr|((first|refine ny ?_|refine t_dwh (h:=fun K KL=>?_));intros;simp only [go_sem,kp10,geff,h0,yes])
    all_goals try exact nd
    all_goals (refine nl ?_;simp only [go_sem])
    exact LeA.refl _
   ·rw [hE] at hR
    subst hR
    with_reducible repeat' first|(refine nx ?_;intros)|refine t_br (fun hc=>?_) fun hc=>?_|refine t_bx ?_|apply And.intro|intro vr|((first|refine ny ?_|refine t_dwh (h:=fun K KL=>?_));intros;simp only [go_sem,kp10,geff,h0,yes])
    all_goals try exact nd
    all_goals (refine nl ?_;simp only [go_sem])
    exact LeA.refl _
   ·rw [hE] at hR
    subst hR
    with_reducible repeat' first|(refine nx ?_;intros)|refine t_br (fun hc=>?_) fun hc=>?_|refine t_bx ?_|apply And.intro|intro vr|((first|refine ny ?_|refine t_dwh (h:=fun K KL=>?_));intros;simp only [go_sem,kp10,geff,h0,yes])
    all_goals try exact nd
    all_goals (refine nl ?_;simp only [go_sem])
    exact LeA.refl _
theorem fault_pc2 (h:RunOk B ins):PC Tryz.prog 10 [bcV B,.sl false 3 (arrs ins)] (pairV (faultE B ins)):=fault_pc h.b h.i
end
noncomputable def con10:PCon Tryz.prog where
  f:=10
  c:=fun
   |[xB,xl]=>match bcOf xB,arrsOf xl with|some B,some l=>some ((RunOk B l),pairV (faultE B l))|_,_=>none
   |_=>none
  ok:=by
   intro args p r hc hp
   split at hc
   ·split at hc
    ·rename_i hB hl
     cases hc
     exact PC.weak (fault_pc2 hp) ⟨bcOf_le hB,arrsOf_le hl,trivial⟩
    ·cases hc
   ·cases hc
  fk:=fk10
theorem con10_f:con10.f=10:=rfl
theorem con10_c {xB:AV} {xl:AV}:con10.c [xB,xl]=match bcOf xB,arrsOf xl with|some B,some l=>some ((RunOk B l),pairV (faultE B l))|_,_=>none:=rfl
attribute [go_sem] con10_f con10_c
end Go.Proofs.YtnlimcijgpaegaaGreat.Mm

namespace Go.Proofs.YtnlimcijgpaegaaGreat.Mz
open Go.Proofs.YtnlimcijgpaegaaGreat
open Go Go.Fw Bm Mm
set_option maxRecDepth 20000
noncomputable def Z3:Env:=envU Tryz.prog jkR zer (fun _=>false) (fun _=>false) []
theorem Z3_ok:EnvOk Tryz.prog Z3:=envUOk zer_ok
section
variable {B:Prg} {ins:List Arr} {ar:List Int} {pk:Int} {s:St}
theorem runE_w (h:startS B ins= .inr (ar,pk)) (he:s=endM B ar pk):runE B ins=if errE s=0 then .inr s else .inl (errE s):=by
  subst he
  unfold runE errE
  rw [h]
  simp only
  split
  ·rw [if_neg (by decide)]
  ·split
   ·rw [if_neg (by decide)]
   ·rw [if_pos rfl]
theorem faultE_w (h:startS B ins= .inr (ar,pk)) (he:s=endM B ar pk):faultE B ins=if errE s=0 then ((B.ops.length:Int),0) else if errE s=22 then (s.at_,22) else (0,3):=by
  subst he
  unfold faultE errE
  rw [h]
  simp only
  split
  ·rw [if_neg (by decide),if_neg (by decide)]
  ·split
   ·rw [if_neg (by decide),if_pos rfl]
   ·rw [if_pos rfl]
theorem errE_3 (s:St):errE s=0∨errE s=3∨errE s=22:=by
  unfold errE
  split
  ·exact .inr (.inl rfl)
  ·split
   ·exact .inr (.inr rfl)
   ·exact .inl rfl
set_option maxHeartbeats 8000000 in
theorem rsteps_pc (h:RunOk B ins):PC Tryz.prog 14 [bcV B,.sl false 3 (arrs ins)] (stepsV (runE B ins)):=by
  generalize hR:stepsV (runE B ins)=R
  simp only [bcV]
  refine pcR Z3_ok (kp14) Tryz.func14 [.tmp 4,.tmp 5] (h:=fun KF=>?_)
  unfold Z3
  with_reducible repeat' first|(refine nx ?_;intros)|apply And.intro|intro vr|(refine ny ?_;intros;simp only [go_sem,kp14,geff,List.cons_append,List.nil_append,yes])
  all_goals try exact nd
  refine ⟨fk29,EC.gone1 (whole_ec (x:= .box 26 [.lit (.int .i64 B.regs),.lit (.int .i64 B.arena),.sl false 6 (opsV B.ops),.sl false 2 (plsV B.ins),.sl false 2 (plsV B.outs),.sl false 3 (arrs B.types)]) (y:= .gone) h.b h.i (fun e he=>?_) (fun ar pk s p q r t hs hv hE hg hb=>?_))⟩
  ·rw [runE_1 he] at hR
   subst hR
   have g1:(e !=0)=true:=by
     have:=start_ne he
     simpa using this
   with_reducible repeat' first|(refine nx ?_;intros)|apply And.intro|intro vr|(refine ny ?_;intros;simp only [go_sem,kp14,geff,g1,zst,List.cons_append,List.nil_append,yes])
   all_goals try exact nd
   all_goals (refine nl ?_;simp only [go_sem])
   exact LeA.refl _
  ·rw [runE_w hs hE] at hR
   have q1:=hg.pos
   have q2:=hg.sum
   rcases errE_3 s with h0|h0|h0
   ·rw [if_pos h0] at hR
    subst hR
    with_reducible repeat' first|(refine nx ?_;intros)|apply And.intro|intro vr|(refine ny ?_;intros;simp only [go_sem,kp14,geff,h0,List.cons_append,List.nil_append,yes])
    all_goals try exact nd
    all_goals (refine nl ?_;simp only [go_sem])
    exact LeA.refl _
   ·rw [if_neg (by rw [h0];decide),h0] at hR
    subst hR
    with_reducible repeat' first|(refine nx ?_;intros)|apply And.intro|intro vr|(refine ny ?_;intros;simp only [go_sem,kp14,geff,h0,List.cons_append,List.nil_append,yes])
    all_goals try exact nd
    all_goals (refine nl ?_;simp only [go_sem])
    exact LeA.refl _
   ·rw [if_neg (by rw [h0];decide),h0] at hR
    subst hR
    with_reducible repeat' first|(refine nx ?_;intros)|apply And.intro|intro vr|(refine ny ?_;intros;simp only [go_sem,kp14,geff,h0,List.cons_append,List.nil_append,yes])
    all_goals try exact nd
    all_goals (refine nl ?_;simp only [go_sem])
    exact LeA.refl _
set_option maxHeartbeats 8000000 in
theorem rfault_pc (h:RunOk B ins):PC Tryz.prog 15 [bcV B,.sl false 3 (arrs ins)] (pairV (faultE B ins)):=by
  generalize hR:pairV (faultE B ins)=R
  simp only [bcV]
  refine pcR Z3_ok (kp15) Tryz.func15 [.tmp 4,.tmp 5] (h:=fun KF=>?_)
  unfold Z3
  with_reducible repeat' first|(refine nx ?_;intros)|refine t_br (fun hc=>?_) fun hc=>?_|refine t_bx ?_|apply And.intro|intro vr|((first|refine ny ?_|refine t_dwh (h:=fun K KL=>?_));intros;simp only [go_sem,kp15,geff,List.cons_append,List.nil_append,yes])
  all_goals try exact nd
  refine ⟨fk29,EC.gone1 (whole_ec (x:= .box 26 [.lit (.int .i64 B.regs),.lit (.int .i64 B.arena),.sl false 6 (opsV B.ops),.sl false 2 (plsV B.ins),.sl false 2 (plsV B.outs),.sl false 3 (arrs B.types)]) (y:= .gone) h.b h.i (fun e he=>?_) (fun ar pk s p q r t hs hv hE hg hb=>?_))⟩
  ·rw [faultE_1 he] at hR
   subst hR
   have g1:(e==0)=false:=by
     have:=start_ne he
     simpa using this
   have g2:(e==22)=false:=by
     have:=start_e22 he
     simpa using this
   with_reducible repeat' first|(refine nx ?_;intros)|refine t_br (fun hc=>?_) fun hc=>?_|refine t_bx ?_|apply And.intro|intro vr|((first|refine ny ?_|refine t_dwh (h:=fun K KL=>?_));intros;simp only [go_sem,kp15,geff,g1,g2,zst,List.cons_append,List.nil_append,yes])
   all_goals try exact nd
   all_goals (refine nl ?_;simp only [go_sem])
   exact LeA.refl _
  ·rw [faultE_w hs hE] at hR
   rcases errE_3 s with h0|h0|h0
   ·rw [if_pos h0] at hR
    subst hR
    with_reducible repeat' first|(refine nx ?_;intros)|refine t_br (fun hc=>?_) fun hc=>?_|refine t_bx ?_|apply And.intro|intro vr|((first|refine ny ?_|refine t_dwh (h:=fun K KL=>?_));intros;simp only [go_sem,kp15,geff,h0,List.cons_append,List.nil_append,yes])
    all_goals try exact nd
    all_goals (refine nl ?_;simp only [go_sem])
    exact LeA.refl _
   ·rw [if_neg (by rw [h0];decide),if_neg (by rw [h0];decide)] at hR
    subst hR
    with_reducible repeat' first|(refine nx ?_;intros)|refine t_br (fun hc=>?_) fun hc=>?_|refine t_bx ?_|apply And.intro|intro vr|((first|refine ny ?_|refine t_dwh (h:=fun K KL=>?_));intros;simp only [go_sem,kp15,geff,h0,List.cons_append,List.nil_append,yes])
    all_goals try exact nd
    all_goals (refine nl ?_;simp only [go_sem])
    exact LeA.refl _
   ·rw [if_neg (by rw [h0];decide),if_pos h0] at hR
    subst hR
    with_reducible repeat' first|(refine nx ?_;intros)|refine t_br (fun hc=>?_) fun hc=>?_|refine t_bx ?_|apply And.intro|intro vr|((first|refine ny ?_|refine t_dwh (h:=fun K KL=>?_));intros;simp only [go_sem,kp15,geff,h0,List.cons_append,List.nil_append,yes])
    all_goals try exact nd
    all_goals (refine nl ?_;simp only [go_sem])
    exact LeA.refl _
end
noncomputable def con14:PCon Tryz.prog where
  f:=14
  c:=fun
   |[xB,xl]=>match bcOf xB,arrsOf xl with|some B,some l=>some ((RunOk B l),stepsV (runE B l))|_,_=>none
   |_=>none
  ok:=by
   intro args p r hc hp
   split at hc
   ·split at hc
    ·rename_i hB hl
     cases hc
     exact PC.weak (rsteps_pc hp) ⟨bcOf_le hB,arrsOf_le hl,trivial⟩
    ·cases hc
   ·cases hc
  fk:=fk14
theorem con14_f:con14.f=14:=rfl
theorem con14_c {xB:AV} {xl:AV}:con14.c [xB,xl]=match bcOf xB,arrsOf xl with|some B,some l=>some ((RunOk B l),stepsV (runE B l))|_,_=>none:=rfl
noncomputable def con15:PCon Tryz.prog where
  f:=15
  c:=fun
   |[xB,xl]=>match bcOf xB,arrsOf xl with|some B,some l=>some ((RunOk B l),pairV (faultE B l))|_,_=>none
   |_=>none
  ok:=by
   intro args p r hc hp
   split at hc
   ·split at hc
    ·rename_i hB hl
     cases hc
     exact PC.weak (rfault_pc hp) ⟨bcOf_le hB,arrsOf_le hl,trivial⟩
    ·cases hc
   ·cases hc
  fk:=fk15
theorem con15_f:con15.f=15:=rfl
theorem con15_c {xB:AV} {xl:AV}:con15.c [xB,xl]=match bcOf xB,arrsOf xl with|some B,some l=>some ((RunOk B l),pairV (faultE B l))|_,_=>none:=rfl
attribute [go_sem] con14_f con14_c con15_f con15_c
end Go.Proofs.YtnlimcijgpaegaaGreat.Mz

namespace Go.Proofs.YtnlimcijgpaegaaGreat.Mz
open Go.Proofs.YtnlimcijgpaegaaGreat
open Go Go.Fw Bm Mm
set_option maxRecDepth 20000
theorem pairV_mk {p:Int×Int}:pairV p= .tup [.lit (.int .i64 p.1),.lit (.int .i64 p.2)]:=rfl
theorem runV_inl {B:Prg} {e:Int}:runV B (.inl e)= .tup [.agg [.sl false 3 (arrs []),.lit (.int .i64 0),.lit (.int .i64 0),.lit (.int .i64 0),.lit (.int .i64 0),.sl false 1 (ints .i64 [])],.lit (.int .i64 e)]:=rfl
theorem runV_inr {B:Prg} {s:St}:runV B (.inr s)= .tup [.agg [.sl false 3 (arrs (resL B s.arena)),.lit (.int .i64 s.reads),.lit (.int .i64 s.writes),.lit (.int .i64 s.ops),.lit (.int .i64 s.peak),.sl false 1 (ints .i64 s.viol)],.lit (.int .i64 0)]:=rfl
theorem arg_law {f:FuncId} (h:∀ {B:Prg} {ins:List Arr},ArgM B ins→PC Tryz.prog f [bcV B,.sl false 3 (arrs ins)] (.lit (.bool true))):∀ xs,ShL Tryz.prog [26,24] xs→PC Tryz.prog f xs (.lit (.bool true))
  |[_,_],k=>by
   obtain ⟨B,rfl,hB⟩:=shv_bc k.1
   obtain ⟨ins,rfl,hi⟩:=shv_inputs k.2.1
   exact h ⟨hB,hi⟩
  |[],k=>k.elim
  |[_],k=>k.2.elim
  |_::_::_::_,k=>k.2.2.elim
end Go.Proofs.YtnlimcijgpaegaaGreat.Mz

namespace Go.Proofs.YtnlimcijgpaegaaGreat.Mz
open Go.Proofs.YtnlimcijgpaegaaGreat
open Go Go.Fw Bm Mm
set_option maxRecDepth 20000
attribute [go_sem] con52_f con52_c
noncomputable def Z4:Env:=envU Tryz.prog jkR zer (fun _=>false) (fun _=>false) [con52]
theorem Z4_ok:EnvOk Tryz.prog Z4:=envUOk zer_ok
section
variable {B:Prg} {ins:List Arr} {ar:List Int} {pk:Int} {s:St}
theorem res_of {e:ByteArray} {d x:List Int} {n:Int} (h1:(eqS e sInt||eqS e sBool)=true) (h2:sizeS d=(n,0)) (h3:(x.length:Int)=n) (h4:∀ a∈x,vld sInt a=true):ofS ⟨e,d,x.map (nrm e)⟩=(⟨e,d,x.map (nrm e)⟩,0):=by
  have h0:ofE ⟨e,d,x.map (nrm e)⟩=0:=by
    unfold ofE
    rw [if_neg (by simp only;rw [h1];decide)]
    simp only [h2]
    rw [if_neg (by simp),if_neg (by rw [List.length_map,h3];simp),if_neg]
    intro hb
    obtain ⟨a,ha,hb⟩:=List.any_eq_true.1 hb
    obtain ⟨c,hc,rfl⟩:=List.mem_map.1 ha
    have hv:=h4 c hc
    have:vld e (nrm e c)=true:=by
      unfold vld nrm
      have e1:vld sInt c=decide (-2147483648≤c∧c≤2147483647):=rfl
      rw [e1] at hv
      by_cases hs:eqS e sInt=true
      ·rw [if_pos hs]
       have hn: ¬ (eqS e sBool=true):=fun k=>by
         rw [eqS_iff.1 hs] at k
         rw [show eqS sInt sBool=false by rfl] at k
         cases k
       rw [if_neg (fun k=>hn k.1)]
       exact hv
      ·rw [if_neg hs]
       have hb:eqS e sBool=true:=by
         cases hq:eqS e sBool with
         |true=>rfl
         |false=>rw [hq] at h1;revert hs;cases h:eqS e sInt<;>simp_all
       rw [if_pos hb]
       by_cases hz:c=0
       ·rw [if_neg (fun k=>k.2 hz),hz];rfl
       ·rw [if_pos ⟨hb,hz⟩];rfl
    rw [this] at hb
    cases hb
  unfold ofS
  rw [if_pos h0]
theorem out2_of {i:Nat} (hv:validS B=true) (hi:i<B.outs.length):(eqS (B.types.getD (B.ins.length+i) nilA).e sInt||eqS (B.types.getD (B.ins.length+i) nilA).e sBool)=true∧sizeS (B.types.getD (B.ins.length+i) nilA).d=((B.outs.getD i (0,0)).2,0):=by
  obtain ⟨_,_,_,_,h5,h6⟩:=valid_inv hv
  have ht:=types_at (i:=B.ins.length+i) h6 (by omega) (by simp;omega)
  have e:(B.ins++B.outs).getD (B.ins.length+i) (0,0)=B.outs.getD i (0,0):=by
    simp only [List.getD];rw [List.getElem?_append_right (by omega),Nat.add_sub_cancel_left]
  rw [e] at ht
  simp only [typeOk,Bool.and_eq_true,decide_eq_true_eq] at ht
  obtain ⟨⟨⟨⟨⟨t1,t2⟩,t3⟩,t4⟩,t5⟩,t6⟩:=ht
  refine ⟨t1,?_⟩
  rw [t4,←t2]
set_option maxHeartbeats 8000000 in
theorem rwithin_pc (h:RunOk B ins):PC Tryz.prog 27 [bcV B,.sl false 3 (arrs ins),.lit (.int .i64 200000)] (runV B (runE B ins)):=by
  generalize hR:runV B (runE B ins)=R
  have hol:=h.b.1.outs
  have hil:=h.b.1.ins
  have htl:=h.b.1.types
  simp only [bcV]
  refine pcR Z4_ok (kp27) Tryz.func27 [.cell 6 40,.tmp 7] (h:=fun KF=>?_)
  unfold Z4
  with_reducible repeat' first|(refine nx ?_;intros)|apply And.intro|intro vr|((first|refine ny ?_|refine t_dwh (h:=fun K KL=>?_));intros;simp only [go_sem,kp27,geff,List.cons_append,List.nil_append,yes])
  all_goals try exact nd
  refine ⟨fk29,whole_ec h.b h.i (fun e he=>?_) (fun ar pk s p q r t hs hv hE hg hb=>?_)⟩
  ·rw [runE_1 he] at hR
   subst hR
   have g1:(e !=0)=true:=by
     have:=start_ne he
     simpa using this
   with_reducible repeat' first|(refine nx ?_;intros)|apply And.intro|intro vr|((first|refine ny ?_|refine t_dwh (h:=fun K KL=>?_));intros;simp only [go_sem,kp27,geff,g1,zst,List.cons_append,List.nil_append,yes])
   all_goals try exact nd
   all_goals (refine nl ?_;simp only [go_sem])
   exact LeA.tup ⟨LeA.agg ⟨LeA.full _ _ _,LeA.refl _,LeA.refl _,LeA.refl _,LeA.refl _,LeA.full _ _ _,trivial⟩,LeA.refl _,trivial⟩
  ·rw [runE_w hs hE] at hR
   rcases errE_3 s with h0|h0|h0
   ·rw [if_pos h0] at hR
    obtain ⟨_,⟨a0,a1⟩,_,_,h5,_⟩:=valid_inv hv
    have hAr:(s.arena.length:Int)=B.arena:=by have:=hg.arena;omega
    have hwd:=hg.words
    with_reducible repeat' first|(refine nx ?_;intros)|apply And.intro|intro vr|((first|refine ny ?_|refine t_dwh (h:=fun K KL=>?_));intros;simp only [go_sem,kp27,geff,h0,List.cons_append,List.nil_append,yes])
    all_goals try exact nd
    refine t_loopF (ι:={q:Nat×Nat // q.1≤B.outs.length}) (fun i=>[(11,.lit (.int .i64 (i.1.1:Int)))]) (fun i=>[.box 26 [.lit (.int .i64 B.regs),.lit (.int .i64 B.arena),.sl false 6 (opsV B.ops),.sl false 2 (plsV B.ins),.sl false 2 (plsV B.outs),.sl false 3 (arrs B.types)],.box 40 [.sl true 3 [],.lit (.int .i64 0),.lit (.int .i64 0),.lit (.int .i64 0),.lit (.int .i64 0),.sl true 1 []],p,q,r,t,.arr 3 1 (ints .i64 s.regs) 0 false,.arr 3 1 (ints .i64 s.arena) 0 false,.box 69 [.arr 6 0,.arr 7 0,.lit (.int .i64 s.reads),.lit (.int .i64 s.writes),.lit (.int .i64 s.ops),.lit (.int .i64 s.peak),.sl false 1 (ints .i64 s.viol),.lit (.int .i64 s.left),.lit (.bool s.failed),.sl false 1 (bfsV []),.lit (.bool s.out),.lit (.int .i64 s.at_)],.box 40 [.arr 10 i.1.2,.lit (.int .i64 s.reads),.lit (.int .i64 s.writes),.lit (.int .i64 s.ops),.lit (.int .i64 s.peak),.sl false 1 (ints .i64 s.viol)],.arr 45 3 (arrs ((List.range i.1.1).map (resA B s.arena))) i.1.2 false]) (fun i=>B.outs.length - i.1.1) ⟨(0,0),by simp⟩ ?_ ?_
    ·refine Le.trans (le_nilB 9 0 45 3 rfl ?_ ?_) ?_
     ·simp
     ·exact nil_sl
     exact lf
    rintro ⟨⟨j0,v⟩,hi⟩ K0
    simp only at hi
    rcases Nat.lt_or_ge j0 B.outs.length with hc|hc
    ·have g3:decide ((j0:Int)<(B.outs.length:Int))=true:=decide_eq_true (by omega)
     have ho:=out1_of hv hc
     have ho2:=out2_of hv hc
     have hrs:=res_succ (B:=B) (ar:=s.arena) (i:=j0)
     obtain ⟨o1,o2,o3,o4,o5⟩:=ho
     obtain ⟨w1,w2⟩:=ho2
     have hdd:resA B s.arena j0=⟨(B.types.getD (B.ins.length+j0) nilA).e,(B.types.getD (B.ins.length+j0) nilA).d,((s.arena.drop (B.outs.getD j0 (0,0)).1.toNat).take (B.outs.getD j0 (0,0)).2.toNat).map (nrm (B.types.getD (B.ins.length+j0) nilA).e)⟩:=rfl
     have hix:((B.ins.length:Int)+(j0:Int)).toNat=B.ins.length+j0:=by omega
     generalize hT:B.types.getD (B.ins.length+j0) nilA=T at*
     generalize hP:B.outs.getD j0 (0,0)=P at*
     obtain ⟨te,td,tx⟩:=T
     obtain ⟨po,ps⟩:=P
     simp only at o2 o3 o4 o5 hdd w1 w2
     have vT:arrV ⟨te,td,tx⟩= .agg [.lit (.string te),.sl false 1 (ints .i64 td),.sl false 1 (ints .i64 tx)]:=rfl
     have vP:plV (po,ps)= .agg [.lit (.int .i64 po),.lit (.int .i64 ps)]:=rfl
     have hDl:((s.arena.drop po.toNat).take ps.toNat).length=ps.toNat:=by rw [List.length_take,List.length_drop];omega
     have hDw:∀ a∈(s.arena.drop po.toNat).take ps.toNat,vld sInt a=true:=fun a ha=>hwd a (List.mem_of_mem_drop (List.mem_of_mem_take ha))
     have hDg:∀ k0:Nat,k0<ps.toNat→s.arena.getD (po.toNat+k0) 0=((s.arena.drop po.toNat).take ps.toNat).getD k0 0:=fun k0 hk=>by
       simp only [List.getD_eq_getElem?_getD]
       rw [List.getElem?_take_of_lt hk,List.getElem?_drop]
     generalize hD:(s.arena.drop po.toNat).take ps.toNat=D0 at*
     have hof:=res_of w1 w2 (by omega) hDw
     with_reducible repeat' first|(refine nx ?_;intros)|apply And.intro|intro vr|((first|refine ny ?_|refine t_dwh (h:=fun K KL=>?_));intros;simp only [go_sem,kp27,geff,g3,hT,hP,vT,vP,hix,Int.toNat_natCast,List.cons_append,List.nil_append,yes])
     all_goals try exact nd
     refine t_loopF (ι:={q:Nat×Nat // q.1≤D0.length}) (fun i=>[(14,.lit (.int .i64 i.1.1)),(13,.arr 12 i.1.2)]) (fun i=>[.box 26 [.lit (.int .i64 B.regs),.lit (.int .i64 B.arena),.sl false 6 (opsV B.ops),.sl false 2 (plsV B.ins),.sl false 2 (plsV B.outs),.sl false 3 (arrs B.types)],.box 40 [.sl true 3 [],.lit (.int .i64 0),.lit (.int .i64 0),.lit (.int .i64 0),.lit (.int .i64 0),.sl true 1 []],p,q,r,t,.arr 3 1 (ints .i64 s.regs) 0 false,.arr 3 1 (ints .i64 s.arena) 0 false,.box 69 [.arr 6 0,.arr 7 0,.lit (.int .i64 s.reads),.lit (.int .i64 s.writes),.lit (.int .i64 s.ops),.lit (.int .i64 s.peak),.sl false 1 (ints .i64 s.viol),.lit (.int .i64 s.left),.lit (.bool s.failed),.sl false 1 (bfsV []),.lit (.bool s.out),.lit (.int .i64 s.at_)],.box 40 [.arr 10 v,.lit (.int .i64 s.reads),.lit (.int .i64 s.writes),.lit (.int .i64 s.ops),.lit (.int .i64 s.peak),.sl false 1 (ints .i64 s.viol)],.arr 45 3 (arrs ((List.range j0).map (resA B s.arena))) v false,.box 45 [.lit (.string te),.sl false 1 (ints .i64 td),.sl false 1 (ints .i64 tx)],.arr 3 1 (ints .i64 ((D0.take i.1.1).map (nrm te))) i.1.2 false]) (fun i=>D0.length - i.1.1) ⟨(0,0),by simp⟩ ?_ ?_
     ·refine (le_nil 13 3 1 rfl).trans ?_
      exact lf
     rintro ⟨⟨k0,w⟩,hk0⟩ K1
     simp only at hk0
     rcases Nat.lt_or_ge k0 D0.length with hc2|hc2
     ·have g5:decide ((k0:Int)<ps)=true:=decide_eq_true (by omega)
      have ht:(po+(k0:Int)).toNat=po.toNat+k0:=by omega
      have hgd:=hDg k0 (by omega)
      have hbl:eqS te ⟨#[98,111,111,108]⟩=eqS te sBool:=rfl
      have hnt:=nrm_take (e:=te) hc2
      have hap:∀ m:Int,nrm te (D0.getD k0 0)=m→ints .i64 ((D0.take k0).map (nrm te))++[.lit (.int .i64 m)]=ints .i64 ((D0.take (k0+1)).map (nrm te)):=fun m hm=>by
        rw [hnt,hm];simp [ints]
      have hml:((D0.take k0).map (nrm te)).length=k0:=by rw [List.length_map,List.length_take];omega
      generalize hN:D0.getD k0 0=N at*
      cases hbo:eqS te sBool with
      |true=>
       cases hz:(N !=0) with
       |true=>
        have hap:=hap 1 (by unfold nrm;rw [if_pos ⟨hbo,by simpa using hz⟩])
        with_reducible repeat' first|(refine nx ?_;intros)|apply And.intro|intro vr|((first|refine ny ?_|refine t_dwh (h:=fun K KL=>?_));intros;simp only [go_sem,kp27,geff,g5,hP,vP,ht,hgd,hbl,hbo,hz,hap,hml,Int.toNat_natCast,yes])
        all_goals try omega
        all_goals try exact nd
        exact ⟨⟨(k0+1,w+1),by simp only;omega⟩,wf,lf⟩
       |false=>
        have hap:=hap N (by unfold nrm;rw [if_neg (fun q=>by have:N=0:=by simpa using hz
                                                             exact q.2 this)])
        with_reducible repeat' first|(refine nx ?_;intros)|apply And.intro|intro vr|((first|refine ny ?_|refine t_dwh (h:=fun K KL=>?_));intros;simp only [go_sem,kp27,geff,g5,hP,vP,ht,hgd,hbl,hbo,hz,hap,hml,Int.toNat_natCast,yes])
        all_goals try omega
        all_goals try exact nd
        exact ⟨⟨(k0+1,w+1),by simp only;omega⟩,wf,lf⟩
      |false=>
       have hap:=hap N (by unfold nrm;rw [if_neg (fun q=>by rw [hbo] at q;cases q.1)])
       with_reducible repeat' first|(refine nx ?_;intros)|apply And.intro|intro vr|((first|refine ny ?_|refine t_dwh (h:=fun K KL=>?_));intros;simp only [go_sem,kp27,geff,g5,hP,vP,ht,hgd,hbl,hbo,hap,hml,Int.toNat_natCast,yes])
       all_goals try omega
       all_goals try exact nd
       exact ⟨⟨(k0+1,w+1),by simp only;omega⟩,wf,lf⟩
     ·have g5:decide ((k0:Int)<ps)=false:=decide_eq_false (by omega)
      have hF:D0.take k0=D0:=List.take_of_length_le hc2
      have hmx:(D0.map (nrm te)).length≤1000000:=by
        have:=sizeS_bd td
        rw [w2] at this
        rw [List.length_map];omega
      have hln:(arrs ((List.range j0).map (resA B s.arena))).length=j0:=by simp [arrs]
      have hv2:arrs ((List.range j0).map (resA B s.arena))++[.agg [.lit (.string te),.sl false 1 (ints .i64 td),.sl false 1 (ints .i64 (D0.map (nrm te)))]]=arrs ((List.range (j0+1)).map (resA B s.arena)):=by
        rw [←hrs,hdd];simp [arrs,arrV]
      obtain ⟨Lj,hLj⟩:∃ Lj,Lj=arrs ((List.range (j0+1)).map (resA B s.arena)):=⟨_,rfl⟩
      rw [←hLj] at hv2
      with_reducible repeat' first|(refine nx ?_;intros)|apply And.intro|intro vr|((first|refine ny ?_|refine t_dwh (h:=fun K KL=>?_));intros;simp only [go_sem,kp27,geff,g5,hP,vP,hF,hof,aeV_def,arrV,slK_sl,hln,hv2,Int.toNat_natCast,List.cons_append,List.nil_append,yes])
      all_goals try omega
      all_goals try exact nd
      subst hLj
      refine ⟨⟨(j0+1,v+1),by simp only;omega⟩,by simp only;omega,?_⟩
      try simp only [updL_nil,updL_cons,delF_top,delF_upd,Nat.reduceEqDiff,reduceIte]
      refine le_backB (l:=[.box 26 [.lit (.int .i64 B.regs),.lit (.int .i64 B.arena),.sl false 6 (opsV B.ops),.sl false 2 (plsV B.ins),.sl false 2 (plsV B.outs),.sl false 3 (arrs B.types)],.box 40 [.sl true 3 [],.lit (.int .i64 0),.lit (.int .i64 0),.lit (.int .i64 0),.lit (.int .i64 0),.sl true 1 []],p,q,r,t,.arr 3 1 (ints .i64 s.regs) 0 false,.arr 3 1 (ints .i64 s.arena) 0 false,.box 69 [.arr 6 0,.arr 7 0,.lit (.int .i64 s.reads),.lit (.int .i64 s.writes),.lit (.int .i64 s.ops),.lit (.int .i64 s.peak),.sl false 1 (ints .i64 s.viol),.lit (.int .i64 s.left),.lit (.bool s.failed),.sl false 1 (bfsV []),.lit (.bool s.out),.lit (.int .i64 s.at_)],.box 40 [.arr 10 (v+1),.lit (.int .i64 s.reads),.lit (.int .i64 s.writes),.lit (.int .i64 s.ops),.lit (.int .i64 s.peak),.sl false 1 (ints .i64 s.viol)],.arr 45 3 (arrs ((List.range (j0+1)).map (resA B s.arena))) (v+1) false]) (m:=[_,_,_]) rfl (by simp) (Mm.BdS.app (σ:=[.box 26 [.lit (.int .i64 B.regs),.lit (.int .i64 B.arena),.sl false 6 (opsV B.ops),.sl false 2 (plsV B.ins),.sl false 2 (plsV B.outs),.sl false 3 (arrs B.types)],.box 40 [.sl true 3 [],.lit (.int .i64 0),.lit (.int .i64 0),.lit (.int .i64 0),.lit (.int .i64 0),.sl true 1 []],p,q,r,t,.arr 3 1 (ints .i64 s.regs) 0 false,.arr 3 1 (ints .i64 s.arena) 0 false]) (l:=[.box 69 [.arr 6 0,.arr 7 0,.lit (.int .i64 s.reads),.lit (.int .i64 s.writes),.lit (.int .i64 s.ops),.lit (.int .i64 s.peak),.sl false 1 (ints .i64 s.viol),.lit (.int .i64 s.left),.lit (.bool s.failed),.sl false 1 (bfsV []),.lit (.bool s.out),.lit (.int .i64 s.at_)],.box 40 [.arr 10 (v+1),.lit (.int .i64 s.reads),.lit (.int .i64 s.writes),.lit (.int .i64 s.ops),.lit (.int .i64 s.peak),.sl false 1 (ints .i64 s.viol)],.arr 45 3 (arrs ((List.range (j0+1)).map (resA B s.arena))) (v+1) false]) hb (by simp) (by simp [lowO,low_lit,low_sl,low_arr])) ?_ ?_
      ·repeat' (first|exact low_top|(refine low_upd rfl ?_))
      exact lq
    ·have g3:decide ((j0:Int)<(B.outs.length:Int))=false:=decide_eq_false (by omega)
     obtain rfl:j0=B.outs.length:=by omega
     subst hR
     with_reducible repeat' first|(refine nx ?_;intros)|apply And.intro|intro vr|((first|refine ny ?_|refine t_dwh (h:=fun K KL=>?_));intros;simp only [go_sem,kp27,geff,g3,yes])
     all_goals try exact nd
     all_goals (refine nl ?_;simp only [go_sem])
     exact LeA.refl _
   ·rw [if_neg (by rw [h0];decide),h0] at hR
    subst hR
    with_reducible repeat' first|(refine nx ?_;intros)|apply And.intro|intro vr|((first|refine ny ?_|refine t_dwh (h:=fun K KL=>?_));intros;simp only [go_sem,kp27,geff,h0,List.cons_append,List.nil_append,yes])
    all_goals try exact nd
    all_goals (refine nl ?_;simp only [go_sem])
    exact LeA.tup ⟨LeA.agg ⟨LeA.full _ _ _,LeA.refl _,LeA.refl _,LeA.refl _,LeA.refl _,LeA.full _ _ _,trivial⟩,LeA.refl _,trivial⟩
   ·rw [if_neg (by rw [h0];decide),h0] at hR
    subst hR
    with_reducible repeat' first|(refine nx ?_;intros)|apply And.intro|intro vr|((first|refine ny ?_|refine t_dwh (h:=fun K KL=>?_));intros;simp only [go_sem,kp27,geff,h0,List.cons_append,List.nil_append,yes])
    all_goals try exact nd
    all_goals (refine nl ?_;simp only [go_sem])
    exact LeA.tup ⟨LeA.agg ⟨LeA.full _ _ _,LeA.refl _,LeA.refl _,LeA.refl _,LeA.refl _,LeA.full _ _ _,trivial⟩,LeA.refl _,trivial⟩
end
noncomputable def con27:PCon Tryz.prog where
  f:=27
  c:=fun
   |[x,y,.lit (.int .i64 200000)]=>match bcOf x,arrsOf y with
    |some B,some l=>some (RunOk B l,runV B (runE B l))
    |_,_=>none
   |_=>none
  ok:=by
   intro args p r hc hp
   split at hc
   ·split at hc
    ·rename_i hx hy
     cases hc
     exact PC.weak (rwithin_pc hp) ⟨bcOf_le hx,arrsOf_le hy,LeA.refl _,trivial⟩
    ·cases hc
   ·cases hc
  fk:=fk27
theorem con27_f:con27.f=27:=rfl
theorem con27_c {x y:AV}:con27.c [x,y,.lit (.int .i64 200000)]=match bcOf x,arrsOf y with
      |some B,some l=>some (RunOk B l,runV B (runE B l))
      |_,_=>none:=rfl
attribute [go_sem] con27_f con27_c
noncomputable def Z5:Env:=envU Tryz.prog jkR zer (fun _=>false) (fun _=>false) [con27]
theorem Z5_ok:EnvOk Tryz.prog Z5:=envUOk zer_ok
theorem rrun_pc {B:Prg} {ins:List Arr} (h:RunOk B ins):PC Tryz.prog 11 [bcV B,.sl false 3 (arrs ins)] (runV B (runE B ins)):=by
  cases hE:runE B ins with
  |inl e=>
   simp only [bcV]
   refine pcR Z5_ok (kp11) Tryz.func11 [.cell 4 40,.tmp 5] (h:=fun KF=>?_)
   unfold Z5
   with_reducible repeat' first|(refine nx ?_;intros)|apply And.intro|intro vr|(refine ny ?_;intros;simp only [go_sem,kp11,geff,bcOf_B,arrsOf_sl,hE,runV_inl,yes])
   all_goals try exact h
   all_goals try exact nd
   all_goals (refine nl ?_;simp only [go_sem])
   exact LeA.of_eq rfl
  |inr s=>
   simp only [bcV]
   refine pcR Z5_ok (kp11) Tryz.func11 [.cell 4 40,.tmp 5] (h:=fun KF=>?_)
   unfold Z5
   with_reducible repeat' first|(refine nx ?_;intros)|apply And.intro|intro vr|(refine ny ?_;intros;simp only [go_sem,kp11,geff,bcOf_B,arrsOf_sl,hE,runV_inr,yes])
   all_goals try exact h
   all_goals try exact nd
   all_goals (refine nl ?_;simp only [go_sem])
   exact LeA.of_eq rfl
noncomputable def con11:PCon Tryz.prog where
  f:=11
  c:=fun
   |[xB,xl]=>match bcOf xB,arrsOf xl with|some B,some l=>some ((RunOk B l),runV B (runE B l))|_,_=>none
   |_=>none
  ok:=by
   intro args p r hc hp
   split at hc
   ·split at hc
    ·rename_i hB hl
     cases hc
     exact PC.weak (rrun_pc hp) ⟨bcOf_le hB,arrsOf_le hl,trivial⟩
    ·cases hc
   ·cases hc
  fk:=fk11
theorem con11_f:con11.f=11:=rfl
theorem con11_c {xB:AV} {xl:AV}:con11.c [xB,xl]=match bcOf xB,arrsOf xl with|some B,some l=>some ((RunOk B l),runV B (runE B l))|_,_=>none:=rfl
attribute [go_sem] con11_f con11_c
end Go.Proofs.YtnlimcijgpaegaaGreat.Mz

namespace Go.Proofs.YtnlimcijgpaegaaGreat.Mz
open Go.Proofs.YtnlimcijgpaegaaGreat
open Go Go.Fw Bm Mm
set_option maxRecDepth 20000
attribute [go_sem] con7_f con7_c con12_f con12_c
noncomputable def Z6:Env:=envJ (P:=Tryz.prog) jkR zer (fun _=>false) (fun _=>false) [con6,con7,con9,con10,con11,con12,con13,con14,con15] []
theorem Z6_ok:EnvOk Tryz.prog Z6:=envJOk zer_ok
theorem outOk_nil:OutOk [] []:=⟨by simp,(fun a h=>by cases h),by simp⟩
section
variable {B:Prg} {ins:List Arr}
theorem ex_out {s:St} (hok:OutOk (resL B s.arena) s.viol):∃ l rd wr op pk V,AV.agg [.sl false 3 (arrs (resL B s.arena)),.lit (.int .i64 s.reads),.lit (.int .i64 s.writes),.lit (.int .i64 s.ops),.lit (.int .i64 s.peak),.sl false 1 (ints .i64 s.viol)]=outV l rd wr op pk V∧OutOk l V:=⟨_,_,_,_,_,_,rfl,hok⟩
theorem ex_out0:∃ l rd wr op pk V,AV.agg [.sl false 3 (arrs []),.lit (.int .i64 0),.lit (.int .i64 0),.lit (.int .i64 0),.lit (.int .i64 0),.sl false 1 (ints .i64 [])]=outV l rd wr op pk V∧OutOk l V:=⟨_,_,_,_,_,_,rfl,outOk_nil⟩
set_option maxHeartbeats 8000000 in
theorem law4 (hA:ArgM B ins):PC Tryz.prog 4 [bcV B,.sl false 3 (arrs ins)] (.lit (.bool true)):=by
  simp only [bcV]
  cases hs:smM B ins with
  |false=>
   refine pcR Z6_ok (kp4) Tryz.func4 [.tmp 4] (h:=fun KF=>?_)
   unfold Z6
   with_reducible repeat' first|(refine nx ?_;intros)|apply And.intro|intro vr|(refine ny ?_;intros;simp only [go_sem,kp4,geff,bcOf_B,arrsOf_sl,hs,Bool.not_true,Bool.not_false,yes])
   all_goals try exact hA
   all_goals try exact nd
   all_goals (refine nl ?_;simp only [go_sem])
   exact LeA.refl _
  |true=>
   have hR:=runOk_of hs
   obtain ⟨h1,h2,h3⟩:=smM_inv hs
   obtain ⟨hO,hi,hu,hl,hr,ha⟩:=small_inv h1
   cases hE:runE B ins with
   |inl e=>
    have h0:=ex_out0
    refine pcR Z6_ok (kp4) Tryz.func4 [.tmp 4] (h:=fun KF=>?_)
    unfold Z6
    with_reducible repeat' first|(refine nx ?_;intros)|apply And.intro|intro vr|(refine ny ?_;intros;simp only [go_sem,kp4,geff,bcOf_B,arrsOf_sl,hs,hE,runV_inl,Bool.not_true,beq_self_eq_true,Bool.and_self,yes])
    all_goals try exact hA
    all_goals try exact hR
    all_goals try exact h0
    all_goals try exact nd
    all_goals (refine nl ?_;simp only [go_sem])
    exact LeA.of_eq rfl
   |inr s=>
    have h0:=ex_out (outOk_of hE (by omega) (by omega))
    refine pcR Z6_ok (kp4) Tryz.func4 [.tmp 4] (h:=fun KF=>?_)
    unfold Z6
    with_reducible repeat' first|(refine nx ?_;intros)|apply And.intro|intro vr|(refine ny ?_;intros;simp only [go_sem,kp4,geff,bcOf_B,arrsOf_sl,hs,hE,runV_inr,Bool.not_true,beq_self_eq_true,Bool.and_self,yes])
    all_goals try exact hA
    all_goals try exact hR
    all_goals try exact h0
    all_goals try exact nd
    all_goals (refine nl ?_;simp only [go_sem])
    exact LeA.of_eq rfl
theorem lk_nil {i:Int} {s:St}:Bm.look [] i s=s:=by simp [Bm.look]
structure Nn (s:St):Prop where
  rd:0≤s.reads
  wr:0≤s.writes
  op:0≤s.ops
theorem Nn.simple {x:Ins} {s:St} (h:Nn s):Nn (simpleS x s):=by
  obtain ⟨h1,h2,h3⟩:=h
  refine simple_P (P:=Nn) ⟨h1,h2,h3⟩ (fun v=>⟨h1,h2,h3⟩) ⟨h1,h2,h3⟩ (fun v=>⟨h1,h2,?_⟩) (fun v=>⟨?_,h2,h3⟩) (fun i v _ _ _=>⟨h1,?_,h3⟩) ⟨h1,?_,h3⟩ (fun l=>⟨h1,h2,h3⟩)
  ·show 0≤s.ops+1;omega
  ·show 0≤s.reads+1;omega
  ·show 0≤s.writes+1;omega
  ·show 0≤s.writes+1;omega
theorem end_nn {ar:List Int} {pk:Int}:Nn (endM B ar pk):=by
  have hr:Runs B (mtS B) [] (.blk 0 B.ops.length) (s0 B ar pk) (endM B ar pk):=endR_runs
  refine hr.inv (P:=Nn) fun f=>exec_inv (B:=B) (mt:=mtS B) (seen:=[]) (P:=Nn) (fun i s h _=>?_) (fun i s h _=>?_) (fun i n s h _=>?_) f _ _ ⟨Int.le_refl _,Int.le_refl _,Int.le_refl _⟩
  ·unfold step1
   rw [lk_nil]
   have hk:=Nn.simple (x:=B.op i) (s:=tick s) ⟨h.rd,h.wr,h.op⟩
   split
   ·exact ⟨hk.rd,hk.wr,hk.op⟩
   ·exact hk
  ·rw [lk_nil];exact ⟨h.rd,h.wr,h.op⟩
  ·exact ⟨h.rd,h.wr,h.op⟩
theorem end_cnt {ar:List Int} {pk:Int} (h:Fl B ar pk):Cnt 200001 B.arena.toNat B.regs.toNat (endM B ar pk):=by
  have h1:=h.len
  have h2:=h.pk
  have hr:Runs B (mtS B) [] (.blk 0 B.ops.length) (s0 B ar pk) (endM B ar pk):=endR_runs
  exact hr.inv (P:=Cnt 200001 B.arena.toNat B.regs.toNat) fun f=>exec_cnt f _ ⟨by simp [s0],by simp only [s0];omega,by simp [s0],by simp only [s0];omega⟩
structure Good (B:Prg) (s:St):Prop where
  nn:Nn s
  sum:s.reads+s.writes+s.ops+s.left≤200001
  peak:s.peak≤B.arena
  left:0<s.left
theorem good_of {s:St} (h:runE B ins= .inr s):Good B s:=by
  obtain ⟨ar,pk,h1,rfl,h3,h4⟩:=runE_inv h
  obtain ⟨hv,_,_,_,hfl⟩:=start_inv h1
  obtain ⟨_,⟨a0,_⟩,_⟩:=valid_inv hv
  have hc:=end_cnt hfl
  exact ⟨end_nn,hc.sum,by have:=hc.peak;omega,h3⟩
theorem stepsV_inl {e:Int}:stepsV (.inl e)= .tup [.lit (.int .i64 0),.lit (.int .i64 e)]:=rfl
theorem stepsV_inr {s:St}:stepsV (.inr s)= .tup [.lit (.int .i64 (200001 - s.left)),.lit (.int .i64 0)]:=rfl
set_option maxHeartbeats 8000000 in
theorem law5 (hA:ArgM B ins):PC Tryz.prog 5 [bcV B,.sl false 3 (arrs ins)] (.lit (.bool true)):=by
  simp only [bcV]
  cases hs:smM B ins with
  |false=>
   refine pcR Z6_ok (kp5) Tryz.func5 [.tmp 4] (h:=fun KF=>?_)
   unfold Z6
   with_reducible repeat' first|(refine nx ?_;intros)|apply And.intro|intro vr|(refine ny ?_;intros;simp only [go_sem,kp5,geff,bcOf_B,arrsOf_sl,hs,Bool.not_true,Bool.not_false,yes])
   all_goals try exact hA
   all_goals try exact nd
   all_goals (refine nl ?_;simp only [go_sem])
   exact LeA.refl _
  |true=>
   have hR:=runOk_of hs
   generalize hF:faultE B ins=F
   cases hE:runE B ins with
   |inl e=>
    have hne:(e !=0)=true:=by
      have:e≠0:=runE_ne hE
      simpa using this
    refine pcR Z6_ok (kp5) Tryz.func5 [.tmp 4] (h:=fun KF=>?_)
    unfold Z6
    with_reducible repeat' first|(refine nx ?_;intros)|apply And.intro|intro vr|(refine ny ?_;intros;simp only [go_sem,kp5,geff,bcOf_B,arrsOf_sl,hs,hE,hF,pairV_mk,runV_inl,stepsV_inl,hne,bne_self_eq_false,Bool.not_true,beq_self_eq_true,Bool.and_self,yes])
    all_goals try exact hA
    all_goals try exact hR
    all_goals try exact nd
    all_goals (refine nl ?_;simp only [go_sem])
    exact LeA.of_eq rfl
   |inr s=>
    obtain ⟨⟨n1,n2,n3⟩,g1,g2,g3⟩:=good_of hE
    have d1:decide (s.reads+s.writes+s.ops≤200001 - s.left)=true:=decide_eq_true (by omega)
    have d2:decide (s.peak≤B.arena)=true:=decide_eq_true g2
    refine pcR Z6_ok (kp5) Tryz.func5 [.tmp 4] (h:=fun KF=>?_)
    unfold Z6
    with_reducible repeat' first|(refine nx ?_;intros)|apply And.intro|intro vr|(refine ny ?_;intros;simp only [go_sem,kp5,geff,bcOf_B,arrsOf_sl,hs,hE,hF,pairV_mk,runV_inr,stepsV_inr,d1,d2,bne_self_eq_false,Bool.not_true,Bool.not_false,beq_self_eq_true,Bool.and_self,yes])
    all_goals try exact hA
    all_goals try exact hR
    all_goals try omega
    all_goals try exact nd
    all_goals (refine nl ?_;simp only [go_sem])
    exact LeA.of_eq rfl
end
theorem run_law:∀ xs,ShL Tryz.prog Tryz.f4.params.toList xs→PC Tryz.prog 4 xs (.lit (.bool true)):=arg_law law4
theorem steps_law:∀ xs,ShL Tryz.prog Tryz.f5.params.toList xs→PC Tryz.prog 5 xs (.lit (.bool true)):=arg_law law5
end Go.Proofs.YtnlimcijgpaegaaGreat.Mz
