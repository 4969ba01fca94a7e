import Derived.Test.YtnlimcijgpaegaaSG
import Derived.Test.YtnlimcijgpaegaaFwG
import Derived.Test.YtnlimcijgpaegaaSF
import Derived.Test.YtnlimcijgpaegaaSB

set_option linter.all false

namespace Go.Proofs.Ytnlimcijgpaegaa.Mm
open Go.Proofs.Ytnlimcijgpaegaa
open Go Go.Fw Bm
set_option maxRecDepth 20000
def nrm (e:ByteArray) (n:Int):Int:=if eqS e sBool=true∧n≠0 then 1 else n
def resA (B:Prg) (ar:List Int) (i:Nat):Arr:=⟨(B.types.getD (B.ins.length+i) nilA).e,(B.types.getD (B.ins.length+i) nilA).d,((ar.drop (B.outs.getD i (0,0)).1.toNat).take (B.outs.getD i (0,0)).2.toNat).map (nrm (B.types.getD (B.ins.length+i) nilA).e)⟩
def resL (B:Prg) (ar:List Int):List Arr:=(List.range B.outs.length).map (resA B ar)
theorem res_succ {B:Prg} {ar:List Int} {i:Nat}:(List.range i).map (resA B ar)++[resA B ar i]=(List.range (i+1)).map (resA B ar):=by rw [List.range_succ,List.map_append];rfl
theorem nrm_take {e:ByteArray} {D:List Int} {k:Nat} (h:k<D.length):(D.take (k+1)).map (nrm e)=(D.take k).map (nrm e)++[nrm e (D.getD k 0)]:=by
  have e1:D.getD k 0=D[k]:=by simp [List.getD,h]
  rw [List.take_add_one,List.getElem?_eq_getElem h,e1,List.map_append];rfl
theorem nrm_succ {e:ByteArray} {D:List Int} {k:Nat} (h:k<D.length) (hn:nrm e (D.getD k 0)=D.getD k 0):(D.take k).map (nrm e)++D.drop k=(D.take (k+1)).map (nrm e)++D.drop (k+1):=by
  rw [drop_getD 0 h,nrm_take h,hn,List.append_assoc];rfl
theorem nrm_set {e:ByteArray} {D:List Int} {k:Nat} (h:k<D.length) (hn:nrm e (D.getD k 0)=1):((D.take k).map (nrm e)++D.drop k).set k 1=(D.take (k+1)).map (nrm e)++D.drop (k+1):=by
  have hl:((D.take k).map (nrm e)).length=k:=by rw [List.length_map,List.length_take];omega
  rw [List.set_append_right _ _ (by omega),hl,Nat.sub_self,drop_getD 0 h,List.set_cons_zero,nrm_take h,hn,List.append_assoc];rfl
theorem nrm_getD {e:ByteArray} {D:List Int} {k:Nat} (h:k<D.length):((D.take k).map (nrm e)++D.drop k).getD k 0=D.getD k 0:=by
  have hl:((D.take k).map (nrm e)).length=k:=by rw [List.length_map,List.length_take];omega
  simp only [List.getD]
  rw [List.getElem?_append_right (by omega),hl,Nat.sub_self,List.getElem?_drop]
  rfl
structure Out1 (B:Prg) (i:Nat):Prop where
  ty:B.ins.length+i<B.types.length
  p0:0≤(B.outs.getD i (0,0)).1
  p1:0≤(B.outs.getD i (0,0)).2
  p2:(B.outs.getD i (0,0)).1+(B.outs.getD i (0,0)).2≤B.arena
  d:(B.types.getD (B.ins.length+i) nilA).d.length≤6
theorem out1_of {B:Prg} {i:Nat} (hv:validS B=true) (hi:i<B.outs.length):Out1 B i:=by
  obtain ⟨_,_,_,_,h5,h6⟩:=valid_inv hv
  have ht:=types_at (i:=B.ins.length+i) h6 (by omega) (by simp;omega)
  have e:(B.ins++B.outs).getD (B.ins.length+i) (0,0)=B.outs.getD i (0,0):=by
    simp only [List.getD];rw [List.getElem?_append_right (by omega),Nat.add_sub_cancel_left]
  rw [e] at ht
  simp only [typeOk,Bool.and_eq_true,decide_eq_true_eq] at ht
  obtain ⟨⟨⟨⟨⟨_,t2⟩,t3⟩,t4⟩,t5⟩,t6⟩:=ht
  have hb:=sizeS_bd (B.types.getD (B.ins.length+i) nilA).d
  refine ⟨by omega,t5,by omega,by omega,?_⟩
  rcases Nat.lt_or_ge 6 (B.types.getD (B.ins.length+i) nilA).d.length with c|c
  ·exfalso
   unfold sizeS at t2
   rw [if_pos c] at t2
   cases t2
  ·exact c
noncomputable def M9:Env:=envU Try.prog jkR zer (fun _=>false) (fun _=>false) []
theorem M9_ok:EnvOk Try.prog M9:=envUOk zer_ok
section
variable {σ:List AObj} {l:List Int} {k:AV→List AObj→Prop}
theorem clone_ec (hl:l.length≤1000000) (hk:k (.arr σ.length 0) (σ++[.arr 3 1 (ints .i64 l) 0 false])):EC Try.prog 101 [.sl false 1 (ints .i64 l)] σ k:=by
  refine EC.nilArr 3 1 ?_
  refine ecR M9_ok (kp101) Try.func101 [.tmp 2] (h:=fun KF=>?_)
  unfold M9
  repeat' (first
   |(with_reducible first|refine nx ?_|refine t_seq fun K=>?_|refine t_br (fun hc=>?_) fun hc=>?_|refine t_bx ?_|apply And.intro|intro vr)
   |((with_reducible first|refine ny ?_|refine t_dwh (h:=fun K KL=>?_));intros;simp only [go_sem,kp101,geff]))
  all_goals try exact nd
  all_goals (refine nl ?_;simp only [go_sem])
  ·exact .inr (by simp_all [ints])
  ·exact .inl hk
theorem cloneS_ec {lo hi:Nat} (h4:σ[4]? =some (.arr 3 1 (ints .i64 l) 0 false)) (hl:l.length≤1048576) (hk:k (.arr σ.length 0) (σ++[.arr 3 1 (ints .i64 ((l.take hi).drop lo)) 0 false])):EC Try.prog 101 [.sub 4 0 1 lo hi] σ k:=by
  have hle:((l.take hi).drop lo).length≤1048576:=by rw [List.length_drop,List.length_take];omega
  have e:((ints .i64 l).take hi).drop lo=ints .i64 ((l.take hi).drop lo):=by simp [ints,List.map_take,List.map_drop]
  refine EC.nilArr 3 1 ?_
  obtain ⟨D,hD⟩:∃ D,(l.take hi).drop lo=D:=⟨_,rfl⟩
  rw [hD] at hle hk e
  refine ecR M9_ok (kp101) Try.func101 [.tmp 2] (h:=fun KF=>?_)
  unfold M9
  repeat' (first
   |(with_reducible first|refine nx ?_|refine t_seq fun K=>?_|refine t_br (fun hc=>?_) fun hc=>?_|refine t_bx ?_|apply And.intro|intro vr)
   |((with_reducible first|refine ny ?_|refine t_dwh (h:=fun K KL=>?_));intros;simp only [go_sem,kp101,geff,h4,e,hD,yes]))
  all_goals try exact nd
  all_goals (refine nl ?_;simp only [go_sem])
  ·refine .inr ?_
   have hD2:D=[]:=by
     cases D with
     |nil=>rfl
     |cons a D=>cases vr
   rw [hD2] at hk
   exact hk
  ·exact .inl hk
end
section
variable {x y:AObj} {B:Prg} {mt:List Int} {m:MS} {k:AV→List AObj→Prop} {l:List AObj}
theorem bdm {n:Nat} (h:BdS 7 (mobj x y B mt m [])) (hn:(mobj x y B mt m l).length=n) (hl:l.all (lowO n)=true):BdS n (mobj x y B mt m l):=BdS.app (σ:=mobj x y B mt m []) (l:=l) h (by rw [←hn];show 7≤l.length+7;omega) hl
theorem bd8 {e sz ver:Nat} {xs:List AV} {fz:Bool} (h:BdS 7 (mobj x y B mt m [])):BdS 8 (mobj x y B mt m [.arr e sz xs ver fz]):=BdS.app (σ:=mobj x y B mt m []) (l:=[.arr e sz xs ver fz]) h (by omega) rfl
theorem le_mo2 {n0:Nat} {f g:Nat→AV} {e sz ver:Nat} {xs:List AV} {fz:Bool} (hn:n0≤8) (hb:BdS 7 (mobj x y B mt m [])) (hg:∀ j,low1 8 (g j)=true) (h:∀ j,LeR (f j) (g j)):
    Le n0 ⟨f,mobj x y B mt m (.arr e sz xs ver fz::l)⟩ ⟨g,mobj x y B mt m [.arr e sz xs ver fz]⟩:=le_backB (l:=mobj x y B mt m [.arr e sz xs ver fz]) (m:=l) rfl hn (bd8 hb) hg h
theorem kp_mo5 {l':List AObj}:Kp (fun i=>i==5) (mobj x y B mt m l) (mobj x y B mt m l'):=fun o t cs hD ho=>by
  have e:o=5:=by simpa using hD
  subst e
  exact ho
noncomputable def ecn101:ECon Try.prog where
  f:=101
  c:=fun args σ k=>match args with
   |[.sl false 1 xs]=>(∃ l,xs=ints .i64 l∧l.length≤1000000)∧k (.arr σ.length 0) (σ++[.arr 3 1 xs 0 false])
   |[.sub 4 0 1 lo hi]=>∃ l:List Int,σ[4]? =some (.arr 3 1 (ints .i64 l) 0 false)∧l.length≤1048576∧k (.arr σ.length 0) (σ++[.arr 3 1 (ints .i64 ((l.take hi).drop lo)) 0 false])
   |_=>False
  ok:=by
   intro args σ k h
   split at h
   ·obtain ⟨⟨l,rfl,h1⟩,h2⟩:=h
    exact clone_ec h1 h2
   ·obtain ⟨l,h4,h1,h2⟩:=h
    exact cloneS_ec h4 h1 h2
   ·exact h.elim
  fk:=fk101
theorem ints_inj:∀ {l m:List Int},ints .i64 l=ints .i64 m→l=m
  |[],[],_=>rfl
  |[],_::_,h=>by cases h
  |_::_,[],h=>by cases h
  |a::l,b::m,h=>by
   simp only [ints,List.map_cons,List.cons.injEq,AV.lit.injEq,Value.int.injEq,true_and] at h
   rw [h.1,ints_inj (l:=l) (m:=m) h.2]
theorem ecn101_f:ecn101.f=101:=rfl
theorem ecn101_b {l:List AObj} {lo hi:Nat} {k:AV→List AObj→Prop}:ecn101.c [.sub 4 0 1 lo hi] (mobj x y B mt m l) k=(m.arena.length≤1048576∧k (.arr (l.length+7) 0) (mobj x y B mt m (l++[.arr 3 1 (ints .i64 ((m.arena.take hi).drop lo)) 0 false]))):=by
  refine propext ⟨fun h=>?_,fun h=>⟨m.arena,rfl,h.1,h.2⟩⟩
  obtain ⟨D,h1,h2,h3⟩:=h
  have e:D=m.arena:=by
    have h1:some (AObj.arr 3 1 (ints .i64 m.arena) 0 false)=some (.arr 3 1 (ints .i64 D) 0 false):=h1
    have h2:ints .i64 m.arena=ints .i64 D:=by
      have:=Option.some.inj h1
      exact (AObj.arr.inj this).2.2.1
    exact (ints_inj h2).symm
  subst e
  exact ⟨h2,h3⟩
theorem ecn101_a {τ:List AObj} {D:List Int} {k:AV→List AObj→Prop}:ecn101.c [.sl false 1 (ints .i64 D)] τ k=(D.length≤1000000∧k (.arr τ.length 0) (τ++[.arr 3 1 (ints .i64 D) 0 false])):=by
  refine propext ⟨fun h=>?_,fun h=>⟨⟨D,rfl,h.1⟩,h.2⟩⟩
  obtain ⟨⟨l,h1,h2⟩,h3⟩:=h
  rw [ints_inj h1]
  exact ⟨h2,by rw [←ints_inj h1];exact h3⟩
attribute [go_sem] ecn101_f ecn101_a ecn101_b
noncomputable def M10:Env:=envJ (P:=Try.prog) jkR zer (fun _=>false) (fun _=>false) [] [ecn101]
theorem M10_ok:EnvOk Try.prog M10:=envJOk zer_ok
theorem kp_mo58 {a b c:AObj} {l l':List AObj} {a':AObj}:Kp (fun i=>i==5||i==8||i==9) (mobj x y B mt m (a::b::c::l)) (mobj x y B mt m (a'::b::c::l')):=fun o t cs hD ho=>by
  have e:o=5∨o=8∨o=9:=by
    simp only [Bool.or_eq_true,beq_iff_eq] at hD;omega
  rcases e with rfl|rfl|rfl<;>exact ho
section
variable {a b c d e f:AObj}
theorem mo_9 {ex:List AObj}:(mobj x y B mt m (a::b::c::ex))[9]? =some c:=rfl
theorem mo_10 {ex:List AObj}:(mobj x y B mt m (a::b::c::d::ex))[10]? =some d:=rfl
theorem mo_11 {ex:List AObj}:(mobj x y B mt m (a::b::c::d::e::ex))[11]? =some e:=rfl
theorem mo_12 {ex:List AObj}:(mobj x y B mt m (a::b::c::d::e::f::ex))[12]? =some f:=rfl
theorem mo_s8 {u:AObj} {ex:List AObj}:(mobj x y B mt m (a::b::ex)).set 8 u=mobj x y B mt m (a::u::ex):=rfl
theorem mo_s9 {u:AObj} {ex:List AObj}:(mobj x y B mt m (a::b::c::ex)).set 9 u=mobj x y B mt m (a::b::u::ex):=rfl
theorem mo_s10 {u:AObj} {ex:List AObj}:(mobj x y B mt m (a::b::c::d::ex)).set 10 u=mobj x y B mt m (a::b::c::u::ex):=rfl
theorem mo_s11 {u:AObj} {ex:List AObj}:(mobj x y B mt m (a::b::c::d::e::ex)).set 11 u=mobj x y B mt m (a::b::c::d::u::ex):=rfl
theorem mo_s12 {u:AObj} {ex:List AObj}:(mobj x y B mt m (a::b::c::d::e::f::ex)).set 12 u=mobj x y B mt m (a::b::c::d::e::u::ex):=rfl
end
attribute [go_sem] mo_9 mo_10 mo_11 mo_12 mo_s8 mo_s9 mo_s10 mo_s11 mo_s12
def rtl (b:Bool) (te:ByteArray) (td D:List Int):List AObj:=[.arr 3 1 (ints .i64 td) 0 b,.arr 3 1 (ints .i64 D) 0 b,.box 96 [.lit (.string te),if b=true then .sl false 1 (ints .i64 td) else .arr 10 0,if b=true then .sl false 1 (ints .i64 D) else .arr 11 0]]
theorem rtl_f {te:ByteArray} {td D:List Int}:rtl false te td D=[.arr 3 1 (ints .i64 td) 0 false,.arr 3 1 (ints .i64 D) 0 false,.box 96 [.lit (.string te),.arr 10 0,.arr 11 0]]:=rfl
theorem rtl_t {te:ByteArray} {td D:List Int}:rtl true te td D=[.arr 3 1 (ints .i64 td) 0 true,.arr 3 1 (ints .i64 D) 0 true,.box 96 [.lit (.string te),.sl false 1 (ints .i64 td),.sl false 1 (ints .i64 D)]]:=rfl
theorem le_rtl {n0:Nat} {f:Nat→AV} {te:ByteArray} {td D:List Int} {a b c:AObj}:Le n0 ⟨f,mobj x y B mt m [a,b,c,.arr 3 1 (ints .i64 td) 0 false,.arr 3 1 (ints .i64 D) 0 false,.box 96 [.lit (.string te),.arr 10 0,.arr 11 0]]⟩
    ⟨f,mobj x y B mt m [a,b,c,.arr 3 1 (ints .i64 td) 0 true,.arr 3 1 (ints .i64 D) 0 true,.box 96 [.lit (.string te),.sl false 1 (ints .i64 td),.sl false 1 (ints .i64 D)]]⟩:=
  (le_frzB (e:=3) (sz:=1) (ver:=0) (xs:=ints .i64 td) (t:=96) (cs:=[.lit (.string te),.arr 10 0,.arr 11 0]) 10 12 1 rfl rfl (by simp) rfl).trans
    (le_frzB (e:=3) (sz:=1) (ver:=0) (xs:=ints .i64 D) (t:=96) (cs:=[.lit (.string te),.sl false 1 (ints .i64 td),.arr 11 0]) 11 12 2 rfl rfl (by simp) rfl)
set_option maxHeartbeats 8000000 in
theorem results_ec (hO:OkB B) (hv:validS B=true) (hA:(m.arena.length:Int)=B.arena) (hk:k (.sl false 3 (arrs (resL B m.arena))) (mobj x y B mt m [])):EC Try.prog 56 [.ref 5 0] (mobj x y B mt m []) k:=by
  refine ec_fin fun hbd=>?_
  have hol:=hO.outs
  have hil:=hO.ins
  have htl:=hO.types
  obtain ⟨_,⟨a0,a1⟩,_,_,h5,_⟩:=valid_inv hv
  refine ecR M10_ok (kp56) Try.func56 [.tmp 2] (h:=fun KF=>?_)
  unfold M10
  repeat' (first
   |(with_reducible first|refine nx ?_|refine t_seq fun K=>?_|refine t_br (fun hc=>?_) fun hc=>?_|refine t_bx ?_|apply And.intro|intro vr)|exact kp_fls|exact kp_mo58|exact kp_mo5|exact kpd
   |((with_reducible refine t_drawG (id:=5) (fun i=>i==5) 15 [(0,1),(1,1),(2,1),(3,1),(4,1),(5,1),(6,1),(7,1),(8,1),(9,1),(10,1),(11,1),(12,1),(13,1),(14,1),(15,3),(16,0)] (by kernel_rfl) (by kernel_rfl) (by kernel_rfl) fun K=>?_);simp only [noA,List.filter_cons,List.filter_nil,Nat.reduceBEq,Bool.not_false,Bool.not_true,reduceIte,if_true,Bool.false_eq_true];simp only [pickO,List.getElem?_toArray,List.getElem?_cons_zero,List.getElem?_cons_succ,Nat.reduceAdd,Nat.reduceSub,fo_some];refine nh ?_;intro KL;simp only [go_sem,kp56,geff,yes])
   |((with_reducible first|refine ny ?_|refine t_kLF ?_ ?_|refine t_dwh (h:=fun K KL=>?_));intros;simp only [go_sem,kp56,geff,yes]))
  all_goals try exact nd
  refine t_loopF (ι:={q:Nat×Nat // q.1≤B.outs.length}) (fun i=>[(16,.lit (.int .i64 i.1.1)),(3,.arr 7 i.1.2)]) (fun i=>mobj x y B mt m [.arr 96 3 (arrs ((List.range i.1.1).map (resA B m.arena))) i.1.2 false]) (fun i=>B.outs.length - i.1.1) ⟨(0,0),by simp⟩ ?_ ?_
  ·refine (le_nil 3 96 3 rfl).trans ?_
   exact lf
  rintro ⟨⟨j0,v⟩,hi⟩ K0
  simp only at hi
  rcases Nat.lt_or_ge j0 B.outs.length with hc|hc
  ·have g3:decide ((j0:Int)<(B.outs.length:Int))=true:=decide_eq_true (by omega)
   have ho:=out1_of hv hc
   have hrs:=res_succ (B:=B) (ar:=m.arena) (i:=j0)
   obtain ⟨o1,o2,o3,o4,o5⟩:=ho
   have hdd:resA B m.arena j0=⟨(B.types.getD (B.ins.length+j0) nilA).e,(B.types.getD (B.ins.length+j0) nilA).d,((m.arena.drop (B.outs.getD j0 (0,0)).1.toNat).take (B.outs.getD j0 (0,0)).2.toNat).map (nrm (B.types.getD (B.ins.length+j0) nilA).e)⟩:=rfl
   have hix:((B.ins.length:Int)+(j0:Int)).toNat=B.ins.length+j0:=by omega
   generalize hT:B.types.getD (B.ins.length+j0) nilA=T at*
   generalize hP:B.outs.getD j0 (0,0)=P at*
   obtain ⟨te,td,tx⟩:=T
   obtain ⟨po,ps⟩:=P
   simp only at o2 o3 o4 o5 hdd
   have vT:arrV ⟨te,td,tx⟩= .agg [.lit (.string te),.sl false 1 (ints .i64 td),.sl false 1 (ints .i64 tx)]:=rfl
   have vP:plV (po,ps)= .agg [.lit (.int .i64 po),.lit (.int .i64 ps)]:=rfl
   have hts:(m.arena.take (po+ps).toNat).drop po.toNat=(m.arena.drop po.toNat).take ps.toNat:=by
     rw [List.drop_take,show (po+ps).toNat - po.toNat=ps.toNat by omega]
   have hE:((ints .i64 m.arena).take (po+ps).toNat).drop po.toNat=ints .i64 ((m.arena.drop po.toNat).take ps.toNat):=by
     rw [←hts];simp [ints,List.map_take,List.map_drop]
   repeat' (first
    |(with_reducible first|refine nx ?_|refine t_seq fun K=>?_|refine t_br (fun hc=>?_) fun hc=>?_|refine t_bx ?_|apply And.intro|intro vr)|exact kp_fls|exact kp_mo58|exact kp_mo5|exact kpd
    |((with_reducible refine t_drawG (id:=5) (fun i=>i==5) 15 [(0,1),(1,1),(2,1),(3,1),(4,1),(5,1),(6,1),(7,1),(8,1),(9,1),(10,1),(11,1),(12,1),(13,1),(14,1),(15,3),(16,0)] (by kernel_rfl) (by kernel_rfl) (by kernel_rfl) fun K=>?_);simp only [noA,List.filter_cons,List.filter_nil,Nat.reduceBEq,Bool.not_false,Bool.not_true,reduceIte,if_true,Bool.false_eq_true];simp only [pickO,List.getElem?_toArray,List.getElem?_cons_zero,List.getElem?_cons_succ,Nat.reduceAdd,Nat.reduceSub,fo_some];refine nh ?_;intro KL;simp only [go_sem,kp56,geff,g3,hT,hP,vT,vP,hix,List.cons_append,List.nil_append,Int.toNat_natCast,yes])
    |((with_reducible first|refine ny ?_|refine t_kLF ?_ ?_);intros;simp only [go_sem,kp56,geff,g3,hT,hP,vT,vP,hix,List.cons_append,List.nil_append,Int.toNat_natCast,yes]))
   all_goals try exact nd
   generalize (m.arena.drop po.toNat).take ps.toNat=D0 at*
   refine t_drawPD ⟨upd (upd (upd (upd (upd (upd (upd topF 0 (.ref 5 0)) 3 (.arr 7 v)) 6 (.ref 9 0)) 7 (.ref 12 0)) 14 (.sl false 2 (plsV B.outs))) 15 (.lit (.int .i64 B.outs.length))) 16 (.lit (.int .i64 j0)),
     mobj x y B mt m [.arr 96 3 (arrs ((List.range j0).map (resA B m.arena))) v false,.box 99 [.lit (.int .i64 po),.lit (.int .i64 ps)],.box 96 [.lit (.string te),.sl false 1 (ints .i64 td),.sl false 1 (ints .i64 tx)],.arr 3 1 (ints .i64 td) 0 false,.arr 3 1 (ints .i64 D0) 0 false,.box 96 [.lit (.string te),.arr 10 0,.arr 11 0]]⟩
     (fun i=>i==5||i==8||i==9) [(0,1),(1,1),(2,1),(3,1),(5,1),(6,1),(7,1),(8,1),(9,1),(10,1),(11,1),(12,1),(13,1),(14,1),(15,1)] [4,16,17,18,19] [(4,17),(16,17),(17,18)] [(20,0)] (by kernel_rfl) ?_ ?_
   rotate_left
   ·skip
    intro K
    simp only [pickO,pickG,List.getElem?_toArray,List.getElem?_cons_zero,List.getElem?_cons_succ,List.length_cons,List.length_nil,Nat.reduceAdd,lp_some]
    simp only [go_sem,pickO,pickG,geff,kp56,picksD,List.filter_cons,List.filter_nil,List.all_cons,List.all_nil,List.any_cons,List.any_nil,Nat.reduceBEq,List.map_cons,List.map_nil,List.cons_append,List.nil_append,Nat.zero_add,hts,beq_self_eq_true]
    repeat' (first
     |(with_reducible first|refine nx ?_|refine t_seq fun K=>?_|refine t_br (fun hc=>?_) fun hc=>?_|refine t_bx ?_|apply And.intro|intro vr)|exact kp_fls|exact kp_mo58|exact kp_mo5|exact kpd
     |((with_reducible refine t_drawG (id:=5) (fun i=>i==5) 15 [(0,1),(1,1),(2,1),(3,1),(4,1),(5,1),(6,1),(7,1),(8,1),(9,1),(10,1),(11,1),(12,1),(13,1),(14,1),(15,3),(16,0)] (by kernel_rfl) (by kernel_rfl) (by kernel_rfl) fun K=>?_);simp only [noA,List.filter_cons,List.filter_nil,Nat.reduceBEq,Bool.not_false,Bool.not_true,reduceIte,if_true,Bool.false_eq_true];simp only [pickO,List.getElem?_toArray,List.getElem?_cons_zero,List.getElem?_cons_succ,Nat.reduceAdd,Nat.reduceSub,fo_some];refine nh ?_;intro KL;simp only [go_sem,kp56,geff,picksD,List.filter_cons,List.filter_nil,List.all_cons,List.all_nil,List.any_cons,List.any_nil,Nat.reduceBEq,List.map_cons,List.map_nil,List.cons_append,List.nil_append,Nat.zero_add,hts,beq_self_eq_true])
     |((with_reducible first|refine ny ?_|refine t_kLF ?_ ?_|refine t_kPE ?_ ?_|refine t_kPD ?_ ?_);intros;simp only [go_sem,kp56,geff,picksD,List.filter_cons,List.filter_nil,List.all_cons,List.all_nil,List.any_cons,List.any_nil,Nat.reduceBEq,List.map_cons,List.map_nil,List.cons_append,List.nil_append,Nat.zero_add,hts,beq_self_eq_true]))
    all_goals try exact nd
    all_goals first
      |exact lg
      |(refine le_swap2 (τ:=mobj x y B mt m [_,_,_,_]) (by simp [mo_len]) (bdm hbd rfl rfl) rfl rfl ?_ ?_
        ·repeat' (first|exact flatF_top|(refine flatF_upd rfl ?_))
        simp only [mo_len,mo_app,renF_upd,renF_top,ren1,renA,renO,sw,List.map_cons,List.map_nil,List.length_cons,List.length_nil,Nat.reduceAdd,Nat.reduceEqDiff,reduceIte,List.cons_append,List.nil_append]
        exact lg)
      |(refine le_swapM (τ:=mobj x y B mt m [_,_,_]) (m:=[_]) (by simp [mo_len]) (bdm hbd rfl rfl) rfl rfl rfl ?_ ?_
        ·repeat' (first|exact flatF_top|(refine flatF_upd rfl ?_))
        simp only [mo_len,mo_app,renF_upd,renF_top,ren1,renA,renO,sw,List.map_cons,List.map_nil,List.length_cons,List.length_nil,Nat.reduceAdd,Nat.reduceEqDiff,reduceIte,List.cons_append,List.nil_append]
        refine le_swap2 (τ:=mobj x y B mt m [_,_,_,_]) (by simp [mo_len]) (bdm hbd rfl rfl) rfl rfl ?_ ?_
        ·repeat' (first|exact flatF_top|(refine flatF_upd rfl ?_))
        simp only [mo_len,mo_app,renF_upd,renF_top,ren1,renA,renO,sw,List.map_cons,List.map_nil,List.length_cons,List.length_nil,Nat.reduceAdd,Nat.reduceEqDiff,reduceIte,List.cons_append,List.nil_append]
        exact lg)
   have hDl:D0.length≤1048576:=by rw [←hts,List.length_drop,List.length_take];omega
   repeat' (first
    |(with_reducible first|refine nx ?_|refine t_seq fun K=>?_|refine t_br (fun hc=>?_) fun hc=>?_|refine t_bx ?_|apply And.intro|intro vr)|exact kp_fls|exact kp_mo58|exact kp_mo5|exact kpd
    |((with_reducible refine t_drawG (id:=5) (fun i=>i==5) 15 [(0,1),(1,1),(2,1),(3,1),(4,1),(5,1),(6,1),(7,1),(8,1),(9,1),(10,1),(11,1),(12,1),(13,1),(14,1),(15,3),(16,0)] (by kernel_rfl) (by kernel_rfl) (by kernel_rfl) fun K=>?_);simp only [noA,List.filter_cons,List.filter_nil,Nat.reduceBEq,Bool.not_false,Bool.not_true,reduceIte,if_true,Bool.false_eq_true];simp only [pickO,List.getElem?_toArray,List.getElem?_cons_zero,List.getElem?_cons_succ,Nat.reduceAdd,Nat.reduceSub,fo_some];refine nh ?_;intro KL;simp only [go_sem,kp56,geff,Int.toNat_natCast,yes])
    |((with_reducible first|refine ny ?_|refine t_kLF ?_ ?_|refine t_dwh (h:=fun K KL=>?_));intros;simp only [go_sem,kp56,geff,Int.toNat_natCast,yes]))
   all_goals try exact nd
   refine t_loopF (ι:={k:Nat // k≤D0.length}) (fun i=>[(58,.lit (.int .i64 (i.1:Int)))]) (fun i=>mobj x y B mt m (.arr 96 3 (arrs ((List.range j0).map (resA B m.arena))) v false:: .box 99 [.lit (.int .i64 po),.lit (.int .i64 ps)]:: .box 96 [.lit (.string te),.sl false 1 (ints .i64 td),.sl false 1 (ints .i64 tx)]::
     rtl (decide (i.1=D0.length)) te td ((D0.take i.1).map (nrm te)++D0.drop i.1))) (fun i=>D0.length - i.1) ⟨0,Nat.zero_le _⟩ ?_ ?_
   ·by_cases hD0:0=D0.length
    ·simp only [decide_eq_true hD0,rtl_t,List.take_zero,List.map_nil,List.nil_append,List.drop_zero]
     refine le_rtl.trans ?_
     exact lg
    ·simp only [decide_eq_false hD0,rtl_f,List.take_zero,List.map_nil,List.nil_append,List.drop_zero]
     exact lg
   rintro ⟨k0,hk0⟩ K1
   have hnl:((D0.take k0).map (nrm te)++D0.drop k0).length=D0.length:=by rw [List.length_append,List.length_map,List.length_take,List.length_drop];omega
   rcases Nat.lt_or_ge k0 D0.length with hc2|hc2
   ·have g5:decide ((k0:Int)<(D0.length:Int))=true:=decide_eq_true (by omega)
    have g6:decide (k0=D0.length)=false:=decide_eq_false (by omega)
    have hbk:∀ {n0:Nat} {f:Nat→AV} {L:List Int},L=(D0.take (k0+1)).map (nrm te)++D0.drop (k0+1)→Le n0 ⟨f,mobj x y B mt m (.arr 96 3 (arrs ((List.range j0).map (resA B m.arena))) v false:: .box 99 [.lit (.int .i64 po),.lit (.int .i64 ps)]:: .box 96 [.lit (.string te),.sl false 1 (ints .i64 td),.sl false 1 (ints .i64 tx)]::rtl false te td L)⟩
      ⟨f,mobj x y B mt m (.arr 96 3 (arrs ((List.range j0).map (resA B m.arena))) v false:: .box 99 [.lit (.int .i64 po),.lit (.int .i64 ps)]:: .box 96 [.lit (.string te),.sl false 1 (ints .i64 td),.sl false 1 (ints .i64 tx)]::rtl (decide (k0+1=D0.length)) te td ((D0.take (k0+1)).map (nrm te)++D0.drop (k0+1)))⟩:=fun e=>by
      subst e
      by_cases q:k0+1=D0.length
      ·rw [decide_eq_true q];exact le_rtl
      ·rw [decide_eq_false q];exact Le.refl _ _
    have hgd:=nrm_getD (e:=te) hc2
    have hbl:eqS te ⟨#[98,111,111,108]⟩=eqS te sBool:=rfl
    have hns:=nrm_succ (e:=te) hc2
    have hnt:=nrm_set (e:=te) hc2
    generalize hN:D0.getD k0 0=N at*
    cases hb:eqS te sBool with
    |true=>
     cases hz:(N !=0) with
     |true=>
      have hn1:nrm te N=1:=by unfold nrm;rw [if_pos ⟨hb,by simpa using hz⟩]
      have hnt:=hnt hn1
      repeat' (first
       |(with_reducible first|refine nx ?_|refine t_seq fun K=>?_|refine t_br (fun hc=>?_) fun hc=>?_|refine t_bx ?_|apply And.intro|intro vr)|exact kp_fls|exact kp_mo58|exact kp_mo5|exact kpd
       |((with_reducible refine t_drawG (id:=5) (fun i=>i==5) 15 [(0,1),(1,1),(2,1),(3,1),(4,1),(5,1),(6,1),(7,1),(8,1),(9,1),(10,1),(11,1),(12,1),(13,1),(14,1),(15,3),(16,0)] (by kernel_rfl) (by kernel_rfl) (by kernel_rfl) fun K=>?_);simp only [noA,List.filter_cons,List.filter_nil,Nat.reduceBEq,Bool.not_false,Bool.not_true,reduceIte,if_true,Bool.false_eq_true];simp only [pickO,List.getElem?_toArray,List.getElem?_cons_zero,List.getElem?_cons_succ,Nat.reduceAdd,Nat.reduceSub,fo_some];refine nh ?_;intro KL;simp only [go_sem,kp56,geff,g5,g6,rtl_f,hgd,hbl,hb,hz,hnl,Int.toNat_natCast,yes])
       |((with_reducible first|refine ny ?_|refine t_kLF ?_ ?_|refine t_dwh (h:=fun K KL=>?_));intros;simp only [go_sem,kp56,geff,g5,g6,rtl_f,hgd,hbl,hb,hz,hnl,Int.toNat_natCast,yes]))
      all_goals try exact nd
      refine ⟨⟨k0+1,by omega⟩,by simp only;omega,?_⟩
      refine Le.trans ?_ (hbk hnt)
      exact lg
     |false=>
      have hn1:nrm te N=N:=by unfold nrm;rw [if_neg (fun q=>by have:N=0:=by simpa using hz
                                                               exact q.2 this)]
      have hns:=hns hn1
      repeat' (first
       |(with_reducible first|refine nx ?_|refine t_seq fun K=>?_|refine t_br (fun hc=>?_) fun hc=>?_|refine t_bx ?_|apply And.intro|intro vr)|exact kp_fls|exact kp_mo58|exact kp_mo5|exact kpd
       |((with_reducible refine t_drawG (id:=5) (fun i=>i==5) 15 [(0,1),(1,1),(2,1),(3,1),(4,1),(5,1),(6,1),(7,1),(8,1),(9,1),(10,1),(11,1),(12,1),(13,1),(14,1),(15,3),(16,0)] (by kernel_rfl) (by kernel_rfl) (by kernel_rfl) fun K=>?_);simp only [noA,List.filter_cons,List.filter_nil,Nat.reduceBEq,Bool.not_false,Bool.not_true,reduceIte,if_true,Bool.false_eq_true];simp only [pickO,List.getElem?_toArray,List.getElem?_cons_zero,List.getElem?_cons_succ,Nat.reduceAdd,Nat.reduceSub,fo_some];refine nh ?_;intro KL;simp only [go_sem,kp56,geff,g5,g6,rtl_f,hgd,hbl,hb,hz,hnl,Int.toNat_natCast,yes])
       |((with_reducible first|refine ny ?_|refine t_kLF ?_ ?_|refine t_dwh (h:=fun K KL=>?_));intros;simp only [go_sem,kp56,geff,g5,g6,rtl_f,hgd,hbl,hb,hz,hnl,Int.toNat_natCast,yes]))
      all_goals try exact nd
      refine ⟨⟨k0+1,by omega⟩,by simp only;omega,?_⟩
      refine Le.trans ?_ (hbk hns)
      exact lg
    |false=>
     have hn1:nrm te N=N:=by unfold nrm;rw [if_neg (fun q=>by rw [hb] at q;cases q.1)]
     have hns:=hns hn1
     repeat' (first
      |(with_reducible first|refine nx ?_|refine t_seq fun K=>?_|refine t_br (fun hc=>?_) fun hc=>?_|refine t_bx ?_|apply And.intro|intro vr)|exact kp_fls|exact kp_mo58|exact kp_mo5|exact kpd
      |((with_reducible refine t_drawG (id:=5) (fun i=>i==5) 15 [(0,1),(1,1),(2,1),(3,1),(4,1),(5,1),(6,1),(7,1),(8,1),(9,1),(10,1),(11,1),(12,1),(13,1),(14,1),(15,3),(16,0)] (by kernel_rfl) (by kernel_rfl) (by kernel_rfl) fun K=>?_);simp only [noA,List.filter_cons,List.filter_nil,Nat.reduceBEq,Bool.not_false,Bool.not_true,reduceIte,if_true,Bool.false_eq_true];simp only [pickO,List.getElem?_toArray,List.getElem?_cons_zero,List.getElem?_cons_succ,Nat.reduceAdd,Nat.reduceSub,fo_some];refine nh ?_;intro KL;simp only [go_sem,kp56,geff,g5,g6,rtl_f,hgd,hbl,hb,hnl,Int.toNat_natCast,yes])
      |((with_reducible first|refine ny ?_|refine t_kLF ?_ ?_|refine t_dwh (h:=fun K KL=>?_));intros;simp only [go_sem,kp56,geff,g5,g6,rtl_f,hgd,hbl,hb,hnl,Int.toNat_natCast,yes]))
     all_goals try exact nd
     refine ⟨⟨k0+1,by omega⟩,by simp only;omega,?_⟩
     refine Le.trans ?_ (hbk hns)
     exact lg
   ·have g5:decide ((k0:Int)<(D0.length:Int))=false:=decide_eq_false (by omega)
    have hF:(D0.take k0).map (nrm te)++D0.drop k0=D0.map (nrm te):=by rw [List.take_of_length_le hc2,List.drop_eq_nil_of_le hc2,List.append_nil]
    have hln:(arrs ((List.range j0).map (resA B m.arena))).length=j0:=by simp [arrs]
    have g6:decide (k0=D0.length)=true:=decide_eq_true (by omega)
    repeat' (first
     |(with_reducible first|refine nx ?_|refine t_seq fun K=>?_|refine t_br (fun hc=>?_) fun hc=>?_|refine t_bx ?_|apply And.intro|intro vr)|exact kp_fls|exact kp_mo58|exact kp_mo5|exact kpd
     |((with_reducible refine t_drawG (id:=5) (fun i=>i==5) 15 [(0,1),(1,1),(2,1),(3,1),(4,1),(5,1),(6,1),(7,1),(8,1),(9,1),(10,1),(11,1),(12,1),(13,1),(14,1),(15,3),(16,0)] (by kernel_rfl) (by kernel_rfl) (by kernel_rfl) fun K=>?_);simp only [noA,List.filter_cons,List.filter_nil,Nat.reduceBEq,Bool.not_false,Bool.not_true,reduceIte,if_true,Bool.false_eq_true];simp only [pickO,List.getElem?_toArray,List.getElem?_cons_zero,List.getElem?_cons_succ,Nat.reduceAdd,Nat.reduceSub,fo_some];refine nh ?_;intro KL;simp only [go_sem,kp56,geff,g5,g6,rtl_t,hF,hnl,hln,yes])
     |((with_reducible first|refine ny ?_|refine t_kLF ?_ ?_|refine t_dwh (h:=fun K KL=>?_));intros;simp only [go_sem,kp56,geff,g5,g6,rtl_t,hF,hnl,hln,yes]))
    all_goals try exact nd
    have hv2:arrs ((List.range j0).map (resA B m.arena))++[.agg [.lit (.string te),.sl false 1 (ints .i64 td),.sl false 1 (ints .i64 (D0.map (nrm te)))]]=arrs ((List.range (j0+1)).map (resA B m.arena)):=by
      rw [←hrs,hdd];simp [arrs,arrV]
    simp only [hv2]
    refine ⟨⟨(j0+1,v+1),by simp only;omega⟩,by simp only;omega,?_⟩
    try simp only [updL_nil,updL_cons,delF_top,delF_upd,Nat.reduceEqDiff,reduceIte]
    refine le_mo2 (by simp [mo_len]) hbd ?_ ?_
    ·repeat' (first|exact low_top|(refine low_upd rfl ?_))
    repeat' (first|exact leF_top _|exact (fun _=>LeR.refl _)|(with_reducible refine leF_sl ?_ ?_)|(refine leF_upd ?_ ?_))
    all_goals (first|exact LeR.top _|exact LeR.refl _|(refine LeR.of_eq ?_;(try simp only [go_sem]);try rfl)|((try simp only [go_sem]);try rfl))
  ·have g3:decide ((j0:Int)<(B.outs.length:Int))=false:=decide_eq_false (by omega)
   obtain rfl:j0=B.outs.length:=by omega
   repeat' (first
    |(with_reducible first|refine nx ?_|refine t_seq fun K=>?_|refine t_br (fun hc=>?_) fun hc=>?_|refine t_bx ?_|apply And.intro|intro vr)|exact kp_fls|exact kp_mo58|exact kp_mo5|exact kpd
    |((with_reducible refine t_drawG (id:=5) (fun i=>i==5) 15 [(0,1),(1,1),(2,1),(3,1),(4,1),(5,1),(6,1),(7,1),(8,1),(9,1),(10,1),(11,1),(12,1),(13,1),(14,1),(15,3),(16,0)] (by kernel_rfl) (by kernel_rfl) (by kernel_rfl) fun K=>?_);simp only [noA,List.filter_cons,List.filter_nil,Nat.reduceBEq,Bool.not_false,Bool.not_true,reduceIte,if_true,Bool.false_eq_true];simp only [pickO,List.getElem?_toArray,List.getElem?_cons_zero,List.getElem?_cons_succ,Nat.reduceAdd,Nat.reduceSub,fo_some];refine nh ?_;intro KL;simp only [go_sem,kp56,geff,g3,yes])
    |((with_reducible first|refine ny ?_|refine t_kLF ?_ ?_|refine t_dwh (h:=fun K KL=>?_));intros;simp only [go_sem,kp56,geff,g3,yes]))
   all_goals try exact nd
   all_goals (refine nl ?_;simp only [go_sem,finE])
   exact ⟨_,_,rfl,LeA.refl _,hbd,hk⟩
end
end Go.Proofs.Ytnlimcijgpaegaa.Mm

namespace Go.Proofs.Ytnlimcijgpaegaa.Mm
open Go.Proofs.Ytnlimcijgpaegaa
open Go Go.Fw Bm
set_option maxRecDepth 20000
theorem EC.gone1 {P:Program} {f:FuncId} {args:List AV} {σ:List AObj} {k:AV→List AObj→Prop} (h:EC P f args (σ++[.gone]) k):EC P f args σ k:=by
  intro cx G w vs hr hl
  have hle:G.le {G with n:=G.n+1}:=⟨CLe.refl _,Nat.le_succ _,fun _ _=>Nat.le_refl _,fun _ _ _=>rfl,fun _ _ _=>rfl⟩
  have get:∀ {o:Nat} {ob:AObj},(σ++[AObj.gone])[o]? =some ob→ob.live=true→σ[o]? =some ob:=fun {o ob} ho hlv=>by
    rcases Nat.lt_or_ge o σ.length with c|c
    ·rwa [List.getElem?_append_left c] at ho
    ·rw [List.getElem?_append_right c] at ho
     rcases hq:o - σ.length with _|q
     ·rw [hq] at ho;cases ho;cases hlv
     ·rw [hq] at ho;cases ho
  have hr':Rel cx {G with n:=G.n+1} (σ++[.gone]) w:=by
    refine ⟨by show G.n+1=_;rw [hr.n];simp,fun o ob ho=>?_,fun o1 o2 ob1 ob2 g h1 l1 h2 l2 g1 g2=>hr.inj o1 o2 ob1 ob2 g (get h1 l1) l1 (get h2 l2) l2 g1 g2,fun o ob g h1 l1 g1=>hr.own o ob g (get h1 l1) l1 g1,hr.cell,hr.os,hr.tape,hr.output,hr.size,hr.block,hr.old,hr.le0.trans hle⟩
    rcases Nat.lt_or_ge o σ.length with c|c
    ·rw [List.getElem?_append_left c] at ho
     exact (hr.ok o ob ho).keep hle rfl rfl (fun hlv g hg=>⟨rfl,((hr.ok o ob ho).lt hlv hg).2⟩)
    ·rw [List.getElem?_append_right c] at ho
     rcases hq:o - σ.length with _|q
     ·rw [hq] at ho;cases ho;trivial
     ·rw [hq] at ho;cases ho
  refine (h cx _ w vs hr' ⟨hl.1,fun i hi=>(hl.2 i hi).mono hle⟩).mono ?_
  rintro e w' ⟨v,G',σ',x,h1,h2,h3⟩
  exact ⟨v,G',σ',x,h1,hle.trans h2,h3⟩
def mtS (B:Prg):List Int:=(matchS B.ops).getD []
noncomputable def endM (B:Prg) (ar:List Int) (pk:Int):St:=endR B (mtS B) [] (.blk 0 B.ops.length) (s0 B ar pk)
noncomputable def runE (B:Prg) (ins:List Arr):Int ⊕ St:=match startS B ins with
  |.inl e=> .inl e
  |.inr (ar,pk)=>if (endM B ar pk).left≤0 then .inl 3 else if (endM B ar pk).failed=true then .inl 22 else .inr (endM B ar pk)
def outV (l:List Arr) (rd wr op pk:Int) (V:List Int):AV:= .agg [.sl false 3 (arrs l),.lit (.int .i64 rd),.lit (.int .i64 wr),.lit (.int .i64 op),.lit (.int .i64 pk),.sl false 1 (ints .i64 V)]
def runV (B:Prg):Int ⊕ St→AV
  |.inl e=> .tup [outV [] 0 0 0 0 [],.lit (.int .i64 e)]
  |.inr s=> .tup [outV (resL B s.arena) s.reads s.writes s.ops s.peak s.viol,.lit (.int .i64 0)]
def stepsV:Int ⊕ St→AV
  |.inl e=> .tup [.lit (.int .i64 0),.lit (.int .i64 e)]
  |.inr s=> .tup [.lit (.int .i64 (200001 - s.left)),.lit (.int .i64 0)]
theorem runE_1 {B:Prg} {ins:List Arr} {e:Int} (h:startS B ins= .inl e):runE B ins= .inl e:=by unfold runE;rw [h]
theorem runE_2 {B:Prg} {ins:List Arr} {mt ar:List Int} {pk:Int} {s:St} {m:MS} {n:Nat} (h:startS B ins= .inr (ar,pk)) (hm:matchS B.ops=some mt) (hr:Runs B mt [] (.blk 0 B.ops.length) (s0 B ar pk) s) (hp:Rp n m s):
    (m.e=0∧Live m s∧runE B ins= .inr s)∨(¬ m.e=0∧runE B ins= .inl m.e):=by
  have e1:mtS B=mt:=by unfold mtS;rw [hm];rfl
  have e2:endM B ar pk=s:=by
    unfold endM
    rw [e1]
    exact Runs.det (endR_runs) hr
  unfold runE
  rw [h]
  simp only [e2]
  rcases hp.rel with ⟨q1,L⟩|⟨q1,q2⟩|⟨q1,q2,q3,_⟩
  ·left
   have hl:=L.left
   refine ⟨q1,L,?_⟩
   rw [if_neg (by omega),if_neg (by rw [L.fl];decide)]
  ·right
   refine ⟨by rw [q1];decide,?_⟩
   rw [if_pos q2,q1]
  ·right
   refine ⟨by rw [q1];decide,?_⟩
   rw [if_neg (by omega),if_pos q3,q1]
section
variable {x y u:AObj} {B:Prg} {mt:List Int} {m:MS} {ex l l':List AObj}
theorem mo_0:(mobj x y B mt m ex)[0]? =some x:=rfl
theorem mo_f6:((mobj x y B mt m ex).set 6 u)[6]? =some u:=rfl
theorem mo_1:(mobj x y B mt m ex)[1]? =some y:=rfl
theorem mo_s1:(mobj x y B mt m ex).set 1 u=mobj x u B mt m ex:=rfl
theorem kp_moV {V:List Int} {n:Nat}:Kp (fun i=>i==5) (mobj x y B mt m l) (mobj x y B mt {m with viol:=V,vv:=n} l'):=fun o t cs hD ho=>by
  have e:o=5:=by simpa using hD
  subst e
  exact ho
theorem kp_mo6s:Kp (fun i=>i==5) (mobj x y B mt m l) ((mobj x y B mt m l).set 6 u):=fun o t cs hD ho=>by
  have e:o=5:=by simpa using hD
  subst e
  exact ho
theorem kp_mo1:Kp (fun i=>i==5) (mobj x y B mt m l) (mobj x u B mt m l'):=fun o t cs hD ho=>by
  have e:o=5:=by simpa using hD
  subst e
  exact ho
end
attribute [go_sem] mo_0 mo_1 mo_s1 mo_f6
noncomputable def M11:Env:=envU Try.prog jkR zer (fun _=>false) (fun _=>false) []
theorem M11_ok:EnvOk Try.prog M11:=envUOk zer_ok
theorem fill_ne {B:Prg}:∀ (l:List Arr) (i:Nat) (ar:List Int) (pk e:Int),fillS B l i ar pk= .inl e→e≠0
  |[],_,_,_,_,h=>by cases h
  |a::l,i,ar,pk,e,h=>by
   unfold fillS at h
   split at h
   ·cases h;decide
   ·split at h
    ·cases h;decide
    ·exact fill_ne l _ _ _ _ h
theorem start_ne {B:Prg} {ins:List Arr} {e:Int} (h:startS B ins= .inl e):e≠0:=by
  unfold startS at h
  split at h
  ·cases h;decide
  ·exact fill_ne _ _ _ _ _ h
section
variable {B:Prg} {ins:List Arr}
set_option maxHeartbeats 8000000 in
theorem steps_pc (hO:OkB B∧B.ins.length≤100000∧B.outs.length≤100000) (hi:ins.length≤1000000∧∀ a∈ins,okA a):PC Try.prog 24 [bcV B,.sl false 3 (arrs ins)] (stepsV (runE B ins)):=by
  simp only [bcV]
  generalize hR:stepsV (runE B ins)=R
  refine pcR M11_ok (kp24) Try.func24 [.tmp 4,.tmp 5] (h:=fun KF=>?_)
  unfold M11
  repeat' (first
   |(with_reducible first|refine nx ?_|refine t_seq fun K=>?_|refine t_br (fun hc=>?_) fun hc=>?_|refine t_bx ?_|apply And.intro|intro vr)
   |((with_reducible first|refine ny ?_|refine t_dwh (h:=fun K KL=>?_));intros;simp only [go_sem,kp24,geff,List.cons_append,List.nil_append,yes]))
  all_goals try exact nd
  refine ⟨fk54,EC.gone1 (start_ec (x:= .box 45 [.lit (.int .i64 B.regs),.lit (.int .i64 B.arena),.sl false 6 (opsV B.ops),.sl false 2 (plsV B.ins),.sl false 2 (plsV B.outs),.sl false 3 (arrs B.types)]) (y:= .gone) hO hi (fun e σ' he=>?_) (fun mt ar pk m2 s2 hs hv hm hfl hr hp hg=>?_))⟩
  ·rw [runE_1 he] at hR
   subst hR
   have g1:(e !=0)=true:=by
     have:=start_ne he
     simpa using this
   repeat' (first
    |(with_reducible first|refine nx ?_|refine t_seq fun K=>?_|refine t_br (fun hc=>?_) fun hc=>?_|refine t_bx ?_|apply And.intro|intro vr)
    |((with_reducible first|refine ny ?_|refine t_dwh (h:=fun K KL=>?_));intros;simp only [go_sem,kp24,geff,g1,yes]))
   all_goals try exact nd
   all_goals (refine nl ?_;simp only [go_sem])
   exact LeA.refl _
  ·rcases runE_2 hs hm hr hp with ⟨h0,L,hE⟩|⟨h0,hE⟩
   ·rw [hE] at hR
    subst hR
    have g1:(m2.e !=0)=false:=by simpa using h0
    have hst:m2.steps=200001 - s2.left:=by have:=L.steps;omega
    repeat' (first
     |(with_reducible first|refine nx ?_|refine t_seq fun K=>?_|refine t_br (fun hc=>?_) fun hc=>?_|refine t_bx ?_|apply And.intro|intro vr)
     |((with_reducible first|refine ny ?_|refine t_dwh (h:=fun K KL=>?_));intros;simp only [go_sem,kp24,geff,g1,yes]))
    all_goals try exact nd
    all_goals (refine nl ?_;simp only [go_sem])
    rw [hst]
    exact LeA.refl _
   ·rw [hE] at hR
    subst hR
    have g1:(m2.e !=0)=true:=by simpa using h0
    repeat' (first
     |(with_reducible first|refine nx ?_|refine t_seq fun K=>?_|refine t_br (fun hc=>?_) fun hc=>?_|refine t_bx ?_|apply And.intro|intro vr)
     |((with_reducible first|refine ny ?_|refine t_dwh (h:=fun K KL=>?_));intros;simp only [go_sem,kp24,geff,g1,yes]))
    all_goals try exact nd
    all_goals (refine nl ?_;simp only [go_sem])
    exact LeA.refl _
set_option maxHeartbeats 8000000 in
theorem run_pc (hO:OkB B∧B.ins.length≤100000∧B.outs.length≤100000) (hi:ins.length≤1000000∧∀ a∈ins,okA a):PC Try.prog 23 [bcV B,.sl false 3 (arrs ins)] (runV B (runE B ins)):=by
  simp only [bcV]
  generalize hR:runV B (runE B ins)=R
  refine pcR M11_ok (kp23) Try.func23 [.cell 4 67,.tmp 5] (h:=fun KF=>?_)
  unfold M11
  repeat' (first
   |(with_reducible first|refine nx ?_|refine t_seq fun K=>?_|refine t_br (fun hc=>?_) fun hc=>?_|refine t_bx ?_|apply And.intro|intro vr)|exact kp_fls|exact kp_self|exact kp_moV|exact kp_mo1|exact kp_mo6s|exact kpd
   |((with_reducible first|refine ny ?_|refine t_kLF ?_ ?_|refine t_drawE (id:=5) (fun i=>i==5) [(0,1),(2,1),(3,1),(4,1),(5,1),(6,1),(7,1),(8,1),(9,1),(1,0),(10,0),(11,1),(12,0),(13,1)] (by kernel_rfl) fun K=>?_|refine t_dwh (h:=fun K KL=>?_));intros;simp only [go_sem,kp23,geff,List.cons_append,List.nil_append,yes]))
  all_goals try exact nd
  refine ⟨fk54,start_ec hO hi (fun e σ' he=>?_) (fun mt ar pk m2 s2 hs hv hm hfl hr hp hg=>?_)⟩
  ·rw [runE_1 he] at hR
   subst hR
   have g1:(e !=0)=true:=by
     have:=start_ne he
     simpa using this
   repeat' (first
    |(with_reducible first|refine nx ?_|refine t_seq fun K=>?_|refine t_br (fun hc=>?_) fun hc=>?_|refine t_bx ?_|apply And.intro|intro vr)|exact kp_fls|exact kp_self|exact kp_moV|exact kp_mo1|exact kp_mo6s|exact kpd
    |((with_reducible first|refine ny ?_|refine t_kLF ?_ ?_|refine t_drawE (id:=5) (fun i=>i==5) [(0,1),(2,1),(3,1),(4,1),(5,1),(6,1),(7,1),(8,1),(9,1),(1,0),(10,0),(11,1),(12,0),(13,1)] (by kernel_rfl) fun K=>?_|refine t_dwh (h:=fun K KL=>?_));intros;simp only [go_sem,kp23,geff,g1,yes]))
   all_goals try exact nd
   all_goals (refine nl ?_;simp only [go_sem])
   exact LeA.tup ⟨LeA.agg ⟨LeA.full _ _ _,LeA.refl _,LeA.refl _,LeA.refl _,LeA.refl _,LeA.full _ _ _,trivial⟩,LeA.refl _,trivial⟩
  ·rcases runE_2 hs hm hr hp with ⟨h0,L,hE⟩|⟨h0,hE⟩
   ·rw [hE] at hR
    subst hR
    have g1:(m2.e !=0)=false:=by simpa using h0
    have hver:=hp.ver
    have hvl:m2.viol.length≤1000000:=by have:=L.vl;have:=hp.st;omega
    have hAr:(m2.arena.length:Int)=B.arena:=by rw [L.arena];have:=(hg h0).arena;have:=hfl.len;omega
    repeat' (first
     |(with_reducible first|refine nx ?_|refine t_seq fun K=>?_|refine t_br (fun hc=>?_) fun hc=>?_|refine t_bx ?_|apply And.intro|intro vr)|exact kp_fls|exact kp_self|exact kp_moV|exact kp_mo1|exact kp_mo6s|exact kpd
     |((with_reducible first|refine ny ?_|refine t_kLF ?_ ?_|refine t_drawE (id:=5) (fun i=>i==5) [(0,1),(2,1),(3,1),(4,1),(5,1),(6,1),(7,1),(8,1),(9,1),(1,0),(10,0),(11,1),(12,0),(13,1)] (by kernel_rfl) fun K=>?_|refine t_dwh (h:=fun K KL=>?_));intros;simp only [go_sem,kp23,geff,g1,hver,yes]))
    all_goals try exact nd
    refine ⟨fk55,sort_ec (V:=m2.viol) rfl hvl ?_⟩
    by_cases hV:m2.viol=[]
    ·have hV0:s2.viol=[]:=by rw [←L.viol,hV];rfl
     have e0:srt m2.viol=[]:=by rw [hV];simp [srt]
     rw [e0]
     repeat' (first
      |(with_reducible first|refine nx ?_|refine t_seq fun K=>?_|refine t_br (fun hc=>?_) fun hc=>?_|refine t_bx ?_|apply And.intro|intro vr)|exact kp_fls|exact kp_self|exact kp_moV|exact kp_mo1|exact kp_mo6s|exact kpd
      |((with_reducible first|refine ny ?_|refine t_kLF ?_ ?_|refine t_drawE (id:=5) (fun i=>i==5) [(0,1),(2,1),(3,1),(4,1),(5,1),(6,1),(7,1),(8,1),(9,1),(1,0),(10,0),(11,1),(12,0),(13,1)] (by kernel_rfl) fun K=>?_|refine t_dwh (h:=fun K KL=>?_));intros;simp only [go_sem,kp23,geff,hver,yes]))
     all_goals try exact nd
     refine ⟨fk56,results_ec hO.1 hv hAr ?_⟩
     repeat' (first
      |(with_reducible first|refine nx ?_|refine t_seq fun K=>?_|refine t_br (fun hc=>?_) fun hc=>?_|refine t_bx ?_|apply And.intro|intro vr)|exact kp_fls|exact kp_self|exact kp_moV|exact kp_mo1|exact kp_mo6s|exact kpd
      |((with_reducible first|refine ny ?_|refine t_kLF ?_ ?_|refine t_drawE (id:=5) (fun i=>i==5) [(0,1),(2,1),(3,1),(4,1),(5,1),(6,1),(7,1),(8,1),(9,1),(1,0),(10,0),(11,1),(12,0),(13,1)] (by kernel_rfl) fun K=>?_|refine t_dwh (h:=fun K KL=>?_));intros;simp only [go_sem,kp23,geff,hver,yes]))
     all_goals try exact nd
     refine ⟨fk57,compact0_ec rfl ?_⟩
     repeat' (first
      |(with_reducible first|refine nx ?_|refine t_seq fun K=>?_|refine t_br (fun hc=>?_) fun hc=>?_|refine t_bx ?_|apply And.intro|intro vr)|exact kp_fls|exact kp_self|exact kp_moV|exact kp_mo1|exact kp_mo6s|exact kpd
      |((with_reducible first|refine ny ?_|refine t_kLF ?_ ?_|refine t_drawE (id:=5) (fun i=>i==5) [(0,1),(2,1),(3,1),(4,1),(5,1),(6,1),(7,1),(8,1),(9,1),(1,0),(10,0),(11,1),(12,0),(13,1)] (by kernel_rfl) fun K=>?_|refine t_dwh (h:=fun K KL=>?_));intros;simp only [go_sem,kp23,geff,hver,yes]))
     all_goals try exact nd
     all_goals (refine nl ?_;simp only [go_sem])
     exact LeA.of_eq (by rw [L.arena,L.reads,L.writes,L.ops,L.peak];simp only [runV,outV,hV0])
    ·have hsn:srt m2.viol≠[]:=fun q=>hV (by have:=srt_len m2.viol;rw [q] at this;exact List.length_eq_zero_iff.1 this.symm)
     have hcv:Lib.compact (srt m2.viol)=s2.viol:=(sort_compact m2.viol).trans L.viol
     repeat' (first
      |(with_reducible first|refine nx ?_|refine t_seq fun K=>?_|refine t_br (fun hc=>?_) fun hc=>?_|refine t_bx ?_|apply And.intro|intro vr)|exact kp_fls|exact kp_self|exact kp_moV|exact kp_mo1|exact kp_mo6s|exact kpd
      |((with_reducible first|refine ny ?_|refine t_kLF ?_ ?_|refine t_drawE (id:=5) (fun i=>i==5) [(0,1),(2,1),(3,1),(4,1),(5,1),(6,1),(7,1),(8,1),(9,1),(1,0),(10,0),(11,1),(12,0),(13,1)] (by kernel_rfl) fun K=>?_|refine t_dwh (h:=fun K KL=>?_));intros;simp only [go_sem,kp23,geff,hver,yes]))
     all_goals try exact nd
     refine ⟨fk56,results_ec hO.1 hv hAr ?_⟩
     repeat' (first
      |(with_reducible first|refine nx ?_|refine t_seq fun K=>?_|refine t_br (fun hc=>?_) fun hc=>?_|refine t_bx ?_|apply And.intro|intro vr)|exact kp_fls|exact kp_self|exact kp_moV|exact kp_mo1|exact kp_mo6s|exact kpd
      |((with_reducible first|refine ny ?_|refine t_kLF ?_ ?_|refine t_drawE (id:=5) (fun i=>i==5) [(0,1),(2,1),(3,1),(4,1),(5,1),(6,1),(7,1),(8,1),(9,1),(1,0),(10,0),(11,1),(12,0),(13,1)] (by kernel_rfl) fun K=>?_|refine t_dwh (h:=fun K KL=>?_));intros;simp only [go_sem,kp23,geff,hver,yes]))
     all_goals try exact nd
     refine ⟨fk57,compact_ec (V:=srt m2.viol) rfl hsn (by rw [srt_len];exact hvl) ?_⟩
     repeat' (first
      |(with_reducible first|refine nx ?_|refine t_seq fun K=>?_|refine t_br (fun hc=>?_) fun hc=>?_|refine t_bx ?_|apply And.intro|intro vr)|exact kp_fls|exact kp_self|exact kp_moV|exact kp_mo1|exact kp_mo6s|exact kpd
      |((with_reducible first|refine ny ?_|refine t_kLF ?_ ?_|refine t_drawE (id:=5) (fun i=>i==5) [(0,1),(2,1),(3,1),(4,1),(5,1),(6,1),(7,1),(8,1),(9,1),(1,0),(10,0),(11,1),(12,0),(13,1)] (by kernel_rfl) fun K=>?_|refine t_dwh (h:=fun K KL=>?_));intros;simp only [go_sem,kp23,geff,hver,hcv,yes]))
     all_goals try exact nd
     all_goals (refine nl ?_;simp only [go_sem])
     exact LeA.of_eq (by rw [L.arena,L.reads,L.writes,L.ops,L.peak];simp only [runV,outV])
   ·rw [hE] at hR
    subst hR
    have g1:(m2.e !=0)=true:=by simpa using h0
    repeat' (first
     |(with_reducible first|refine nx ?_|refine t_seq fun K=>?_|refine t_br (fun hc=>?_) fun hc=>?_|refine t_bx ?_|apply And.intro|intro vr)|exact kp_fls|exact kp_self|exact kp_moV|exact kp_mo1|exact kp_mo6s|exact kpd
     |((with_reducible first|refine ny ?_|refine t_kLF ?_ ?_|refine t_drawE (id:=5) (fun i=>i==5) [(0,1),(2,1),(3,1),(4,1),(5,1),(6,1),(7,1),(8,1),(9,1),(1,0),(10,0),(11,1),(12,0),(13,1)] (by kernel_rfl) fun K=>?_|refine t_dwh (h:=fun K KL=>?_));intros;simp only [go_sem,kp23,geff,g1,yes]))
    all_goals try exact nd
    all_goals (refine nl ?_;simp only [go_sem])
    exact LeA.tup ⟨LeA.agg ⟨LeA.full _ _ _,LeA.refl _,LeA.refl _,LeA.refl _,LeA.refl _,LeA.full _ _ _,trivial⟩,LeA.refl _,trivial⟩
end
end Go.Proofs.Ytnlimcijgpaegaa.Mm

namespace Go.Proofs.Ytnlimcijgpaegaa
open Go Go.Fw Bm
set_option maxRecDepth 20000
end Go.Proofs.Ytnlimcijgpaegaa

namespace Go.Proofs.Ytnlimcijgpaegaa
open Go Go.Fw Bm
set_option maxRecDepth 20000
theorem ft73:fieldTs Try.prog 73=[3,9,3,3,3,3]:=by kernel_rfl
theorem ft99:fieldTs Try.prog 99=[3,3]:=by kernel_rfl
theorem ft45:fieldTs Try.prog 45=[3,3,41,42,42,43]:=by kernel_rfl
theorem shv_op {x:AV} (h:ShV Try.prog 73 x):∃ o:Ins,x=opV o∧o.prim.size≤maxLen:=by
  obtain ⟨c,rfl,hc⟩:=shv_agg ag73 h
  obtain ⟨xss,h1,h2,h3⟩:=sh_fields (by simp) ft73 hc
  match xss,h2 with
  |[p,q,r,s,t,u],_=>
   obtain ⟨k,rfl,_⟩:=sh_int u3 (h3 0 3 p rfl rfl)
   obtain ⟨m,rfl,hm⟩:=sh_str u9 (h3 1 9 q rfl rfl)
   obtain ⟨a,rfl,_⟩:=sh_int u3 (h3 2 3 r rfl rfl)
   obtain ⟨b,rfl,_⟩:=sh_int u3 (h3 3 3 s rfl rfl)
   obtain ⟨c,rfl,_⟩:=sh_int u3 (h3 4 3 t rfl rfl)
   obtain ⟨d,rfl,_⟩:=sh_int u3 (h3 5 3 u rfl rfl)
   exact ⟨⟨k,m,a,b,c,d⟩,by rw [h1];rfl,hm⟩
theorem list_ops:∀ {ys:List AV},(∀ y∈ys,∃ o:Ins,y=opV o∧o.prim.size≤maxLen)→∃ l:List Ins,ys=opsV l∧∀ o∈l,o.prim.size≤maxLen
  |[],_=>⟨[],rfl,fun r h=>by cases h⟩
  |y::ys,h=>by
   obtain ⟨r,rfl,hr⟩:=h y (by simp)
   obtain ⟨l,rfl,hl⟩:=list_ops (ys:=ys) fun z hz=>h z (by simp [hz])
   exact ⟨r::l,rfl,fun q hq=>(List.mem_cons.1 hq).elim (fun e=>by rw [e];exact hr) (hl q)⟩
theorem shv_pl {x:AV} (h:ShV Try.prog 99 x):∃ o:Int×Int,x=plV o:=by
  obtain ⟨c,rfl,hc⟩:=shv_agg ag99 h
  obtain ⟨p,q,rfl,h1,h2⟩:=sh_two ft99 hc
  obtain ⟨a,rfl,_⟩:=sh_int u3 h1
  obtain ⟨b,rfl,_⟩:=sh_int u3 h2
  exact ⟨(a,b),rfl⟩
theorem list_pls:∀ {ys:List AV},(∀ y∈ys,∃ o:Int×Int,y=plV o)→∃ l:List (Int×Int),ys=plsV l
  |[],_=>⟨[],rfl⟩
  |y::ys,h=>by
   obtain ⟨r,rfl⟩:=h y (by simp)
   obtain ⟨l,rfl⟩:=list_pls (ys:=ys) fun z hz=>h z (by simp [hz])
   exact ⟨r::l,rfl⟩
structure ArgB (B:Prg):Prop where
  regs:inI64 B.regs
  arena:inI64 B.arena
  ops:B.ops.length≤maxLen
  prims:∀ o∈B.ops,o.prim.size≤maxLen
  ins:B.ins.length≤maxLen
  outs:B.outs.length≤maxLen
  types:B.types.length≤maxLen
  arr:∀ a∈B.types,okW a
theorem shv_bc {x:AV} (h:ShV Try.prog 45 x):∃ B:Prg,x=bcV B∧ArgB B:=by
  obtain ⟨c,rfl,hc⟩:=shv_agg ag45 h
  obtain ⟨xss,h1,h2,h3⟩:=sh_fields (by simp) ft45 hc
  have one:∀ {t:TypeId} {x:List AV},aggT Try.prog t=some false→Sh Try.prog t x→(∃ y,x=[y])→∃ y,x=[y]∧ShV Try.prog t y:=by
    rintro t x ha hs ⟨y,rfl⟩
    exact ⟨y,rfl,⟨[y],hs,by rw [mkV_one ha]⟩⟩
  match xss,h2 with
  |[p,q,r,s,t,u],_=>
   obtain ⟨k,rfl,wk⟩:=sh_int u3 (h3 0 3 p rfl rfl)
   obtain ⟨m,rfl,wm⟩:=sh_int u3 (h3 1 3 q rfl rfl)
   obtain ⟨os,rfl,ol,oy⟩:=sh_slice u41 (h3 2 41 r rfl rfl)
   obtain ⟨is,rfl,il,iy⟩:=sh_slice u42 (h3 3 42 s rfl rfl)
   obtain ⟨us,rfl,ul,uy⟩:=sh_slice u42 (h3 4 42 t rfl rfl)
   obtain ⟨ts,rfl,tl,ty⟩:=sh_slice u43 (h3 5 43 u rfl rfl)
   obtain ⟨o,rfl,ho⟩:=list_ops fun y hy=>shv_op (oy y hy)
   obtain ⟨i,rfl⟩:=list_pls fun y hy=>shv_pl (iy y hy)
   obtain ⟨v,rfl⟩:=list_pls fun y hy=>shv_pl (uy y hy)
   obtain ⟨w,rfl,hw⟩:=list_arrs fun y hy=>shv_arr (ty y hy)
   refine ⟨⟨k,m,o,i,v,w⟩,by rw [h1,sz73,sz99,sz96];rfl,wf_i64 wk,wf_i64 wm,?_,ho,?_,?_,?_,hw⟩
   ·simpa [opsV] using ol
   ·simpa [plsV] using il
   ·simpa [plsV] using ul
   ·simpa [arrs] using tl
def fewO (n:Int) (l:List Ins):Bool:=(l.all fun x=> !decide ((x.prim.size:Int)>20))&&decide ((l.length:Int)≤n)
def fewT (t:Arr):Bool:=decide ((t.d.length:Int)>8)||decide ((t.e.size:Int)>20)||decide ((t.x.length:Int)>20)
def smB (n:Int) (B:Prg):Bool:=(B.types.all fun t=> !fewT t)&&(fewO n B.ops&&decide ((B.ins.length:Int)≤6)&&decide ((B.outs.length:Int)≤6)&&decide ((B.types.length:Int)≤14))
noncomputable def H0:Env:=envJ (P:=Try.prog) jkR zer (fun _=>false) (fun _=>false) [] []
theorem H0_ok:EnvOk Try.prog H0:=envJOk zer_ok
set_option maxHeartbeats 4000000 in
theorem fewo_pc {l:List Ins} {n:Int} (hl:l.length≤maxLen) (hp:∀ o∈l,o.prim.size≤maxLen):PC Try.prog 76 [.sl false 6 (opsV l),.lit (.int .i64 n)] (.lit (.bool (fewO n l))):=by
  unfold maxLen at hl hp
  generalize hR:fewO n l=R
  unfold fewO at hR
  refine pcR H0_ok (kp76) Try.func76 [.tmp 4] (h:=fun KF=>?_)
  unfold H0
  repeat' (first
   |(with_reducible first|refine nx ?_|refine t_seq fun K=>?_|refine t_br (fun hc=>?_) fun hc=>?_|refine t_bx ?_|apply And.intro|intro vr)
   |((with_reducible first|refine ny ?_|refine t_dwh (h:=fun K KL=>?_));intros;simp only [go_sem,kp76,geff]))
  all_goals try exact nd
  refine t_loopF (ι:={i:Nat // i≤l.length∧(((l.drop i).all fun x=> !decide ((x.prim.size:Int)>20))&&decide ((l.length:Int)≤n))=R}) (fun i=>[(5,.lit (.int .i64 i.1))]) (fun i=>[]) (fun i=>l.length - i.1) ⟨0,by omega,hR⟩ ?_ ?_
  ·exact lf
  rintro ⟨i,hi,hF⟩ K0
  rcases Nat.lt_or_ge i l.length with hc|hc
  ·have g3:decide ((i:Int)<(l.length:Int))=true:=decide_eq_true (by omega)
   rw [drop_getI hc,List.all_cons] at hF
   have hps:=hp _ (show l.getD i nilI∈l by rw [List.getD_eq_getElem?_getD,List.getElem?_eq_getElem hc];exact List.getElem_mem _)
   generalize hx:l.getD i nilI=x at hF hps
   obtain ⟨q,p,a,b,c,d⟩:=x
   simp only at hF hps
   cases hb:decide ((p.size:Int)>20) with
   |true=>
    rw [hb] at hF
    repeat' (first
     |(with_reducible first|refine nx ?_|refine t_seq fun K=>?_|refine t_br (fun hc=>?_) fun hc=>?_|refine t_bx ?_|apply And.intro|intro vr)
     |((with_reducible first|refine ny ?_|refine t_dwh (h:=fun K KL=>?_));intros;simp only [go_sem,kp76,geff,g3,hx,hb,Int.toNat_natCast,yes]))
    all_goals try exact nd
    all_goals (refine nl ?_;simp only [go_sem])
    exact LeA.of_eq (by rw [←hF];rfl)
   |false=>
    rw [hb,Bool.not_false,Bool.true_and] at hF
    repeat' (first
     |(with_reducible first|refine nx ?_|refine t_seq fun K=>?_|refine t_br (fun hc=>?_) fun hc=>?_|refine t_bx ?_|apply And.intro|intro vr)
     |((with_reducible first|refine ny ?_|refine t_dwh (h:=fun K KL=>?_));intros;simp only [go_sem,kp76,geff,g3,hx,hb,Int.toNat_natCast,yes]))
    all_goals try exact nd
    exact ⟨⟨i+1,by omega,hF⟩,wf,lf⟩
  ·have g3:decide ((i:Int)<(l.length:Int))=false:=decide_eq_false (by omega)
   rw [List.drop_eq_nil_of_le hc] at hF
   repeat' (first
    |(with_reducible first|refine nx ?_|refine t_seq fun K=>?_|refine t_br (fun hc=>?_) fun hc=>?_|refine t_bx ?_|apply And.intro|intro vr)
    |((with_reducible first|refine ny ?_|refine t_dwh (h:=fun K KL=>?_));intros;simp only [go_sem,kp76,geff,g3]))
   all_goals try exact nd
   all_goals (refine nl ?_;simp only [go_sem])
   exact LeA.of_eq (by rw [←hF];rfl)
theorem fewo_pc2 {l:List Ins} {n:Int} (h:l.length≤maxLen∧∀ o∈l,o.prim.size≤maxLen):PC Try.prog 76 [.sl false 6 (opsV l),.lit (.int .i64 n)] (.lit (.bool (fewO n l))):=fewo_pc h.1 h.2
noncomputable def con76:PCon Try.prog where
  f:=76
  c:=fun
   |[xl,.lit (.int .i64 n)]=>match opsOf xl with|some l=>some ((l.length≤maxLen∧∀ o∈l,o.prim.size≤maxLen),.lit (.bool (fewO n l)))|_=>none
   |_=>none
  ok:=by
   intro args p r hc hp
   split at hc
   ·split at hc
    ·rename_i hl
     cases hc
     exact PC.weak (fewo_pc2 hp) ⟨opsOf_le hl,LeA.refl _,trivial⟩
    ·cases hc
   ·cases hc
  fk:=fk76
theorem con76_f:con76.f=76:=rfl
theorem con76_c {xl:AV} {n:Int}:con76.c [xl,.lit (.int .i64 n)]=match opsOf xl with|some l=>some ((l.length≤maxLen∧∀ o∈l,o.prim.size≤maxLen),.lit (.bool (fewO n l)))|_=>none:=rfl
attribute [go_sem] con76_f con76_c
noncomputable def H1:Env:=envJ (P:=Try.prog) jkR zer (fun _=>false) (fun _=>false) [con76] []
theorem H1_ok:EnvOk Try.prog H1:=envJOk zer_ok
set_option maxHeartbeats 4000000 in
theorem sm_pc {B:Prg} {n:Int} (h:ArgB B):PC Try.prog 38 [bcV B,.lit (.int .i64 n)] (.lit (.bool (smB n B))):=by
  obtain ⟨_,_,ho,hp,hi,hu,ht,ha⟩:=h
  have ht':=ht
  have hi':=hi
  have hu':=hu
  unfold maxLen at ht' hi' hu'
  generalize hR:smB n B=R
  unfold smB at hR
  simp only [bcV]
  refine pcR H1_ok (kp38) Try.func38 [.tmp 4] (h:=fun KF=>?_)
  unfold H1
  repeat' (first
   |(with_reducible first|refine nx ?_|refine t_seq fun K=>?_|refine t_br (fun hc=>?_) fun hc=>?_|refine t_bx ?_|apply And.intro|intro vr)
   |((with_reducible first|refine ny ?_|refine t_dwh (h:=fun K KL=>?_));intros;simp only [go_sem,kp38,geff]))
  all_goals try exact nd
  refine t_loopF (ι:={i:Nat // i≤B.types.length∧(((B.types.drop i).all fun t=> !fewT t)&&(fewO n B.ops&&decide ((B.ins.length:Int)≤6)&&decide ((B.outs.length:Int)≤6)&&decide ((B.types.length:Int)≤14)))=R}) (fun i=>[(5,.lit (.int .i64 i.1))]) (fun i=>[.box 45 [.lit (.int .i64 B.regs),.lit (.int .i64 B.arena),.sl false 6 (opsV B.ops),.sl false 2 (plsV B.ins),.sl false 2 (plsV B.outs),.sl false 3 (arrs B.types)]]) (fun i=>B.types.length - i.1) ⟨0,by omega,hR⟩ ?_ ?_
  ·exact lf
  rintro ⟨i,hi2,hF⟩ K0
  rcases Nat.lt_or_ge i B.types.length with hc|hc
  ·have g3:decide ((i:Int)<(B.types.length:Int))=true:=decide_eq_true (by omega)
   rw [drop_getD nilA hc,List.all_cons] at hF
   generalize hx:B.types.getD i nilA=x at hF
   obtain ⟨e,d,x⟩:=x
   have hpy:arrV ⟨e,d,x⟩= .agg [.lit (.string e),.sl false 1 (ints .i64 d),.sl false 1 (ints .i64 x)]:=rfl
   have hfe:(decide ((d.length:Int)>8)||decide ((e.size:Int)>20)||decide ((x.length:Int)>20))=fewT ⟨e,d,x⟩:=rfl
   cases hb:fewT ⟨e,d,x⟩ with
   |true=>
    rw [hb] at hF hfe
    repeat' (first
     |(with_reducible first|refine nx ?_|refine t_seq fun K=>?_|refine t_br (fun hc=>?_) fun hc=>?_|refine t_bx ?_|apply And.intro|intro vr)
     |((with_reducible first|refine ny ?_|refine t_dwh (h:=fun K KL=>?_));intros;simp only [go_sem,kp38,geff,g3,hx,hpy,ints_length,hfe,Int.toNat_natCast,yes]))
    all_goals try exact nd
    all_goals (refine nl ?_;simp only [go_sem])
    exact LeA.of_eq (by rw [←hF];rfl)
   |false=>
    rw [hb,Bool.not_false,Bool.true_and] at hF
    rw [hb] at hfe
    repeat' (first
     |(with_reducible first|refine nx ?_|refine t_seq fun K=>?_|refine t_br (fun hc=>?_) fun hc=>?_|refine t_bx ?_|apply And.intro|intro vr)
     |((with_reducible first|refine ny ?_|refine t_dwh (h:=fun K KL=>?_));intros;simp only [go_sem,kp38,geff,g3,hx,hpy,ints_length,hfe,Int.toNat_natCast,yes]))
    all_goals try exact nd
    exact ⟨⟨i+1,by omega,hF⟩,wf,lf⟩
  ·have g3:decide ((i:Int)<(B.types.length:Int))=false:=decide_eq_false (by omega)
   rw [List.drop_eq_nil_of_le hc] at hF
   repeat' (first
    |(with_reducible first|refine nx ?_|refine t_seq fun K=>?_|refine t_br (fun hc=>?_) fun hc=>?_|refine t_bx ?_|apply And.intro|intro vr)
    |((with_reducible first|refine ny ?_|refine t_dwh (h:=fun K KL=>?_));intros;simp only [go_sem,kp38,geff,g3]))
   all_goals try exact hp _ (by assumption)
   all_goals try exact nd
   all_goals (refine nl ?_;simp only [go_sem])
   exact LeA.of_eq (by rw [←hF];rfl)
noncomputable def con38:PCon Try.prog where
  f:=38
  c:=fun
   |[xB,.lit (.int .i64 n)]=>match bcOf xB with|some B=>some (ArgB B,.lit (.bool (smB n B)))|_=>none
   |_=>none
  ok:=by
   intro args p r hc hp
   split at hc
   ·split at hc
    ·rename_i hB
     cases hc
     exact PC.weak (sm_pc hp) ⟨bcOf_le hB,LeA.refl _,trivial⟩
    ·cases hc
   ·cases hc
  fk:=fk38
theorem con38_f:con38.f=38:=rfl
theorem con38_c {xB:AV} {n:Int}:con38.c [xB,.lit (.int .i64 n)]=match bcOf xB with|some B=>some (ArgB B,.lit (.bool (smB n B)))|_=>none:=rfl
attribute [go_sem] con38_f con38_c
def smallS (B:Prg):Bool:=smB 30 B&&decide (B.regs≤20)&&decide (B.arena≤1000)
theorem small_inv {B:Prg} (h:smallS B=true):OkB B∧B.ins.length≤6∧B.outs.length≤6∧B.ops.length≤30∧B.regs≤20∧B.arena≤1000:=by
  simp only [smallS,smB,fewO,Bool.and_eq_true,decide_eq_true_eq] at h
  obtain ⟨⟨⟨h1,⟨⟨⟨h2,h3⟩,h4⟩,h5⟩,h6⟩,h7⟩,h8⟩:=h
  refine ⟨⟨by omega,by omega,by omega,by omega,fun t ht=>?_⟩,by omega,by omega,by omega,h7,h8⟩
  rw [List.all_eq_true] at h1
  have:=h1 t ht
  simp only [fewT,Bool.not_eq_true',Bool.or_eq_false_iff,decide_eq_false_iff_not] at this
  exact ⟨by omega,by omega⟩
end Go.Proofs.Ytnlimcijgpaegaa

namespace Go.Proofs.Ytnlimcijgpaegaa.Bm
open Go.Proofs.Ytnlimcijgpaegaa
open Go Go.Fw
section
variable {n:Nat} {z:List Rng}
end
variable {B B':Prg} {mt:List Int}
end Go.Proofs.Ytnlimcijgpaegaa.Bm

namespace Go.Proofs.Ytnlimcijgpaegaa.Bm
open Go.Proofs.Ytnlimcijgpaegaa
open Go Go.Fw
variable {B:Prg} {mt:List Int}
theorem opr_mono {f:List Bool} {r r':Int} (h:r≤r') {i:Nat} {n:Int} (k:oprOk f r i n=true):oprOk f r' i n=true:=by
  unfold oprOk at k ⊢
  split at k
  ·rename_i h1;rw [if_pos h1];exact k
  ·rename_i h1
   rw [if_neg h1]
   split at k
   ·rename_i h2
    rw [if_pos h2]
    rw [decide_eq_true_eq] at k ⊢
    omega
   ·rename_i h2;rw [if_neg h2]
theorem right_mono {x:Ins} {r r':Int} (h:r≤r') (k:rightS x r=true):rightS x r'=true:=by
  unfold rightS at k ⊢
  split at k
  ·cases k
  ·rename_i f hf
   rw [Bool.and_eq_true,Bool.and_eq_true,Bool.and_eq_true,Bool.and_eq_true,Bool.and_eq_true] at k ⊢
   obtain ⟨⟨k1,⟨⟨k2,k3⟩,k4⟩,k5⟩,k6⟩:=k
   exact ⟨⟨k1,⟨⟨opr_mono h k2,opr_mono h k3⟩,opr_mono h k4⟩,opr_mono h k5⟩,k6⟩
theorem types_mono {a b:Int} (h:a≤b):∀ {l:List Arr} {m:List (Int×Int)},typesOk a l m=true→typesOk b l m=true
  |[],_,_=>by unfold typesOk;rfl
  |_::_,[],_=>by unfold typesOk;rfl
  |t::l,p::m,k=>by
   unfold typesOk at k ⊢
   rw [Bool.and_eq_true] at k ⊢
   refine ⟨?_,types_mono h k.2⟩
   have k1:=k.1
   unfold typeOk at k1 ⊢
   simp only [Bool.and_eq_true,decide_eq_true_eq] at k1 ⊢
   exact ⟨k1.1,by have:=k1.2;omega⟩
end Go.Proofs.Ytnlimcijgpaegaa.Bm

namespace Go.Proofs.Ytnlimcijgpaegaa
open Go Go.Fw Bm
set_option maxRecDepth 20000
def moreP (B:Prg) (m k:Int):Prg:=⟨B.regs+k,B.arena+m,B.ops,B.ins,B.outs,B.types⟩
theorem valid_more {B:Prg} {m k:Int} (h:validS B=true) (hm:0≤m) (hk:0≤k) (h1:B.regs+k≤200) (h2:B.arena+m≤1048576):validS (moreP B m k)=true:=by
  rw [valid_eq,Bool.and_eq_true,Bool.not_eq_true'] at h ⊢
  obtain ⟨h3,h4⟩:=h
  refine ⟨?_,types_mono (show B.arena≤B.arena+m by omega) h4⟩
  simp only [headB,formedB,Bool.or_eq_false_iff,decide_eq_false_iff_not,bne_eq_false_iff_eq,Bool.not_eq_false',Bool.and_eq_true] at h3 ⊢
  obtain ⟨⟨⟨⟨⟨k1,k2⟩,k3⟩,k4⟩,k5,k6⟩,k7⟩:=h3
  refine ⟨⟨⟨⟨⟨?_,?_⟩,?_⟩,?_⟩,?_,k6⟩,k7⟩
  ·show ¬ (B.regs+k<0);omega
  ·show ¬ (B.regs+k>200);omega
  ·show ¬ (B.arena+m<0);omega
  ·show ¬ (B.arena+m>1048576);omega
  ·rw [List.all_eq_true] at k5 ⊢
   exact fun x hx=>right_mono (show B.regs≤B.regs+k by omega) (k5 x hx)
theorem wr8 (m:Int) (h:0≤m∧m<65536):IntKind.i64.wrap m=m:=by rw [IntKind.wrap_i64];omega
theorem isI8' {m:Int}:isIntV (.lit (.int .u8 m))=true:=rfl
end Go.Proofs.Ytnlimcijgpaegaa

namespace Go.Proofs.Ytnlimcijgpaegaa.Mm
open Go.Proofs.Ytnlimcijgpaegaa
open Go Go.Fw Bm
def longP (B:Prg) (k:Int):Prg:={B with arena:=B.arena+k}
variable {B:Prg} {ins:List Arr} {k:Int} {s:St}
theorem putI_app:∀ (x ar z:List Int) (i:Nat),i+x.length≤ar.length→putI (ar++z) i x=putI ar i x++z
  |[],_,_,_,_=>rfl
  |a::x,ar,z,i,h=>by
   simp only [List.length_cons] at h
   simp only [putI]
   rw [List.set_append_left _ _ (by omega)]
   exact putI_app x (ar.set i a) z (i+1) (by simp;omega)
theorem fill_long (hv:validS B=true) {z:List Int}:∀ (l:List Arr) (i:Nat) (ar:List Int) (pk:Int),(∀ a∈l,invA a=false)→i+l.length≤B.ins.length→Fl B ar pk→
    fillS (longP B k) l i (ar++z) pk=match fillS B l i ar pk with
      |.inl e=> .inl e
      |.inr (ar',pk')=> .inr (ar'++z,pk')
  |[],_,_,_,_,_,_=>rfl
  |a::l,i,ar,pk,ha,hi,hf=>by
   simp only [List.length_cons] at hi
   unfold fillS
   have e1:(longP B k).types=B.types:=rfl
   have e2:(longP B k).ins=B.ins:=rfl
   rw [e1,e2]
   split
   ·rfl
   ·split
    ·rfl
    ·rename_i hd
     have hd':a.d=(B.types.getD i nilA).d:=Classical.byContradiction hd
     have h1:=in1_of hv (ha a (by simp)) (by omega) hd'
     have q1:=h1.off
     have q2:=h1.fit
     have q3:=hf.len
     rw [putI_app _ _ _ _ (by omega)]
     exact fill_long hv l (i+1) _ _ (fun b hb=>ha b (by simp [hb])) (by omega) (hf.next h1)
theorem fill_fl (hv:validS B=true):∀ (l:List Arr) (i:Nat) (ar:List Int) (pk:Int) (ar':List Int) (pk':Int),(∀ a∈l,invA a=false)→i+l.length≤B.ins.length→Fl B ar pk→fillS B l i ar pk= .inr (ar',pk')→Fl B ar' pk'
  |[],_,_,_,_,_,_,_,hf,h=>by cases h;exact hf
  |a::l,i,ar,pk,ar',pk',ha,hi,hf,h=>by
   simp only [List.length_cons] at hi
   unfold fillS at h
   split at h
   ·cases h
   ·split at h
    ·cases h
    ·rename_i hd
     have hd':a.d=(B.types.getD i nilA).d:=Classical.byContradiction hd
     have h1:=in1_of hv (ha a (by simp)) (by omega) hd'
     exact fill_fl hv l (i+1) _ _ _ _ (fun b hb=>ha b (by simp [hb])) (by omega) (hf.next h1) h
theorem start_inv {ar:List Int} {pk:Int} (h:startS B ins= .inr (ar,pk)):validS B=true∧ins.length=B.ins.length∧(∀ a∈ins,invA a=false)∧fillS B ins 0 (List.replicate B.arena.toNat 0) 0= .inr (ar,pk)∧Fl B ar pk:=by
  unfold startS at h
  split at h
  ·cases h
  ·rename_i hc
   simp only [Bool.or_eq_true,Bool.not_eq_true',not_or,Bool.not_eq_true,bne_eq_false_iff_eq,Bool.not_eq_false] at hc
   obtain ⟨⟨h1,h2⟩,h3⟩:=hc
   have hv:validS B=true:=h1
   have ha:∀ a∈ins,invA a=false:=fun a ha=>by
     have:=List.any_eq_false.1 h3 a ha
     simpa using this
   obtain ⟨_,⟨a0,_⟩,_⟩:=valid_inv hv
   exact ⟨hv,by omega,ha,h,fill_fl hv ins 0 _ _ _ _ ha (by omega) (fl_start a0) h⟩
theorem runE_inv (h:runE B ins= .inr s):∃ ar pk,startS B ins= .inr (ar,pk)∧endM B ar pk=s∧0<s.left∧s.failed=false:=by
  unfold runE at h
  split at h
  ·cases h
  ·rename_i ar pk hs
   split at h
   ·cases h
   ·rename_i h1
    split at h
    ·cases h
    ·rename_i h2
     cases h
     exact ⟨ar,pk,hs,rfl,by omega,by simpa using h2⟩
theorem valid_long (hv:validS B=true) (hk:0≤k) (hA:B.arena+k≤1048576):validS (longP B k)=true:=by
  obtain ⟨⟨r0,r1⟩,_⟩:=valid_inv hv
  have:=valid_more hv hk (Int.le_refl 0) (by omega) hA
  have e:moreP B k 0=longP B k:=by unfold moreP longP;simp
  rwa [e] at this
theorem start_long {ar:List Int} {pk:Int} (h:startS B ins= .inr (ar,pk)) (hk:0≤k) (hA:B.arena+k≤1048576):startS (longP B k) ins= .inr (ar++List.replicate k.toNat 0,pk):=by
  obtain ⟨hv,hl,ha,hf,_⟩:=start_inv h
  obtain ⟨_,⟨a0,_⟩,_⟩:=valid_inv hv
  have hv':=valid_long hv hk hA
  have hany:ins.any invA=false:=List.any_eq_false.2 fun a h=>by rw [ha a h];decide
  unfold startS
  have e2:(longP B k).ins=B.ins:=rfl
  rw [hv',hany,e2]
  have hb:((ins.length:Int) !=B.ins.length)=false:=by simpa using (by omega:(ins.length:Int)=B.ins.length)
  rw [hb]
  have e3:List.replicate (longP B k).arena.toNat (0:Int)=List.replicate B.arena.toNat 0++List.replicate k.toNat 0:=by
    rw [List.replicate_append_replicate]
    show List.replicate (B.arena+k).toNat (0:Int)=_
    rw [show (B.arena+k).toNat=B.arena.toNat+k.toNat by omega]
  rw [e3]
  simp only [Bool.not_true,Bool.or_false,Bool.or_self,Bool.false_eq_true,if_false]
  rw [fill_long hv ins 0 _ _ ha (by omega) (fl_start a0),hf]
theorem end_long {ar:List Int} {pk:Int} {z:List Int} (hf:(endM B ar pk).failed=false):endM (longP B k) (ar++z) pk=long z (endM B ar pk):=by
  have hr:Runs B (mtS B) [] (.blk 0 B.ops.length) (s0 B ar pk) (endM B ar pk):=endR_runs
  have hr':Runs (longP B k) (mtS B) [] (.blk 0 B.ops.length) (long z (s0 B ar pk)) (long z (endM B ar pk)):=by
    obtain ⟨F,hF⟩:=hr
    refine ⟨F,fun f hf2=>?_⟩
    rw [exec_long (B:=B) (B':=longP B k) (fun _=>rfl) f _ _ (by rw [hF f hf2];exact hf),hF f hf2]
  exact Runs.det (show Runs (longP B k) (mtS B) [] (.blk 0 B.ops.length) (long z (s0 B ar pk)) _ from endR_runs) hr'
theorem end_len {ar:List Int} {pk:Int} (h:Fl B ar pk):((endM B ar pk).arena.length:Int)=B.arena:=by
  have hr:Runs B (mtS B) [] (.blk 0 B.ops.length) (s0 B ar pk) (endM B ar pk):=endR_runs
  have:=hr.inv (P:=fun s=>s.arena.length=ar.length) fun f=>(exec_cnt (B:=B) (mt:=mtS B) (seen:=[]) (c:=200001) (n:=ar.length) (m:=B.regs.toNat) f _ ⟨by simp [s0],rfl,by simp [s0],by have:=h.pk;have:=h.len;simp only [s0];omega⟩).arena
  rw [this];exact h.len
theorem res_long {ar z:List Int} (hv:validS B=true) (hl:(ar.length:Int)=B.arena):resL (longP B k) (ar++z)=resL B ar:=by
  unfold resL
  refine List.map_congr_left fun i hi=>?_
  have hi:i<B.outs.length:=List.mem_range.1 hi
  have ho:=out1_of hv hi
  obtain ⟨_,o2,o3,o4,_⟩:=ho
  unfold resA
  have e1:(longP B k).types=B.types:=rfl
  have e2:(longP B k).ins=B.ins:=rfl
  have e3:(longP B k).outs=B.outs:=rfl
  rw [e1,e2,e3]
  congr 2
  rw [List.drop_append_of_le_length (by omega),List.take_append_of_le_length (by rw [List.length_drop];omega)]
theorem run_long (h:runE B ins= .inr s) (hk:0≤k) (hA:B.arena+k≤1048576):runV (longP B k) (runE (longP B k) ins)=runV B (.inr s):=by
  obtain ⟨ar,pk,hs,he,hl,hf⟩:=runE_inv h
  obtain ⟨hv,_,_,_,hfl⟩:=start_inv hs
  have h1:=start_long hs hk hA
  have h2:=end_long (B:=B) (k:=k) (z:=List.replicate k.toNat 0) (ar:=ar) (pk:=pk) (by rw [he];exact hf)
  have e:runE (longP B k) ins= .inr (long (List.replicate k.toNat 0) s):=by
    unfold runE
    rw [h1]
    simp only [h2,he]
    rw [if_neg (by show ¬ s.left≤0;omega),if_neg (by show ¬ s.failed=true;rw [hf];decide)]
  rw [e]
  have hr:=res_long (B:=B) (k:=k) (ar:=s.arena) (z:=List.replicate k.toNat 0) hv (by rw [←he];exact end_len hfl)
  show AV.tup [outV (resL (longP B k) (s.arena++List.replicate k.toNat 0)) _ _ _ _ _,_]=_
  rw [hr];rfl
end Go.Proofs.Ytnlimcijgpaegaa.Mm

namespace Go.Proofs.Ytnlimcijgpaegaa.Mm
open Go.Proofs.Ytnlimcijgpaegaa
open Go Go.Fw Bm
set_option maxRecDepth 20000
def smM (B:Prg) (ins:List Arr):Bool:=ins.all (fun a=>fewA a 100)&&smB 30 B&&decide (B.regs≤20)&&decide (B.arena≤1000)&&decide ((ins.length:Int)≤4)
attribute [go_sem] con53_f con53_c con38_f con38_c con52_f con52_c con102_f con102_c
noncomputable def N0:Env:=envJ (P:=Try.prog) jkR zer (fun _=>false) (fun _=>false) [con53,con38,con52,con102] []
theorem N0_ok:EnvOk Try.prog N0:=envJOk zer_ok
structure ArgM (B:Prg) (ins:List Arr):Prop where
  b:ArgB B
  len:ins.length≤maxLen
set_option maxHeartbeats 8000000 in
theorem small_pc {B:Prg} {ins:List Arr} (hh:ArgM B ins):PC Try.prog 22 [bcV B,.sl false 3 (arrs ins)] (.lit (.bool (smM B ins))):=by
  obtain ⟨h,hl⟩:=hh
  unfold maxLen at hl
  generalize hR:smM B ins=R
  have hR':((ins.drop 0).all (fun a=>fewA a 100)&&(smB 30 B&&decide (B.regs≤20)&&decide (B.arena≤1000)&&decide ((ins.length:Int)≤4)))=R:=by
    rw [←hR];unfold smM;simp only [List.drop_zero,Bool.and_assoc]
  simp only [bcV]
  refine pcR N0_ok (kp22) Try.func22 [.tmp 4] (h:=fun KF=>?_)
  unfold N0
  repeat' (first
   |(with_reducible first|refine nx ?_|refine t_seq fun K=>?_|refine t_br (fun hc=>?_) fun hc=>?_|refine t_bx ?_|apply And.intro|intro vr)
   |((with_reducible first|refine ny ?_|refine t_dwh (h:=fun K KL=>?_));intros;simp only [go_sem,kp22,geff]))
  all_goals try exact nd
  refine t_loopF (ι:={j:Nat // j≤ins.length∧((ins.drop j).all (fun a=>fewA a 100)&&(smB 30 B&&decide (B.regs≤20)&&decide (B.arena≤1000)&&decide ((ins.length:Int)≤4)))=R}) (fun i=>[(5,.lit (.int .i64 i.1))]) (fun i=>[.box 45 [.lit (.int .i64 B.regs),.lit (.int .i64 B.arena),.sl false 6 (opsV B.ops),.sl false 2 (plsV B.ins),.sl false 2 (plsV B.outs),.sl false 3 (arrs B.types)]]) (fun i=>ins.length - i.1) ⟨0,Nat.zero_le _,hR'⟩ ?_ ?_
  ·exact lf
  rintro ⟨j,hj,hq⟩ K0
  rcases Nat.lt_or_ge j ins.length with hc|hc
  ·have g3:decide ((j:Int)<(ins.length:Int))=true:=decide_eq_true (by omega)
   rw [drop_getD nilA hc,List.all_cons] at hq
   generalize hX:ins.getD j nilA=X at*
   obtain ⟨xe,xd,xx⟩:=X
   have vX:arrV ⟨xe,xd,xx⟩= .agg [.lit (.string xe),.sl false 1 (ints .i64 xd),.sl false 1 (ints .i64 xx)]:=rfl
   cases hf:fewA ⟨xe,xd,xx⟩ 100 with
   |true=>
    rw [hf,Bool.true_and] at hq
    repeat' (first
     |(with_reducible first|refine nx ?_|refine t_seq fun K=>?_|refine t_br (fun hc=>?_) fun hc=>?_|refine t_bx ?_|apply And.intro|intro vr)
     |((with_reducible first|refine ny ?_|refine t_dwh (h:=fun K KL=>?_));intros;simp only [go_sem,kp22,geff,g3,hX,vX,hf,Int.toNat_natCast,arrOf_agg,slK_sl,yes]))
    all_goals try exact nd
    exact ⟨⟨j+1,by omega,hq⟩,wf,lf⟩
   |false=>
    rw [hf] at hq
    have hR0:R=false:=by rw [←hq];simp
    repeat' (first
     |(with_reducible first|refine nx ?_|refine t_seq fun K=>?_|refine t_br (fun hc=>?_) fun hc=>?_|refine t_bx ?_|apply And.intro|intro vr)
     |((with_reducible first|refine ny ?_|refine t_dwh (h:=fun K KL=>?_));intros;simp only [go_sem,kp22,geff,g3,hX,vX,hf,Int.toNat_natCast,arrOf_agg,slK_sl,yes]))
    all_goals try exact nd
    all_goals (refine nl ?_;simp only [go_sem])
    exact LeA.of_eq (by rw [hR0])
  ·have g3:decide ((j:Int)<(ins.length:Int))=false:=decide_eq_false (by omega)
   rw [List.drop_eq_nil_of_le hc,List.all_nil,Bool.true_and] at hq
   rcases Bool.eq_false_or_eq_true (smB 30 B) with h1|h1
   ·rcases Bool.eq_false_or_eq_true (decide (B.regs≤20)) with h2|h2
    ·rcases Bool.eq_false_or_eq_true (decide (B.arena≤1000)) with h3|h3
     ·rw [h1,h2,h3,Bool.true_and,Bool.true_and,Bool.true_and] at hq
      repeat' (first
       |(with_reducible first|refine nx ?_|refine t_seq fun K=>?_|refine t_br (fun hc=>?_) fun hc=>?_|refine t_bx ?_|apply And.intro|intro vr)
       |((with_reducible first|refine ny ?_|refine t_dwh (h:=fun K KL=>?_));intros;simp only [go_sem,kp22,geff,g3,bcOf_B,h1,h2,h3,hq,yes]))
      all_goals try exact h
      all_goals try exact nd
      all_goals (refine nl ?_;simp only [go_sem])
      exact LeA.refl _
     ·rw [h1,h2,h3] at hq
      repeat' (first
       |(with_reducible first|refine nx ?_|refine t_seq fun K=>?_|refine t_br (fun hc=>?_) fun hc=>?_|refine t_bx ?_|apply And.intro|intro vr)
       |((with_reducible first|refine ny ?_|refine t_dwh (h:=fun K KL=>?_));intros;simp only [go_sem,kp22,geff,g3,bcOf_B,h1,h2,h3,yes]))
      all_goals try exact h
      all_goals try exact nd
      all_goals (refine nl ?_;simp only [go_sem])
      exact LeA.of_eq (by rw [←hq];rfl)
    ·rw [h1,h2] at hq
     repeat' (first
      |(with_reducible first|refine nx ?_|refine t_seq fun K=>?_|refine t_br (fun hc=>?_) fun hc=>?_|refine t_bx ?_|apply And.intro|intro vr)
      |((with_reducible first|refine ny ?_|refine t_dwh (h:=fun K KL=>?_));intros;simp only [go_sem,kp22,geff,g3,bcOf_B,h1,h2,yes]))
     all_goals try exact h
     all_goals try exact nd
     all_goals (refine nl ?_;simp only [go_sem])
     exact LeA.of_eq (by rw [←hq];rfl)
   ·rw [h1] at hq
    repeat' (first
     |(with_reducible first|refine nx ?_|refine t_seq fun K=>?_|refine t_br (fun hc=>?_) fun hc=>?_|refine t_bx ?_|apply And.intro|intro vr)
     |((with_reducible first|refine ny ?_|refine t_dwh (h:=fun K KL=>?_));intros;simp only [go_sem,kp22,geff,g3,bcOf_B,h1,yes]))
    all_goals try exact h
    all_goals try exact nd
    all_goals (refine nl ?_;simp only [go_sem])
    exact LeA.of_eq (by rw [←hq];rfl)
noncomputable def con22:PCon Try.prog where
  f:=22
  c:=fun
   |[xB,xl]=>match bcOf xB,arrsOf xl with|some B,some l=>some (ArgM B l,.lit (.bool (smM B l)))|_,_=>none
   |_=>none
  ok:=by
   intro args p r hc hp
   split at hc
   ·split at hc
    ·rename_i hB hl
     cases hc
     exact PC.weak (small_pc hp) ⟨bcOf_le hB,arrsOf_le hl,trivial⟩
    ·cases hc
   ·cases hc
  fk:=fk22
theorem con22_f:con22.f=22:=rfl
theorem con22_c {xB:AV} {xl:AV}:con22.c [xB,xl]=match bcOf xB,arrsOf xl with|some B,some l=>some (ArgM B l,.lit (.bool (smM B l)))|_,_=>none:=rfl
end Go.Proofs.Ytnlimcijgpaegaa.Mm

namespace Go.Proofs.Ytnlimcijgpaegaa.Mm
open Go.Proofs.Ytnlimcijgpaegaa
open Go Go.Fw Bm
def execO (B:Prg) (mt:List Int):Nat→Tk→St→Option St
  |0,_,_=>none
  |f+1,.blk i to,s=>if i<to∧stpS s=false then (
    if (B.op i).code=10 then (match execO B mt f (.lop i (gt s.regs (B.op i).b) (gt s.regs (B.op i).c)) (tick s) with
     |some s2=>execO B mt f (.blk (gt mt i+1) to) s2
     |none=>none)
    else if (B.op i).code=11 then none
    else execO B mt f (.blk (i+1) to) (if (simpleS (B.op i) (tick s)).failed=true then {simpleS (B.op i) (tick s) with at_:=i} else simpleS (B.op i) (tick s))) else some s
  |f+1,.lop i n hi,s=>if n<hi∧stpS s=false then (match execO B mt f (.blk (i+1) (gt mt i)) ((tick s).put (B.op i).a n) with
    |some s2=>execO B mt f (.lop i (n+(B.op i).d) hi) s2
    |none=>none) else some s
theorem execO_runs {B:Prg} {mt:List Int}:∀ (f:Nat) (t:Tk) (s s':St),execO B mt f t s=some s'→Runs B mt [] t s s'
  |0,_,_,_,h=>by cases h
  |f+1,.blk i to,s,s',h=>by
   simp only [execO] at h
   split at h
   ·rename_i hc
    split at h
    ·rename_i h1
     split at h
     ·rename_i s2 h2
      exact runs_for (seen:=[]) hc h1 (execO_runs f _ _ _ h2) (execO_runs f _ _ _ h)
     ·cases h
    ·rename_i h1
     split at h
     ·cases h
     ·rename_i h2
      exact runs_simple (seen:=[]) hc h1 h2 (execO_runs f _ _ _ h)
   ·rename_i hc
    cases h
    exact runs_end hc
  |f+1,.lop i n hi,s,s',h=>by
   simp only [execO] at h
   split at h
   ·rename_i hc
    split at h
    ·rename_i s2 h2
     exact runs_turn (seen:=[]) hc (execO_runs f _ _ _ h2) (execO_runs f _ _ _ h)
    ·cases h
   ·rename_i hc
    cases h
    exact runs_lend hc
def appP (B:Prg) (m:List Ins):Prg:={B with ops:=B.ops++m}
variable {B:Prg} {ins:List Arr} {s:St} {m:List Ins}
def setsS (m:List Ins) (s:St):St:=m.foldl (fun s x=>(tick s).put x.a x.b) s
theorem sets_facts:∀ (m:List Ins) (s:St),(setsS m s).left=s.left - m.length∧(setsS m s).failed=s.failed∧(setsS m s).out=s.out∧(setsS m s).arena=s.arena∧(setsS m s).reads=s.reads∧(setsS m s).writes=s.writes∧(setsS m s).ops=s.ops∧(setsS m s).peak=s.peak∧(setsS m s).viol=s.viol
  |[],s=>by simp [setsS]
  |x::m,s=>by
   obtain ⟨h1,h2,h3,h4,h5,h6,h7,h8,h9⟩:=sets_facts m ((tick s).put x.a x.b)
   have e:setsS (x::m) s=setsS m ((tick s).put x.a x.b):=rfl
   rw [e,h1,h2,h3,h4,h5,h6,h7,h8,h9]
   exact ⟨by simp only [tick,St.put,List.length_cons];omega,rfl,rfl,rfl,rfl,rfl,rfl,rfl,rfl⟩
theorem runs_sets {B':Prg} {mt:List Int}:∀ (m:List Ins) (i:Int) (s:St),(∀ j:Nat,j<m.length→B'.op (i+j)=m.getD j nilI)→(∀ x∈m,x.code=1)→m.length<s.left→s.failed=false→s.out=false→Runs B' mt [] (.blk i (i+m.length)) s (setsS m s)
  |[],i,s,_,_,_,_,_=>runs_end (fun q=>by have:=q.1;simp at this)
  |x::m,i,s,hop,hc,hl,hf,ho=>by
   have h0:B'.op i=x:=by have:=hop 0 (by simp);simpa using this
   have hx:=hc x (by simp)
   have hst:stpS s=false:=by
     simp only [stpS,hf,ho,Bool.or_false,decide_eq_false_iff_not]
     simp only [List.length_cons] at hl;omega
   have hs:simpleS x (tick s)=(tick s).put x.a x.b:=by unfold simpleS;rw [if_pos hx]
   refine runs_simple (seen:=[]) ⟨by simp only [List.length_cons];omega,hst⟩ (by rw [h0,hx];decide) (by rw [h0,hx];decide) ?_
   have e:Bm.look [] i s=s:=rfl
   rw [h0,e,hs]
   have hf':((tick s).put x.a x.b).failed=false:=hf
   rw [if_neg (by rw [hf'];decide)]
   have:=runs_sets (B':=B') (mt:=mt) m (i+1) ((tick s).put x.a x.b) (fun j hj=>by
     have:=hop (j+1) (by simp only [List.length_cons];omega)
     rw [show i+((j+1:Nat):Int)=i+1+j by omega] at this
     simpa using this) (fun y hy=>hc y (by simp [hy])) (by simp only [List.length_cons] at hl;simp only [tick,St.put];omega) hf ho
   rw [show i+1+(m.length:Int)=i+((x::m).length:Int) by simp only [List.length_cons];omega] at this
   exact this
theorem valid_app (hv:validS B=true) (hm:∀ x∈m,x.code=1∧rightS x B.regs=true) (hl:B.ops.length+m.length≤5000):∃ r,validS (appP B m)=true∧matchS (appP B m).ops=some (mtS B++r):=by
  have hv0:=hv
  unfold validS at hv
  simp only [Bool.and_eq_true,List.all_eq_true] at hv
  obtain ⟨⟨⟨⟨⟨h1,h2⟩,h3⟩,h4⟩,h5⟩,h6⟩:=hv
  obtain ⟨mt,hmt⟩:=Option.isSome_iff_exists.1 h5
  have hms:mtS B=mt:=by unfold mtS;rw [hmt];rfl
  have hG:matchG B.ops B.ops 0 [] []=some mt:=by
    unfold matchS at hmt
    split at hmt
    ·cases hmt
    ·exact hmt
  obtain ⟨mt',k1,k2⟩:=matchG_app (ops:=B.ops) (m:=m) (fun x hx=>by rw [(hm x hx).1];decide) B.ops 0 [] [] mt (by simp) (Nat.zero_le _) rfl (by simp) hG
  have hM:matchS (appP B m).ops=some mt':=by
    unfold matchS
    rw [if_neg (by show ¬ (B.ops++m).length>5000;rw [List.length_append];omega)]
    exact k1
  refine ⟨_,?_,by rw [hM,k2,hms]⟩
  unfold validS
  simp only [Bool.and_eq_true,List.all_eq_true]
  refine ⟨⟨⟨⟨⟨h1,h2⟩,h3⟩,fun x hx=>?_⟩,by rw [hM];rfl⟩,h6⟩
  rcases List.mem_append.1 hx with hx|hx
  ·exact h4 x hx
  ·exact (hm x hx).2
theorem fill_app:∀ (l:List Arr) (i:Nat) (ar:List Int) (pk:Int),fillS (appP B m) l i ar pk=fillS B l i ar pk
  |[],_,_,_=>rfl
  |a::l,i,ar,pk=>by
   unfold fillS
   have e1:(appP B m).types=B.types:=rfl
   have e2:(appP B m).ins=B.ins:=rfl
   rw [e1,e2,fill_app l]
theorem start_app {ar:List Int} {pk:Int} (h:startS B ins= .inr (ar,pk)) (hv':validS (appP B m)=true):startS (appP B m) ins= .inr (ar,pk):=by
  obtain ⟨hv,hl,ha,hf,_⟩:=start_inv h
  have hany:ins.any invA=false:=List.any_eq_false.2 fun a h=>by rw [ha a h];decide
  unfold startS
  have e2:(appP B m).ins=B.ins:=rfl
  have e3:(appP B m).arena=B.arena:=rfl
  have hb:((ins.length:Int) !=B.ins.length)=false:=by simpa using (by omega:(ins.length:Int)=B.ins.length)
  rw [hv',hany,e2,e3,hb,fill_app]
  simpa using hf
theorem run_app (h:runE B ins= .inr s) (hm:∀ x∈m,x.code=1∧rightS x B.regs=true) (hl:B.ops.length+m.length≤5000) (hs:200001 - s.left+m.length≤200000):runE (appP B m) ins= .inr (setsS m s):=by
  obtain ⟨ar,pk,h1,h2,h3,h4⟩:=runE_inv h
  obtain ⟨hv,_,_,_,hfl⟩:=start_inv h1
  obtain ⟨r,hv',hM⟩:=valid_app hv hm hl
  have hms:mtS (appP B m)=mtS B++r:=by
    have:mtS (appP B m)=(matchS (appP B m).ops).getD []:=rfl
    rw [this,hM];rfl
  obtain ⟨_,_,⟨mt,hmt⟩,_⟩:=valid_inv hv
  have hmB:mtS B=mt:=by unfold mtS;rw [hmt];rfl
  have hN:Nest B.ops (mtS B):=by rw [hmB];exact match_nest hmt
  have hN':Nest (appP B m).ops (mtS B++r):=match_nest hM
  have hrun:Runs B (mtS B) [] (.blk 0 B.ops.length) (s0 B ar pk) s:=by rw [←h2];exact endR_runs
  have ho:s.out=false:=by
    refine hrun.inv (P:=fun s=>s.out=false) fun f=>exec_inv (B:=B) (mt:=mtS B) (seen:=[]) (P:=fun s=>s.out=false) (fun i s h _=>?_) (fun i s h _=>h) (fun i n s h _=>h) f _ _ rfl
    have e:∀ x (s:St),s.out=false→(simpleS x s).out=false:=fun x s h=>simple_P (P:=fun r=>r.out=false) h (fun _=>h) h (fun _=>h) (fun _=>h) (fun _ _ _ _ _=>h) h (fun _=>h)
    unfold step1
    split
    ·exact e _ _ h
    ·exact e _ _ h
  have r1:Runs (appP B m) (mtS B++r) [] (.blk 0 B.ops.length) (s0 B ar pk) s:=by
    obtain ⟨F,hF⟩:=hrun
    exact ⟨F,fun f hf=>by rw [exec_app (B:=B) (B':=appP B m) (seen:=[]) (m:=m) (r:=r) rfl hN f (.blk 0 B.ops.length) (s0 B ar pk) ⟨Int.le_refl _,Int.le_refl _⟩];exact hF f hf⟩
  have r2:Runs (appP B m) (mtS B++r) [] (.blk B.ops.length (B.ops.length+m.length)) s (setsS m s):=by
    refine runs_sets m B.ops.length s (fun j hj=>?_) (fun x hx=>(hm x hx).1) (by omega) h4 ho
    show (B.ops++m).getD ((B.ops.length:Int)+j).toNat nilI=_
    rw [show ((B.ops.length:Int)+j).toNat=B.ops.length+j by omega]
    simp [List.getD,List.getElem?_append_right]
  have hopB:∀ i:Int,0≤i→i<B.ops.length→(appP B m).op i=B.op i:=fun i a b=>by
    show (B.ops++m).getD i.toNat nilI=B.ops.getD i.toNat nilI
    simp [List.getD,List.getElem?_append_left (show i.toNat<B.ops.length by omega)]
  have r3:Runs (appP B m) (mtS B++r) [] (.blk 0 (B.ops.length+m.length)) (s0 B ar pk) (setsS m s):=by
    refine runs_then hN' (to:=B.ops.length) (by omega) (fun i i0 i1 i2=>?_) (s0 B ar pk).left.toNat 0 _ _ _ (Nat.le_refl _) (Int.le_refl _) (by omega) r1 r2
    rw [hopB i i0 i1] at i2
    refine ⟨by show i<((B.ops++m).length:Int);rw [List.length_append];omega,?_⟩
    rw [gt_app i0 (by rw [hN.len];exact i1)]
    exact (hN.at i0 i1 i2).2.1
  have hend:endM (appP B m) ar pk=setsS m s:=by
    unfold endM
    rw [hms]
    have e:(((appP B m).ops.length:Nat):Int)=B.ops.length+m.length:=by show (((B.ops++m).length:Nat):Int)=_;rw [List.length_append];omega
    rw [e]
    exact Runs.det endR_runs r3
  obtain ⟨f1,f2,_⟩:=sets_facts m s
  unfold runE
  rw [start_app h1 hv']
  simp only [hend]
  rw [if_neg (by omega),if_neg (by rw [f2,h4];decide)]
end Go.Proofs.Ytnlimcijgpaegaa.Mm

namespace Go.Proofs.Ytnlimcijgpaegaa.Mm
open Go.Proofs.Ytnlimcijgpaegaa
open Go Go.Fw Bm
set_option maxRecDepth 20000
set_option maxHeartbeats 4000000 in
theorem sameA_pc {l:List Arr} (h:l.length≤1000000∧∀ a∈l,okA a):PC Try.prog 58 [.sl false 3 (arrs l),.sl false 3 (arrs l)] (.lit (.bool true)):=by
  obtain ⟨hl,ha⟩:=h
  refine pcR N0_ok (kp58) Try.func58 [.tmp 4] (h:=fun KF=>?_)
  unfold N0
  repeat' (first
   |(with_reducible first|refine nx ?_|refine t_seq fun K=>?_|refine t_br (fun hc=>?_) fun hc=>?_|refine t_bx ?_|apply And.intro|intro vr)
   |((with_reducible first|refine ny ?_|refine t_dwh (h:=fun K KL=>?_));intros;simp only [go_sem,kp58,geff,bne_self_eq_false]))
  all_goals try exact nd
  refine t_loopF (ι:={j:Nat // j≤l.length}) (fun i=>[(5,.lit (.int .i64 i.1))]) (fun i=>[]) (fun i=>l.length - i.1) ⟨0,Nat.zero_le _⟩ ?_ ?_
  ·exact lf
  rintro ⟨j,hj⟩ K0
  rcases Nat.lt_or_ge j l.length with hc|hc
  ·have g3:decide ((j:Int)<(l.length:Int))=true:=decide_eq_true (by omega)
   have hmem:l.getD j nilA∈l:=by rw [List.getD_eq_getElem?_getD,List.getElem?_eq_getElem hc];exact List.getElem_mem hc
   have hoa:=ha _ hmem
   generalize hX:l.getD j nilA=X at*
   have he:=eqA_refl X
   obtain ⟨xe,xd,xx⟩:=X
   have vX:arrV ⟨xe,xd,xx⟩= .agg [.lit (.string xe),.sl false 1 (ints .i64 xd),.sl false 1 (ints .i64 xx)]:=rfl
   repeat' (first
    |(with_reducible first|refine nx ?_|refine t_seq fun K=>?_|refine t_br (fun hc=>?_) fun hc=>?_|refine t_bx ?_|apply And.intro|intro vr)
    |((with_reducible first|refine ny ?_|refine t_dwh (h:=fun K KL=>?_));intros;simp only [go_sem,kp58,geff,g3,hX,vX,he,Int.toNat_natCast,arrOf_agg,slK_sl,yes]))
   all_goals try exact hoa
   all_goals try exact nd
   exact ⟨⟨j+1,by omega⟩,wf,lf⟩
  ·have g3:decide ((j:Int)<(l.length:Int))=false:=decide_eq_false (by omega)
   repeat' (first
    |(with_reducible first|refine nx ?_|refine t_seq fun K=>?_|refine t_br (fun hc=>?_) fun hc=>?_|refine t_bx ?_|apply And.intro|intro vr)
    |((with_reducible first|refine ny ?_|refine t_dwh (h:=fun K KL=>?_));intros;simp only [go_sem,kp58,geff,g3]))
   all_goals try exact nd
   all_goals (refine nl ?_;simp only [go_sem])
   exact LeA.refl _
noncomputable def con58:PCon Try.prog where
  f:=58
  c:=fun
   |[x,y]=>match arrsOf x,arrsOf y with
    |some l,some l'=> @ite (Option (Prop×AV)) (l=l') (Classical.propDecidable _) (some (l.length≤1000000∧∀ a∈l,okA a,.lit (.bool true))) none
    |_,_=>none
   |_=>none
  ok:=by
   intro args p r hc hp
   split at hc
   ·split at hc
    ·rename_i hx hy
     split at hc
     ·rename_i e
      subst e
      cases hc
      exact PC.weak (sameA_pc hp) ⟨arrsOf_le hx,arrsOf_le hy,trivial⟩
     ·cases hc
    ·cases hc
   ·cases hc
  fk:=fk58
theorem con58_f:con58.f=58:=rfl
theorem con58_c {l:List Arr}:con58.c [.sl false 3 (arrs l),.sl false 3 (arrs l)]=some (l.length≤1000000∧∀ a∈l,okA a,.lit (.bool true)):=by
  show (match arrsOf (.sl false 3 (arrs l)),arrsOf (.sl false 3 (arrs l)) with
    |some l,some l'=> @ite (Option (Prop×AV)) (l=l') (Classical.propDecidable _) (some (l.length≤1000000∧∀ a∈l,okA a,.lit (.bool true))) none
    |_,_=>none)=_
  rw [arrsOf_sl]
  exact if_pos rfl
attribute [go_sem] con58_f con58_c
noncomputable def N1:Env:=envJ (P:=Try.prog) jkR zer (fun _=>false) (fun _=>false) [con52,con58] []
theorem N1_ok:EnvOk Try.prog N1:=envJOk zer_ok
structure OutOk (l:List Arr) (V:List Int):Prop where
  len:l.length≤1000000
  arr:∀ a∈l,okA a
  v:V.length≤1000000
set_option maxHeartbeats 4000000 in
theorem same_pc {l:List Arr} {rd wr op pk:Int} {V:List Int} (h:OutOk l V):PC Try.prog 25 [outV l rd wr op pk V,outV l rd wr op pk V] (.lit (.bool true)):=by
  obtain ⟨h1,h2,h3⟩:=h
  have g1:decide (V=V)=true:=decide_eq_true rfl
  simp only [outV]
  refine pcR N1_ok (kp25) Try.func25 [.tmp 4] (h:=fun KF=>?_)
  unfold N1
  repeat' (first
   |(with_reducible first|refine nx ?_|refine t_seq fun K=>?_|refine t_br (fun hc=>?_) fun hc=>?_|refine t_bx ?_|apply And.intro|intro vr)
   |((with_reducible first|refine ny ?_|refine t_dwh (h:=fun K KL=>?_));intros;simp only [go_sem,kp25,geff,slK_sl,g1,beq_self_eq_true,Bool.and_self,yes]))
  all_goals try exact h2 _ (by assumption)
  all_goals try exact nd
  all_goals (refine nl ?_;simp only [go_sem])
  exact LeA.refl _
noncomputable def con25:PCon Try.prog where
  f:=25
  c:=fun
   |[x,y]=> @ite (Option (Prop×AV)) (x=y) (Classical.propDecidable _) (some ((∃ l rd wr op pk V,x=outV l rd wr op pk V∧OutOk l V),AV.lit (.bool true))) none
   |_=>none
  ok:=by
   intro args p r hc hp
   split at hc
   ·split at hc
    ·rename_i e
     subst e
     cases hc
     obtain ⟨l,rd,wr,op,pk,V,rfl,h⟩:=hp
     exact same_pc h
    ·cases hc
   ·cases hc
  fk:=fk25
theorem con25_f:con25.f=25:=rfl
theorem con25_c {x:AV}:con25.c [x,x]=some ((∃ l rd wr op pk V,x=outV l rd wr op pk V∧OutOk l V),AV.lit (.bool true)):=if_pos rfl
attribute [go_sem] con25_f con25_c con22_f con22_c
structure RunOk (B:Prg) (ins:List Arr):Prop where
  b:OkB B∧B.ins.length≤100000∧B.outs.length≤100000
  i:ins.length≤1000000∧∀ a∈ins,okA a
theorem run_pc2 {B:Prg} {ins:List Arr} (h:RunOk B ins):PC Try.prog 23 [bcV B,.sl false 3 (arrs ins)] (runV B (runE B ins)):=run_pc h.b h.i
theorem steps_pc2 {B:Prg} {ins:List Arr} (h:RunOk B ins):PC Try.prog 24 [bcV B,.sl false 3 (arrs ins)] (stepsV (runE B ins)):=steps_pc h.b h.i
noncomputable def con23:PCon Try.prog where
  f:=23
  c:=fun
   |[xB,xl]=>match bcOf xB,arrsOf xl with|some B,some l=>some ((RunOk B l),runV B (runE B l))|_,_=>none
   |_=>none
  ok:=by
   intro args p r hc hp
   split at hc
   ·split at hc
    ·rename_i hB hl
     cases hc
     exact PC.weak (run_pc2 hp) ⟨bcOf_le hB,arrsOf_le hl,trivial⟩
    ·cases hc
   ·cases hc
  fk:=fk23
theorem con23_f:con23.f=23:=rfl
theorem con23_c {xB:AV} {xl:AV}:con23.c [xB,xl]=match bcOf xB,arrsOf xl with|some B,some l=>some ((RunOk B l),runV B (runE B l))|_,_=>none:=rfl
noncomputable def con24:PCon Try.prog where
  f:=24
  c:=fun
   |[xB,xl]=>match bcOf xB,arrsOf xl with|some B,some l=>some ((RunOk B l),stepsV (runE B l))|_,_=>none
   |_=>none
  ok:=by
   intro args p r hc hp
   split at hc
   ·split at hc
    ·rename_i hB hl
     cases hc
     exact PC.weak (steps_pc2 hp) ⟨bcOf_le hB,arrsOf_le hl,trivial⟩
    ·cases hc
   ·cases hc
  fk:=fk24
theorem con24_f:con24.f=24:=rfl
theorem con24_c {xB:AV} {xl:AV}:con24.c [xB,xl]=match bcOf xB,arrsOf xl with|some B,some l=>some ((RunOk B l),stepsV (runE B l))|_,_=>none:=rfl
attribute [go_sem] con23_f con23_c con24_f con24_c
def exT:Arr:=⟨sInt,[3],[]⟩
def exO:List Ins:=[⟨1,⟨#[]⟩,1,3,0,0⟩,⟨10,⟨#[]⟩,2,0,1,1⟩,⟨6,⟨#[]⟩,3,2,0,0⟩,⟨5,⟨#[110,101,103]⟩,3,3,0,0⟩,⟨7,⟨#[]⟩,2,3,0,0⟩,⟨13,⟨#[]⟩,0,0,0,0⟩]
def exM:Prg:=⟨4,3,exO,[(0,3)],[(0,3)],[exT,exT]⟩
def exI:List Arr:=[⟨sInt,[3],[5,6,7]⟩]
def exS:St:=⟨[0,3,2, -7],[-5, -6, -7],3,3,3,3,[],199987,false,0,false⟩
theorem ex_start:startS exM exI= .inr ([5,6,7],3):=by kernel_rfl
theorem ex_mt:mtS exM=[0,5,2,3,4,5]:=by kernel_rfl
theorem ex_exec:execO exM [0,5,2,3,4,5] 60 (.blk 0 6) (s0 exM [5,6,7] 3)=some exS:=by kernel_rfl
theorem ex_run:runE exM exI= .inr exS:=by
  have h:=execO_runs _ _ _ _ ex_exec
  have e:endM exM [5,6,7] 3=exS:=by
    unfold endM
    rw [ex_mt]
    exact Runs.det endR_runs h
  unfold runE
  rw [ex_start]
  simp only [e]
  rw [if_neg (by decide),if_neg (by decide)]
theorem ex_res:resL exM exS.arena=[⟨sInt,[3],[-5, -6, -7]⟩]:=by kernel_rfl
end Go.Proofs.Ytnlimcijgpaegaa.Mm

namespace Go.Proofs.Ytnlimcijgpaegaa.Mm
open Go.Proofs.Ytnlimcijgpaegaa
open Go Go.Fw Bm
set_option maxRecDepth 20000
noncomputable def N2:Env:=envJ (P:=Try.prog) jkR zer (fun _=>false) (fun _=>false) [] []
theorem N2_ok:EnvOk Try.prog N2:=envJOk zer_ok
set_option maxHeartbeats 4000000 in
theorem ex_pc:PC Try.prog 51 [] (.agg [.lit (.int .i64 4),.lit (.int .i64 3),.sl true 6 [.agg [.lit (.int .i64 1),.lit (.string ByteArray.empty),.lit (.int .i64 1),.lit (.int .i64 3),.lit (.int .i64 0),.lit (.int .i64 0)],.agg [.lit (.int .i64 10),.lit (.string ByteArray.empty),.lit (.int .i64 2),.lit (.int .i64 0),.lit (.int .i64 1),.lit (.int .i64 1)],.agg [.lit (.int .i64 6),.lit (.string ByteArray.empty),.lit (.int .i64 3),.lit (.int .i64 2),.lit (.int .i64 0),.lit (.int .i64 0)],.agg [.lit (.int .i64 5),.lit (.string ⟨#[110,101,103]⟩),.lit (.int .i64 3),.lit (.int .i64 3),.lit (.int .i64 0),.lit (.int .i64 0)],.agg [.lit (.int .i64 7),.lit (.string ByteArray.empty),.lit (.int .i64 2),.lit (.int .i64 3),.lit (.int .i64 0),.lit (.int .i64 0)],.agg [.lit (.int .i64 13),.lit (.string ByteArray.empty),.lit (.int .i64 0),.lit (.int .i64 0),.lit (.int .i64 0),.lit (.int .i64 0)]],.sl true 2 [.agg [.lit (.int .i64 0),.lit (.int .i64 3)]],.sl true 2 [.agg [.lit (.int .i64 0),.lit (.int .i64 3)]],.sl true 3 [.agg [.lit (.string ⟨#[105,110,116]⟩),.sl true 1 [.lit (.int .i64 3)],.sl true 1 []],.agg [.lit (.string ⟨#[105,110,116]⟩),.sl true 1 [.lit (.int .i64 3)],.sl true 1 []]]]):=by
  refine pcR N2_ok (kp51) Try.func51 [.cell 0 45] (h:=fun KF=>?_)
  unfold N2
  repeat' (first
   |(with_reducible first|refine nx ?_|refine t_seq fun K=>?_|refine t_br (fun hc=>?_) fun hc=>?_|refine t_bx ?_|apply And.intro|intro vr)
   |((with_reducible first|refine ny ?_|refine t_dwh (h:=fun K KL=>?_));intros;simp only [go_sem,kp51,geff]))
  all_goals try exact nd
  all_goals (refine nl ?_;simp only [go_sem])
  exact LeA.refl _
noncomputable def con51:PCon Try.prog where
  f:=51
  c:=fun
   |[]=>some (True,.agg [.lit (.int .i64 4),.lit (.int .i64 3),.sl true 6 [.agg [.lit (.int .i64 1),.lit (.string ByteArray.empty),.lit (.int .i64 1),.lit (.int .i64 3),.lit (.int .i64 0),.lit (.int .i64 0)],.agg [.lit (.int .i64 10),.lit (.string ByteArray.empty),.lit (.int .i64 2),.lit (.int .i64 0),.lit (.int .i64 1),.lit (.int .i64 1)],.agg [.lit (.int .i64 6),.lit (.string ByteArray.empty),.lit (.int .i64 3),.lit (.int .i64 2),.lit (.int .i64 0),.lit (.int .i64 0)],.agg [.lit (.int .i64 5),.lit (.string ⟨#[110,101,103]⟩),.lit (.int .i64 3),.lit (.int .i64 3),.lit (.int .i64 0),.lit (.int .i64 0)],.agg [.lit (.int .i64 7),.lit (.string ByteArray.empty),.lit (.int .i64 2),.lit (.int .i64 3),.lit (.int .i64 0),.lit (.int .i64 0)],.agg [.lit (.int .i64 13),.lit (.string ByteArray.empty),.lit (.int .i64 0),.lit (.int .i64 0),.lit (.int .i64 0),.lit (.int .i64 0)]],.sl true 2 [.agg [.lit (.int .i64 0),.lit (.int .i64 3)]],.sl true 2 [.agg [.lit (.int .i64 0),.lit (.int .i64 3)]],.sl true 3 [.agg [.lit (.string ⟨#[105,110,116]⟩),.sl true 1 [.lit (.int .i64 3)],.sl true 1 []],.agg [.lit (.string ⟨#[105,110,116]⟩),.sl true 1 [.lit (.int .i64 3)],.sl true 1 []]]])
   |_=>none
  ok:=by
   intro args p r hc hp
   split at hc
   ·cases hc;exact ex_pc
   ·cases hc
  fk:=fk51
theorem con51_f:con51.f=51:=rfl
theorem con51_c:con51.c []=some (True,.agg [.lit (.int .i64 4),.lit (.int .i64 3),.sl true 6 [.agg [.lit (.int .i64 1),.lit (.string ByteArray.empty),.lit (.int .i64 1),.lit (.int .i64 3),.lit (.int .i64 0),.lit (.int .i64 0)],.agg [.lit (.int .i64 10),.lit (.string ByteArray.empty),.lit (.int .i64 2),.lit (.int .i64 0),.lit (.int .i64 1),.lit (.int .i64 1)],.agg [.lit (.int .i64 6),.lit (.string ByteArray.empty),.lit (.int .i64 3),.lit (.int .i64 2),.lit (.int .i64 0),.lit (.int .i64 0)],.agg [.lit (.int .i64 5),.lit (.string ⟨#[110,101,103]⟩),.lit (.int .i64 3),.lit (.int .i64 3),.lit (.int .i64 0),.lit (.int .i64 0)],.agg [.lit (.int .i64 7),.lit (.string ByteArray.empty),.lit (.int .i64 2),.lit (.int .i64 3),.lit (.int .i64 0),.lit (.int .i64 0)],.agg [.lit (.int .i64 13),.lit (.string ByteArray.empty),.lit (.int .i64 0),.lit (.int .i64 0),.lit (.int .i64 0),.lit (.int .i64 0)]],.sl true 2 [.agg [.lit (.int .i64 0),.lit (.int .i64 3)]],.sl true 2 [.agg [.lit (.int .i64 0),.lit (.int .i64 3)]],.sl true 3 [.agg [.lit (.string ⟨#[105,110,116]⟩),.sl true 1 [.lit (.int .i64 3)],.sl true 1 []],.agg [.lit (.string ⟨#[105,110,116]⟩),.sl true 1 [.lit (.int .i64 3)],.sl true 1 []]]]):=rfl
theorem ex_bc:bcOf (.agg [.lit (.int .i64 4),.lit (.int .i64 3),.sl true 6 [.agg [.lit (.int .i64 1),.lit (.string ByteArray.empty),.lit (.int .i64 1),.lit (.int .i64 3),.lit (.int .i64 0),.lit (.int .i64 0)],.agg [.lit (.int .i64 10),.lit (.string ByteArray.empty),.lit (.int .i64 2),.lit (.int .i64 0),.lit (.int .i64 1),.lit (.int .i64 1)],.agg [.lit (.int .i64 6),.lit (.string ByteArray.empty),.lit (.int .i64 3),.lit (.int .i64 2),.lit (.int .i64 0),.lit (.int .i64 0)],.agg [.lit (.int .i64 5),.lit (.string ⟨#[110,101,103]⟩),.lit (.int .i64 3),.lit (.int .i64 3),.lit (.int .i64 0),.lit (.int .i64 0)],.agg [.lit (.int .i64 7),.lit (.string ByteArray.empty),.lit (.int .i64 2),.lit (.int .i64 3),.lit (.int .i64 0),.lit (.int .i64 0)],.agg [.lit (.int .i64 13),.lit (.string ByteArray.empty),.lit (.int .i64 0),.lit (.int .i64 0),.lit (.int .i64 0),.lit (.int .i64 0)]],.sl true 2 [.agg [.lit (.int .i64 0),.lit (.int .i64 3)]],.sl true 2 [.agg [.lit (.int .i64 0),.lit (.int .i64 3)]],.sl true 3 [.agg [.lit (.string ⟨#[105,110,116]⟩),.sl true 1 [.lit (.int .i64 3)],.sl true 1 []],.agg [.lit (.string ⟨#[105,110,116]⟩),.sl true 1 [.lit (.int .i64 3)],.sl true 1 []]]])=some exM:=by rfl
theorem ex_in:arrsOf (.sl true 3 [.agg [.lit (.string ⟨#[105,110,116]⟩),.sl true 1 [.lit (.int .i64 3)],.sl true 1 [.lit (.int .i64 5),.lit (.int .i64 6),.lit (.int .i64 7)]]])=some exI:=by rfl
attribute [go_sem] con51_f con51_c
noncomputable def N3:Env:=envJ (P:=Try.prog) jkR zer (fun _=>false) (fun _=>false) [con51,con23,con24,con52] []
theorem N3_ok:EnvOk Try.prog N3:=envJOk zer_ok
theorem ex_ok:RunOk exM exI:=by
  refine ⟨⟨⟨by decide,by decide,by decide,by decide,fun t ht=>?_⟩,by decide,by decide⟩,by decide,fun a ha=>?_⟩
  ·have:t=exT:=by simpa [exM] using ht
   subst this;exact ⟨by decide,by decide⟩
  ·have:a=⟨sInt,[3],[5,6,7]⟩:=by simpa [exI] using ha
   subst this;exact ⟨by decide,by decide⟩
theorem ex_rv:runV exM (runE exM exI)= .tup [.agg [.sl false 3 [.agg [.lit (.string sInt),.sl false 1 (ints .i64 [3]),.sl false 1 (ints .i64 [-5, -6, -7])]],.lit (.int .i64 3),.lit (.int .i64 3),.lit (.int .i64 3),.lit (.int .i64 3),.sl false 1 (ints .i64 [])],.lit (.int .i64 0)]:=by
  rw [ex_run]
  show AV.tup [outV (resL exM exS.arena) _ _ _ _ _,_]=_
  rw [ex_res];rfl
theorem ex_sv:stepsV (runE exM exI)= .tup [.lit (.int .i64 14),.lit (.int .i64 0)]:=by
  rw [ex_run];rfl
set_option maxHeartbeats 8000000 in
theorem awakeM_pc:PC Try.prog 21 [] (.lit (.bool true)):=by
  have k1:slK .i64 (.sl true 1 [.lit (.int .i64 (-5)),.lit (.int .i64 (-6)),.lit (.int .i64 (-7))])=some [-5, -6, -7]:=rfl
  have k2:decide (([-5, -6, -7]:List Int)=[-5, -6, -7])=true:=by decide
  refine pcR N3_ok (kp21) Try.func21 [.tmp 0] (h:=fun KF=>?_)
  unfold N3
  repeat' (first
   |(with_reducible first|refine nx ?_|refine t_seq fun K=>?_|refine t_br (fun hc=>?_) fun hc=>?_|refine t_bx ?_|apply And.intro|intro vr)
   |((with_reducible first|refine ny ?_|refine t_dwh (h:=fun K KL=>?_));intros;simp only [go_sem,kp21,geff,ex_bc,ex_in,ex_rv,ex_sv,slK_sl,k1,k2,yes]))
  all_goals try exact ex_ok
  all_goals try exact nd
  all_goals (refine nl ?_;simp only [go_sem])
  exact LeA.refl _
noncomputable def con21:PCon Try.prog where
  f:=21
  c:=fun
   |[]=>some (True,.lit (.bool true))
   |_=>none
  ok:=by
   intro args p r hc hp
   split at hc
   ·cases hc;exact awakeM_pc
   ·cases hc
  fk:=fk21
theorem con21_f:con21.f=21:=rfl
theorem con21_c:con21.c []=some (True,.lit (.bool true)):=rfl
attribute [go_sem] con21_f con21_c
theorem runE_ne {B:Prg} {ins:List Arr} {e:Int} (h:runE B ins= .inl e):e≠0:=by
  unfold runE at h
  split at h
  ·rename_i e' he
   cases h
   exact start_ne he
  ·split at h
   ·cases h;decide
   ·split at h
    ·cases h;decide
    ·cases h
noncomputable def N4:Env:=envJ (P:=Try.prog) jkR zer (fun _=>false) (fun _=>false) [con21,con22,con23,con24,con25] []
theorem N4_ok:EnvOk Try.prog N4:=envJOk zer_ok
theorem smM_inv {B:Prg} {ins:List Arr} (h:smM B ins=true):smallS B=true∧(∀ a∈ins,fewA a 100=true)∧ins.length≤4:=by
  simp only [smM,Bool.and_eq_true,List.all_eq_true,decide_eq_true_eq] at h
  obtain ⟨⟨⟨⟨h1,h2⟩,h3⟩,h4⟩,h5⟩:=h
  refine ⟨?_,h1,by omega⟩
  unfold smallS
  rw [h2,decide_eq_true h3,decide_eq_true h4];rfl
theorem few_ok {a:Arr} {n:Int} (hn:n≤1000000) (h:fewA a n=true):okA a:=by
  simp only [fewA,Bool.and_eq_true,decide_eq_true_eq] at h
  exact ⟨by omega,by omega⟩
theorem runOk_of {B:Prg} {ins:List Arr} (h:smM B ins=true):RunOk B ins:=by
  obtain ⟨h1,h2,h3⟩:=smM_inv h
  obtain ⟨hO,hi,hu,_⟩:=small_inv h1
  exact ⟨⟨hO,by omega,by omega⟩,by omega,fun a ha=>few_ok (by omega) (h2 a ha)⟩
theorem simple_viol (x:Ins) (s:St):(simpleS x s).viol.length≤s.viol.length+1:=by
  have h0:s.viol.length≤s.viol.length+1:=Nat.le_succ _
  unfold simpleS
  by_cases c:x.code=1
  ·rw [if_pos c];exact h0
  rw [if_neg c];clear c
  by_cases c:x.code=2
  ·rw [if_pos c];split
   ·exact h0
   ·exact h0
  rw [if_neg c];clear c
  by_cases c:x.code=3
  ·rw [if_pos c];exact h0
  rw [if_neg c];clear c
  by_cases c:x.code=4
  ·rw [if_pos c];exact h0
  rw [if_neg c];clear c
  by_cases c:x.code=5
  ·rw [if_pos c];split
   ·exact h0
   ·exact h0
  rw [if_neg c];clear c
  by_cases c:x.code=6
  ·rw [if_pos c];split
   ·exact h0
   ·exact h0
  rw [if_neg c];clear c
  by_cases c:x.code=7
  ·rw [if_pos c];split
   ·exact h0
   ·exact h0
  rw [if_neg c];clear c
  by_cases c:x.code=14
  ·rw [if_pos c];exact h0
  rw [if_neg c];clear c
  by_cases c:x.code=15
  ·rw [if_pos c];exact h0
  rw [if_neg c];clear c
  by_cases c:x.code=8
  ·rw [if_pos c];exact h0
  rw [if_neg c];clear c
  by_cases c:x.code=9
  ·rw [if_pos c];split
   ·exact noteS_length _ _
   ·exact h0
  rw [if_neg c];exact h0
theorem end_viol {B:Prg} {ar:List Int} {pk:Int}:((endM B ar pk).viol.length:Int)+(endM B ar pk).left≤200001:=by
  have hr:Runs B (mtS B) [] (.blk 0 B.ops.length) (s0 B ar pk) (endM B ar pk):=endR_runs
  refine hr.inv (P:=fun s=>(s.viol.length:Int)+s.left≤200001) fun f=>exec_inv (B:=B) (mt:=mtS B) (seen:=[]) (P:=fun s=>(s.viol.length:Int)+s.left≤200001) (fun i s h _=>?_) (fun i s h _=>?_) (fun i n s h _=>?_) f _ _ (by simp [s0])
  ·have e1:(tick (Bm.look [] i s)).left=s.left - 1:=rfl
   have e2:(tick (Bm.look [] i s)).viol=s.viol:=rfl
   have e3:=simple_viol (B.op i) (tick (Bm.look [] i s))
   have e4:(simpleS (B.op i) (tick (Bm.look [] i s))).left=s.left - 1:=by rw [simple_left,e1]
   rw [e2] at e3
   unfold step1
   split
   ·show ((simpleS (B.op i) (tick (Bm.look [] i s))).viol.length:Int)+(simpleS (B.op i) (tick (Bm.look [] i s))).left≤200001
    omega
   ·omega
  ·show (s.viol.length:Int)+(s.left - 1)≤200001
   omega
  ·show (s.viol.length:Int)+(s.left - 1)≤200001
   omega
theorem outOk_of {B:Prg} {ins:List Arr} {s:St} (h:runE B ins= .inr s) (ho:B.outs.length≤1000000) (ha:B.arena≤1000000):OutOk (resL B s.arena) s.viol:=by
  obtain ⟨ar,pk,h1,h2,h3,h4⟩:=runE_inv h
  obtain ⟨hv,_,_,_,hfl⟩:=start_inv h1
  have hl:(s.arena.length:Int)=B.arena:=by rw [←h2];exact end_len hfl
  refine ⟨by simp [resL];exact ho,fun a hm=>?_,?_⟩
  ·simp only [resL,List.mem_map,List.mem_range] at hm
   obtain ⟨i,hi,rfl⟩:=hm
   have hd:=(out1_of hv hi).d
   refine ⟨by show (B.types.getD (B.ins.length+i) nilA).d.length≤_;omega,?_⟩
   show (((s.arena.drop _).take _).map _).length≤_
   rw [List.length_map,List.length_take,List.length_drop];omega
  ·have:=end_viol (B:=B) (ar:=ar) (pk:=pk)
   rw [h2] at this
   omega
theorem shv_inputs {x:AV} (h:ShV Try.prog 43 x):∃ l:List Arr,x= .sl false 3 (arrs l)∧l.length≤maxLen:=by
  obtain ⟨l,h1,h2,_⟩:=shv_arrs h
  exact ⟨l,h1,h2⟩
theorem longP_bc {B:Prg} {k:Int}:bcOf (.agg [.lit (.int .i64 B.regs),.lit (.int .i64 (B.arena+k)),.sl false 6 (opsV B.ops),.sl false 2 (plsV B.ins),.sl false 2 (plsV B.outs),.sl false 3 (arrs B.types)])=some (longP B k):=bcOf_mk
set_option maxHeartbeats 8000000 in
theorem law8 {B:Prg} {ins:List Arr} {k:Int} (hA:ArgM B ins) (hk:0≤k∧k<256):PC Try.prog 8 [bcV B,.sl false 3 (arrs ins),.lit (.int .u8 k)] (.lit (.bool true)):=by
  simp only [bcV]
  cases hs:smM B ins with
  |false=>
   refine pcR N4_ok (kp8) Try.func8 [.tmp 6] (h:=fun KF=>?_)
   unfold N4
   repeat' (first
    |(with_reducible first|refine nx ?_|refine t_seq fun K=>?_|refine t_br (fun hc=>?_) fun hc=>?_|refine t_bx ?_|apply And.intro|intro vr)
    |((with_reducible first|refine ny ?_|refine t_dwh (h:=fun K KL=>?_));intros;simp only [go_sem,kp8,geff,bcOf_B,hs,Bool.not_true,Bool.not_false,yes]))
   all_goals try exact hA
   all_goals try exact nd
   all_goals (refine nl ?_;simp only [go_sem])
   exact LeA.refl _
  |true=>
   have hR:=runOk_of hs
   obtain ⟨h1,h2,h3⟩:=smM_inv hs
   obtain ⟨hO,hi,hu,hl,hr,ha⟩:=small_inv h1
   have hR2:RunOk (longP B k) ins:=⟨⟨⟨hO.ops,hO.ins,hO.outs,hO.types,hO.dims⟩,hR.b.2⟩,hR.i⟩
   have har:=hA.b.arena
   cases hE:runE B ins with
   |inl e=>
    have hv:runV B (runE B ins)= .tup [.agg [.sl false 3 (arrs []),.lit (.int .i64 0),.lit (.int .i64 0),.lit (.int .i64 0),.lit (.int .i64 0),.sl false 1 (ints .i64 [])],.lit (.int .i64 e)]:=by rw [hE];rfl
    have hne:(e !=0)=true:=by
      have:e≠0:=runE_ne hE
      simpa using this
    refine pcR N4_ok (kp8) Try.func8 [.tmp 6] (h:=fun KF=>?_)
    unfold N4
    repeat' (first
     |(with_reducible first|refine nx ?_|refine t_seq fun K=>?_|refine t_br (fun hc=>?_) fun hc=>?_|refine t_bx ?_|apply And.intro|intro vr)
     |((with_reducible first|refine ny ?_|refine t_dwh (h:=fun K KL=>?_));intros;simp only [go_sem,kp8,geff,bcOf_B,hs,hv,hne,Bool.not_true,yes]))
    all_goals try exact hA
    all_goals try exact hR
    all_goals try exact nd
    all_goals (refine nl ?_;simp only [go_sem])
    exact LeA.refl _
   |inr s=>
    have hv:runV B (runE B ins)= .tup [.agg [.sl false 3 (arrs (resL B s.arena)),.lit (.int .i64 s.reads),.lit (.int .i64 s.writes),.lit (.int .i64 s.ops),.lit (.int .i64 s.peak),.sl false 1 (ints .i64 s.viol)],.lit (.int .i64 0)]:=by rw [hE];rfl
    have hv2:runV (longP B k) (runE (longP B k) ins)= .tup [.agg [.sl false 3 (arrs (resL B s.arena)),.lit (.int .i64 s.reads),.lit (.int .i64 s.writes),.lit (.int .i64 s.ops),.lit (.int .i64 s.peak),.sl false 1 (ints .i64 s.viol)],.lit (.int .i64 0)]:=by
      rw [run_long hE hk.1 (by omega)];rfl
    have hok:=outOk_of hE (by omega) (by omega)
    have hex:∃ l rd wr op pk V,AV.agg [.sl false 3 (arrs (resL B s.arena)),.lit (.int .i64 s.reads),.lit (.int .i64 s.writes),.lit (.int .i64 s.ops),.lit (.int .i64 s.peak),.sl false 1 (ints .i64 s.viol)]=outV l rd wr op pk V∧OutOk l V:=⟨_,_,_,_,_,_,rfl,hok⟩
    refine pcR N4_ok (kp8) Try.func8 [.tmp 6] (h:=fun KF=>?_)
    unfold N4
    repeat' (first
     |(with_reducible first|refine nx ?_|refine t_seq fun K=>?_|refine t_br (fun hc=>?_) fun hc=>?_|refine t_bx ?_|apply And.intro|intro vr)
     |((with_reducible first|refine ny ?_|refine t_dwh (h:=fun K KL=>?_));intros;simp only [go_sem,kp8,geff,bcOf_B,hs,hv,hv2,longP_bc,wr8 k (by omega),Bool.not_true,bne_self_eq_false,beq_self_eq_true,Bool.and_self,yes]))
    all_goals try exact hA
    all_goals try exact hR
    all_goals try exact hR2
    all_goals try exact hex
    all_goals try exact isI8'
    all_goals try exact nd
    all_goals (refine nl ?_;simp only [go_sem])
    exact LeA.of_eq rfl
theorem arenaM_law:∀ xs,ShL Try.prog Try.f8.params.toList xs→PC Try.prog 8 xs (.lit (.bool true))
  |[_,_,_],h=>by
   obtain ⟨B,rfl,hB⟩:=shv_bc h.1
   obtain ⟨ins,rfl,hi⟩:=shv_inputs h.2.1
   obtain ⟨k,rfl,wk⟩:=shv_int u5 h.2.2.1
   exact law8 ⟨hB,hi⟩ (wf_u8 wk)
  |[],h=>h.elim
  |[_],h=>h.2.elim
  |[_,_],h=>h.2.2.elim
  |_::_::_::_::_,h=>h.2.2.2.elim
end Go.Proofs.Ytnlimcijgpaegaa.Mm

namespace Go.Proofs.Ytnlimcijgpaegaa.Mm
open Go.Proofs.Ytnlimcijgpaegaa
open Go Go.Fw Bm
set_option maxRecDepth 20000
def insK (r i k:Int):Ins:=⟨1,ByteArray.empty,i.tmod r,k,0,0⟩
def setI (r:Int):Nat→List Int→List Ins
  |_,[]=>[]
  |i,k::l=>insK r i k::setI r (i+1) l
theorem setI_length {r:Int}:∀ {i:Nat} {l:List Int},(setI r i l).length=l.length
  |_,[]=>rfl
  |i,k::l=>by simp only [setI,List.length_cons,setI_length]
theorem setI_app {r:Int}:∀ {i:Nat} {l m:List Int},setI r i (l++m)=setI r i l++setI r (i+l.length) m
  |i,[],m=>by simp [setI]
  |i,k::l,m=>by
   simp only [List.cons_append,setI,setI_app,List.length_cons]
   rw [show i+1+l.length=i+(l.length+1) by omega]
theorem setI_snoc {r:Int} {l:List Int} {i:Nat} (h:i<l.length):setI r 0 (l.take i)++[insK r i (l.getD i 0)]=setI r 0 (l.take (i+1)):=by
  have e:l.take (i+1)=l.take i++[l.getD i 0]:=by
    rw [List.take_add_one,List.getElem?_eq_getElem h,List.getD_eq_getElem?_getD,List.getElem?_eq_getElem h];rfl
  have hl:(l.take i).length=i:=by rw [List.length_take];omega
  rw [e,setI_app,hl,Nat.zero_add];rfl
theorem setI_ok {r:Int} (hr:0<r):∀ {i:Nat} {l:List Int},(∀ k∈l, -32768≤k∧k<32768)→∀ x∈setI r i l,x.code=1∧rightS x r=true
  |_,[],_,x,h=>by cases h
  |i,k::l,hk,x,h=>by
   simp only [setI,List.mem_cons] at h
   rcases h with rfl|h
   ·refine ⟨rfl,?_⟩
    have h1:=hk k (by simp)
    have t0:=Int.tmod_nonneg (a:=(i:Int)) r (Int.natCast_nonneg i)
    have t1:=Int.tmod_lt_of_pos (i:Int) hr
    have f:formS (insK r i k)=some [true,false]:=rfl
    have mc:maxC=1099511627776:=rfl
    unfold rightS
    rw [f]
    have e1:oprOk [true,false] r 0 (insK r i k).a=true:=by
      show (if 0≥2 then _ else if true=true then decide (0≤(i:Int).tmod r∧(i:Int).tmod r<r) else true)=true
      rw [if_neg (by omega),if_pos rfl];exact decide_eq_true ⟨t0,t1⟩
    have e2:oprOk [true,false] r 1 (insK r i k).b=true:=rfl
    have e3:oprOk [true,false] r 2 (insK r i k).c=true:=rfl
    have e4:oprOk [true,false] r 3 (insK r i k).d=true:=rfl
    have e5:restOk (insK r i k)=true:=by
      show decide (-maxC≤k∧k≤maxC)=true
      exact decide_eq_true (by omega)
    simp only [e1,e2,e3,e4,e5];rfl
   ·exact setI_ok hr (fun k h=>hk k (by simp [h])) x h
theorem opsV_app (l m:List Ins):opsV (l++m)=opsV l++opsV m:=by simp [opsV]
theorem opsV_insK {r i k:Int}:opsV [insK r i k]=[.agg [.lit (.int .i64 1),.lit (.string ByteArray.empty),.lit (.int .i64 (i.tmod r)),.lit (.int .i64 k),.lit (.int .i64 0),.lit (.int .i64 0)]]:=rfl
theorem appP_bc {B:Prg} {m:List Ins}:bcOf (.agg [.lit (.int .i64 B.regs),.lit (.int .i64 B.arena),.sl false 6 (opsV (B.ops++m)),.sl false 2 (plsV B.ins),.sl false 2 (plsV B.outs),.sl false 3 (arrs B.types)])=some (appP B m):=bcOf_mk
theorem isI16' {m:Int}:isIntV (.lit (.int .i16 m))=true:=rfl
theorem wr16 (m:Int) (h: -32768≤m∧m<32768):IntKind.i64.wrap m=m:=by rw [IntKind.wrap_i64];omega
def moreV (B:Prg) (l:List Int):Nat→List AV
  |0=>opsV B.ops
  |i+1=>opsV (B.ops++setI B.regs 0 (l.take (i+1)))
theorem moreV_eq {B:Prg} {l:List Int}:∀ (i:Nat),moreV B l i=opsV (B.ops++setI B.regs 0 (l.take i))
  |0=>by simp [moreV,setI]
  |_+1=>rfl
structure SetOk (l:List Int):Prop where
  k:∀ k∈l, -32768≤k∧k<32768
  len:l.length≤maxLen
set_option maxHeartbeats 8000000 in
theorem law7 {B:Prg} {ins:List Arr} {l:List Int} (hA:ArgM B ins) (hl:SetOk l):PC Try.prog 7 [bcV B,.sl false 3 (arrs ins),.sl false 1 (ints .i16 l)] (.lit (.bool true)):=by
  simp only [bcV]
  have hll:=hl.len
  unfold maxLen at hll
  cases hs:smM B ins with
  |false=>
   refine pcR N4_ok (kp7) Try.func7 [.tmp 6] (h:=fun KF=>?_)
   unfold N4
   repeat' (first
    |(with_reducible first|refine nx ?_|refine t_seq fun K=>?_|refine t_br (fun hc=>?_) fun hc=>?_|refine t_bx ?_|apply And.intro|intro vr)|exact kpd
    |((with_reducible first|refine ny ?_|refine t_kLF ?_ ?_|refine t_drawE (id:=12) (fun i=>i==0) [(0,1),(2,1),(3,1),(4,1),(5,1),(6,1),(7,1),(8,1),(9,1),(1,2),(10,0),(11,1),(12,0)] (by kernel_rfl) fun K=>?_|refine t_dwh (h:=fun K KL=>?_));intros;simp only [go_sem,kp7,geff,bcOf_B,hs,Bool.not_true,Bool.not_false,yes]))
   all_goals try exact hA
   all_goals try exact nd
   all_goals (refine nl ?_;simp only [go_sem])
   exact LeA.refl _
  |true=>
   have hR:=runOk_of hs
   obtain ⟨h1,h2,h3⟩:=smM_inv hs
   obtain ⟨hO,hi,hu,hp,hr,ha⟩:=small_inv h1
   by_cases h5:(5:Int)<l.length
   ·have g5:decide ((5:Int)<(l.length:Int))=true:=decide_eq_true h5
    refine pcR N4_ok (kp7) Try.func7 [.tmp 6] (h:=fun KF=>?_)
    unfold N4
    repeat' (first
     |(with_reducible first|refine nx ?_|refine t_seq fun K=>?_|refine t_br (fun hc=>?_) fun hc=>?_|refine t_bx ?_|apply And.intro|intro vr)|exact kpd
     |((with_reducible first|refine ny ?_|refine t_kLF ?_ ?_|refine t_drawE (id:=12) (fun i=>i==0) [(0,1),(2,1),(3,1),(4,1),(5,1),(6,1),(7,1),(8,1),(9,1),(1,2),(10,0),(11,1),(12,0)] (by kernel_rfl) fun K=>?_|refine t_dwh (h:=fun K KL=>?_));intros;simp only [go_sem,kp7,geff,bcOf_B,hs,g5,Bool.not_true,Bool.not_false,yes]))
    all_goals try exact hA
    all_goals try exact nd
    all_goals (refine nl ?_;simp only [go_sem])
    exact LeA.refl _
   have g5:decide ((5:Int)<(l.length:Int))=false:=decide_eq_false h5
   by_cases h0:B.regs=0
   ·have g0:(B.regs==0)=true:=by simpa using h0
    refine pcR N4_ok (kp7) Try.func7 [.tmp 6] (h:=fun KF=>?_)
    unfold N4
    repeat' (first
     |(with_reducible first|refine nx ?_|refine t_seq fun K=>?_|refine t_br (fun hc=>?_) fun hc=>?_|refine t_bx ?_|apply And.intro|intro vr)|exact kpd
     |((with_reducible first|refine ny ?_|refine t_kLF ?_ ?_|refine t_drawE (id:=12) (fun i=>i==0) [(0,1),(2,1),(3,1),(4,1),(5,1),(6,1),(7,1),(8,1),(9,1),(1,2),(10,0),(11,1),(12,0)] (by kernel_rfl) fun K=>?_|refine t_dwh (h:=fun K KL=>?_));intros;simp only [go_sem,kp7,geff,bcOf_B,hs,g5,g0,Bool.not_true,Bool.not_false,yes]))
    all_goals try exact hA
    all_goals try exact nd
    all_goals (refine nl ?_;simp only [go_sem])
    exact LeA.refl _
   have g0:(B.regs==0)=false:=by simpa using h0
   cases hE:runE B ins with
   |inl e=>
    have hv:runV B (runE B ins)= .tup [.agg [.sl false 3 (arrs []),.lit (.int .i64 0),.lit (.int .i64 0),.lit (.int .i64 0),.lit (.int .i64 0),.sl false 1 (ints .i64 [])],.lit (.int .i64 e)]:=by rw [hE];rfl
    have hv2:stepsV (runE B ins)= .tup [.lit (.int .i64 0),.lit (.int .i64 e)]:=by rw [hE];rfl
    have hne:(e !=0)=true:=by
      have:e≠0:=runE_ne hE
      simpa using this
    refine pcR N4_ok (kp7) Try.func7 [.tmp 6] (h:=fun KF=>?_)
    unfold N4
    repeat' (first
     |(with_reducible first|refine nx ?_|refine t_seq fun K=>?_|refine t_br (fun hc=>?_) fun hc=>?_|refine t_bx ?_|apply And.intro|intro vr)|exact kpd
     |((with_reducible first|refine ny ?_|refine t_kLF ?_ ?_|refine t_drawE (id:=12) (fun i=>i==0) [(0,1),(2,1),(3,1),(4,1),(5,1),(6,1),(7,1),(8,1),(9,1),(1,2),(10,0),(11,1),(12,0)] (by kernel_rfl) fun K=>?_|refine t_dwh (h:=fun K KL=>?_));intros;simp only [go_sem,kp7,geff,bcOf_B,hs,g5,g0,hv,hv2,hne,Bool.not_true,yes]))
    all_goals try exact hA
    all_goals try exact hR
    all_goals try exact nd
    refine t_loopF (ι:={q:Nat×Nat // q.1≤l.length}) (fun i=>[(54,.lit (.int .i64 i.1.1))]) (fun i=>[.box 45 [.lit (.int .i64 B.regs),.lit (.int .i64 B.arena),.sl false 6 (opsV B.ops),.sl false 2 (plsV B.ins),.sl false 2 (plsV B.outs),.sl false 3 (arrs B.types)],.box 67 [.sl false 3 (arrs []),.lit (.int .i64 0),.lit (.int .i64 0),.lit (.int .i64 0),.lit (.int .i64 0),.sl false 1 (ints .i64 [])],.box 45 [.lit (.int .i64 B.regs),.lit (.int .i64 B.arena),.arr 3 i.1.2,.sl false 2 (plsV B.ins),.sl false 2 (plsV B.outs),.sl false 3 (arrs B.types)],.arr 73 6 (moreV B l i.1.1) i.1.2 false]) (fun i=>l.length - i.1.1) ⟨(0,0),Nat.zero_le _⟩ ?_ ?_
    ·exact lf
    rintro ⟨⟨i,v⟩,hi⟩ K0
    simp only at hi
    have hln:(moreV B l i).length=B.ops.length+i:=by rw [moreV_eq];rw [opsV_length,List.length_append,setI_length,List.length_take];omega
    rcases Nat.lt_or_ge i l.length with hc|hc
    ·have g3:decide ((i:Int)<(l.length:Int))=true:=decide_eq_true (by omega)
     have hta:moreV B l i++[.agg [.lit (.int .i64 1),.lit (.string ByteArray.empty),.lit (.int .i64 ((i:Int).tmod B.regs)),.lit (.int .i64 (l.getD i 0)),.lit (.int .i64 0),.lit (.int .i64 0)]]=moreV B l (i+1):=by
       rw [moreV_eq,moreV_eq,←setI_snoc hc,←List.append_assoc,opsV_app (B.ops++_),opsV_insK]
     have hk:=hl.k _ (getD_mem 0 hc)
     have hg:(ints .i16 l).getD i (jkR 71)= .lit (.int .i16 (l.getD i 0)):=by simp [ints,List.getD,hc]
     generalize hx:l.getD i 0=x at hta hk hg
     repeat' (first
      |(with_reducible first|refine nx ?_|refine t_seq fun K=>?_|refine t_br (fun hc=>?_) fun hc=>?_|refine t_bx ?_|apply And.intro|intro vr)|exact kpd
      |((with_reducible first|refine ny ?_|refine t_kLF ?_ ?_|refine t_drawE (id:=12) (fun i=>i==0) [(0,1),(2,1),(3,1),(4,1),(5,1),(6,1),(7,1),(8,1),(9,1),(1,2),(10,0),(11,1),(12,0)] (by kernel_rfl) fun K=>?_|refine t_dwh (h:=fun K KL=>?_));intros;simp only [go_sem,kp7,geff,g3,hg,hln,hta,wr16 x hk,yes]))
     all_goals try exact isI16'
     all_goals try exact nd
     refine ⟨⟨(i+1,v+1),by simp only;omega⟩,by first|(simp only;omega)|omega,?_⟩
     try simp only [updL_nil,updL_cons,delF_top,delF_upd,Nat.reduceEqDiff,reduceIte]
     refine le_backM (by first|rfl|(simp only [go_sem];try rfl)) (by first|exact Nat.zero_le _|simp) (by first|rfl|simp [lowO,low_lit,low_sl,low_ref,low_arr,low_sub,low_mp]) ?_ ?_
     ·repeat' (first|exact low_top|(refine low_upd rfl ?_))
     repeat' (first|exact leF_top _|exact (fun _=>LeR.refl _)|(with_reducible refine leF_sl ?_ ?_)|(refine leF_upd ?_ ?_))
     all_goals (first|exact LeR.top _|exact LeR.refl _|(refine LeR.of_eq ?_;(try simp only [go_sem]);try rfl)|((try simp only [go_sem]);try rfl))
    ·have g3:decide ((i:Int)<(l.length:Int))=false:=decide_eq_false (by omega)
     repeat' (first
      |(with_reducible first|refine nx ?_|refine t_seq fun K=>?_|refine t_br (fun hc=>?_) fun hc=>?_|refine t_bx ?_|apply And.intro|intro vr)|exact kpd
      |((with_reducible first|refine ny ?_|refine t_kLF ?_ ?_|refine t_drawE (id:=12) (fun i=>i==0) [(0,1),(2,1),(3,1),(4,1),(5,1),(6,1),(7,1),(8,1),(9,1),(1,2),(10,0),(11,1),(12,0)] (by kernel_rfl) fun K=>?_|refine t_dwh (h:=fun K KL=>?_));intros;simp only [go_sem,kp7,geff,g3,hne,beq_self_eq_true,yes]))
     all_goals try exact nd
     all_goals (refine nl ?_;simp only [go_sem])
     exact LeA.refl _
   |inr s=>
    have hv:runV B (runE B ins)= .tup [.agg [.sl false 3 (arrs (resL B s.arena)),.lit (.int .i64 s.reads),.lit (.int .i64 s.writes),.lit (.int .i64 s.ops),.lit (.int .i64 s.peak),.sl false 1 (ints .i64 s.viol)],.lit (.int .i64 0)]:=by rw [hE];rfl
    have hv2:stepsV (runE B ins)= .tup [.lit (.int .i64 (200001 - s.left)),.lit (.int .i64 0)]:=by rw [hE];rfl
    have hok:=outOk_of hE (by omega) (by omega)
    have hex:∃ l rd wr op pk V,AV.agg [.sl false 3 (arrs (resL B s.arena)),.lit (.int .i64 s.reads),.lit (.int .i64 s.writes),.lit (.int .i64 s.ops),.lit (.int .i64 s.peak),.sl false 1 (ints .i64 s.viol)]=outV l rd wr op pk V∧OutOk l V:=⟨_,_,_,_,_,_,rfl,hok⟩
    obtain ⟨ar,pk,q1,q2,q3,q4⟩:=runE_inv hE
    obtain ⟨hvd,_⟩:=start_inv q1
    have hlf:s.left≤200001:=by
      have:=end_viol (B:=B) (ar:=ar) (pk:=pk)
      rw [q2] at this
      omega
    have hrg:0<B.regs:=by
      have:=(valid_inv hvd).1
      omega
    have hm2:∀ x∈setI B.regs 0 l,x.code=1∧rightS x B.regs=true:=setI_ok hrg hl.k
    have hml:(setI B.regs 0 l).length=l.length:=setI_length
    have hR2:RunOk (appP B (setI B.regs 0 l)) ins:=⟨⟨⟨by show (B.ops++_).length≤_;rw [List.length_append,hml];omega,hO.ins,hO.outs,hO.types,hO.dims⟩,hR.b.2⟩,hR.i⟩
    refine pcR N4_ok (kp7) Try.func7 [.tmp 6] (h:=fun KF=>?_)
    unfold N4
    repeat' (first
     |(with_reducible first|refine nx ?_|refine t_seq fun K=>?_|refine t_br (fun hc=>?_) fun hc=>?_|refine t_bx ?_|apply And.intro|intro vr)|exact kpd
     |((with_reducible first|refine ny ?_|refine t_kLF ?_ ?_|refine t_drawE (id:=12) (fun i=>i==0) [(0,1),(2,1),(3,1),(4,1),(5,1),(6,1),(7,1),(8,1),(9,1),(1,2),(10,0),(11,1),(12,0)] (by kernel_rfl) fun K=>?_|refine t_dwh (h:=fun K KL=>?_));intros;simp only [go_sem,kp7,geff,bcOf_B,hs,g5,g0,hv,hv2,bne_self_eq_false,Bool.not_true,yes]))
    all_goals try exact hA
    all_goals try exact hR
    all_goals try exact nd
    refine t_loopF (ι:={q:Nat×Nat // q.1≤l.length}) (fun i=>[(54,.lit (.int .i64 i.1.1))]) (fun i=>[.box 45 [.lit (.int .i64 B.regs),.lit (.int .i64 B.arena),.sl false 6 (opsV B.ops),.sl false 2 (plsV B.ins),.sl false 2 (plsV B.outs),.sl false 3 (arrs B.types)],.box 67 [.sl false 3 (arrs (resL B s.arena)),.lit (.int .i64 s.reads),.lit (.int .i64 s.writes),.lit (.int .i64 s.ops),.lit (.int .i64 s.peak),.sl false 1 (ints .i64 s.viol)],.box 45 [.lit (.int .i64 B.regs),.lit (.int .i64 B.arena),.arr 3 i.1.2,.sl false 2 (plsV B.ins),.sl false 2 (plsV B.outs),.sl false 3 (arrs B.types)],.arr 73 6 (moreV B l i.1.1) i.1.2 false]) (fun i=>l.length - i.1.1) ⟨(0,0),Nat.zero_le _⟩ ?_ ?_
    ·exact lf
    rintro ⟨⟨i,v⟩,hi⟩ K0
    simp only at hi
    have hln:(moreV B l i).length=B.ops.length+i:=by rw [moreV_eq];rw [opsV_length,List.length_append,setI_length,List.length_take];omega
    rcases Nat.lt_or_ge i l.length with hc|hc
    ·have g3:decide ((i:Int)<(l.length:Int))=true:=decide_eq_true (by omega)
     have hta:moreV B l i++[.agg [.lit (.int .i64 1),.lit (.string ByteArray.empty),.lit (.int .i64 ((i:Int).tmod B.regs)),.lit (.int .i64 (l.getD i 0)),.lit (.int .i64 0),.lit (.int .i64 0)]]=moreV B l (i+1):=by
       rw [moreV_eq,moreV_eq,←setI_snoc hc,←List.append_assoc,opsV_app (B.ops++_),opsV_insK]
     have hk:=hl.k _ (getD_mem 0 hc)
     have hg:(ints .i16 l).getD i (jkR 71)= .lit (.int .i16 (l.getD i 0)):=by simp [ints,List.getD,hc]
     generalize hx:l.getD i 0=x at hta hk hg
     repeat' (first
      |(with_reducible first|refine nx ?_|refine t_seq fun K=>?_|refine t_br (fun hc=>?_) fun hc=>?_|refine t_bx ?_|apply And.intro|intro vr)|exact kpd
      |((with_reducible first|refine ny ?_|refine t_kLF ?_ ?_|refine t_drawE (id:=12) (fun i=>i==0) [(0,1),(2,1),(3,1),(4,1),(5,1),(6,1),(7,1),(8,1),(9,1),(1,2),(10,0),(11,1),(12,0)] (by kernel_rfl) fun K=>?_|refine t_dwh (h:=fun K KL=>?_));intros;simp only [go_sem,kp7,geff,g3,hg,hln,hta,wr16 x hk,yes]))
     all_goals try exact isI16'
     all_goals try exact nd
     refine ⟨⟨(i+1,v+1),by simp only;omega⟩,by first|(simp only;omega)|omega,?_⟩
     try simp only [updL_nil,updL_cons,delF_top,delF_upd,Nat.reduceEqDiff,reduceIte]
     refine le_backM (by first|rfl|(simp only [go_sem];try rfl)) (by first|exact Nat.zero_le _|simp) (by first|rfl|simp [lowO,low_lit,low_sl,low_ref,low_arr,low_sub,low_mp]) ?_ ?_
     ·repeat' (first|exact low_top|(refine low_upd rfl ?_))
     repeat' (first|exact leF_top _|exact (fun _=>LeR.refl _)|(with_reducible refine leF_sl ?_ ?_)|(refine leF_upd ?_ ?_))
     all_goals (first|exact LeR.top _|exact LeR.refl _|(refine LeR.of_eq ?_;(try simp only [go_sem]);try rfl)|((try simp only [go_sem]);try rfl))
    ·have hil:i=l.length:=by omega
     subst hil
     have g3:decide ((l.length:Int)<(l.length:Int))=false:=decide_eq_false (by omega)
     by_cases hcap:200000<200001 - s.left+(l.length:Int)
     ·have g9:decide (200000<200001 - s.left+(l.length:Int))=true:=decide_eq_true hcap
      repeat' (first
       |(with_reducible first|refine nx ?_|refine t_seq fun K=>?_|refine t_br (fun hc=>?_) fun hc=>?_|refine t_bx ?_|apply And.intro|intro vr)|exact kpd
       |((with_reducible first|refine ny ?_|refine t_kLF ?_ ?_|refine t_drawE (id:=12) (fun i=>i==0) [(0,1),(2,1),(3,1),(4,1),(5,1),(6,1),(7,1),(8,1),(9,1),(1,2),(10,0),(11,1),(12,0)] (by kernel_rfl) fun K=>?_|refine t_dwh (h:=fun K KL=>?_));intros;simp only [go_sem,kp7,geff,g3,g9,bne_self_eq_false,beq_self_eq_true,yes]))
      all_goals try exact nd
      all_goals (refine nl ?_;simp only [go_sem])
      exact LeA.refl _
     ·have g9:decide (200000<200001 - s.left+(l.length:Int))=false:=decide_eq_false hcap
      have hE2:runE (appP B (setI B.regs 0 l)) ins= .inr (setsS (setI B.regs 0 l) s):=run_app hE hm2 (by omega) (by omega)
      obtain ⟨f1,f2,f3,f4,f5,f6,f7,f8,f9⟩:=sets_facts (setI B.regs 0 l) s
      have hv3:runV (appP B (setI B.regs 0 l)) (runE (appP B (setI B.regs 0 l)) ins)= .tup [.agg [.sl false 3 (arrs (resL B s.arena)),.lit (.int .i64 s.reads),.lit (.int .i64 s.writes),.lit (.int .i64 s.ops),.lit (.int .i64 s.peak),.sl false 1 (ints .i64 s.viol)],.lit (.int .i64 0)]:=by
        rw [hE2]
        simp only [runV,outV,f4,f5,f6,f7,f8,f9];rfl
      have hv4:stepsV (runE (appP B (setI B.regs 0 l)) ins)= .tup [.lit (.int .i64 (200001 - s.left+l.length)),.lit (.int .i64 0)]:=by
        rw [hE2]
        simp only [stepsV,f1,hml]
        rw [show 200001 - (s.left - (l.length:Int))=200001 - s.left+l.length by omega]
      have hmv:moreV B l l.length=opsV (B.ops++setI B.regs 0 l):=by rw [moreV_eq,List.take_length]
      repeat' (first
       |(with_reducible first|refine nx ?_|refine t_seq fun K=>?_|refine t_br (fun hc=>?_) fun hc=>?_|refine t_bx ?_|apply And.intro|intro vr)|exact kpd
       |((with_reducible first|refine ny ?_|refine t_kLF ?_ ?_|refine t_drawE (id:=12) (fun i=>i==0) [(0,1),(2,1),(3,1),(4,1),(5,1),(6,1),(7,1),(8,1),(9,1),(1,2),(10,0),(11,1),(12,0)] (by kernel_rfl) fun K=>?_|refine t_dwh (h:=fun K KL=>?_));intros;simp only [go_sem,kp7,geff,g3,g9,hmv,hv3,hv4,appP_bc,bne_self_eq_false,beq_self_eq_true,Bool.and_self,yes]))
      all_goals try exact hR2
      all_goals try exact hex
      all_goals try exact nd
      all_goals (refine nl ?_;simp only [go_sem])
      exact LeA.of_eq rfl
theorem parts_law:∀ xs,ShL Try.prog Try.f7.params.toList xs→PC Try.prog 7 xs (.lit (.bool true))
  |[_,_,_],h=>by
   obtain ⟨B,rfl,hB⟩:=shv_bc h.1
   obtain ⟨ins,rfl,hi⟩:=shv_inputs h.2.1
   obtain ⟨l,rfl,hl,hw⟩:=shv_ints (t:=64) (e:=71) (k:= .i16) (by kernel_rfl) (by kernel_rfl) (by kernel_rfl) h.2.2.1
   refine law7 ⟨hB,hi⟩ ⟨fun k hk=>?_,hl⟩
   have: -32768≤k∧k≤32767:=by simpa [Lit.wf,IntKind.min,IntKind.max,IntKind.signed,IntKind.bits] using hw k hk
   omega
  |[],h=>h.elim
  |[_],h=>h.2.elim
  |[_,_],h=>h.2.2.elim
  |_::_::_::_::_,h=>h.2.2.2.elim
end Go.Proofs.Ytnlimcijgpaegaa.Mm
