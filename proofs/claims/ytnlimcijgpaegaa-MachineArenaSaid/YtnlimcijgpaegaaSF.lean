import Derived.Test.YtnlimcijgpaegaaSE
import Derived.Test.YtnlimcijgpaegaaFwE
import Derived.Test.YtnlimcijgpaegaaSC

set_option linter.all false

namespace Go.Proofs.Ytnlimcijgpaegaa.Mm
open Go.Proofs.Ytnlimcijgpaegaa
open Go Go.Fw Bm
set_option maxRecDepth 20000
theorem ag133:aggT Try.prog 133=some false:=by kernel_rfl
theorem sz133:szT Try.prog 133=1:=by kernel_rfl
theorem ag172:aggT Try.prog 172=some false:=by kernel_rfl
theorem sz172:szT Try.prog 172=1:=by kernel_rfl
theorem ag182:aggT Try.prog 182=some false:=by kernel_rfl
theorem sz182:szT Try.prog 182=1:=by kernel_rfl
theorem ag200:aggT Try.prog 200=some false:=by kernel_rfl
theorem sz200:szT Try.prog 200=1:=by kernel_rfl
attribute [go_sem] ag133 sz133 ag172 sz172 ag182 sz182 ag200 sz200
structure MS where
  regs:List Int
  arena:List Int
  viol:List Int
  vv:Nat
  vb:Nat
  reads:Int
  writes:Int
  ops:Int
  peak:Int
  steps:Int
  at_:Int
  e:Int
def stO (B:Prg) (mt:List Int) (m:MS):AObj:= .box 120 [.lit (.int .i64 B.regs),.lit (.int .i64 B.arena),.sl false 6 (opsV B.ops),.sl false 2 (plsV B.ins),.sl false 2 (plsV B.outs),.sl false 3 (arrs B.types),.sl false 1 (ints .i64 mt),.arr 3 0,.arr 4 0,
  .lit (.int .i64 m.reads),.lit (.int .i64 m.writes),.lit (.int .i64 m.ops),.lit (.int .i64 m.peak),.arr 6 m.vb,.lit (.int .i64 m.steps),.lit (.int .i64 m.at_),.lit (.int .i64 m.e)]
def mobj (x y:AObj) (B:Prg) (mt:List Int) (m:MS) (ex:List AObj):List AObj:=
  x::y::bxB B:: .arr 3 1 (ints .i64 m.regs) 0 false:: .arr 3 1 (ints .i64 m.arena) 0 false::stO B mt m:: .arr 3 1 (ints .i64 m.viol) m.vv false::ex
def tabL:List AV:=[.lit .nilFunc,.fn (.func 169) [] [.ref 11 0,.ref 10 0],.fn (.func 148) [.ref 5 0] [],.fn (.func 169) [] [.ref 13 0,.ref 12 0],.fn (.func 169) [] [.ref 15 0,.ref 14 0],.fn (.func 151) [.ref 5 0] [],.fn (.func 152) [.ref 5 0] [],.fn (.func 153) [.ref 5 0] [],
  .fn (.func 154) [] [.ref 8 0],.fn (.func 155) [.ref 5 0] [],.lit .nilFunc,.lit .nilFunc,.lit .nilFunc,.lit .nilFunc,.fn (.func 169) [] [.ref 17 0,.ref 16 0],.fn (.func 158) [] [.ref 8 0]]
def blkF:AV:= .fn (.func 128) [] [.ref 7 0,.ref 20 0,.ref 19 0,.ref 18 0]
def lopF:AV:= .fn (.func 126) [] [.ref 7 0,.ref 19 0]
def clos:List AObj:=[.box 115 [.ref 5 0],.box 115 [.ref 5 0],.box 180 tabL,.box 115 [.ref 5 0],.box 200 [.fn (.func 147) [] []],.box 115 [.ref 5 0],.box 200 [.fn (.func 149) [] [.ref 8 0]],.box 115 [.ref 5 0],.box 200 [.fn (.func 150) [] [.ref 8 0]],
  .box 115 [.ref 5 0],.box 200 [.fn (.func 156) [] [.ref 8 0]],.box 180 tabL,.box 172 [blkF],.box 182 [lopF]]
def robj (x y:AObj) (B:Prg) (mt:List Int) (m:MS) (ex:List AObj):List AObj:=mobj x y B mt m (clos++ex)
section
variable {x y u v:AObj} {B:Prg} {mt:List Int} {m m':MS} {ex:List AObj}
theorem ro_len:(robj x y B mt m ex).length=ex.length+21:=rfl
theorem ro_3:(robj x y B mt m ex)[3]? =some (.arr 3 1 (ints .i64 m.regs) 0 false):=rfl
theorem ro_4:(robj x y B mt m ex)[4]? =some (.arr 3 1 (ints .i64 m.arena) 0 false):=rfl
theorem ro_5:(robj x y B mt m ex)[5]? =some (.box 120 [.lit (.int .i64 B.regs),.lit (.int .i64 B.arena),.sl false 6 (opsV B.ops),.sl false 2 (plsV B.ins),.sl false 2 (plsV B.outs),.sl false 3 (arrs B.types),.sl false 1 (ints .i64 mt),.arr 3 0,.arr 4 0,
  .lit (.int .i64 m.reads),.lit (.int .i64 m.writes),.lit (.int .i64 m.ops),.lit (.int .i64 m.peak),.arr 6 m.vb,.lit (.int .i64 m.steps),.lit (.int .i64 m.at_),.lit (.int .i64 m.e)]):=rfl
theorem ro_6:(robj x y B mt m ex)[6]? =some (.arr 3 1 (ints .i64 m.viol) m.vv false):=rfl
theorem ro_7:(robj x y B mt m ex)[7]? =some (.box 115 [.ref 5 0]):=rfl
theorem ro_8:(robj x y B mt m ex)[8]? =some (.box 115 [.ref 5 0]):=rfl
theorem ro_10:(robj x y B mt m ex)[10]? =some (.box 115 [.ref 5 0]):=rfl
theorem ro_11:(robj x y B mt m ex)[11]? =some (.box 200 [.fn (.func 147) [] []]):=rfl
theorem ro_12:(robj x y B mt m ex)[12]? =some (.box 115 [.ref 5 0]):=rfl
theorem ro_13:(robj x y B mt m ex)[13]? =some (.box 200 [.fn (.func 149) [] [.ref 8 0]]):=rfl
theorem ro_14:(robj x y B mt m ex)[14]? =some (.box 115 [.ref 5 0]):=rfl
theorem ro_15:(robj x y B mt m ex)[15]? =some (.box 200 [.fn (.func 150) [] [.ref 8 0]]):=rfl
theorem ro_16:(robj x y B mt m ex)[16]? =some (.box 115 [.ref 5 0]):=rfl
theorem ro_17:(robj x y B mt m ex)[17]? =some (.box 200 [.fn (.func 156) [] [.ref 8 0]]):=rfl
theorem ro_18:(robj x y B mt m ex)[18]? =some (.box 180 tabL):=rfl
theorem ro_19:(robj x y B mt m ex)[19]? =some (.box 172 [.fn (.func 128) [] [.ref 7 0,.ref 20 0,.ref 19 0,.ref 18 0]]):=rfl
theorem ro_20:(robj x y B mt m ex)[20]? =some (.box 182 [.fn (.func 126) [] [.ref 7 0,.ref 19 0]]):=rfl
theorem ro_x {n:Nat}:(robj x y B mt m ex)[n+21]? =ex[n]? :=rfl
theorem ro_app {l:List AObj}:robj x y B mt m ex++l=robj x y B mt m (ex++l):=rfl
theorem ro_s3 {l:List Int}:(robj x y B mt m ex).set 3 (.arr 3 1 (ints .i64 l) 0 false)=robj x y B mt {m with regs:=l} ex:=rfl
theorem ro_s4 {l:List Int}:(robj x y B mt m ex).set 4 (.arr 3 1 (ints .i64 l) 0 false)=robj x y B mt {m with arena:=l} ex:=rfl
theorem ro_s6 {l:List Int} {k:Nat}:(robj x y B mt m ex).set 6 (.arr 3 1 (ints .i64 l) k false)=robj x y B mt {m with viol:=l,vv:=k} ex:=rfl
theorem ro_s5 {c1 c2 c3 c4 c5 c6 c7:Int} {k:Nat}:(robj x y B mt m ex).set 5 (.box 120 [.lit (.int .i64 B.regs),.lit (.int .i64 B.arena),.sl false 6 (opsV B.ops),.sl false 2 (plsV B.ins),.sl false 2 (plsV B.outs),.sl false 3 (arrs B.types),.sl false 1 (ints .i64 mt),.arr 3 0,.arr 4 0,
  .lit (.int .i64 c1),.lit (.int .i64 c2),.lit (.int .i64 c3),.lit (.int .i64 c4),.arr 6 k,.lit (.int .i64 c5),.lit (.int .i64 c6),.lit (.int .i64 c7)])=robj x y B mt {m with reads:=c1,writes:=c2,ops:=c3,peak:=c4,vb:=k,steps:=c5,at_:=c6,e:=c7} ex:=rfl
theorem ro_sx {n:Nat}:(robj x y B mt m ex).set (n+21) u=robj x y B mt m (ex.set n u):=rfl
theorem ro_take {l:List AObj}:(robj x y B mt m (ex++l)).take (ex.length+21)=robj x y B mt m ex:=by
  have h:robj x y B mt m (ex++l)=robj x y B mt m ex++l:=rfl
  rw [h,←ro_len (x:=x) (y:=y) (B:=B) (mt:=mt) (m:=m),List.take_left'];rfl
theorem ro_take0:(robj x y B mt m ex).take (ex.length+21)=robj x y B mt m ex:=by
  rw [←ro_len (x:=x) (y:=y) (B:=B) (mt:=mt) (m:=m),List.take_length]
theorem ro_l1:(ex++[u]).length+21=ex.length+22:=by simp
theorem ro_l2:(ex++[u,v]).length+21=ex.length+23:=by simp
theorem tabL_len:tabL.length=16:=rfl
theorem stO_bd {n:Nat} (hn:7≤n):BdS n [stO B mt m]:=bds_low (by
  have h3:3<n:=by omega
  have h4:4<n:=by omega
  have h6:6<n:=by omega
  simp [stO,lowO,low_lit,low_sl,low_arr,h3,h4,h6])
theorem ro_bds {n:Nat} (hn:7≤n) (h:BdS n (robj x y B mt m ex)):BdS n (robj x y B mt m' ex):=fun o t cs ho=>by
  rcases o with _|_|_|_|_|_|_|o
  ·exact h 0 t cs ho
  ·exact h 1 t cs ho
  ·exact h 2 t cs ho
  ·cases ho
  ·cases ho
  ·exact stO_bd (m:=m') hn 0 t cs ho
  ·cases ho
  ·exact h (o+7) t cs ho
theorem kp_ro {D:Nat→Bool} {l l':List AObj} (h5:D 5=false) (h:∀ (o:Nat) (t:TypeId) (cs:List AV),D (o+21)=true→l[o]? =some (AObj.box t cs)→l'[o]? =some (AObj.box t cs)):Kp D (robj x y B mt m l) (robj x y B mt m' l'):=fun o t cs hD ho=>by
  rcases o with _|_|_|_|_|_|_|o
  ·exact ho
  ·exact ho
  ·exact ho
  ·cases ho
  ·cases ho
  ·rw [h5] at hD;cases hD
  ·cases ho
  ·rcases Nat.lt_or_ge o 14 with c|c
   ·have e1:(clos++l)[o]? =some (AObj.box t cs):=ho
    show (clos++l')[o]? =_
    rw [List.getElem?_append_left (by exact c)] at e1 ⊢
    exact e1
   ·obtain ⟨q,rfl⟩:∃ q,o=q+14:=⟨o - 14,by omega⟩
    exact h q t cs hD ho
theorem kp_fls {σ τ:List AObj}:Kp (fun _=>false) σ τ:=fun o t cs h=>by cases h
end
attribute [go_sem] ro_len ro_3 ro_4 ro_5 ro_6 ro_7 ro_8 ro_10 ro_11 ro_12 ro_13 ro_14 ro_15 ro_16 ro_17 ro_18 ro_19 ro_20 ro_x ro_app ro_s3 ro_s4 ro_s6 ro_s5 ro_sx ro_take ro_take0 ro_l1 ro_l2 tabL_len
def failM (m:MS) (i e:Int):MS:=if m.e=0 then {m with at_:=i,e:=e} else m
def stepM (m:MS):MS:=if m.steps+1>200000 then failM {m with steps:=m.steps+1} 0 3 else {m with steps:=m.steps+1}
section
variable {x y:AObj} {B:Prg} {mt:List Int} {m:MS} {ex:List AObj} {k:AV→List AObj→Prop}
noncomputable def M0:Env:=envJ (P:=Try.prog) jkR zer (fun _=>false) (fun _=>false) [] []
theorem M0_ok:EnvOk Try.prog M0:=envJOk zer_ok
set_option maxHeartbeats 4000000 in
theorem fail_ec {i e:Int} (hk:k (.tup []) (robj x y B mt (failM m i e) ex)):EC Try.prog 129 [.ref 5 0,.lit (.int .i64 i),.lit (.int .i64 e)] (robj x y B mt m ex) k:=by
  refine ec_fin fun hbd=>?_
  by_cases h:m.e=0
  ·have g1:decide (m.e=0)=true:=decide_eq_true h
   unfold failM at hk;rw [if_pos h] at hk
   refine ecR M0_ok (kp129) Try.func129 [] (h:=fun KF=>?_)
   unfold M0
   repeat' (first
    |(with_reducible first|refine nx ?_|refine t_seq fun K=>?_|refine t_br (fun hc=>?_) fun hc=>?_|refine t_bx ?_|apply And.intro|intro vr)
    |((with_reducible first|refine ny ?_|refine t_dwh (h:=fun K KL=>?_));intros;simp only [go_sem,kp129,geff,g1,yes]))
   all_goals try exact nd
   all_goals (refine nl ?_;simp only [go_sem,finE])
   exact ⟨_,_,rfl,LeA.refl _,ro_bds (by omega) hbd,hk⟩
  ·have g1:decide (m.e=0)=false:=decide_eq_false h
   unfold failM at hk;rw [if_neg h] at hk
   refine ecR M0_ok (kp129) Try.func129 [] (h:=fun KF=>?_)
   unfold M0
   repeat' (first
    |(with_reducible first|refine nx ?_|refine t_seq fun K=>?_|refine t_br (fun hc=>?_) fun hc=>?_|refine t_bx ?_|apply And.intro|intro vr)
    |((with_reducible first|refine ny ?_|refine t_dwh (h:=fun K KL=>?_));intros;simp only [go_sem,kp129,geff,g1,yes]))
   all_goals try exact nd
   all_goals (refine nl ?_;simp only [go_sem,finE])
   exact ⟨_,_,rfl,LeA.refl _,ro_bds (by omega) hbd,hk⟩
noncomputable def ecn129:ECon Try.prog where
  f:=129
  c:=fun args σ k=>∃ (x y:AObj) (B:Prg) (mt:List Int) (m:MS) (ex:List AObj) (i e:Int),args=[.ref 5 0,.lit (.int .i64 i),.lit (.int .i64 e)]∧σ=robj x y B mt m ex∧k (.tup []) (robj x y B mt (failM m i e) ex)
  ok:=by
   rintro _ _ k ⟨x,y,B,mt,m,ex,i,e,rfl,rfl,h⟩
   exact fail_ec h
  fk:=fk129
theorem ecn129_f:ecn129.f=129:=rfl
theorem ecn129_i {i e:Int} {σ:List AObj} (hσ:σ=robj x y B mt m ex) (h:k (.tup []) (robj x y B mt (failM m i e) ex)):ecn129.c [.ref 5 0,.lit (.int .i64 i),.lit (.int .i64 e)] σ k:=⟨x,y,B,mt,m,ex,i,e,rfl,hσ,h⟩
attribute [go_sem] ecn129_f
noncomputable def M1:Env:=envJ (P:=Try.prog) jkR zer (fun _=>false) (fun _=>false) [] [ecn129]
theorem M1_ok:EnvOk Try.prog M1:=envJOk zer_ok
set_option maxHeartbeats 4000000 in
theorem step_ec (hs:0≤m.steps∧m.steps≤1000000) (hk:k (.tup []) (robj x y B mt (stepM m) ex)):EC Try.prog 127 [.ref 5 0] (robj x y B mt m ex) k:=by
  refine ec_fin fun hbd=>?_
  by_cases h:m.steps+1>200000
  ·have g1:decide (m.steps+1>200000)=true:=decide_eq_true h
   unfold stepM at hk;rw [if_pos h] at hk
   refine ecR M1_ok (kp127) Try.func127 [] (h:=fun KF=>?_)
   unfold M1
   repeat' (first
    |(with_reducible first|refine nx ?_|refine t_seq fun K=>?_|refine t_br (fun hc=>?_) fun hc=>?_|refine t_bx ?_|apply And.intro|intro vr)
    |((with_reducible first|refine ny ?_|refine t_dwh (h:=fun K KL=>?_));intros;simp only [go_sem,kp127,geff,g1,yes]))
   all_goals try exact nd
   refine ecn129_i rfl ?_
   repeat' (first
    |(with_reducible first|refine nx ?_|refine t_seq fun K=>?_|refine t_br (fun hc=>?_) fun hc=>?_|refine t_bx ?_|apply And.intro|intro vr)
    |((with_reducible first|refine ny ?_|refine t_dwh (h:=fun K KL=>?_));intros;simp only [go_sem,kp127,geff,yes]))
   all_goals try exact nd
   all_goals (refine nl ?_;simp only [go_sem,finE])
   exact ⟨_,_,rfl,LeA.refl _,ro_bds (by omega) hbd,hk⟩
  ·have g1:decide (m.steps+1>200000)=false:=decide_eq_false h
   unfold stepM at hk;rw [if_neg h] at hk
   refine ecR M1_ok (kp127) Try.func127 [] (h:=fun KF=>?_)
   unfold M1
   repeat' (first
    |(with_reducible first|refine nx ?_|refine t_seq fun K=>?_|refine t_br (fun hc=>?_) fun hc=>?_|refine t_bx ?_|apply And.intro|intro vr)
    |((with_reducible first|refine ny ?_|refine t_dwh (h:=fun K KL=>?_));intros;simp only [go_sem,kp127,geff,g1,yes]))
   all_goals try exact nd
   all_goals (refine nl ?_;simp only [go_sem,finE])
   exact ⟨_,_,rfl,LeA.refl _,ro_bds (by omega) hbd,hk⟩
set_option maxHeartbeats 4000000 in
theorem inside_ec {n:Int} (hl:m.arena.length≤1048576) (hk:k (.lit (.bool (decide (0≤n∧n<m.arena.length)))) (robj x y B mt m ex)):EC Try.prog 171 [.ref 5 0,.lit (.int .i64 n)] (robj x y B mt m ex) k:=by
  refine ec_fin fun hbd=>?_
  by_cases h:n≥0
  ·have g1:decide (n≥0)=true:=decide_eq_true h
   have g2:decide (0≤n∧n<m.arena.length)=decide (n<m.arena.length):=by
     by_cases h2:n<m.arena.length
     ·rw [decide_eq_true h2];exact decide_eq_true ⟨h,h2⟩
     ·rw [decide_eq_false h2];exact decide_eq_false (fun q=>h2 q.2)
   rw [g2] at hk
   refine ecR M0_ok (kp171) Try.func171 [.tmp 4] (h:=fun KF=>?_)
   unfold M0
   repeat' (first
    |(with_reducible first|refine nx ?_|refine t_seq fun K=>?_|refine t_br (fun hc=>?_) fun hc=>?_|refine t_bx ?_|apply And.intro|intro vr)
    |((with_reducible first|refine ny ?_|refine t_dwh (h:=fun K KL=>?_));intros;simp only [go_sem,kp171,geff,g1,yes]))
   all_goals try exact nd
   all_goals (refine nl ?_;simp only [go_sem,finE])
   exact ⟨_,_,rfl,LeA.refl _,ro_bds (by omega) hbd,hk⟩
  ·have g1:decide (n≥0)=false:=decide_eq_false h
   have g2:decide (0≤n∧n<m.arena.length)=false:=decide_eq_false (fun q=>h q.1)
   rw [g2] at hk
   refine ecR M0_ok (kp171) Try.func171 [.tmp 4] (h:=fun KF=>?_)
   unfold M0
   repeat' (first
    |(with_reducible first|refine nx ?_|refine t_seq fun K=>?_|refine t_br (fun hc=>?_) fun hc=>?_|refine t_bx ?_|apply And.intro|intro vr)
    |((with_reducible first|refine ny ?_|refine t_dwh (h:=fun K KL=>?_));intros;simp only [go_sem,kp171,geff,g1,yes]))
   all_goals try exact nd
   all_goals (refine nl ?_;simp only [go_sem,finE])
   exact ⟨_,_,rfl,LeA.refl _,ro_bds (by omega) hbd,hk⟩
end
end Go.Proofs.Ytnlimcijgpaegaa.Mm

namespace Go.Proofs.Ytnlimcijgpaegaa
open Go Go.Fw Bm
set_option maxRecDepth 20000
structure Wk (B:Prg) (mt:List Int) (n:Nat):Prop where
  nest:Nest B.ops mt
  rights:Rights B n
  len:B.ops.length≤1000000
  n:n≤1000000
  mtl:mt.length=B.ops.length
end Go.Proofs.Ytnlimcijgpaegaa

namespace Go.Proofs.Ytnlimcijgpaegaa
open Go Go.Fw Bm
set_option maxRecDepth 20000
end Go.Proofs.Ytnlimcijgpaegaa

namespace Go.Proofs.Ytnlimcijgpaegaa
open Go Go.Fw Bm
set_option maxRecDepth 20000
end Go.Proofs.Ytnlimcijgpaegaa

namespace Go.Proofs.Ytnlimcijgpaegaa
open Go Go.Fw Bm
set_option maxRecDepth 20000
theorem valid_inv {B:Prg} (h:validS B=true):(0≤B.regs∧B.regs≤200)∧(0≤B.arena∧B.arena≤1048576)∧(∃ mt,matchS B.ops=some mt)∧Rights B B.regs.toNat∧B.types.length=B.ins.length+B.outs.length∧typesOk B.arena B.types (B.ins++B.outs)=true:=by
  rw [valid_eq,Bool.and_eq_true,Bool.not_eq_true'] at h
  obtain ⟨h1,h2⟩:=h
  simp only [headB,formedB,Bool.or_eq_false_iff,decide_eq_false_iff_not,bne_eq_false_iff_eq,Bool.not_eq_false',Bool.and_eq_true] at h1
  obtain ⟨⟨⟨⟨⟨k1,k2⟩,k3⟩,k4⟩,k5,k6⟩,k7⟩:=h1
  refine ⟨⟨by omega,by omega⟩,⟨by omega,by omega⟩,?_,?_,by omega,h2⟩
  ·cases hm:matchS B.ops with
   |none=>rw [hm] at k6;cases k6
   |some mt=>exact ⟨mt,rfl⟩
  ·intro i i0 i1
   rw [List.all_eq_true] at k5
   have hmem:B.op i∈B.ops:=by
     unfold Prg.op
     rw [List.getD_eq_getElem?_getD,List.getElem?_eq_getElem (by omega)]
     exact List.getElem_mem _
   have:=k5 _ hmem
   rw [show ((B.regs.toNat:Nat):Int)=B.regs by omega]
   exact this
theorem wk_of {B:Prg} {mt:List Int} (h:validS B=true) (hm:matchS B.ops=some mt) (hl:B.ops.length≤1000000):Wk B mt B.regs.toNat:=by
  obtain ⟨h1,_,_,h3,_⟩:=valid_inv h
  have hn:=match_nest hm
  exact ⟨hn,h3,hl,by omega,hn.len⟩
theorem bvalid_pc2 {B:Prg} (h:OkB B∧B.ins.length≤100000∧B.outs.length≤100000):PC Try.prog 42 [bcV B] (.lit (.bool (validS B))):=bvalid_pc h.1 h.2
noncomputable def con42:PCon Try.prog where
  f:=42
  c:=fun
   |[xB]=>match bcOf xB with|some B=>some ((OkB B∧B.ins.length≤100000∧B.outs.length≤100000),.lit (.bool (validS B)))|_=>none
   |_=>none
  ok:=by
   intro args p r hc hp
   split at hc
   ·split at hc
    ·rename_i hB
     cases hc
     exact PC.weak (bvalid_pc2 hp) ⟨bcOf_le hB,trivial⟩
    ·cases hc
   ·cases hc
  fk:=fk42
theorem con42_f:con42.f=42:=rfl
theorem con42_c {xB:AV}:con42.c [xB]=match bcOf xB with|some B=>some ((OkB B∧B.ins.length≤100000∧B.outs.length≤100000),.lit (.bool (validS B)))|_=>none:=rfl
attribute [go_sem] con42_f con42_c
theorem bcOf_B {B:Prg}:bcOf (.agg [.lit (.int .i64 B.regs),.lit (.int .i64 B.arena),.sl false 6 (opsV B.ops),.sl false 2 (plsV B.ins),.sl false 2 (plsV B.outs),.sl false 3 (arrs B.types)])=some B:=bcOf_mk
end Go.Proofs.Ytnlimcijgpaegaa

namespace Go.Proofs.Ytnlimcijgpaegaa.Bm
open Go.Proofs.Ytnlimcijgpaegaa
open Go Go.Fw
variable {B:Prg} {mt:List Int}
end Go.Proofs.Ytnlimcijgpaegaa.Bm

namespace Go.Proofs.Ytnlimcijgpaegaa
open Go Go.Fw Bm
set_option maxRecDepth 20000
def erV (p:Int×Int):AV:= .tup [.lit (.int .i64 p.1),.lit (.int .i64 p.2)]
end Go.Proofs.Ytnlimcijgpaegaa

namespace Go.Proofs.Ytnlimcijgpaegaa
open Go Go.Fw Bm
set_option maxRecDepth 20000
theorem erV_def {p:Int×Int}:erV p= .tup [.lit (.int .i64 p.1),.lit (.int .i64 p.2)]:=rfl
attribute [go_sem] erV_def
end Go.Proofs.Ytnlimcijgpaegaa

namespace Go.Proofs.Ytnlimcijgpaegaa
open Go Go.Fw Bm
set_option maxRecDepth 20000
end Go.Proofs.Ytnlimcijgpaegaa

namespace Go.Proofs.Ytnlimcijgpaegaa
open Go Go.Fw Bm
set_option maxRecDepth 20000
end Go.Proofs.Ytnlimcijgpaegaa

namespace Go.Proofs.Ytnlimcijgpaegaa
open Go Go.Fw Bm
set_option maxRecDepth 20000
def mob (pre:List AObj) (R A:List Int) (ex:List AObj):List AObj:=pre++(.arr 3 1 (ints .i64 R) 0 false:: .arr 3 1 (ints .i64 A) 0 false::ex)
section
variable {pre ex:List AObj} {R A R' A':List Int} {x y z u:AObj}
theorem mob_len:(mob pre R A ex).length=pre.length+(ex.length+2):=by simp [mob]
theorem mob_0:(mob pre R A ex)[pre.length]? =some (.arr 3 1 (ints .i64 R) 0 false):=by simp [mob]
theorem mob_1:(mob pre R A ex)[pre.length+1]? =some (.arr 3 1 (ints .i64 A) 0 false):=by simp [mob]
theorem mob_x {n:Nat}:(mob pre R A ex)[pre.length+(n+2)]? =ex[n]? :=by
  unfold mob
  rw [List.getElem?_append_right (by omega),show pre.length+(n+2) - pre.length=n+2 by omega];rfl
theorem mob_app {l:List AObj}:mob pre R A ex++l=mob pre R A (ex++l):=by simp [mob]
theorem mob_s0:(mob pre R A ex).set pre.length (.arr 3 1 (ints .i64 R') 0 false)=mob pre R' A ex:=by simp [mob]
theorem mob_s1:(mob pre R A ex).set (pre.length+1) (.arr 3 1 (ints .i64 A') 0 false)=mob pre R A' ex:=by simp [mob]
theorem mob_sx {n:Nat}:(mob pre R A ex).set (pre.length+(n+2)) y=mob pre R A (ex.set n y):=by
  unfold mob
  rw [List.set_append_right _ _ (by omega),show pre.length+(n+2) - pre.length=n+2 by omega];rfl
theorem mob_take {l:List AObj}:(mob pre R A (ex++l)).take (pre.length+(ex.length+2))=mob pre R A ex:=by
  rw [←mob_app,←mob_len (R:=R) (A:=A),List.take_left'];rfl
theorem mob_take0:(mob pre R A ex).take (pre.length+(ex.length+2))=mob pre R A ex:=by
  rw [←mob_len (R:=R) (A:=A),List.take_length]
theorem mx_l1:(ex++[x]).length+2=ex.length+3:=by simp
theorem mx_l2:(ex++[x,y]).length+2=ex.length+4:=by simp
theorem mx_l3:(ex++[x,y,z]).length+2=ex.length+5:=by simp
theorem mx_30:(ex++[x,y,z])[ex.length]? =some x:=by simp
theorem mx_31:(ex++[x,y,z])[ex.length+1]? =some y:=by simp
theorem mx_32:(ex++[x,y,z])[ex.length+2]? =some z:=by simp
theorem mxs_30:(ex++[x,y,z]).set ex.length u=ex++[u,y,z]:=by simp
theorem mxs_31:(ex++[x,y,z]).set (ex.length+1) u=ex++[x,u,z]:=by simp
theorem mx_l4 {v:AObj}:(ex++[x,y,z,v]).length+2=ex.length+6:=by simp
theorem mx_40 {v:AObj}:(ex++[x,y,z,v])[ex.length]? =some x:=by simp
theorem mx_41 {v:AObj}:(ex++[x,y,z,v])[ex.length+1]? =some y:=by simp
theorem mx_42 {v:AObj}:(ex++[x,y,z,v])[ex.length+2]? =some z:=by simp
theorem mx_43 {v:AObj}:(ex++[x,y,z,v])[ex.length+3]? =some v:=by simp
theorem mxs_41 {v:AObj}:(ex++[x,y,z,v]).set (ex.length+1) u=ex++[x,u,z,v]:=by simp
theorem mxs_42 {v:AObj}:(ex++[x,y,z,v]).set (ex.length+2) u=ex++[x,y,u,v]:=by simp
theorem mxs_43 {v:AObj}:(ex++[x,y,z,v]).set (ex.length+3) u=ex++[x,y,z,u]:=by simp
theorem mxs_32:(ex++[x,y,z]).set (ex.length+2) u=ex++[x,y,u]:=by simp
end
attribute [go_sem] mob_len mob_0 mob_1 mob_x mob_app mob_s0 mob_s1 mob_sx mob_take mob_take0 mx_l1 mx_l2 mx_l3 mx_30 mx_31 mx_32 mxs_30 mxs_31 mxs_32 mx_l4 mx_40 mx_41 mx_42 mx_43 mxs_41 mxs_42 mxs_43
end Go.Proofs.Ytnlimcijgpaegaa

namespace Go.Proofs.Ytnlimcijgpaegaa
open Go Go.Fw Bm
set_option maxRecDepth 20000
theorem take_mapI {M:List Int} {f:Int→Int} {i:Nat} (h:i<M.length):(M.take i).map f++[f (M.getD i 0)]=(M.take (i+1)).map f:=by
  have e:M.take (i+1)=M.take i++[M.getD i 0]:=by
    rw [List.take_add_one,List.getElem?_eq_getElem h,List.getD_eq_getElem?_getD,List.getElem?_eq_getElem h];rfl
  rw [e,List.map_append];rfl
theorem mul_in {d v:Int} (hd: -1048576≤d∧d≤1048576) (hv: -1099511627776≤v∧v≤1099511627776): -1152921504606846976≤d*v∧d*v≤1152921504606846976:=by
  have h1:=Int.natAbs_mul d v
  have h2:d.natAbs*v.natAbs≤1048576*1099511627776:=Nat.mul_le_mul (by omega) (by omega)
  omega
end Go.Proofs.Ytnlimcijgpaegaa

namespace Go.Proofs.Ytnlimcijgpaegaa.Mm
open Go.Proofs.Ytnlimcijgpaegaa
open Go Go.Fw Bm
set_option maxRecDepth 20000
structure OkM (n A:Nat) (m:MS):Prop where
  regs:m.regs.length=n
  arena:m.arena.length=A
  rv:∀ i, -maxC≤gt m.regs i∧gt m.regs i≤maxC
  word:∀ i, -2147483648≤gt m.arena i∧gt m.arena i≤2147483647
  pos:0≤m.reads∧0≤m.writes∧0≤m.ops∧0≤m.peak∧0≤m.steps
  top:m.reads≤1000000∧m.writes≤1000000∧m.ops≤1000000∧m.peak≤1048576∧m.steps≤1000000
  vl:m.viol.length≤1000000
  n:n≤1000000
  A:A≤1048576
  ver:m.vb=m.vv
def putM (m:MS) (i v:Int):MS:={m with regs:=m.regs.set i.toNat v}
section
variable {x y:AObj} {B:Prg} {mt:List Int} {m m':MS} {ex l l':List AObj} {D:Nat→Bool}
theorem kp_ror {R:List Int} {h:∀ (o:Nat) (t:TypeId) (cs:List AV),l[o]? =some (AObj.box t cs)→l'[o]? =some (AObj.box t cs)}:Kp D (robj x y B mt m l) (robj x y B mt {m with regs:=R} l'):=fun o t cs hD ho=>by
  rcases o with _|_|_|_|_|_|_|o
  ·exact ho
  ·exact ho
  ·exact ho
  ·cases ho
  ·cases ho
  ·exact ho
  ·cases ho
  ·rcases Nat.lt_or_ge o 14 with c|c
   ·have e1:(clos++l)[o]? =some (AObj.box t cs):=ho
    show (clos++l')[o]? =_
    rw [List.getElem?_append_left (by exact c)] at e1 ⊢
    exact e1
   ·obtain ⟨q,rfl⟩:∃ q,o=q+14:=⟨o - 14,by omega⟩
    exact h q t cs ho
theorem kp_rox {j:Nat}:Kp (fun i=>i==j+21) (robj x y B mt m l) (robj x y B mt m' l):=kp_ro (by simp) fun _ _ _ _ h=>h
theorem kp_self {σ:List AObj} {D:Nat→Bool}:Kp D σ σ:=Kp.refl σ
theorem kp_ro1 {R:List Int}:Kp D (robj x y B mt m l) (robj x y B mt {m with regs:=R} l):=kp_ror (h:=fun _ _ _ h=>h)
end
noncomputable def ecn171:ECon Try.prog where
  f:=171
  c:=fun args σ k=>∃ (x y:AObj) (B:Prg) (mt:List Int) (m:MS) (ex:List AObj) (n:Int),args=[.ref 5 0,.lit (.int .i64 n)]∧σ=robj x y B mt m ex∧m.arena.length≤1048576∧k (.lit (.bool (decide (0≤n∧n<m.arena.length)))) (robj x y B mt m ex)
  ok:=by
   rintro _ _ k ⟨x,y,B,mt,m,ex,n,rfl,rfl,h1,h2⟩
   exact inside_ec h1 h2
  fk:=fk171
theorem ecn171_f:ecn171.f=171:=rfl
theorem ecn171_i {x y:AObj} {B:Prg} {mt:List Int} {m:MS} {ex:List AObj} {n:Int} {σ:List AObj} {k:AV→List AObj→Prop} (hσ:σ=robj x y B mt m ex) (hl:m.arena.length≤1048576) (h:k (.lit (.bool (decide (0≤n∧n<m.arena.length)))) (robj x y B mt m ex)):ecn171.c [.ref 5 0,.lit (.int .i64 n)] σ k:=⟨x,y,B,mt,m,ex,n,rfl,hσ,hl,h⟩
attribute [go_sem] ecn171_f El.con170_f El.con170_c con168_f con168_c El.con157_f El.con157_c con115_f con115_c
noncomputable def M2:Env:=envJ (P:=Try.prog) jkR zer (fun _=>false) (fun _=>false) [con115,El.con170,con168,El.con157] [ecn171]
theorem M2_ok:EnvOk Try.prog M2:=envJOk zer_ok
section
variable {x y:AObj} {B:Prg} {mt:List Int} {m:MS} {ex:List AObj} {k:AV→List AObj→Prop} {n A:Nat} {X:Ins}
set_option maxHeartbeats 4000000 in
theorem p1_ec (hk:k (.lit (.int .i64 X.b)) (robj x y B mt m ex)):EC Try.prog 147 [opV X] (robj x y B mt m ex) k:=by
  refine ec_fin fun hbd=>?_
  obtain ⟨q,p,a,b,c,d⟩:=X
  simp only [opV_mk]
  refine ecR M2_ok (kp147) Try.func147 [.tmp 2] (h:=fun KF=>?_)
  unfold M2
  repeat' (first
   |(with_reducible first|refine nx ?_|refine t_seq fun K=>?_|refine t_br (fun hc=>?_) fun hc=>?_|refine t_bx ?_|apply And.intro|intro vr)
   |((with_reducible first|refine ny ?_|refine t_dwh (h:=fun K KL=>?_));intros;simp only [go_sem,kp147,geff,yes]))
  all_goals try exact nd
  all_goals (refine nl ?_;simp only [go_sem,finE])
  exact ⟨_,_,rfl,LeA.refl _,ro_bds (by omega) hbd,hk⟩
set_option maxHeartbeats 4000000 in
theorem p2_ec (h:OkM n A m) (hb:0≤X.b∧X.b<n) (hc:0≤X.c∧X.c<n) (hk:k (.lit (.int .i64 (minI (gt m.regs X.b) (gt m.regs X.c)))) (robj x y B mt m ex)):EC Try.prog 149 [opV X,.ref 8 0] (robj x y B mt m ex) k:=by
  refine ec_fin fun hbd=>?_
  obtain ⟨q,p,a,b,c,d⟩:=X
  have hr:=h.regs
  have hn:=h.n
  simp only at hb hc
  simp only [opV_mk]
  have gb:m.regs.getD b.toNat 0=gt m.regs b:=rfl
  have gc:m.regs.getD c.toNat 0=gt m.regs c:=rfl
  refine ecR M2_ok (kp149) Try.func149 [.tmp 3] (h:=fun KF=>?_)
  unfold M2
  repeat' (first
   |(with_reducible first|refine nx ?_|refine t_seq fun K=>?_|refine t_br (fun hc=>?_) fun hc=>?_|refine t_bx ?_|apply And.intro|intro vr)
   |((with_reducible first|refine ny ?_|refine t_dwh (h:=fun K KL=>?_));intros;simp only [go_sem,kp149,geff,gb,gc,yes]))
  all_goals try exact nd
  all_goals (refine nl ?_;simp only [go_sem,finE])
  exact ⟨_,_,rfl,LeA.refl _,ro_bds (by omega) hbd,hk⟩
set_option maxHeartbeats 4000000 in
theorem p3_ec (h:OkM n A m) (hb:0≤X.b∧X.b<n) (hc:0≤X.c∧X.c<n) (hk:k (.lit (.int .i64 (maxI (gt m.regs X.b) (gt m.regs X.c)))) (robj x y B mt m ex)):EC Try.prog 150 [opV X,.ref 8 0] (robj x y B mt m ex) k:=by
  refine ec_fin fun hbd=>?_
  obtain ⟨q,p,a,b,c,d⟩:=X
  have hr:=h.regs
  have hn:=h.n
  simp only at hb hc
  simp only [opV_mk]
  have gb:m.regs.getD b.toNat 0=gt m.regs b:=rfl
  have gc:m.regs.getD c.toNat 0=gt m.regs c:=rfl
  refine ecR M2_ok (kp150) Try.func150 [.tmp 3] (h:=fun KF=>?_)
  unfold M2
  repeat' (first
   |(with_reducible first|refine nx ?_|refine t_seq fun K=>?_|refine t_br (fun hc=>?_) fun hc=>?_|refine t_bx ?_|apply And.intro|intro vr)
   |((with_reducible first|refine ny ?_|refine t_dwh (h:=fun K KL=>?_));intros;simp only [go_sem,kp150,geff,gb,gc,yes]))
  all_goals try exact nd
  all_goals (refine nl ?_;simp only [go_sem,finE])
  exact ⟨_,_,rfl,LeA.refl _,ro_bds (by omega) hbd,hk⟩
set_option maxHeartbeats 4000000 in
theorem p5_ec (h:OkM n A m) (hb:0≤X.b∧X.b<n) (hk:k (.lit (.int .i64 (El.w32 (gt m.regs X.b)))) (robj x y B mt m ex)):EC Try.prog 156 [opV X,.ref 8 0] (robj x y B mt m ex) k:=by
  refine ec_fin fun hbd=>?_
  obtain ⟨q,p,a,b,c,d⟩:=X
  have hr:=h.regs
  have hn:=h.n
  simp only at hb
  simp only [opV_mk]
  have gb:m.regs.getD b.toNat 0=gt m.regs b:=rfl
  refine ecR M2_ok (kp156) Try.func156 [.tmp 3] (h:=fun KF=>?_)
  unfold M2
  repeat' (first
   |(with_reducible first|refine nx ?_|refine t_seq fun K=>?_|refine t_br (fun hc=>?_) fun hc=>?_|refine t_bx ?_|apply And.intro|intro vr)
   |((with_reducible first|refine ny ?_|refine t_dwh (h:=fun K KL=>?_));intros;simp only [go_sem,kp156,geff,gb,yes]))
  all_goals try exact nd
  all_goals (refine nl ?_;simp only [go_sem,finE])
  exact ⟨_,_,rfl,LeA.refl _,ro_bds (by omega) hbd,hk⟩
def ValF (x y:AObj) (B:Prg) (mt:List Int) (m:MS) (X:Ins) (f:FuncId) (ys:List AV) (v:Int):Prop:=∀ (ex:List AObj) (k:AV→List AObj→Prop),k (.lit (.int .i64 v)) (robj x y B mt m ex)→EC Try.prog f (opV X::ys) (robj x y B mt m ex) k
noncomputable def ecnV {x y:AObj} {B:Prg} {mt:List Int} {m:MS} {X:Ins} {f:FuncId} {ys:List AV} {v:Int} (hf:fok Try.prog f=true) (h:ValF x y B mt m X f ys v):ECon Try.prog where
  f:=f
  c:=fun args σ k=>∃ (ex:List AObj),args=opV X::ys∧σ=robj x y B mt m ex∧k (.lit (.int .i64 v)) (robj x y B mt m ex)
  ok:=by
   rintro _ _ k ⟨ex,rfl,rfl,h1⟩
   exact h ex k h1
  fk:=hf
theorem ecnV_f {f:FuncId} {ys:List AV} {v:Int} {hf:fok Try.prog f=true} {h:ValF x y B mt m X f ys v}:(ecnV hf h).f=f:=rfl
theorem ecnV_i {f:FuncId} {ys args:List AV} {v:Int} {hf:fok Try.prog f=true} {h:ValF x y B mt m X f ys v} {σ:List AObj} (ha:args=opV X::ys) (hσ:σ=robj x y B mt m ex) (hk:k (.lit (.int .i64 v)) (robj x y B mt m ex)):(ecnV hf h).c args σ k:=⟨ex,ha,hσ,hk⟩
attribute [go_sem] ecnV_f
noncomputable def M3 {f:FuncId} {ys:List AV} {v:Int} (hf:fok Try.prog f=true) (h:ValF x y B mt m X f ys v):Env:=envJ (P:=Try.prog) jkR zer (fun _=>false) (fun _=>false) [] [ecnV hf h]
theorem M3_ok {f:FuncId} {ys:List AV} {v:Int} (hf:fok Try.prog f=true) (h:ValF x y B mt m X f ys v):EnvOk Try.prog (M3 hf h):=envJOk zer_ok
set_option maxHeartbeats 4000000 in
theorem setF_ec {f:FuncId} {ys:List AV} {v:Int} {jm jv:Nat} (hf:fok Try.prog f=true) (hv:ValF x y B mt m X f ys v) (hys:(∀ σ,closeL1 true σ ys=none)∨ys=[]) (h:OkM n A m) (ha:0≤X.a∧X.a<n)
    (h1:∀ ex:List AObj,(robj x y B mt m ex)[jm]? =some (.box 115 [.ref 5 0])) (h2:∀ ex:List AObj,(robj x y B mt m ex)[jv]? =some (.box 200 [.fn (.func f) [] ys]))
    (hk:k (.lit (.bool true)) (robj x y B mt (putM m X.a v) ex)):EC Try.prog 169 [opV X,.ref jv 0,.ref jm 0] (robj x y B mt m ex) k:=by
  refine ec_fin fun hbd=>?_
  obtain ⟨q,p,a,b,c,d⟩:=X
  have hr:=h.regs
  have hn:=h.n
  simp only at ha
  simp only [opV_mk]
  rcases hys with hN|rfl
  ·skip
   refine ecR (M3_ok hf hv) (kp169) Try.func169 [.tmp 4] (h:=fun KF=>?_)
   unfold M3
   repeat' (first
    |(with_reducible first|refine nx ?_|refine t_seq fun K=>?_|refine t_br (fun hc=>?_) fun hc=>?_|refine t_bx ?_|apply And.intro|intro vr)|exact kp_fls|exact kp_ro1|exact kp_self|exact kpd
    |((with_reducible first|refine ny ?_|refine t_kLF ?_ ?_|refine t_drawE (id:=1) (fun _=>true) [(0,1),(1,1),(2,1),(3,1),(4,1),(5,1),(6,1),(7,1),(8,0),(9,2),(10,0)] (by kernel_rfl) fun K=>?_|refine t_dwh (h:=fun K KL=>?_));intros;simp only [go_sem,kp169,geff,h1,h2,hN,yes]))
   all_goals try exact nd
   refine ecnV_i rfl rfl ?_
   repeat' (first
    |(with_reducible first|refine nx ?_|refine t_seq fun K=>?_|refine t_br (fun hc=>?_) fun hc=>?_|refine t_bx ?_|apply And.intro|intro vr)|exact kp_fls|exact kp_ro1|exact kp_self|exact kpd
    |((with_reducible first|refine ny ?_|refine t_kLF ?_ ?_|refine t_drawE (id:=1) (fun _=>true) [(0,1),(1,1),(2,1),(3,1),(4,1),(5,1),(6,1),(7,1),(8,0),(9,2),(10,0)] (by kernel_rfl) fun K=>?_|refine t_dwh (h:=fun K KL=>?_));intros;simp only [go_sem,kp169,geff,yes]))
   all_goals try exact nd
   all_goals (refine nl ?_;simp only [go_sem,finE])
   exact ⟨_,_,rfl,LeA.refl _,ro_bds (by omega) hbd,hk⟩
  ·skip
   refine ecR (M3_ok hf hv) (kp169) Try.func169 [.tmp 4] (h:=fun KF=>?_)
   unfold M3
   repeat' (first
    |(with_reducible first|refine nx ?_|refine t_seq fun K=>?_|refine t_br (fun hc=>?_) fun hc=>?_|refine t_bx ?_|apply And.intro|intro vr)|exact kp_fls|exact kp_ro1|exact kp_self|exact kpd
    |((with_reducible first|refine ny ?_|refine t_kLF ?_ ?_|refine t_drawE (id:=1) (fun _=>true) [(0,1),(1,1),(2,1),(3,1),(4,1),(5,1),(6,1),(7,1),(8,0),(9,2),(10,0)] (by kernel_rfl) fun K=>?_|refine t_dwh (h:=fun K KL=>?_));intros;simp only [go_sem,kp169,geff,h1,h2,yes]))
   all_goals try exact nd
   refine ecnV_i rfl rfl ?_
   repeat' (first
    |(with_reducible first|refine nx ?_|refine t_seq fun K=>?_|refine t_br (fun hc=>?_) fun hc=>?_|refine t_bx ?_|apply And.intro|intro vr)|exact kp_fls|exact kp_ro1|exact kp_self|exact kpd
    |((with_reducible first|refine ny ?_|refine t_kLF ?_ ?_|refine t_drawE (id:=1) (fun _=>true) [(0,1),(1,1),(2,1),(3,1),(4,1),(5,1),(6,1),(7,1),(8,0),(9,2),(10,0)] (by kernel_rfl) fun K=>?_|refine t_dwh (h:=fun K KL=>?_));intros;simp only [go_sem,kp169,geff,yes]))
   all_goals try exact nd
   all_goals (refine nl ?_;simp only [go_sem,finE])
   exact ⟨_,_,rfl,LeA.refl _,ro_bds (by omega) hbd,hk⟩
end
end Go.Proofs.Ytnlimcijgpaegaa.Mm

namespace Go.Proofs.Ytnlimcijgpaegaa.Mm
open Go.Proofs.Ytnlimcijgpaegaa
open Go Go.Fw Bm
set_option maxRecDepth 20000
section
variable {x y:AObj} {B:Prg} {mt:List Int} {m:MS} {ex:List AObj} {k:AV→List AObj→Prop} {n A:Nat} {X:Ins}
set_option maxHeartbeats 4000000 in
theorem add_ec (h:OkM n A m) (ha:0≤X.a∧X.a<n) (hb:0≤X.b∧X.b<n) (hc:0≤X.c∧X.c<n) (hd: -1048576≤X.d∧X.d≤1048576)
    (hk:k (.lit (.bool (inMc (gt m.regs X.b+X.d*gt m.regs X.c)))) (robj x y B mt (putM m X.a (gt m.regs X.b+X.d*gt m.regs X.c)) ex)):EC Try.prog 148 [.ref 5 0,opV X] (robj x y B mt m ex) k:=by
  refine ec_fin fun hbd=>?_
  obtain ⟨q,p,a,b,c,d⟩:=X
  have hr:=h.regs
  have hn:=h.n
  have vb:=h.rv b
  have vc:=h.rv c
  have mc:maxC=1099511627776:=rfl
  simp only at ha hb hc hd hk
  simp only [opV_mk]
  have gb:m.regs.getD b.toNat 0=gt m.regs b:=rfl
  have gc:m.regs.getD c.toNat 0=gt m.regs c:=rfl
  generalize gt m.regs b=u at*
  generalize gt m.regs c=v at*
  have hdv: -1152921504606846976≤d*v∧d*v≤1152921504606846976:=mul_in hd (by omega)
  generalize hw:d*v=w at*
  have hI:inMc (u+w)=(decide (u+w≥ -1099511627776)&&decide (u+w≤1099511627776)):=by
    unfold inMc
    by_cases h1:u+w≥ -1099511627776
    ·by_cases h2:u+w≤1099511627776
     ·rw [decide_eq_true h1,decide_eq_true h2];exact decide_eq_true (by omega)
     ·rw [decide_eq_false h2,Bool.and_false];exact decide_eq_false (by omega)
    ·rw [decide_eq_false h1,Bool.false_and];exact decide_eq_false (by omega)
  rw [hI] at hk
  cases g1:decide (u+w≥ -1099511627776) with
  |true=>
   rw [g1,Bool.true_and] at hk
   refine ecR M2_ok (kp148) Try.func148 [.tmp 4] (h:=fun KF=>?_)
   unfold M2
   repeat' (first
    |(with_reducible first|refine nx ?_|refine t_seq fun K=>?_|refine t_br (fun hc=>?_) fun hc=>?_|refine t_bx ?_|apply And.intro|intro vr)|exact kp_fls|exact kp_rox|exact kpd
    |((with_reducible first|refine ny ?_|refine t_kLF ?_ ?_|refine t_drawE (id:=2) (fun _=>false) [(0,1),(1,2),(2,2),(3,2),(4,2),(5,2),(6,1),(7,2),(8,0)] (by kernel_rfl) fun K=>?_|refine t_dwh (h:=fun K KL=>?_));intros;simp only [go_sem,kp148,geff,gb,gc,hw,g1,yes]))
   all_goals try exact nd
   all_goals (refine nl ?_;simp only [go_sem,finE])
   exact ⟨_,_,rfl,LeA.refl _,ro_bds (by omega) hbd,hk⟩
  |false=>
   rw [g1,Bool.false_and] at hk
   refine ecR M2_ok (kp148) Try.func148 [.tmp 4] (h:=fun KF=>?_)
   unfold M2
   repeat' (first
    |(with_reducible first|refine nx ?_|refine t_seq fun K=>?_|refine t_br (fun hc=>?_) fun hc=>?_|refine t_bx ?_|apply And.intro|intro vr)|exact kp_fls|exact kp_rox|exact kpd
    |((with_reducible first|refine ny ?_|refine t_kLF ?_ ?_|refine t_drawE (id:=2) (fun _=>false) [(0,1),(1,2),(2,2),(3,2),(4,2),(5,2),(6,1),(7,2),(8,0)] (by kernel_rfl) fun K=>?_|refine t_dwh (h:=fun K KL=>?_));intros;simp only [go_sem,kp148,geff,gb,gc,hw,g1,yes]))
   all_goals try exact nd
   all_goals (refine nl ?_;simp only [go_sem,finE])
   exact ⟨_,_,rfl,LeA.refl _,ro_bds (by omega) hbd,hk⟩
set_option maxHeartbeats 4000000 in
theorem load_ec (h:OkM n A m) (ha:0≤X.a∧X.a<n) (hb:0≤X.b∧X.b<n)
    (hk1:(0≤gt m.regs X.b∧gt m.regs X.b<m.arena.length)→k (.lit (.bool true)) (robj x y B mt {putM m X.a (gt m.arena (gt m.regs X.b)) with reads:=m.reads+1} ex))
    (hk2: ¬ (0≤gt m.regs X.b∧gt m.regs X.b<m.arena.length)→k (.lit (.bool false)) (robj x y B mt m ex)):EC Try.prog 152 [.ref 5 0,opV X] (robj x y B mt m ex) k:=by
  refine ec_fin fun hbd=>?_
  obtain ⟨q,p,a,b,c,d⟩:=X
  have hr:=h.regs
  have hn:=h.n
  have hA:=h.arena
  have hA2:=h.A
  have ht:=h.top
  have hp:=h.pos
  simp only at ha hb hk1 hk2
  simp only [opV_mk]
  have gb:m.regs.getD b.toNat 0=gt m.regs b:=rfl
  have gw:m.arena.getD (gt m.regs b).toNat 0=gt m.arena (gt m.regs b):=rfl
  generalize gt m.regs b=u at*
  by_cases hin:0≤u∧u<m.arena.length
  ·have g1:=decide_eq_true hin
   refine ecR M2_ok (kp152) Try.func152 [.tmp 4] (h:=fun KF=>?_)
   unfold M2
   repeat' (first
    |(with_reducible first|refine nx ?_|refine t_seq fun K=>?_|refine t_br (fun hc=>?_) fun hc=>?_|refine t_bx ?_|apply And.intro|intro vr)|exact kp_fls|exact kp_rox|exact kpd
    |((with_reducible first|refine ny ?_|refine t_kLF ?_ ?_|refine t_drawE (id:=3) (fun _=>false) [(0,1),(1,2),(2,2),(3,2),(4,2),(5,2),(6,1),(7,2),(8,2),(9,2),(10,1),(11,2),(12,2),(13,2),(14,2),(15,2),(16,2),(17,2),(18,2),(19,2),(20,2),(21,0)] (by kernel_rfl) fun K=>?_|refine t_drawE (id:=1) (fun _=>false) [(0,1),(1,1),(2,2),(3,2),(4,2),(5,2),(6,2),(7,2),(8,2),(9,0),(10,1)] (by kernel_rfl) fun K=>?_|refine t_dwh (h:=fun K KL=>?_));intros;simp only [go_sem,kp152,geff,gb,yes]))
   all_goals try exact nd
   refine ecn171_i rfl (by omega) ?_
   repeat' (first
    |(with_reducible first|refine nx ?_|refine t_seq fun K=>?_|refine t_br (fun hc=>?_) fun hc=>?_|refine t_bx ?_|apply And.intro|intro vr)|exact kp_fls|exact kp_rox|exact kpd
    |((with_reducible first|refine ny ?_|refine t_kLF ?_ ?_|refine t_drawE (id:=3) (fun _=>false) [(0,1),(1,2),(2,2),(3,2),(4,2),(5,2),(6,1),(7,2),(8,2),(9,2),(10,1),(11,2),(12,2),(13,2),(14,2),(15,2),(16,2),(17,2),(18,2),(19,2),(20,2),(21,0)] (by kernel_rfl) fun K=>?_|refine t_drawE (id:=1) (fun _=>false) [(0,1),(1,1),(2,2),(3,2),(4,2),(5,2),(6,2),(7,2),(8,2),(9,0),(10,1)] (by kernel_rfl) fun K=>?_|refine t_dwh (h:=fun K KL=>?_));intros;simp only [go_sem,kp152,geff,gb,g1,gw,yes]))
   all_goals try exact nd
   all_goals (refine nl ?_;simp only [go_sem,finE])
   exact ⟨_,_,rfl,LeA.refl _,ro_bds (by omega) hbd,hk1 hin⟩
  ·have g1:=decide_eq_false hin
   refine ecR M2_ok (kp152) Try.func152 [.tmp 4] (h:=fun KF=>?_)
   unfold M2
   repeat' (first
    |(with_reducible first|refine nx ?_|refine t_seq fun K=>?_|refine t_br (fun hc=>?_) fun hc=>?_|refine t_bx ?_|apply And.intro|intro vr)|exact kp_fls|exact kp_rox|exact kpd
    |((with_reducible first|refine ny ?_|refine t_kLF ?_ ?_|refine t_drawE (id:=3) (fun _=>false) [(0,1),(1,2),(2,2),(3,2),(4,2),(5,2),(6,1),(7,2),(8,2),(9,2),(10,1),(11,2),(12,2),(13,2),(14,2),(15,2),(16,2),(17,2),(18,2),(19,2),(20,2),(21,0)] (by kernel_rfl) fun K=>?_|refine t_drawE (id:=1) (fun _=>false) [(0,1),(1,1),(2,2),(3,2),(4,2),(5,2),(6,2),(7,2),(8,2),(9,0),(10,1)] (by kernel_rfl) fun K=>?_|refine t_dwh (h:=fun K KL=>?_));intros;simp only [go_sem,kp152,geff,gb,yes]))
   all_goals try exact nd
   refine ecn171_i rfl (by omega) ?_
   repeat' (first
    |(with_reducible first|refine nx ?_|refine t_seq fun K=>?_|refine t_br (fun hc=>?_) fun hc=>?_|refine t_bx ?_|apply And.intro|intro vr)|exact kp_fls|exact kp_rox|exact kpd
    |((with_reducible first|refine ny ?_|refine t_kLF ?_ ?_|refine t_drawE (id:=3) (fun _=>false) [(0,1),(1,2),(2,2),(3,2),(4,2),(5,2),(6,1),(7,2),(8,2),(9,2),(10,1),(11,2),(12,2),(13,2),(14,2),(15,2),(16,2),(17,2),(18,2),(19,2),(20,2),(21,0)] (by kernel_rfl) fun K=>?_|refine t_drawE (id:=1) (fun _=>false) [(0,1),(1,1),(2,2),(3,2),(4,2),(5,2),(6,2),(7,2),(8,2),(9,0),(10,1)] (by kernel_rfl) fun K=>?_|refine t_dwh (h:=fun K KL=>?_));intros;simp only [go_sem,kp152,geff,gb,g1,gw,yes]))
   all_goals try exact nd
   all_goals (refine nl ?_;simp only [go_sem,finE])
   exact ⟨_,_,rfl,LeA.refl _,ro_bds (by omega) hbd,hk2 hin⟩
set_option maxHeartbeats 4000000 in
theorem miss_ec (h:OkM n A m) (ha:0≤X.a∧X.a<n) (hk:k (.lit (.bool true)) (robj x y B mt {putM m X.a 0 with reads:=m.reads+1} ex)):EC Try.prog 154 [opV X,.ref 8 0] (robj x y B mt m ex) k:=by
  refine ec_fin fun hbd=>?_
  obtain ⟨q,p,a,b,c,d⟩:=X
  have hr:=h.regs
  have hn:=h.n
  have ht:=h.top
  have hp:=h.pos
  simp only at ha hk
  simp only [opV_mk]
  refine ecR M2_ok (kp154) Try.func154 [.tmp 3] (h:=fun KF=>?_)
  unfold M2
  repeat' (first
   |(with_reducible first|refine nx ?_|refine t_seq fun K=>?_|refine t_br (fun hc=>?_) fun hc=>?_|refine t_bx ?_|apply And.intro|intro vr)|exact kp_fls|exact kp_rox|exact kpd
   |((with_reducible first|refine ny ?_|refine t_kLF ?_ ?_|refine t_drawE (id:=1) (fun _=>false) [(0,2),(1,2),(2,2),(3,2),(4,2),(5,2),(6,2),(7,0)] (by kernel_rfl) fun K=>?_|refine t_dwh (h:=fun K KL=>?_));intros;simp only [go_sem,kp154,geff,yes]))
  all_goals try exact nd
  all_goals (refine nl ?_;simp only [go_sem,finE])
  exact ⟨_,_,rfl,LeA.refl _,ro_bds (by omega) hbd,hk⟩
set_option maxHeartbeats 4000000 in
theorem skip_ec (h:OkM n A m) (hk:k (.lit (.bool true)) (robj x y B mt {m with writes:=m.writes+1} ex)):EC Try.prog 158 [opV X,.ref 8 0] (robj x y B mt m ex) k:=by
  refine ec_fin fun hbd=>?_
  obtain ⟨q,p,a,b,c,d⟩:=X
  have ht:=h.top
  have hp:=h.pos
  simp only [opV_mk]
  refine ecR M2_ok (kp158) Try.func158 [.tmp 3] (h:=fun KF=>?_)
  unfold M2
  repeat' (first
   |(with_reducible first|refine nx ?_|refine t_seq fun K=>?_|refine t_br (fun hc=>?_) fun hc=>?_|refine t_bx ?_|apply And.intro|intro vr)
   |((with_reducible first|refine ny ?_|refine t_dwh (h:=fun K KL=>?_));intros;simp only [go_sem,kp158,geff,yes]))
  all_goals try exact nd
  all_goals (refine nl ?_;simp only [go_sem,finE])
  exact ⟨_,_,rfl,LeA.refl _,ro_bds (by omega) hbd,hk⟩
set_option maxHeartbeats 4000000 in
theorem check_ec (h:OkM n A m) (hb:0≤X.b∧X.b<n)
    (hk1:gt m.regs X.b=0→k (.lit (.bool true)) (robj x y B mt {m with viol:=m.viol++[X.a],vv:=m.vv+1,vb:=m.vv+1} ex))
    (hk2: ¬ gt m.regs X.b=0→k (.lit (.bool true)) (robj x y B mt m ex)):EC Try.prog 155 [.ref 5 0,opV X] (robj x y B mt m ex) k:=by
  refine ec_fin fun hbd=>?_
  obtain ⟨q,p,a,b,c,d⟩:=X
  have hr:=h.regs
  have hn:=h.n
  have hvl:=h.vl
  have hver:=h.ver
  simp only at hb hk1 hk2
  simp only [opV_mk]
  have gb:m.regs.getD b.toNat 0=gt m.regs b:=rfl
  generalize gt m.regs b=u at*
  by_cases hu:u=0
  ·have g1:=decide_eq_true hu
   refine ecR M2_ok (kp155) Try.func155 [.tmp 4] (h:=fun KF=>?_)
   unfold M2
   repeat' (first
    |(with_reducible first|refine nx ?_|refine t_seq fun K=>?_|refine t_br (fun hc=>?_) fun hc=>?_|refine t_bx ?_|apply And.intro|intro vr)|exact kp_fls|exact kp_rox|exact kpd
    |((with_reducible first|refine ny ?_|refine t_kLF ?_ ?_|refine t_drawE (id:=2) (fun i=>i==ex.length+21) [(0,1),(5,1),(6,1),(7,1),(1,2),(2,2),(3,2),(4,2),(8,0),(9,2),(10,2),(11,0)] (by kernel_rfl) fun K=>?_|refine t_dwh (h:=fun K KL=>?_));intros;simp only [go_sem,kp155,geff,gb,g1,hver,yes]))
   all_goals try exact nd
   all_goals (refine nl ?_;simp only [go_sem,finE])
   exact ⟨_,_,rfl,LeA.refl _,ro_bds (by omega) hbd,hk1 hu⟩
  ·have g1:=decide_eq_false hu
   refine ecR M2_ok (kp155) Try.func155 [.tmp 4] (h:=fun KF=>?_)
   unfold M2
   repeat' (first
    |(with_reducible first|refine nx ?_|refine t_seq fun K=>?_|refine t_br (fun hc=>?_) fun hc=>?_|refine t_bx ?_|apply And.intro|intro vr)|exact kp_fls|exact kp_rox|exact kpd
    |((with_reducible first|refine ny ?_|refine t_kLF ?_ ?_|refine t_drawE (id:=2) (fun i=>i==ex.length+21) [(0,1),(5,1),(6,1),(7,1),(1,2),(2,2),(3,2),(4,2),(8,0),(9,2),(10,2),(11,0)] (by kernel_rfl) fun K=>?_|refine t_dwh (h:=fun K KL=>?_));intros;simp only [go_sem,kp155,geff,gb,g1,yes]))
   all_goals try exact nd
   all_goals (refine nl ?_;simp only [go_sem,finE])
   exact ⟨_,_,rfl,LeA.refl _,ro_bds (by omega) hbd,hk2 hu⟩
end
end Go.Proofs.Ytnlimcijgpaegaa.Mm

namespace Go.Proofs.Ytnlimcijgpaegaa.Mm
open Go.Proofs.Ytnlimcijgpaegaa
open Go Go.Fw Bm
set_option maxRecDepth 20000
section
variable {x y:AObj} {B:Prg} {mt:List Int} {m:MS} {ex:List AObj} {k:AV→List AObj→Prop} {n A:Nat} {X:Ins}
set_option maxHeartbeats 4000000 in
theorem store_ec (h:OkM n A m) (ha:0≤X.a∧X.a<n) (hb:0≤X.b∧X.b<n)
    (hk1:(0≤gt m.regs X.a∧gt m.regs X.a<m.arena.length)∧vld sInt (gt m.regs X.b)=true→k (.lit (.bool true)) (robj x y B mt {m with arena:=m.arena.set (gt m.regs X.a).toNat (gt m.regs X.b),writes:=m.writes+1,peak:=maxI m.peak (gt m.regs X.a+1)} ex))
    (hk2: ¬ ((0≤gt m.regs X.a∧gt m.regs X.a<m.arena.length)∧vld sInt (gt m.regs X.b)=true)→k (.lit (.bool false)) (robj x y B mt m ex)):EC Try.prog 153 [.ref 5 0,opV X] (robj x y B mt m ex) k:=by
  refine ec_fin fun hbd=>?_
  obtain ⟨q,p,a,b,c,d⟩:=X
  have hr:=h.regs
  have hn:=h.n
  have hA:=h.arena
  have hA2:=h.A
  have ht:=h.top
  have hp:=h.pos
  simp only at ha hb hk1 hk2
  simp only [opV_mk]
  have ga:m.regs.getD a.toNat 0=gt m.regs a:=rfl
  have gb:m.regs.getD b.toNat 0=gt m.regs b:=rfl
  have hvl:vld ⟨#[105,110,116]⟩ (gt m.regs b)=vld sInt (gt m.regs b):=rfl
  have va:=h.rv a
  have mc:maxC=1099511627776:=rfl
  generalize gt m.regs a=u at*
  generalize gt m.regs b=w at*
  by_cases hin:0≤u∧u<m.arena.length
  ·have g1:=decide_eq_true hin
   cases hv:vld sInt w with
   |true=>
    refine ecR M2_ok (kp153) Try.func153 [.tmp 4] (h:=fun KF=>?_)
    unfold M2
    repeat' (first
     |(with_reducible first|refine nx ?_|refine t_seq fun K=>?_|refine t_br (fun hc=>?_) fun hc=>?_|refine t_bx ?_|apply And.intro|intro vr)|exact kp_fls|exact kp_self|exact kpd
     |((with_reducible first|refine ny ?_|refine t_kLF ?_ ?_|refine t_drawE (id:=2) (fun _=>true) [(0,1),(1,1),(2,0),(3,1),(4,1),(9,1),(10,1),(5,1),(6,1),(7,1),(8,1),(11,0),(12,0),(13,1),(14,1),(15,1)] (by kernel_rfl) fun K=>?_|refine t_drawE (id:=4) (fun _=>false) [(0,2),(1,2),(2,2),(3,2),(4,2),(5,2),(6,2),(7,2),(8,2),(9,2),(10,2),(11,2),(12,2),(13,2),(14,0)] (by kernel_rfl) fun K=>?_|refine t_dwh (h:=fun K KL=>?_));intros;simp only [go_sem,kp153,geff,ga,yes]))
    all_goals try exact nd
    refine ecn171_i rfl (by omega) ?_
    repeat' (first
     |(with_reducible first|refine nx ?_|refine t_seq fun K=>?_|refine t_br (fun hc=>?_) fun hc=>?_|refine t_bx ?_|apply And.intro|intro vr)|exact kp_fls|exact kp_self|exact kpd
     |((with_reducible first|refine ny ?_|refine t_kLF ?_ ?_|refine t_drawE (id:=2) (fun _=>true) [(0,1),(1,1),(2,0),(3,1),(4,1),(9,1),(10,1),(5,1),(6,1),(7,1),(8,1),(11,0),(12,0),(13,1),(14,1),(15,1)] (by kernel_rfl) fun K=>?_|refine t_drawE (id:=4) (fun _=>false) [(0,2),(1,2),(2,2),(3,2),(4,2),(5,2),(6,2),(7,2),(8,2),(9,2),(10,2),(11,2),(12,2),(13,2),(14,0)] (by kernel_rfl) fun K=>?_|refine t_dwh (h:=fun K KL=>?_));intros;simp only [go_sem,kp153,geff,ga,gb,g1,hvl,hv,yes]))
    all_goals try exact nd
    all_goals (refine nl ?_;simp only [go_sem,finE])
    exact ⟨_,_,rfl,LeA.refl _,ro_bds (by omega) hbd,hk1 ⟨hin,hv⟩⟩
   |false=>
    refine ecR M2_ok (kp153) Try.func153 [.tmp 4] (h:=fun KF=>?_)
    unfold M2
    repeat' (first
     |(with_reducible first|refine nx ?_|refine t_seq fun K=>?_|refine t_br (fun hc=>?_) fun hc=>?_|refine t_bx ?_|apply And.intro|intro vr)|exact kp_fls|exact kp_self|exact kpd
     |((with_reducible first|refine ny ?_|refine t_kLF ?_ ?_|refine t_drawE (id:=2) (fun _=>true) [(0,1),(1,1),(2,0),(3,1),(4,1),(9,1),(10,1),(5,1),(6,1),(7,1),(8,1),(11,0),(12,0),(13,1),(14,1),(15,1)] (by kernel_rfl) fun K=>?_|refine t_drawE (id:=4) (fun _=>false) [(0,2),(1,2),(2,2),(3,2),(4,2),(5,2),(6,2),(7,2),(8,2),(9,2),(10,2),(11,2),(12,2),(13,2),(14,0)] (by kernel_rfl) fun K=>?_|refine t_dwh (h:=fun K KL=>?_));intros;simp only [go_sem,kp153,geff,ga,yes]))
    all_goals try exact nd
    refine ecn171_i rfl (by omega) ?_
    repeat' (first
     |(with_reducible first|refine nx ?_|refine t_seq fun K=>?_|refine t_br (fun hc=>?_) fun hc=>?_|refine t_bx ?_|apply And.intro|intro vr)|exact kp_fls|exact kp_self|exact kpd
     |((with_reducible first|refine ny ?_|refine t_kLF ?_ ?_|refine t_drawE (id:=2) (fun _=>true) [(0,1),(1,1),(2,0),(3,1),(4,1),(9,1),(10,1),(5,1),(6,1),(7,1),(8,1),(11,0),(12,0),(13,1),(14,1),(15,1)] (by kernel_rfl) fun K=>?_|refine t_drawE (id:=4) (fun _=>false) [(0,2),(1,2),(2,2),(3,2),(4,2),(5,2),(6,2),(7,2),(8,2),(9,2),(10,2),(11,2),(12,2),(13,2),(14,0)] (by kernel_rfl) fun K=>?_|refine t_dwh (h:=fun K KL=>?_));intros;simp only [go_sem,kp153,geff,ga,gb,g1,hvl,hv,yes]))
    all_goals try exact nd
    all_goals (refine nl ?_;simp only [go_sem,finE])
    exact ⟨_,_,rfl,LeA.refl _,ro_bds (by omega) hbd,hk2 (fun q=>by rw [hv] at q;cases q.2)⟩
  ·have g1:=decide_eq_false hin
   refine ecR M2_ok (kp153) Try.func153 [.tmp 4] (h:=fun KF=>?_)
   unfold M2
   repeat' (first
    |(with_reducible first|refine nx ?_|refine t_seq fun K=>?_|refine t_br (fun hc=>?_) fun hc=>?_|refine t_bx ?_|apply And.intro|intro vr)|exact kp_fls|exact kp_self|exact kpd
    |((with_reducible first|refine ny ?_|refine t_kLF ?_ ?_|refine t_drawE (id:=2) (fun _=>true) [(0,1),(1,1),(2,0),(3,1),(4,1),(9,1),(10,1),(5,1),(6,1),(7,1),(8,1),(11,0),(12,0),(13,1),(14,1),(15,1)] (by kernel_rfl) fun K=>?_|refine t_drawE (id:=4) (fun _=>false) [(0,2),(1,2),(2,2),(3,2),(4,2),(5,2),(6,2),(7,2),(8,2),(9,2),(10,2),(11,2),(12,2),(13,2),(14,0)] (by kernel_rfl) fun K=>?_|refine t_dwh (h:=fun K KL=>?_));intros;simp only [go_sem,kp153,geff,ga,yes]))
   all_goals try exact nd
   refine ecn171_i rfl (by omega) ?_
   repeat' (first
    |(with_reducible first|refine nx ?_|refine t_seq fun K=>?_|refine t_br (fun hc=>?_) fun hc=>?_|refine t_bx ?_|apply And.intro|intro vr)|exact kp_fls|exact kp_self|exact kpd
    |((with_reducible first|refine ny ?_|refine t_kLF ?_ ?_|refine t_drawE (id:=2) (fun _=>true) [(0,1),(1,1),(2,0),(3,1),(4,1),(9,1),(10,1),(5,1),(6,1),(7,1),(8,1),(11,0),(12,0),(13,1),(14,1),(15,1)] (by kernel_rfl) fun K=>?_|refine t_drawE (id:=4) (fun _=>false) [(0,2),(1,2),(2,2),(3,2),(4,2),(5,2),(6,2),(7,2),(8,2),(9,2),(10,2),(11,2),(12,2),(13,2),(14,0)] (by kernel_rfl) fun K=>?_|refine t_dwh (h:=fun K KL=>?_));intros;simp only [go_sem,kp153,geff,ga,gb,g1,hvl,yes]))
   all_goals try exact nd
   all_goals (refine nl ?_;simp only [go_sem,finE])
   exact ⟨_,_,rfl,LeA.refl _,ro_bds (by omega) hbd,hk2 (fun q=>hin q.1)⟩
set_option maxHeartbeats 4000000 in
theorem prim_ec (h:OkM n A m) (hx:X.code=5) (ha:0≤X.a∧X.a<n) (hrd:∀ r∈readsS X,0≤r∧r<n)
    (hk1:∀ v,El.applyS X.prim ((readsS X).map (gt m.regs))=some v→k (.lit (.bool true)) (robj x y B mt {putM m X.a v with ops:=m.ops+1} ex))
    (hk2:El.applyS X.prim ((readsS X).map (gt m.regs))=none→k (.lit (.bool false)) (robj x y B mt {putM m X.a 0 with ops:=m.ops+1} ex)):EC Try.prog 151 [.ref 5 0,opV X] (robj x y B mt m ex) k:=by
  refine ec_fin fun hbd=>?_
  have h3:=reads_len X
  have hr:=h.regs
  have hn:=h.n
  have ht:=h.top
  have hp:=h.pos
  generalize hM:readsS X=M at*
  obtain ⟨q,p,a,b,cc,d⟩:=X
  simp only at ha hk1 hk2 hx
  simp only [opV_mk]
  have av0:El.applyV none= .tup [.lit (.int .i64 0),.lit (.bool false)]:=rfl
  have av1:∀ y,El.applyV (some y)= .tup [.lit (.int .i64 y),.lit (.bool true)]:=fun _=>rfl
  generalize hap:El.applyS p (M.map (gt m.regs))=Y at hk1 hk2
  refine ecR M2_ok (kp151) Try.func151 [.tmp 4] (h:=fun KF=>?_)
  unfold M2
  repeat' (first
   |(with_reducible first|refine nx ?_|refine t_seq fun K=>?_|refine t_br (fun hc=>?_) fun hc=>?_|refine t_bx ?_|apply And.intro|intro vr)|exact kp_fls|exact kp_self|exact kpd
   |((with_reducible first|refine ny ?_|refine t_kLF ?_ ?_|refine t_drawE (id:=8) (fun _=>false) [(0,1),(1,2),(2,2),(3,2),(4,2),(5,2),(6,1),(7,2),(8,0)] (by kernel_rfl) fun K=>?_|refine t_dwh (h:=fun K KL=>?_));intros;simp only [go_sem,kp151,geff,yes,hM]))
  all_goals try exact nd
  refine t_loopF (ι:={q:Nat×Nat // q.1≤M.length}) (fun i=>[(13,.lit (.int .i64 i.1.1)),(5,.arr (ex.length+22) i.1.2)]) (fun i=>robj x y B mt m (ex++[.box 73 [.lit (.int .i64 q),.lit (.string p),.lit (.int .i64 a),.lit (.int .i64 b),.lit (.int .i64 cc),.lit (.int .i64 d)],.arr 3 1 (ints .i64 ((M.take i.1.1).map (gt m.regs))) i.1.2 false])) (fun i=>M.length - i.1.1) ⟨(0,0),by simp⟩ ?_ ?_
  ·refine (le_nil 5 3 1 rfl).trans ?_
   exact lf
  rintro ⟨⟨i,v⟩,hi⟩ K0
  simp only at hi
  rcases Nat.lt_or_ge i M.length with hc'|hc'
  ·have g3:decide ((i:Int)<(M.length:Int))=true:=decide_eq_true (by omega)
   have hmm:=hrd _ (mem_getD hc')
   have ht:=take_mapI (f:=gt m.regs) hc'
   have hln:((M.take i).map (gt m.regs)).length=i:=by rw [List.length_map,List.length_take];omega
   generalize hxx:M.getD i 0=z at hmm ht
   have gz:m.regs.getD z.toNat 0=gt m.regs z:=rfl
   repeat' (first
    |(with_reducible first|refine nx ?_|refine t_seq fun K=>?_|refine t_br (fun hc=>?_) fun hc=>?_|refine t_bx ?_|apply And.intro|intro vr)|exact kp_fls|exact kp_self|exact kpd
    |((with_reducible first|refine ny ?_|refine t_kLF ?_ ?_|refine t_drawE (id:=8) (fun _=>false) [(0,1),(1,2),(2,2),(3,2),(4,2),(5,2),(6,1),(7,2),(8,0)] (by kernel_rfl) fun K=>?_|refine t_dwh (h:=fun K KL=>?_));intros;simp only [go_sem,kp151,geff,g3,hxx,gz,ht,hln,ints_length,Int.toNat_natCast,yes]))
   all_goals try exact nd
   exact ⟨⟨(i+1,v+1),by simp only;omega⟩,wf,lf⟩
  ·have g3:decide ((i:Int)<(M.length:Int))=false:=decide_eq_false (by omega)
   have eM:M.take i=M:=List.take_of_length_le hc'
   cases Y with
   |none=>
    repeat' (first
     |(with_reducible first|refine nx ?_|refine t_seq fun K=>?_|refine t_br (fun hc=>?_) fun hc=>?_|refine t_bx ?_|apply And.intro|intro vr)|exact kp_fls|exact kp_self|exact kpd
     |((with_reducible first|refine ny ?_|refine t_kLF ?_ ?_|refine t_drawE (id:=8) (fun _=>false) [(0,1),(1,2),(2,2),(3,2),(4,2),(5,2),(6,1),(7,2),(8,0)] (by kernel_rfl) fun K=>?_|refine t_dwh (h:=fun K KL=>?_));intros;simp only [go_sem,kp151,geff,g3,eM,hap,av0,slK_sl,Option.map_some,yes]))
    all_goals try exact nd
    all_goals (refine nl ?_;simp only [go_sem,finE])
    exact ⟨_,_,rfl,LeA.refl _,ro_bds (by omega) hbd,hk2 rfl⟩
   |some y=>
    repeat' (first
     |(with_reducible first|refine nx ?_|refine t_seq fun K=>?_|refine t_br (fun hc=>?_) fun hc=>?_|refine t_bx ?_|apply And.intro|intro vr)|exact kp_fls|exact kp_self|exact kpd
     |((with_reducible first|refine ny ?_|refine t_kLF ?_ ?_|refine t_drawE (id:=8) (fun _=>false) [(0,1),(1,2),(2,2),(3,2),(4,2),(5,2),(6,1),(7,2),(8,0)] (by kernel_rfl) fun K=>?_|refine t_dwh (h:=fun K KL=>?_));intros;simp only [go_sem,kp151,geff,g3,eM,hap,av1,slK_sl,Option.map_some,yes]))
    all_goals try exact nd
    all_goals (refine nl ?_;simp only [go_sem,finE])
    exact ⟨_,_,rfl,LeA.refl _,ro_bds (by omega) hbd,hk1 y rfl⟩
end
end Go.Proofs.Ytnlimcijgpaegaa.Mm

namespace Go.Proofs.Ytnlimcijgpaegaa.Bm
open Go.Proofs.Ytnlimcijgpaegaa
open Go Go.Fw
def clsr (c:Int):Bool:=decide (c=12)||decide (c=13)
structure Prt (ops:List Ins) (n:Nat) (out:List Int) (st:List Nat):Prop where
  len:out.length=n
  lt:∀ j∈st,j<n
  asc:st.Pairwise (fun a b=>b<a)
  prt:∀ e,e<n→clsr (cd ops e)=true→∃ j,j<e∧j ∉ st∧opnr (cd ops j)=true∧out.getD j 0=e
  opn:∀ j∈st,opnr (cd ops j)=true
theorem Prt.plain {ops:List Ins} {n:Nat} {out:List Int} {st:List Nat} (h:Prt ops n out st) (hc:clsr (cd ops n)=false):Prt ops (n+1) (out++[(n:Int)]) st:=by
  have hl:=h.len
  refine ⟨by simp [hl],fun j hj=>Nat.lt_succ_of_lt (h.lt j hj),h.asc,fun e he hce=>?_,h.opn⟩
  have hen:e≠n:=fun q=>by subst q;rw [hc] at hce;cases hce
  obtain ⟨j,q1,q2,q3,q4⟩:=h.prt e (by omega) hce
  exact ⟨j,q1,q2,q3,by rw [getD_append_l (by omega)];exact q4⟩
theorem Prt.push {ops:List Ins} {n:Nat} {out:List Int} {st:List Nat} (h:Prt ops n out st) (hc:clsr (cd ops n)=false) (ho:opnr (cd ops n)=true):Prt ops (n+1) (out++[(n:Int)]) (n::st):=by
  have hp:=h.plain hc
  refine ⟨hp.len,fun j hj=>?_,List.pairwise_cons.2 ⟨fun b hb=>h.lt b hb,h.asc⟩,fun e he hce=>?_,fun j hj=>?_⟩
  ·rcases List.mem_cons.1 hj with rfl|hj
   ·omega
   ·exact hp.lt j hj
  ·have hen:e≠n:=fun q=>by subst q;rw [hc] at hce;cases hce
   obtain ⟨j,q1,q2,q3,q4⟩:=hp.prt e he hce
   refine ⟨j,q1,fun hm=>?_,q3,q4⟩
   rcases List.mem_cons.1 hm with rfl|hm
   ·omega
   ·exact q2 hm
  ·rcases List.mem_cons.1 hj with rfl|hj
   ·exact ho
   ·exact h.opn j hj
theorem Prt.close {ops:List Ins} {n j:Nat} {out:List Int} {st st2:List Nat} (h:Prt ops n out (j::st)) (h2:st2=st∨(st2=n::st∧opnr (cd ops n)=true)):Prt ops (n+1) ((out++[(n:Int)]).set j n) st2:=by
  have hl:=h.len
  have hjn:=h.lt j (by simp)
  have hasc:=List.pairwise_cons.1 h.asc
  have hst:∀ k∈st,k<j:=fun k hk=>hasc.1 k hk
  have hj0:j<(out++[(n:Int)]).length:=by simp;omega
  have mem:∀ {k},k∈st2→k=n∨k∈st:=fun {k} hk=>by
    rcases h2 with rfl|⟨rfl,_⟩
    ·exact .inr hk
    ·exact List.mem_cons.1 hk
  refine ⟨by simp [hl],fun k hk=>?_,?_,fun e he hce=>?_,fun k hk=>?_⟩
  ·rcases mem hk with rfl|hk
   ·omega
   ·have:=hst k hk;omega
  ·rcases h2 with rfl|⟨rfl,_⟩
   ·exact hasc.2
   ·exact List.pairwise_cons.2 ⟨fun b hb=>by have:=hst b hb;omega,hasc.2⟩
  ·by_cases q:e=n
   ·subst q
    refine ⟨j,hjn,fun hm=>?_,h.opn j (by simp),getD_set_eq hj0⟩
    rcases mem hm with rfl|hm
    ·omega
    ·exact Nat.lt_irrefl _ (hst j hm)
   ·obtain ⟨k,q1,q2,q3,q4⟩:=h.prt e (by omega) hce
    have hkj:j≠k:=fun q=>q2 (by simp [q])
    refine ⟨k,q1,fun hm=>?_,q3,by rw [getD_set_ne hkj,getD_append_l (by omega)];exact q4⟩
    rcases mem hm with rfl|hm
    ·omega
    ·exact q2 (by simp [hm])
  ·rcases mem hk with rfl|hk
   ·rcases h2 with rfl|⟨rfl,ho⟩
    ·exact h.opn k (by simp [hk])
    ·exact ho
   ·exact h.opn k (by simp [hk])
theorem matchG_prt {ops:List Ins}:∀ (l:List Ins) (i:Nat) (out:List Int) (st:List Nat) (mt:List Int),ops.drop i=l→i≤ops.length→Prt ops i out st→matchG ops l i out st=some mt→Prt ops ops.length mt []
  |[],i,out,st,mt,hl,hi,h,e=>by
   have hn:i=ops.length:=by
     have:=congrArg List.length hl
     simp at this;omega
   subst hn
   cases st with
   |nil=>cases e;exact h
   |cons j st=>cases e
  |x::l,i,out,st,mt,hl,hi,h,e=>by
   have hlt:i<ops.length:=by
     rcases Nat.lt_or_ge i ops.length with h|h
     ·exact h
     ·rw [List.drop_eq_nil_of_le h] at hl;cases hl
   have hd:=List.drop_eq_getElem_cons hlt
   rw [hl] at hd
   simp only [List.cons.injEq] at hd
   have hl':ops.drop (i+1)=l:=hd.2.symm
   have hx:cd ops i=x.code:=by unfold cd;rw [hd.1];simp [List.getD,hlt]
   simp only [matchG] at e
   split at e
   ·rename_i hc
    split at e
    ·cases e
    ·exact matchG_prt l (i+1) _ _ mt hl' hlt (h.push (by rw [hx];rcases hc with hc|hc<;>rw [hc]<;>decide) (by rw [hx];rcases hc with hc|hc<;>rw [hc]<;>decide)) e
   ·rename_i h1
    split at e
    ·rename_i h2
     split at e
     ·cases e
     ·rename_i j st'
      split at e
      ·exact matchG_prt l (i+1) _ _ mt hl' hlt (h.close (.inr ⟨rfl,by rw [hx,h2];decide⟩)) e
      ·cases e
    ·rename_i h2
     split at e
     ·split at e
      ·cases e
      ·exact matchG_prt l (i+1) _ _ mt hl' hlt (h.close (.inl rfl)) e
     ·rename_i h3
      exact matchG_prt l (i+1) _ _ mt hl' hlt (h.plain (by
        rw [hx]
        simp only [clsr,Bool.or_eq_false_iff,decide_eq_false_iff_not]
        omega)) e
def Fre (B:Prg) (mt:List Int) (i to:Int):Prop:=∀ e:Int,i≤e→e<to→((B.op e).code=12∨(B.op e).code=13)→∃ j:Int,i≤j∧j<e∧((B.op j).code=10∨(B.op j).code=11∨(B.op j).code=12)∧gt mt j=e
theorem match_fre {B:Prg} {mt:List Int} (h:matchS B.ops=some mt):Fre B mt 0 B.ops.length:=by
  unfold matchS at h
  split at h
  ·cases h
  ·have hp:=matchG_prt B.ops 0 [] [] mt (by simp) (Nat.zero_le _) ⟨rfl,by simp,by simp,by simp,by simp⟩ h
   intro e h0 h1 hc
   obtain ⟨n,rfl⟩:∃ n:Nat,e=n:=⟨e.toNat,by omega⟩
   obtain ⟨j,q1,_,q3,q4⟩:=hp.prt n (by omega) (by
     rw [←op_cd]
     simp only [clsr,Bool.or_eq_true,decide_eq_true_eq];exact hc)
   rw [←op_cd] at q3
   simp only [opnr,Bool.or_eq_true,decide_eq_true_eq] at q3
   exact ⟨(j:Int),by omega,by omega,by omega,by simp only [gt,Int.toNat_natCast];exact q4⟩
section
variable {B:Prg} {mt:List Int}
theorem Fre.here {i to:Int} (h:Fre B mt i to) (hi:i<to):(B.op i).code≠12∧(B.op i).code≠13:=by
  refine ⟨fun c=>?_,fun c=>?_⟩
  ·obtain ⟨j,q1,q2,_⟩:=h i (Int.le_refl _) hi (.inl c);omega
  ·obtain ⟨j,q1,q2,_⟩:=h i (Int.le_refl _) hi (.inr c);omega
theorem Nest.in_lt (hN:Nest B.ops mt) {i j:Int} (h0:0≤i) (h1:i<B.ops.length) (ho:(B.op i).code=10∨(B.op i).code=11∨(B.op i).code=12) (hij:i<j) (hj:j<gt mt i) (hoj:(B.op j).code=10∨(B.op j).code=11∨(B.op j).code=12):gt mt j<gt mt i:=
  (hN.inner h0 h1 ho).2.2 j (by omega) hj hoj
theorem Fre.skip (hN:Nest B.ops mt) {i k to:Int} (h:Fre B mt i to) (h0:0≤i) (h1:i<B.ops.length) (ho:(B.op i).code=10∨(B.op i).code=11∨(B.op i).code=12) (hk:k=gt mt i+1):∀ e:Int,k≤e→e<to→((B.op e).code=12∨(B.op e).code=13)→∃ j:Int,k≤j+1∧j<e∧((B.op j).code=10∨(B.op j).code=11∨(B.op j).code=12)∧gt mt j=e:=by
  intro e k1 k2 hc
  obtain ⟨k3,k4,_,_⟩:=hN.at h0 h1 ho
  obtain ⟨j,q1,q2,q3,q4⟩:=h e (by omega) k2 hc
  refine ⟨j,?_,q2,q3,q4⟩
  rcases Int.lt_or_le j (gt mt i) with c|c
  ·rcases Int.lt_or_le i j with c2|c2
   ·have:=hN.in_lt h0 h1 ho c2 c q3
    omega
   ·have:j=i:=by omega
    subst this;omega
  ·omega
theorem Fre.for_ (hN:Nest B.ops mt) {i to:Int} (h:Fre B mt i to) (h0:0≤i) (h1:i<B.ops.length) (ho:(B.op i).code=10):Fre B mt (gt mt i+1) to:=by
  intro e k1 k2 hc
  obtain ⟨k3,k4,k5,k6⟩:=hN.at h0 h1 (.inl ho)
  obtain ⟨j,q1,q2,q3,q4⟩:=h.skip hN h0 h1 (.inl ho) rfl e k1 k2 hc
  refine ⟨j,?_,q2,q3,q4⟩
  rcases Int.lt_or_le j (gt mt i+1) with c|c
  ·have hj:j=gt mt i:=by omega
   exfalso
   subst hj
   rcases q3 with q|q|q
   ·rcases k5 with k5|k5<;>omega
   ·rcases k5 with k5|k5<;>omega
   ·have:=k6 q;omega
  ·exact c
theorem Fre.if_ (hN:Nest B.ops mt) {i to:Int} (h:Fre B mt i to) (hcl:Cl B mt i to) (hi:i<to) (ho:(B.op i).code=11):Fre B mt (gt mt (gt mt i)+1) to:=by
  intro e k1 k2 hc
  have h0:=hcl.1
  have h1:i<B.ops.length:=by have:=hcl.2.1;omega
  obtain ⟨k3,k4,k5,k6⟩:=hN.at h0 h1 (.inr (.inl ho))
  obtain ⟨_,e1,e2,_,_,e6⟩:=hN.end_ hcl hi ho
  obtain ⟨j,q1,q2,q3,q4⟩:=h.skip hN h0 h1 (.inr (.inl ho)) rfl e (by omega) k2 hc
  refine ⟨j,?_,q2,q3,q4⟩
  rcases Int.lt_or_le j (gt mt (gt mt i)+1) with c|c
  ·exfalso
   by_cases c12:(B.op (gt mt i)).code=12
   ·obtain ⟨m1,m2,m3,m4⟩:=hN.at (i:=gt mt i) (by omega) k4 (.inr (.inr c12))
    rcases Int.lt_or_le j (gt mt (gt mt i)) with d|d
    ·rcases Int.lt_or_le (gt mt i) j with d2|d2
     ·have:=hN.in_lt (i:=gt mt i) (by omega) k4 (.inr (.inr c12)) d2 d q3;omega
     ·have:j=gt mt i:=by omega
      subst this;omega
    ·have hj:j=gt mt (gt mt i):=by omega
     subst hj
     rcases q3 with q|q|q
     ·rcases m3 with m3|m3<;>omega
     ·rcases m3 with m3|m3<;>omega
     ·have:=m4 q;omega
   ·rw [e6 c12] at c
    have hj:j=gt mt i:=by omega
    subst hj
    rcases q3 with q|q|q
    ·rcases k5 with k5|k5<;>omega
    ·rcases k5 with k5|k5<;>omega
    ·exact c12 q
  ·exact c
theorem Fre.step {i to:Int} (h:Fre B mt i to) (ho:(B.op i).code≠10∧(B.op i).code≠11) (hi:i<to):Fre B mt (i+1) to:=by
  intro e k1 k2 hc
  obtain ⟨j,q1,q2,q3,q4⟩:=h e (by omega) k2 hc
  have hh:=h.here hi
  refine ⟨j,?_,q2,q3,q4⟩
  rcases Int.lt_or_le i j with c|c
  ·omega
  ·have:j=i:=by omega
   subst this
   rcases q3 with q|q|q
   ·exact absurd q ho.1
   ·exact absurd q ho.2
   ·exact absurd q hh.1
theorem Fre.inner (hN:Nest B.ops mt) (h:Fre B mt 0 B.ops.length) {i:Int} (h0:0≤i) (h1:i<B.ops.length) (ho:(B.op i).code=10∨(B.op i).code=11∨(B.op i).code=12):Fre B mt (i+1) (gt mt i):=by
  intro e k1 k2 hc
  obtain ⟨k3,k4,_,_⟩:=hN.at h0 h1 ho
  obtain ⟨j,q1,q2,q3,q4⟩:=h e (by omega) (by omega) hc
  refine ⟨j,?_,q2,q3,q4⟩
  rcases Int.lt_or_le i j with c|c
  ·omega
  ·exfalso
   by_cases c2:j=i
   ·subst c2;omega
   ·have:=hN.in_lt (i:=j) (j:=i) q1 (by omega) q3 (by omega) (by omega) ho
    omega
end
end Go.Proofs.Ytnlimcijgpaegaa.Bm

namespace Go.Proofs.Ytnlimcijgpaegaa.Mm
open Go.Proofs.Ytnlimcijgpaegaa
open Go Go.Fw Bm
structure Live (m:MS) (s:St):Prop where
  left:0<s.left
  fl:s.failed=false
  out:s.out=false
  regs:m.regs=s.regs
  arena:m.arena=s.arena
  reads:m.reads=s.reads
  writes:m.writes=s.writes
  ops:m.ops=s.ops
  peak:m.peak=s.peak
  viol:m.viol.foldl noteS []=s.viol
  steps:m.steps+s.left=200001
  vl:(m.viol.length:Int)≤m.steps
structure Rp (n:Nat) (m:MS) (s:St):Prop where
  len:m.regs.length=n
  ver:m.vb=m.vv
  st:0≤m.steps∧m.steps≤200001
  rel:(m.e=0∧Live m s)∨(m.e=3∧s.left≤0)∨(m.e=22∧0<s.left∧s.failed=true∧m.at_=s.at_)
variable {n A:Nat} {c:Int} {m:MS} {s:St} {x:Ins}
theorem Live.okM (h:Live m s) (hg:Gd n A c s) (hc:c≤1000000) (hn:n≤1000000) (hA:A≤1048576) (hv:m.vb=m.vv):OkM n A m:=by
  have hs:=hg.sum
  have hp:=hg.pos
  have hk:=hg.peak
  have h1:=h.steps
  have h2:=h.left
  have h3:=h.vl
  refine ⟨by rw [h.regs];exact hg.regs,by rw [h.arena];exact hg.arena,fun i=>by rw [h.regs];exact hg.gt i,fun i=>by rw [h.arena];exact hg.word i,?_,?_,by omega,hn,hA,hv⟩
  ·rw [h.reads,h.writes,h.ops,h.peak];omega
  ·rw [h.reads,h.writes,h.ops,h.peak];omega
theorem Rp.step (h:Rp n m s) (hl:Live m s) (he:m.e=0):Rp n (stepM m) (tick s)∧((stepM m).e=0→Live (stepM m) (tick s))∧((stepM m).regs=m.regs):=by
  obtain ⟨q1,q2,q3,q4,q5,q6,q7,q8,q9,q10,q11,q12⟩:=hl
  obtain ⟨h1,h2,h3,_⟩:=h
  unfold stepM failM
  split
  ·rename_i hc
   simp only [he,if_true]
   exact ⟨⟨h1,h2,by simp only;omega,.inr (.inl ⟨rfl,by simp only [tick];omega⟩)⟩,fun e=>(by cases e),trivial⟩
  ·rename_i hc
   have L:Live {m with steps:=m.steps+1} (tick s):=⟨by simp only [tick];omega,q2,q3,q4,q5,q6,q7,q8,q9,q10,by simp only [tick];omega,by simp only;omega⟩
   exact ⟨⟨h1,h2,by simp only;omega,.inl ⟨he,L⟩⟩,fun _=>L,rfl⟩
theorem Rp.stop (h:Rp n m s) (he: ¬ m.e=0):stpS s=true:=by
  rcases h.rel with q|q|q
  ·exact absurd q.1 he
  ·simp [stpS,q.2]
  ·simp [stpS,q.2.2.1]
theorem Live.go (h:Live m s):stpS s=false:=by
  simp only [stpS,h.fl,h.out,Bool.or_false,decide_eq_false_iff_not]
  have:=h.left;omega
def plainS (x:Ins) (m:MS):MS×Bool:=
  if x.code=1 then (putM m x.a x.b,true)
  else if x.code=2 then (putM m x.a (gt m.regs x.b+x.d*gt m.regs x.c),inMc (gt m.regs x.b+x.d*gt m.regs x.c))
  else if x.code=3 then (putM m x.a (minI (gt m.regs x.b) (gt m.regs x.c)),true)
  else if x.code=4 then (putM m x.a (maxI (gt m.regs x.b) (gt m.regs x.c)),true)
  else if x.code=5 then (match El.applyS x.prim ((readsS x).map (gt m.regs)) with
    |none=>({putM m x.a 0 with ops:=m.ops+1},false)
    |some v=>({putM m x.a v with ops:=m.ops+1},true))
  else if x.code=6 then (if 0≤gt m.regs x.b∧gt m.regs x.b<m.arena.length then ({putM m x.a (gt m.arena (gt m.regs x.b)) with reads:=m.reads+1},true) else (m,false))
  else if x.code=7 then (if (0≤gt m.regs x.a∧gt m.regs x.a<m.arena.length)∧vld sInt (gt m.regs x.b)=true then
    ({m with arena:=m.arena.set (gt m.regs x.a).toNat (gt m.regs x.b),writes:=m.writes+1,peak:=maxI m.peak (gt m.regs x.a+1)},true) else (m,false))
  else if x.code=14 then (putM m x.a (El.w32 (gt m.regs x.b)),true)
  else if x.code=15 then ({m with writes:=m.writes+1},true)
  else if x.code=8 then ({putM m x.a 0 with reads:=m.reads+1},true)
  else if x.code=9 then (if gt m.regs x.b=0 then ({m with viol:=m.viol++[x.a],vv:=m.vv+1,vb:=m.vv+1},true) else (m,true))
  else (m,true)
structure Aft (n:Nat) (x:Ins) (m:MS) (s:St):Prop where
  len:(plainS x m).1.regs.length=n
  ver:(plainS x m).1.vb=(plainS x m).1.vv
  st:(plainS x m).1.steps=m.steps
  e:(plainS x m).1.e=m.e
  ok:(simpleS x s).failed= !(plainS x m).2
  left:(simpleS x s).left=s.left
  live:(plainS x m).2=true→(simpleS x s).out=false∧(plainS x m).1.regs=(simpleS x s).regs∧(plainS x m).1.arena=(simpleS x s).arena∧(plainS x m).1.reads=(simpleS x s).reads∧(plainS x m).1.writes=(simpleS x s).writes∧(plainS x m).1.ops=(simpleS x s).ops∧
    (plainS x m).1.peak=(simpleS x s).peak∧(plainS x m).1.viol.foldl noteS []=(simpleS x s).viol∧(plainS x m).1.viol.length≤m.viol.length+1
theorem plain_simple (h:Live m s) (hn:m.regs.length=n) (hv:m.vb=m.vv):Aft n x m s:=by
  obtain ⟨R,A,V,vv,vb,rd,wr,op,pk,st,at_,e⟩:=m
  obtain ⟨R',A',rd',wr',op',pk',V',l',f',at',o'⟩:=s
  obtain ⟨q1,q2,q3,q4,q5,q6,q7,q8,q9,q10,q11,q12⟩:=h
  simp only at q1 q2 q3 q4 q5 q6 q7 q8 q9 q10 q11 q12 hn hv
  subst q2 q3 q4 q5 q6 q7 q8 q9 q10 hv
  have hp:∀ i v,(R.set i v).length=n:=fun i v=>by simp [hn]
  by_cases c1:x.code=1
  ·constructor<;>simp [plainS,simpleS,c1,putM,St.put,hn]
  by_cases c2:x.code=2
  ·cases hi:inMc (gt R x.b+x.d*gt R x.c)<;>(constructor<;>simp [plainS,simpleS,c2,putM,St.put,hn,hi])
  by_cases c3:x.code=3
  ·constructor<;>simp [plainS,simpleS,c3,putM,St.put,hn]
  by_cases c4:x.code=4
  ·constructor<;>simp [plainS,simpleS,c4,putM,St.put,hn]
  by_cases c5:x.code=5
  ·cases hi:El.applyS x.prim ((readsS x).map (gt R))<;>(constructor<;>simp [plainS,simpleS,c5,putM,St.put,hn,hi])
  by_cases c6:x.code=6
  ·by_cases hi:0≤gt R x.b∧gt R x.b<A.length<;>(constructor<;>simp [plainS,simpleS,c6,putM,St.put,hn,hi])
  by_cases c7:x.code=7
  ·by_cases hi:(0≤gt R x.a∧gt R x.a<A.length)∧vld sInt (gt R x.b)=true<;>(constructor<;>simp [plainS,simpleS,c7,putM,St.put,hn,hi])
  by_cases c14:x.code=14
  ·constructor<;>simp [plainS,simpleS,c14,putM,St.put,hn]
  by_cases c15:x.code=15
  ·constructor<;>simp [plainS,simpleS,c15,putM,St.put,hn]
  by_cases c8:x.code=8
  ·constructor<;>simp [plainS,simpleS,c8,putM,St.put,hn]
  by_cases c9:x.code=9
  ·by_cases hi:gt R x.b=0<;>(constructor<;>simp [plainS,simpleS,c9,putM,St.put,hn,hi])
  ·constructor<;>simp [plainS,simpleS,c1,c2,c3,c4,c5,c6,c7,c8,c9,c14,c15,hn]
theorem Rp.plain (h:Rp n m s) (hl:Live m s) (he:m.e=0) (hvl:(m.viol.length:Int)+1≤m.steps) (i:Int):
    Rp n (if (plainS x m).2=true then (plainS x m).1 else failM (plainS x m).1 i 22) (if (simpleS x s).failed=true then {simpleS x s with at_:=i} else simpleS x s):=by
  have ha:=plain_simple (x:=x) hl h.len h.ver
  have hst:=h.st
  have q1:=hl.left
  have q2:=hl.steps
  have q4:=ha.left
  have q5:=ha.st
  cases hq:(plainS x m).2 with
  |true=>
   have hf:(simpleS x s).failed=false:=by rw [ha.ok,hq];rfl
   rw [if_pos rfl,if_neg (by rw [hf];simp)]
   obtain ⟨k1,k2,k3,k4,k5,k6,k7,k8,k9⟩:=ha.live hq
   exact ⟨ha.len,ha.ver,by rw [q5];exact hst,.inl ⟨ha.e.trans he,⟨by omega,hf,k1,k2,k3,k4,k5,k6,k7,k8,by omega,by omega⟩⟩⟩
  |false=>
   have hf:(simpleS x s).failed=true:=by rw [ha.ok,hq];rfl
   have h0:(plainS x m).1.e=0:=ha.e.trans he
   rw [if_neg (by simp),if_pos hf]
   unfold failM
   rw [if_pos h0]
   exact ⟨ha.len,ha.ver,by show 0≤(plainS x m).1.steps∧(plainS x m).1.steps≤200001;rw [q5];exact hst,.inr (.inr ⟨rfl,by show 0<(simpleS x s).left;omega,hf,rfl⟩)⟩
end Go.Proofs.Ytnlimcijgpaegaa.Mm

namespace Go.Proofs.Ytnlimcijgpaegaa.Mm
open Go.Proofs.Ytnlimcijgpaegaa
open Go Go.Fw Bm
set_option maxRecDepth 20000
section
variable {x y:AObj} {B:Prg} {mt:List Int} {m:MS} {s:St} {n A:Nat} {X:Ins}
theorem clN1 {o:Nat} {l:List AV}:∀ (σ:List AObj) (z:AV),closeL1 true σ ([]++z:: .ref o 0::l)=none:=fun σ z=>by
  have h:closeL1 true σ (.ref o 0::l)=none:=rfl
  show (match close1 true σ z,closeL1 true σ (.ref o 0::l) with
    |some y,some ys=>some (y::ys)
    |_,_=>none)=none
  rw [h]
  cases close1 true σ z<;>rfl
theorem clN2 {o:Nat} {l:List AV}:∀ (σ:List AObj) (z:AV),closeL1 true σ ([.ref o 0]++z::l)=none:=fun σ z=>rfl
theorem tab_ok (h:OkM n A m) (hx:Regs X n) (hr:∀ r∈readsS X,0≤r∧r<n) (hc:X.code≠10∧X.code≠11∧X.code≠12∧X.code≠13):∃ (f:FuncId) (xs ys:List AV),tabL.getD X.code.toNat .top= .fn (.func f) xs ys∧fok Try.prog f=true∧(f≠126∧f≠127∧f≠128∧f≠129)∧(0≤X.code∧X.code<16)∧(∀ σ z,closeL1 true σ (xs++z::ys)=none)∧
    ∀ (ex:List AObj) (k:AV→List AObj→Prop),k (.lit (.bool (plainS X m).2)) (robj x y B mt (plainS X m).1 ex)→EC Try.prog f (xs++opV X::ys) (robj x y B mt m ex) k:=by
  have hw:=hx.w
  have xa:=hx.a
  have xb:=hx.b
  have xc:=hx.c
  have mA:maxA=1048576:=rfl
  rcases hx.code with e|e|e|e|e|e|e|e|e|e|e|e|e|e|e
  ·refine ⟨169,[],[.ref 11 0,.ref 10 0],by rw [e];rfl,fk169,by decide,by omega,by first|exact clN1|exact clN2,fun ex k hk=>?_⟩
   have q:plainS X m=(putM m X.a X.b,true):=by unfold plainS;rw [if_pos e]
   rw [q] at hk
   exact setF_ec (jm:=10) (jv:=11) (f:=147) (ys:=[]) (v:=X.b) fk147 (fun ex k h=>p1_ec h) (.inr rfl) h (hw (by rw [e];rfl)) (fun _=>rfl) (fun _=>rfl) hk
  ·refine ⟨148,[.ref 5 0],[],by rw [e];rfl,fk148,by decide,by omega,by first|exact clN1|exact clN2,fun ex k hk=>?_⟩
   have q:plainS X m=(putM m X.a (gt m.regs X.b+X.d*gt m.regs X.c),inMc (gt m.regs X.b+X.d*gt m.regs X.c)):=by unfold plainS;rw [if_neg (by omega),if_pos e]
   rw [q] at hk
   exact add_ec h (hw (by rw [e];rfl)) (xb (by omega)) (xc (by omega)) (by have:=hx.k2 e;omega) hk
  ·refine ⟨169,[],[.ref 13 0,.ref 12 0],by rw [e];rfl,fk169,by decide,by omega,by first|exact clN1|exact clN2,fun ex k hk=>?_⟩
   have q:plainS X m=(putM m X.a (minI (gt m.regs X.b) (gt m.regs X.c)),true):=by unfold plainS;rw [if_neg (by omega),if_neg (by omega),if_pos e]
   rw [q] at hk
   exact setF_ec (jm:=12) (jv:=13) (f:=149) (ys:=[.ref 8 0]) (v:=minI (gt m.regs X.b) (gt m.regs X.c)) fk149 (fun ex k h'=>p2_ec h (xb (by omega)) (xc (by omega)) h') (.inl fun _=>rfl) h (hw (by rw [e];rfl)) (fun _=>rfl) (fun _=>rfl) hk
  ·refine ⟨169,[],[.ref 15 0,.ref 14 0],by rw [e];rfl,fk169,by decide,by omega,by first|exact clN1|exact clN2,fun ex k hk=>?_⟩
   have q:plainS X m=(putM m X.a (maxI (gt m.regs X.b) (gt m.regs X.c)),true):=by unfold plainS;rw [if_neg (by omega),if_neg (by omega),if_neg (by omega),if_pos e]
   rw [q] at hk
   exact setF_ec (jm:=14) (jv:=15) (f:=150) (ys:=[.ref 8 0]) (v:=maxI (gt m.regs X.b) (gt m.regs X.c)) fk150 (fun ex k h'=>p3_ec h (xb (by omega)) (xc (by omega)) h') (.inl fun _=>rfl) h (hw (by rw [e];rfl)) (fun _=>rfl) (fun _=>rfl) hk
  ·refine ⟨151,[.ref 5 0],[],by rw [e];rfl,fk151,by decide,by omega,by first|exact clN1|exact clN2,fun ex k hk=>?_⟩
   have q:plainS X m=(match El.applyS X.prim ((readsS X).map (gt m.regs)) with
     |none=>({putM m X.a 0 with ops:=m.ops+1},false)
     |some v=>({putM m X.a v with ops:=m.ops+1},true)):=by unfold plainS;rw [if_neg (by omega),if_neg (by omega),if_neg (by omega),if_neg (by omega),if_pos e];try rfl
   rw [q] at hk
   exact prim_ec h e (hw (by rw [e];rfl)) hr (fun v hv=>by rw [hv] at hk;exact hk) (fun hv=>by rw [hv] at hk;exact hk)
  ·refine ⟨152,[.ref 5 0],[],by rw [e];rfl,fk152,by decide,by omega,by first|exact clN1|exact clN2,fun ex k hk=>?_⟩
   have q:plainS X m=if 0≤gt m.regs X.b∧gt m.regs X.b<m.arena.length then ({putM m X.a (gt m.arena (gt m.regs X.b)) with reads:=m.reads+1},true) else (m,false):=by
     unfold plainS;rw [if_neg (by omega),if_neg (by omega),if_neg (by omega),if_neg (by omega),if_neg (by omega),if_pos e]
   rw [q] at hk
   exact load_ec h (hw (by rw [e];rfl)) (xb (by omega)) (fun hv=>by rw [if_pos hv] at hk;exact hk) (fun hv=>by rw [if_neg hv] at hk;exact hk)
  ·refine ⟨153,[.ref 5 0],[],by rw [e];rfl,fk153,by decide,by omega,by first|exact clN1|exact clN2,fun ex k hk=>?_⟩
   have q:plainS X m=if (0≤gt m.regs X.a∧gt m.regs X.a<m.arena.length)∧vld sInt (gt m.regs X.b)=true then
     ({m with arena:=m.arena.set (gt m.regs X.a).toNat (gt m.regs X.b),writes:=m.writes+1,peak:=maxI m.peak (gt m.regs X.a+1)},true) else (m,false):=by
     unfold plainS;rw [if_neg (by omega),if_neg (by omega),if_neg (by omega),if_neg (by omega),if_neg (by omega),if_neg (by omega),if_pos e]
   rw [q] at hk
   exact store_ec h (xa (by omega)) (xb (by omega)) (fun hv=>by rw [if_pos hv] at hk;exact hk) (fun hv=>by rw [if_neg hv] at hk;exact hk)
  ·refine ⟨154,[],[.ref 8 0],by rw [e];rfl,fk154,by decide,by omega,by first|exact clN1|exact clN2,fun ex k hk=>?_⟩
   have q:plainS X m=({putM m X.a 0 with reads:=m.reads+1},true):=by
     unfold plainS;rw [if_neg (by omega),if_neg (by omega),if_neg (by omega),if_neg (by omega),if_neg (by omega),if_neg (by omega),if_neg (by omega),if_neg (by omega),if_neg (by omega),if_pos e]
   rw [q] at hk
   exact miss_ec h (hw (by rw [e];rfl)) hk
  ·refine ⟨155,[.ref 5 0],[],by rw [e];rfl,fk155,by decide,by omega,by first|exact clN1|exact clN2,fun ex k hk=>?_⟩
   have q:plainS X m=if gt m.regs X.b=0 then ({m with viol:=m.viol++[X.a],vv:=m.vv+1,vb:=m.vv+1},true) else (m,true):=by
     unfold plainS;rw [if_neg (by omega),if_neg (by omega),if_neg (by omega),if_neg (by omega),if_neg (by omega),if_neg (by omega),if_neg (by omega),if_neg (by omega),if_neg (by omega),if_neg (by omega),if_pos e]
   rw [q] at hk
   exact check_ec h (xb (by omega)) (fun hv=>by rw [if_pos hv] at hk;exact hk) (fun hv=>by rw [if_neg hv] at hk;exact hk)
  ·exact absurd e hc.1
  ·exact absurd e hc.2.1
  ·exact absurd e hc.2.2.1
  ·exact absurd e hc.2.2.2
  ·refine ⟨169,[],[.ref 17 0,.ref 16 0],by rw [e];rfl,fk169,by decide,by omega,by first|exact clN1|exact clN2,fun ex k hk=>?_⟩
   have q:plainS X m=(putM m X.a (El.w32 (gt m.regs X.b)),true):=by
     unfold plainS;rw [if_neg (by omega),if_neg (by omega),if_neg (by omega),if_neg (by omega),if_neg (by omega),if_neg (by omega),if_neg (by omega),if_pos e]
   rw [q] at hk
   exact setF_ec (jm:=16) (jv:=17) (f:=156) (ys:=[.ref 8 0]) (v:=El.w32 (gt m.regs X.b)) fk156 (fun ex k h'=>p5_ec h (xb (by omega)) h') (.inl fun _=>rfl) h (hw (by rw [e];rfl)) (fun _=>rfl) (fun _=>rfl) hk
  ·refine ⟨158,[],[.ref 8 0],by rw [e];rfl,fk158,by decide,by omega,by first|exact clN1|exact clN2,fun ex k hk=>?_⟩
   have q:plainS X m=({m with writes:=m.writes+1},true):=by
     unfold plainS;rw [if_neg (by omega),if_neg (by omega),if_neg (by omega),if_neg (by omega),if_neg (by omega),if_neg (by omega),if_neg (by omega),if_neg (by omega),if_pos e]
   rw [q] at hk
   exact skip_ec h hk
end
def BlkM (x y:AObj) (B:Prg) (mt:List Int) (n A:Nat) (c:Int) (N:Nat):Prop:=∀ (i to:Int) (m:MS) (s:St) (ex:List AObj) (k:AV→List AObj→Prop),to - i≤N→Cl B mt i to→Fre B mt i to→(m.e=0→Gd n A c s)→Rp n m s→
  (∀ m' s',Runs B mt [] (.blk i to) s s'→(m'.e=0→Gd n A c s')→Rp n m' s'→k (.tup []) (robj x y B mt m' ex))→EC Try.prog 128 [.lit (.int .i64 i),.lit (.int .i64 to),.ref 7 0,.ref 20 0,.ref 19 0,.ref 18 0] (robj x y B mt m ex) k
section
variable {x y:AObj} {B:Prg} {mt:List Int} {n A:Nat} {c:Int} {N:Nat} {m:MS} {s:St} {ex:List AObj} {σ:List AObj} {args:List AV} {k:AV→List AObj→Prop} {i to:Int}
noncomputable def ecnBk (h:BlkM x y B mt n A c N):ECon Try.prog where
  f:=128
  c:=fun args σ k=>∃ (i to:Int) (m:MS) (s:St) (ex:List AObj),args=[.lit (.int .i64 i),.lit (.int .i64 to),.ref 7 0,.ref 20 0,.ref 19 0,.ref 18 0]∧σ=robj x y B mt m ex∧to - i≤N∧Cl B mt i to∧Fre B mt i to∧(m.e=0→Gd n A c s)∧Rp n m s∧
   ∀ m' s',Runs B mt [] (.blk i to) s s'→(m'.e=0→Gd n A c s')→Rp n m' s'→k (.tup []) (robj x y B mt m' ex)
  ok:=by
   rintro _ _ k ⟨i,to,m,s,ex,rfl,rfl,h1,h2,h3,h4,h5,h6⟩
   exact h i to m s ex k h1 h2 h3 h4 h5 h6
  fk:=fk128
theorem ecnBk_f {h:BlkM x y B mt n A c N}:(ecnBk h).f=128:=rfl
theorem ecnBk_i {h:BlkM x y B mt n A c N} (s:St) (ha:args=[.lit (.int .i64 i),.lit (.int .i64 to),.ref 7 0,.ref 20 0,.ref 19 0,.ref 18 0]) (hσ:σ=robj x y B mt m ex) (h1:to - i≤N) (h2:Cl B mt i to) (h3:Fre B mt i to) (h4:m.e=0→Gd n A c s) (h5:Rp n m s)
    (h6:∀ m' s',Runs B mt [] (.blk i to) s s'→(m'.e=0→Gd n A c s')→Rp n m' s'→k (.tup []) (robj x y B mt m' ex)):(ecnBk h).c args σ k:=⟨i,to,m,s,ex,ha,hσ,h1,h2,h3,h4,h5,h6⟩
noncomputable def ecn127:ECon Try.prog where
  f:=127
  c:=fun args σ k=>∃ (x y:AObj) (B:Prg) (mt:List Int) (m:MS) (ex:List AObj),args=[.ref 5 0]∧σ=robj x y B mt m ex∧(0≤m.steps∧m.steps≤1000000)∧k (.tup []) (robj x y B mt (stepM m) ex)
  ok:=by
   rintro _ _ k ⟨x,y,B,mt,m,ex,rfl,rfl,h1,h2⟩
   exact step_ec h1 h2
  fk:=fk127
theorem ecn127_f:ecn127.f=127:=rfl
theorem ecn127_i (hσ:σ=robj x y B mt m ex) (h1:0≤m.steps∧m.steps≤1000000) (h:k (.tup []) (robj x y B mt (stepM m) ex)):ecn127.c [.ref 5 0] σ k:=⟨x,y,B,mt,m,ex,rfl,hσ,h1,h⟩
attribute [go_sem] ecnBk_f ecn127_f
theorem le_ro1 {n0:Nat} {f g:Nat→AV} {u:AObj} (hn:n0≤ex.length+21) (hb:BdS (ex.length+21) (robj x y B mt m ex)) (hg:∀ j,low1 (ex.length+21) (g j)=true) (h:∀ j,LeR (f j) (g j)):Le n0 ⟨f,robj x y B mt m (ex++[u])⟩ ⟨g,robj x y B mt m ex⟩:=
  le_backB (m:=[u]) rfl hn hb hg h
theorem look_nil {i:Int} {s:St}:Bm.look [] i s=s:=rfl
theorem Rp.putt (h:Rp n m s) {i v:Int} (hl:m.e=0→Live m s):Rp n (putM m i v) (s.put i v):=by
  refine ⟨by simp [putM,h.len],h.ver,h.st,?_⟩
  rcases h.rel with q|q|q
  ·have L:=q.2
   exact .inl ⟨q.1,⟨L.left,L.fl,L.out,by simp only [putM,St.put];rw [L.regs],L.arena,L.reads,L.writes,L.ops,L.peak,L.viol,L.steps,L.vl⟩⟩
  ·exact .inr (.inl q)
  ·exact .inr (.inr q)
theorem Rp.live (h:Rp n m s) (he:m.e=0):Live m s:=by
  rcases h.rel with q|q|q
  ·exact q.2
  ·exact absurd q.1 (by rw [he];decide)
  ·exact absurd q.1 (by rw [he];decide)
noncomputable def M4 (hB:BlkM x y B mt n A c N):Env:=envJ (P:=Try.prog) jkR zer (fun _=>false) (fun _=>false) [] [ecn127,ecnBk hB]
theorem M4_ok (hB:BlkM x y B mt n A c N):EnvOk Try.prog (M4 hB):=envJOk zer_ok
structure Lq (B:Prg) (mt:List Int) (n A:Nat) (c:Int) (i lo hi:Int) (s0:St) where
  k:Int
  m:MS
  s:St
  hl:lo≤k
  hk:k≤hi+1048576∨k=lo
  hg:m.e=0→Gd n A c s
  hr:Rp n m s
  hv:∀ s',Runs B mt [] (.lop i k hi) s s'→Runs B mt [] (.lop i lo hi) s0 s'
set_option maxHeartbeats 8000000 in
theorem lop_ec (hK:Wk B mt n) (hF0:Fre B mt 0 B.ops.length) (hcb:c≤1000000) (hA:A≤1048576) (hB:BlkM x y B mt n A c N) (h1:to - i≤N+1) (h2:Cl B mt i to) (hi:i<to) (ho:(B.op i).code=10) (he:m.e=0) (hg:Gd n A c s) (hr:Rp n m s)
    (hk:∀ m' s',Runs B mt [] (.lop i (gt s.regs (B.op i).b) (gt s.regs (B.op i).c)) s s'→(m'.e=0→Gd n A c s')→Rp n m' s'→k (.tup []) (robj x y B mt m' ex)):
    EC Try.prog 126 [.lit (.int .i64 i),opV (B.op i),.ref 7 0,.ref 19 0] (robj x y B mt m ex) k:=by
  refine ec_fin fun hbd=>?_
  rw [ro_len] at hbd
  have hL:=hK.len
  have hn:=hK.n
  have hml:=hK.mtl
  have h20:=h2.1
  have h21:=h2.2.1
  have hin:=hK.nest.inner h20 (by omega) (.inl ho)
  have hfi:=hF0.inner hK.nest h20 (by omega) (.inl ho)
  obtain ⟨k1,k2,k3,k4⟩:=hK.nest.at h20 (show i<B.ops.length by omega) (.inl ho)
  have k5:=h2.2.2 i (Int.le_refl _) hi (.inl ho)
  have hrg:=right_regs (hK.rights i h20 (by omega))
  have hra:=hrg.w (by rw [ho];rfl)
  have hrb:=hrg.b (by omega)
  have hrc:=hrg.c (by omega)
  have hrd:=hrg.k10 ho
  have L0:=hr.live he
  have hrl:=hr.len
  have vb:=hg.gt (B.op i).b
  have vc:=hg.gt (B.op i).c
  rw [←L0.regs] at vb vc hk
  have mc:maxC=1099511627776:=rfl
  have ma:maxA=1048576:=rfl
  have gm:mt.getD i.toNat 0=gt mt i:=rfl
  have gb:m.regs.getD (B.op i).b.toNat 0=gt m.regs (B.op i).b:=rfl
  have gc:m.regs.getD (B.op i).c.toNat 0=gt m.regs (B.op i).c:=rfl
  have rT:=fun {k hh:Int} {s2 s3 s':St} hc hs hj hk=>runs_turn (B:=B) (mt:=mt) (seen:=[]) (i:=i) (n:=k) (hi:=hh) (s:=s2) (s':=s3) (s'':=s') ⟨hc,hs⟩ hj hk
  generalize hXX:B.op i=X at*
  obtain ⟨q,p,a,b,cc,d⟩:=X
  simp only at ho hra hrb hrc hrd vb vc gb gc hk rT
  generalize gt m.regs b=lo at*
  generalize gt m.regs cc=hh at*
  generalize hM:gt mt i=M at*
  simp only [opV_mk]
  refine ecR (M4_ok hB) (kp126) Try.func126 [] (h:=fun KF=>?_)
  unfold M4
  repeat' (first
   |(with_reducible first|refine nx ?_|refine t_seq fun K=>?_|refine t_br (fun hc=>?_) fun hc=>?_|refine t_bx ?_|apply And.intro|intro vr)|exact kp_fls|exact kp_ro1|exact kpd
   |((with_reducible first|refine ny ?_|refine t_kLF ?_ ?_|refine t_drawE (id:=6) (fun _=>false) [(0,2),(1,2),(2,2),(3,2),(4,2),(5,2),(6,2),(7,2),(8,0)] (by kernel_rfl) fun K=>?_|refine t_drawE (id:=7) (fun _=>false) [(0,2),(1,1),(2,1),(3,2),(4,2),(5,2),(6,2),(7,2),(8,2),(9,2),(10,0)] (by kernel_rfl) fun K=>?_|refine t_dwh (h:=fun K KL=>?_));intros;simp only [go_sem,kp126,geff,gb,gc,yes]))
  all_goals try exact nd
  refine t_loopF (ι:=Lq B mt n A c i lo hh s) (fun q=>[(8,.lit (.int .i64 q.k))]) (fun q'=>robj x y B mt q'.m (ex++[.box 73 [.lit (.int .i64 q),.lit (.string p),.lit (.int .i64 a),.lit (.int .i64 b),.lit (.int .i64 cc),.lit (.int .i64 d)]])) (fun q=>(hh - q.k).toNat) ⟨lo,m,s,Int.le_refl _,.inr rfl,fun _=>hg,hr,fun _ h=>h⟩ ?_ ?_
  ·exact lf
  rintro ⟨k0,m2,s2,hl2,hk2,hg2,hr2,hv2⟩ K0
  have hrl2:=hr2.len
  have hst2:=hr2.st
  rcases Int.lt_or_le k0 hh with hc2|hc2
  ·have g5:decide (k0<hh)=true:=decide_eq_true hc2
   by_cases he2:m2.e=0
   ·have g6:decide (m2.e=0)=true:=decide_eq_true he2
    have L2:=hr2.live he2
    obtain ⟨R1,R2,R3⟩:=hr2.step L2 he2
    have Rq:=R1.putt (i:=a) (v:=k0) R2
    have hgq:=(hg2 he2).turn L2.go (i:=a) (v:=k0) (by omega)
    have hrl3:(stepM m2).regs.length=n:=by rw [R3];exact hrl2
    repeat' (first
     |(with_reducible first|refine nx ?_|refine t_seq fun K=>?_|refine t_br (fun hc=>?_) fun hc=>?_|refine t_bx ?_|apply And.intro|intro vr)|exact kp_fls|exact kp_ro1|exact kpd
     |((with_reducible first|refine ny ?_|refine t_kLF ?_ ?_|refine t_drawE (id:=6) (fun _=>false) [(0,2),(1,2),(2,2),(3,2),(4,2),(5,2),(6,2),(7,2),(8,0)] (by kernel_rfl) fun K=>?_|refine t_drawE (id:=7) (fun _=>false) [(0,2),(1,1),(2,1),(3,2),(4,2),(5,2),(6,2),(7,2),(8,2),(9,2),(10,0)] (by kernel_rfl) fun K=>?_|refine t_dwh (h:=fun K KL=>?_));intros;simp only [go_sem,kp126,geff,g5,g6,yes]))
    all_goals try exact nd
    refine ecn127_i rfl (by omega) ?_
    generalize stepM m2=m3 at*
    repeat' (first
     |(with_reducible first|refine nx ?_|refine t_seq fun K=>?_|refine t_br (fun hc=>?_) fun hc=>?_|refine t_bx ?_|apply And.intro|intro vr)|exact kp_fls|exact kp_ro1|exact kpd
     |((with_reducible first|refine ny ?_|refine t_kLF ?_ ?_|refine t_drawE (id:=6) (fun _=>false) [(0,2),(1,2),(2,2),(3,2),(4,2),(5,2),(6,2),(7,2),(8,0)] (by kernel_rfl) fun K=>?_|refine t_drawE (id:=7) (fun _=>false) [(0,2),(1,1),(2,1),(3,2),(4,2),(5,2),(6,2),(7,2),(8,2),(9,2),(10,0)] (by kernel_rfl) fun K=>?_|refine t_dwh (h:=fun K KL=>?_));intros;simp only [go_sem,kp126,geff,gm,hM,yes]))
    all_goals try exact nd
    refine ecnBk_i ((tick s2).put a k0) rfl rfl (by omega) hin hfi (fun _=>hgq) Rq fun m4 s4 hr4 hg4 h4=>?_
    repeat' (first
     |(with_reducible first|refine nx ?_|refine t_seq fun K=>?_|refine t_br (fun hc=>?_) fun hc=>?_|refine t_bx ?_|apply And.intro|intro vr)|exact kp_fls|exact kp_ro1|exact kpd
     |((with_reducible first|refine ny ?_|refine t_kLF ?_ ?_|refine t_drawE (id:=6) (fun _=>false) [(0,2),(1,2),(2,2),(3,2),(4,2),(5,2),(6,2),(7,2),(8,0)] (by kernel_rfl) fun K=>?_|refine t_drawE (id:=7) (fun _=>false) [(0,2),(1,1),(2,1),(3,2),(4,2),(5,2),(6,2),(7,2),(8,2),(9,2),(10,0)] (by kernel_rfl) fun K=>?_|refine t_dwh (h:=fun K KL=>?_));intros;simp only [go_sem,kp126,geff,yes]))
    all_goals try exact nd
    have hw:(hh - (k0+d)).toNat<(hh - k0).toNat:=by omega
    refine ⟨⟨k0+d,m4,s4,by omega,.inl (by omega),hg4,h4,fun s' h=>hv2 _ (rT hc2 L2.go hr4 h)⟩,hw,?_⟩
    exact lf
   ·have g6:decide (m2.e=0)=false:=decide_eq_false he2
    repeat' (first
     |(with_reducible first|refine nx ?_|refine t_seq fun K=>?_|refine t_br (fun hc=>?_) fun hc=>?_|refine t_bx ?_|apply And.intro|intro vr)|exact kp_fls|exact kp_ro1|exact kpd
     |((with_reducible first|refine ny ?_|refine t_kLF ?_ ?_|refine t_drawE (id:=6) (fun _=>false) [(0,2),(1,2),(2,2),(3,2),(4,2),(5,2),(6,2),(7,2),(8,0)] (by kernel_rfl) fun K=>?_|refine t_drawE (id:=7) (fun _=>false) [(0,2),(1,1),(2,1),(3,2),(4,2),(5,2),(6,2),(7,2),(8,2),(9,2),(10,0)] (by kernel_rfl) fun K=>?_|refine t_dwh (h:=fun K KL=>?_));intros;simp only [go_sem,kp126,geff,g5,g6,yes]))
    all_goals try exact nd
    all_goals (refine nl ?_;simp only [go_sem,finE])
    exact ⟨_,_,rfl,LeA.refl _,ro_bds (by omega) hbd,hk m2 s2 (hv2 _ (runs_lend (fun q=>by rw [hr2.stop he2] at q;cases q.2))) hg2 hr2⟩
  ·have g5:decide (k0<hh)=false:=decide_eq_false (by omega)
   repeat' (first
    |(with_reducible first|refine nx ?_|refine t_seq fun K=>?_|refine t_br (fun hc=>?_) fun hc=>?_|refine t_bx ?_|apply And.intro|intro vr)|exact kp_fls|exact kp_ro1|exact kpd
    |((with_reducible first|refine ny ?_|refine t_kLF ?_ ?_|refine t_drawE (id:=6) (fun _=>false) [(0,2),(1,2),(2,2),(3,2),(4,2),(5,2),(6,2),(7,2),(8,0)] (by kernel_rfl) fun K=>?_|refine t_drawE (id:=7) (fun _=>false) [(0,2),(1,1),(2,1),(3,2),(4,2),(5,2),(6,2),(7,2),(8,2),(9,2),(10,0)] (by kernel_rfl) fun K=>?_|refine t_dwh (h:=fun K KL=>?_));intros;simp only [go_sem,kp126,geff,g5,yes]))
   all_goals try exact nd
   all_goals (refine nl ?_;simp only [go_sem,finE])
   exact ⟨_,_,rfl,LeA.refl _,ro_bds (by omega) hbd,hk m2 s2 (hv2 _ (runs_lend (fun q=>by omega))) hg2 hr2⟩
end
end Go.Proofs.Ytnlimcijgpaegaa.Mm
