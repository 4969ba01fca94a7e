import Derived.Test.YtnlimcijgpaegaaSD
import Derived.Test.YtnlimcijgpaegaaFwE
import Derived.Test.YtnlimcijgpaegaaSB

set_option linter.all false

namespace Go.Proofs.Ytnlimcijgpaegaa
open Go Go.Fw Bm
set_option maxRecDepth 20000
theorem blk_base {B:Prg} {mt:List Int} {n:Nat}:BlkH B mt n 0:=by
  intro i to s w ex k h1 h2 h3 h4 h5
  refine ec_fin fun hbd=>?_
  have h20:=h2.1
  refine ecR D0_ok (kp46) Try.func46 [.tmp 8] (h:=fun KF=>?_)
  unfold D0
  repeat' (first
   |(with_reducible first|refine nx ?_|refine t_seq fun K=>?_|refine t_br (fun hc=>?_) fun hc=>?_|refine t_bx ?_|apply And.intro|intro vr)
   |((with_reducible first|refine ny ?_|refine t_dwh (h:=fun K KL=>?_));intros;simp only [go_sem,kp46,geff]))
  all_goals try exact nd
  refine t_loopF (ι:=Unit) (fun _=>[(9,.lit (.int .i64 i)),(3,.sl false 2 (rgsV s))]) (fun _=>objs B mt w ex) (fun _=>0) () ?_ ?_
  ·exact lf
  rintro ⟨⟩ K0
  have g3:decide (i<to)=false:=decide_eq_false (by omega)
  repeat' (first
   |(with_reducible first|refine nx ?_|refine t_seq fun K=>?_|refine t_br (fun hc=>?_) fun hc=>?_|refine t_bx ?_|apply And.intro|intro vr)
   |((with_reducible first|refine ny ?_|refine t_dwh (h:=fun K KL=>?_));intros;simp only [go_sem,kp46,geff,g3]))
  all_goals try exact nd
  all_goals (refine nl ?_;simp only [go_sem,finE])
  exact ⟨_,_,rfl,LeA.refl _,ob_bds hbd,h5 _ _ (vr_end (by omega))⟩
theorem blk_all {B:Prg} {mt:List Int} {n:Nat} (hK:Wk B mt n):∀ N,BlkH B mt n N
  |0=>blk_base
  |N+1=>block_step hK (blk_all hK N)
theorem vr_det {B:Prg} {mt:List Int} {tk:VTk} {s t t':List Rng} {w w' w'':W} (h:VR B mt tk s w t w') (k:VR B mt tk s w t' w''):t=t'∧w'=w'':=by
  obtain ⟨f,hf⟩:=h
  obtain ⟨g,hg⟩:=k
  have h1:=vrun_le (Nat.le_max_left f g) hf
  have h2:=vrun_le (Nat.le_max_right f g) hg
  rw [h1] at h2
  cases h2
  exact ⟨rfl,rfl⟩
def beg (B:Prg):List Rng:=List.replicate B.regs.toNat nilR
def w0 (B:Prg):W:=⟨List.replicate B.ops.length [],[]⟩
def EndV (B:Prg) (mt:List Int):Prop:=∃ p:List Rng×W,VR B mt (.blk 0 B.ops.length) (beg B) (w0 B) p.1 p.2
noncomputable def endV (B:Prg) (mt:List Int):W:= @dite _ (EndV B mt) (Classical.propDecidable _) (fun h=>h.choose.2) (fun _=>⟨[],[]⟩)
theorem endV_eq {B:Prg} {mt:List Int} {t:List Rng} {w:W} (h:VR B mt (.blk 0 B.ops.length) (beg B) (w0 B) t w):endV B mt=w:=by
  have hE:EndV B mt:=⟨(t,w),h⟩
  unfold endV
  rw [dif_pos hE]
  exact (vr_det hE.choose_spec h).2
def wipeU (ops:List Ins) (l:List (List Rng)) (j:Nat):List (List Rng):=l.mapIdx fun q s=>if q<j∧(cd ops q=12∨cd ops q=13) then [] else s
theorem wipeU_0 {ops:List Ins} {l:List (List Rng)}:wipeU ops l 0=l:=by
  apply List.ext_getElem?
  intro n
  simp only [wipeU,List.getElem?_mapIdx]
  cases l[n]? with
  |none=>rfl
  |some a=>simp only [Option.map_some];rw [if_neg (by omega)]
theorem wipeU_len {ops:List Ins} {l:List (List Rng)} {j:Nat}:(wipeU ops l j).length=l.length:=by simp [wipeU]
theorem wipeU_y {ops:List Ins} {l:List (List Rng)} {j:Nat} (h:cd ops j=12∨cd ops j=13):(wipeU ops l j).set j []=wipeU ops l (j+1):=by
  apply List.ext_getElem?
  intro n
  rw [List.getElem?_set]
  by_cases e:j=n
  ·subst e
   rw [if_pos rfl,wipeU_len]
   simp only [wipeU,List.getElem?_mapIdx]
   split
   ·rename_i hl
    rw [List.getElem?_eq_getElem hl,Option.map_some,if_pos ⟨by omega,h⟩]
   ·rename_i hl
    rw [List.getElem?_eq_none (by omega)];rfl
  ·rw [if_neg e]
   simp only [wipeU,List.getElem?_mapIdx]
   cases l[n]? with
   |none=>rfl
   |some a=>
    simp only [Option.map_some]
    by_cases c:n<j
    ·simp only [c,show n<j+1 by omega]
    ·simp only [c,show ¬ n<j+1 by omega]
theorem wipeU_n {ops:List Ins} {l:List (List Rng)} {j:Nat} (h: ¬ (cd ops j=12∨cd ops j=13)):wipeU ops l j=wipeU ops l (j+1):=by
  apply List.ext_getElem?
  intro n
  simp only [wipeU,List.getElem?_mapIdx]
  cases l[n]? with
  |none=>rfl
  |some a=>
   simp only [Option.map_some]
   by_cases e:j=n
   ·subst e;rw [if_neg (by omega),if_neg (fun k=>h k.2)]
   ·by_cases c:n<j
    ·simp only [c,show n<j+1 by omega]
    ·simp only [c,show ¬ n<j+1 by omega]
noncomputable def beforeL (B:Prg):List (List Rng):=if validS B=true then (match matchS B.ops with
  |some mt=>wipeU B.ops (endV B mt).before B.ops.length
  |none=>[]) else []
theorem okS_beg (B:Prg):OkS B.regs.toNat (beg B):=⟨by simp [beg],fun i hi=>by
  have:(beg B).getD i nilR=nilR:=by simp [beg,List.getD,hi]
  rw [this];exact okR_nil⟩
theorem valid_inv {B:Prg} (h:validS B=true):(0≤B.regs∧B.regs≤200)∧(0≤B.arena∧B.arena≤1048576)∧(∃ mt,matchS B.ops=some mt)∧Rights B B.regs.toNat∧B.types.length=B.ins.length+B.outs.length∧typesOk B.arena B.types (B.ins++B.outs)=true:=by
  rw [valid_eq,Bool.and_eq_true,Bool.not_eq_true'] at h
  obtain ⟨h1,h2⟩:=h
  simp only [headB,formedB,Bool.or_eq_false_iff,decide_eq_false_iff_not,bne_eq_false_iff_eq,Bool.not_eq_false',Bool.and_eq_true] at h1
  obtain ⟨⟨⟨⟨⟨k1,k2⟩,k3⟩,k4⟩,k5,k6⟩,k7⟩:=h1
  refine ⟨⟨by omega,by omega⟩,⟨by omega,by omega⟩,?_,?_,by omega,h2⟩
  ·cases hm:matchS B.ops with
   |none=>rw [hm] at k6;cases k6
   |some mt=>exact ⟨mt,rfl⟩
  ·intro i i0 i1
   rw [List.all_eq_true] at k5
   have hmem:B.op i∈B.ops:=by
     unfold Prg.op
     rw [List.getD_eq_getElem?_getD,List.getElem?_eq_getElem (by omega)]
     exact List.getElem_mem _
   have:=k5 _ hmem
   rw [show ((B.regs.toNat:Nat):Int)=B.regs by omega]
   exact this
theorem wk_of {B:Prg} {mt:List Int} (h:validS B=true) (hm:matchS B.ops=some mt) (hl:B.ops.length≤1000000):Wk B mt B.regs.toNat:=by
  obtain ⟨h1,_,_,h3,_⟩:=valid_inv h
  have hn:=match_nest hm
  exact ⟨hn,h3,hl,by omega,hn.len⟩
noncomputable def ecnW:ECon Try.prog where
  f:=46
  c:=fun args σ k=>∃ (B:Prg) (mt:List Int) (ver:Nat),args=[.ref 3 0,.lit (.int .i64 0),.lit (.int .i64 B.ops.length),.arr 4 ver]∧σ=objs B mt (w0 B) [.arr 29 2 (rgsV (beg B)) ver false]∧Wk B mt B.regs.toNat∧
   ∀ t w',VR B mt (.blk 0 B.ops.length) (beg B) (w0 B) t w'→k (.sl false 2 (rgsV t)) (objs B mt w' [.arr 29 2 (rgsV (beg B)) ver true])
  ok:=by
   rintro _ _ k ⟨B,mt,ver,rfl,rfl,hK,h5⟩
   refine EC.frz1 (pre:=[.ref 3 0,.lit (.int .i64 0),.lit (.int .i64 B.ops.length)]) (post:=[]) (e:=29) (sz:=2) (xs:=rgsV (beg B)) rfl ?_
   exact blk_all hK B.ops.length 0 B.ops.length (beg B) (w0 B) [.arr 29 2 (rgsV (beg B)) ver true] k (by omega) ⟨Int.le_refl _,Int.le_refl _,fun j j0 j1 j2=>(hK.nest.at j0 j1 j2).2.1⟩ (okS_beg B)
     ⟨by simp [w0],fun i l hl=>by cases hl⟩ h5
  fk:=fk46
theorem ecnW_f:ecnW.f=46:=rfl
theorem ecnW_i {B:Prg} {mt:List Int} {ver:Nat} {k:AV→List AObj→Prop} (hK:Wk B mt B.regs.toNat) (h5:∀ t w',VR B mt (.blk 0 B.ops.length) (beg B) (w0 B) t w'→k (.sl false 2 (rgsV t)) (objs B mt w' [.arr 29 2 (rgsV (beg B)) ver true])):
    ecnW.c [.ref 3 0,.lit (.int .i64 0),.lit (.int .i64 B.ops.length),.arr 4 ver] (objs B mt (w0 B) [.arr 29 2 (rgsV (beg B)) ver false]) k:=⟨B,mt,ver,rfl,rfl,hK,h5⟩
theorem bvalid_pc2 {B:Prg} (h:OkB B∧B.ins.length≤100000∧B.outs.length≤100000):PC Try.prog 42 [bcV B] (.lit (.bool (validS B))):=bvalid_pc h.1 h.2
noncomputable def con42:PCon Try.prog where
  f:=42
  c:=fun
   |[xB]=>match bcOf xB with|some B=>some ((OkB B∧B.ins.length≤100000∧B.outs.length≤100000),.lit (.bool (validS B)))|_=>none
   |_=>none
  ok:=by
   intro args p r hc hp
   split at hc
   ·split at hc
    ·rename_i hB
     cases hc
     exact PC.weak (bvalid_pc2 hp) ⟨bcOf_le hB,trivial⟩
    ·cases hc
   ·cases hc
  fk:=fk42
theorem con42_f:con42.f=42:=rfl
theorem con42_c {xB:AV}:con42.c [xB]=match bcOf xB with|some B=>some ((OkB B∧B.ins.length≤100000∧B.outs.length≤100000),.lit (.bool (validS B)))|_=>none:=rfl
attribute [go_sem] ecnW_f con42_f con42_c
noncomputable def D5:Env:=envJ (P:=Try.prog) jkR zer (fun _=>false) (fun _=>false) [con42,con45] [ecnW]
theorem D5_ok:EnvOk Try.prog D5:=envJOk zer_ok
theorem rz_beg (B:Prg):List.replicate B.regs.toNat (AV.agg [.lit (.int .i64 0),.lit (.int .i64 0)])=rgsV (beg B):=rz_rgs _
theorem bcOf_B {B:Prg}:bcOf (.agg [.lit (.int .i64 B.regs),.lit (.int .i64 B.arena),.sl false 6 (opsV B.ops),.sl false 2 (plsV B.ins),.sl false 2 (plsV B.outs),.sl false 3 (arrs B.types)])=some B:=bcOf_mk
theorem le_bef0 {n0:Nat} {f:Nat→AV} {σ:List AObj} {n:Nat} (h:σ[1]? =some (.arr 26 1 (List.replicate n (.sl true 2 [])) 0 false)):Le n0 ⟨f,σ⟩ ⟨f,σ.set 1 (.arr 26 1 (bfsV (List.replicate n [])) 0 false)⟩:=by
  have e2:bfsV (List.replicate n [])=List.replicate n (.sl false 2 []):=by simp [bfsV,rgsV]
  have e3:∀ b n,flat (List.replicate n (AV.sl b 2 []))=List.replicate n (.sl b 2 []):=fun b n=>by
    induction n with
    |zero=>rfl
    |succ n ih=>show AV.cells _++flat _=_;rw [ih];rfl
  refine le_arrE h ?_ ?_ ?_ ?_
  ·rw [e2];simp
  ·intro y hy
   rw [e2] at hy
   obtain rfl:=(List.mem_replicate.1 hy).2
   rfl
  ·rw [e2,e3,e3];simp
  ·intro i hi
   rw [e2,e3,e3]
   rw [e3] at hi
   simp only [List.length_replicate] at hi
   have a1:∀ b,(List.replicate n (AV.sl b 2 [])).getD i .top= .sl b 2 []:=fun b=>by simp [List.getD,hi]
   rw [a1,a1]
   exact LeA.full _ _ _
theorem kp_oz {B:Prg} {mt:List Int} {w w':W} {e sz ver:Nat} {xs:List AV} {fz fz':Bool} {D:Nat→Bool}:Kp D (objs B mt w [.arr e sz xs ver fz]) (objs B mt w' [.arr e sz xs ver fz']):=kp_ob fun o t cs h=>by
  rcases o with _|o
  ·cases h
  ·cases h
theorem kp_on {B:Prg} {mt:List Int} {w w':W} {m:List AObj} {D:Nat→Bool}:Kp D (objs B mt w []) (objs B mt w' m):=kp_ob fun o t cs h=>by cases h
theorem ob_bd1 {B:Prg} {mt:List Int} {w:W} {e sz ver:Nat} {xs:List AV} {fz:Bool}:BdS (objs B mt w [.arr e sz xs ver fz]).length (objs B mt w [.arr e sz xs ver fz]):=bds_low (by
  simp [objs,bxB,wkO,lowO,low1,low0])
set_option maxHeartbeats 8000000 in
theorem before_pc {B:Prg} (h:OkB B) (hi:B.ins.length≤100000∧B.outs.length≤100000):PC Try.prog 19 [bcV B] (.sl false 1 (bfsV (beforeL B))):=by
  have hh:OkB B∧B.ins.length≤100000∧B.outs.length≤100000:=⟨h,hi⟩
  have hO:=h.ops
  obtain ⟨hi1,hi2⟩:=hi
  cases hv:validS B with
  |false=>
   have e:beforeL B=[]:=by unfold beforeL;rw [hv];rfl
   rw [e]
   simp only [bcV]
   refine pcR D5_ok (kp19) Try.func19 [.tmp 2] (h:=fun KF=>?_)
   unfold D5
   repeat' (first
    |(with_reducible first|refine nx ?_|refine t_seq fun K=>?_|refine t_br (fun hc=>?_) fun hc=>?_|refine t_bx ?_|apply And.intro|intro vr)|exact kp_oz|exact kp_on|exact kpd
    |((with_reducible first|refine ny ?_|refine t_kLF ?_ ?_|refine t_drawE (id:=5) (fun _=>true) [(0,1),(1,1),(2,1),(3,1),(4,1),(5,1),(6,0),(7,0)] (by kernel_rfl) fun K=>?_|refine t_dwh (h:=fun K KL=>?_));intros;simp only [go_sem,kp19,geff,bcOf_B,hv,Bool.not_false]))
   all_goals try exact nd
   all_goals (refine nl ?_;simp only [go_sem])
   exact LeA.nil _ _
  |true=>
   obtain ⟨v1,v2,⟨mt,hm⟩,_,_,_⟩:=valid_inv hv
   have hK:=wk_of hv hm hO
   have e:beforeL B=wipeU B.ops (endV B mt).before B.ops.length:=by unfold beforeL;rw [hv,hm];rfl
   have hmv:matchV B.ops= .tup [.sl false 1 (ints .i64 mt),.lit (.bool true)]:=by unfold matchV;rw [hm]
   generalize beforeL B=R at e
   simp only [bcV]
   refine pcR D5_ok (kp19) Try.func19 [.tmp 2] (h:=fun KF=>?_)
   unfold D5
   repeat' (first
    |(with_reducible first|refine nx ?_|refine t_seq fun K=>?_|refine t_br (fun hc=>?_) fun hc=>?_|refine t_bx ?_|apply And.intro|intro vr)|exact kp_oz|exact kp_on|exact kpd
    |((with_reducible first|refine ny ?_|refine t_kLF ?_ ?_|refine t_drawE (id:=5) (fun _=>true) [(0,1),(1,1),(2,1),(3,1),(4,1),(5,1),(6,0),(7,0)] (by kernel_rfl) fun K=>?_);intros;simp only [go_sem,kp19,geff,bcOf_B,hv,hmv,Bool.not_true]))
   all_goals try exact nd
   refine t_drawP ⟨upd (upd topF 5 (.ref 3 0)) 1 (.ref 0 0),objs B mt (w0 B) []⟩ (fun i=>i==0) [(0,1),(1,1),(2,1),(3,1),(4,1)] [5,6] [(7,1),(8,0),(9,1)] (by kernel_rfl) ?_ ?_
   rotate_left
   ·skip
    intro K
    simp only [pickO,pickG,List.getElem?_toArray,List.getElem?_cons_zero,List.getElem?_cons_succ,List.length_cons,List.length_nil,Nat.reduceAdd,lp_some]
    simp only [go_sem,pickO,pickG,geff,kp19]
    repeat' (first
     |(with_reducible first|refine nx ?_|refine t_seq fun K=>?_|refine t_br (fun hc=>?_) fun hc=>?_|refine t_bx ?_|apply And.intro|intro vr)|exact kp_oz|exact kp_on|exact kpd
     |((with_reducible first|refine ny ?_|refine t_kLF ?_ ?_|refine t_kPE ?_ ?_|refine t_drawE (id:=5) (fun _=>true) [(0,1),(1,1),(2,1),(3,1),(4,1),(5,1),(6,0),(7,0)] (by kernel_rfl) fun K=>?_);intros;simp only [go_sem,kp19,geff]))
    all_goals try exact Int.le_refl _
    all_goals try exact nd
    ·refine (le_bef0 (n:=B.ops.length) rfl).trans ?_
     exact lg
    ·refine le_swapM (τ:=[_]) (m:=[_]) (Nat.zero_le _) (bds_low (by simp [lowO,low_lit,low_sl])) rfl rfl rfl ?_ ?_
     ·repeat' (first|exact flatF_top|(refine flatF_upd rfl ?_))
     simp only [renF_upd,renF_top,ren1,renA,renO,sw,List.map_cons,List.map_nil,List.length_cons,List.length_nil,Nat.reduceAdd,Nat.reduceEqDiff,reduceIte,List.cons_append,List.nil_append]
     refine (le_bef0 (n:=B.ops.length) rfl).trans ?_
     exact lg
   repeat' (first
    |(with_reducible first|refine nx ?_|refine t_seq fun K=>?_|refine t_br (fun hc=>?_) fun hc=>?_|refine t_bx ?_|apply And.intro|intro vr)|exact kp_oz|exact kp_on|exact kpd
    |((with_reducible first|refine ny ?_|refine t_kLF ?_ ?_|refine t_drawE (id:=5) (fun _=>true) [(0,1),(1,1),(2,1),(3,1),(4,1),(5,1),(6,0),(7,0)] (by kernel_rfl) fun K=>?_|refine t_dwh (h:=fun K KL=>?_));intros;simp only [go_sem,kp19,geff,bcOf_B,bxB,rz_beg,List.nil_append,List.length_nil,Nat.zero_add]))
   all_goals try exact Int.le_refl _
   all_goals try exact nd
   refine ecnW_i hK fun t w' hr=>?_
   have he:=endV_eq hr
   have hcl:Cl B mt 0 B.ops.length:=⟨Int.le_refl _,Int.le_refl _,fun j j0 j1 j2=>(hK.nest.at j0 j1 j2).2.1⟩
   obtain ⟨_,hw⟩:=vr_ok hK hr hcl (okS_beg B) ⟨by simp [w0],fun i l hl=>(by cases hl)⟩
   have hwl:=hw.len
   rw [he] at e
   repeat' (first
    |(with_reducible first|refine nx ?_|refine t_seq fun K=>?_|refine t_br (fun hc=>?_) fun hc=>?_|refine t_bx ?_|apply And.intro|intro vr)|exact kp_oz|exact kp_on|exact kpd
    |((with_reducible first|refine ny ?_|refine t_kLF ?_ ?_|refine t_drawE (id:=5) (fun _=>true) [(0,1),(1,1),(2,1),(3,1),(4,1),(5,1),(6,0),(7,0)] (by kernel_rfl) fun K=>?_|refine t_dwh (h:=fun K KL=>?_));intros;simp only [go_sem,kp19,geff,bxB]))
   all_goals try exact nd
   refine t_loopF (ι:={j:Nat // j≤B.ops.length}) (fun i=>[(37,.lit (.int .i64 i.1))]) (fun i=>objs B mt ⟨wipeU B.ops w'.before i.1,w'.heads⟩ [.arr 29 2 (rgsV (beg B)) 0 true]) (fun i=>B.ops.length - i.1) ⟨0,by omega⟩ ?_ ?_
   ·simp only [wipeU_0]
    exact lf
   rintro ⟨j,hj⟩ K0
   have hwu:(wipeU B.ops w'.before j).length=B.ops.length:=by rw [wipeU_len,hwl]
   rcases Nat.lt_or_ge j B.ops.length with hc|hc
   ·have g3:decide ((j:Int)<(B.ops.length:Int))=true:=decide_eq_true (by omega)
    have hcd:cd B.ops j=(B.ops.getD j nilI).code:=rfl
    generalize hx:B.ops.getD j nilI=x at hcd
    obtain ⟨q,p,a,b,c,d⟩:=x
    simp only at hcd
    by_cases hq:q=12∨q=13
    ·have hw2:=wipeU_y (ops:=B.ops) (l:=w'.before) (j:=j) (by rw [hcd];exact hq)
     have gq:(q==12||q==13)=true:=by simpa using hq
     repeat' (first
      |(with_reducible first|refine nx ?_|refine t_seq fun K=>?_|refine t_br (fun hc=>?_) fun hc=>?_|refine t_bx ?_|apply And.intro|intro vr)|exact kp_oz|exact kp_on|exact kpd
      |((with_reducible first|refine ny ?_|refine t_kLF ?_ ?_|refine t_drawE (id:=5) (fun _=>true) [(0,1),(1,1),(2,1),(3,1),(4,1),(5,1),(6,0),(7,0)] (by kernel_rfl) fun K=>?_|refine t_dwh (h:=fun K KL=>?_));intros;simp only [go_sem,kp19,geff,g3,hx,gq,Int.toNat_natCast,yes]))
     all_goals try exact nd
     refine ⟨⟨j+1,by omega⟩,by simp only;omega,?_⟩
     refine (le_bef (w:=⟨wipeU B.ops w'.before j,w'.heads⟩)).trans ?_
     simp only [hw2]
     try simp only [updL_nil,updL_cons,delF_top,delF_upd,Nat.reduceEqDiff,reduceIte]
     refine le_obB (m:=[.box 73 [.lit (.int .i64 q),.lit (.string p),.lit (.int .i64 a),.lit (.int .i64 b),.lit (.int .i64 c),.lit (.int .i64 d)]]) (ex:=[.arr 29 2 (rgsV (beg B)) 0 true]) (Nat.zero_le _) ob_bd1 ?_ ?_
     ·repeat' (first|exact low_top|(refine low_upd rfl ?_)|(refine lg_w ?_ (by rw [ob_len];omega)))
     repeat' (first|exact leF_top _|exact (fun _=>LeR.refl _)|(with_reducible refine leF_sl ?_ ?_)|(refine leF_upd ?_ ?_))
     all_goals (first|exact LeR.top _|exact LeR.refl _|(refine LeR.of_eq ?_;(try simp only [go_sem]);try rfl)|((try simp only [go_sem]);try rfl))
    ·have hw2:=wipeU_n (ops:=B.ops) (l:=w'.before) (j:=j) (by rw [hcd];exact hq)
     have gq:(q==12||q==13)=false:=by simpa using hq
     repeat' (first
      |(with_reducible first|refine nx ?_|refine t_seq fun K=>?_|refine t_br (fun hc=>?_) fun hc=>?_|refine t_bx ?_|apply And.intro|intro vr)|exact kp_oz|exact kp_on|exact kpd
      |((with_reducible first|refine ny ?_|refine t_kLF ?_ ?_|refine t_drawE (id:=5) (fun _=>true) [(0,1),(1,1),(2,1),(3,1),(4,1),(5,1),(6,0),(7,0)] (by kernel_rfl) fun K=>?_|refine t_dwh (h:=fun K KL=>?_));intros;simp only [go_sem,kp19,geff,g3,hx,gq,Int.toNat_natCast,yes]))
     all_goals try exact nd
     refine ⟨⟨j+1,by omega⟩,by simp only;omega,?_⟩
     rw [hw2]
     try simp only [updL_nil,updL_cons,delF_top,delF_upd,Nat.reduceEqDiff,reduceIte]
     refine le_obB (m:=[.box 73 [.lit (.int .i64 q),.lit (.string p),.lit (.int .i64 a),.lit (.int .i64 b),.lit (.int .i64 c),.lit (.int .i64 d)]]) (ex:=[.arr 29 2 (rgsV (beg B)) 0 true]) (Nat.zero_le _) ob_bd1 ?_ ?_
     ·repeat' (first|exact low_top|(refine low_upd rfl ?_)|(refine lg_w ?_ (by rw [ob_len];omega)))
     repeat' (first|exact leF_top _|exact (fun _=>LeR.refl _)|(with_reducible refine leF_sl ?_ ?_)|(refine leF_upd ?_ ?_))
     all_goals (first|exact LeR.top _|exact LeR.refl _|(refine LeR.of_eq ?_;(try simp only [go_sem]);try rfl)|((try simp only [go_sem]);try rfl))
   ·have g3:decide ((j:Int)<(B.ops.length:Int))=false:=decide_eq_false (by omega)
    obtain rfl:j=B.ops.length:=by omega
    repeat' (first
     |(with_reducible first|refine nx ?_|refine t_seq fun K=>?_|refine t_br (fun hc=>?_) fun hc=>?_|refine t_bx ?_|apply And.intro|intro vr)|exact kp_oz|exact kp_on|exact kpd
     |((with_reducible first|refine ny ?_|refine t_kLF ?_ ?_|refine t_drawE (id:=5) (fun _=>true) [(0,1),(1,1),(2,1),(3,1),(4,1),(5,1),(6,0),(7,0)] (by kernel_rfl) fun K=>?_|refine t_dwh (h:=fun K KL=>?_));intros;simp only [go_sem,kp19,geff,g3]))
    all_goals try exact nd
    all_goals (refine nl ?_;simp only [go_sem])
    exact ⟨_,rfl,LeA.of_eq (by rw [e])⟩
theorem before_pc2 {B:Prg} (h:OkB B∧B.ins.length≤100000∧B.outs.length≤100000):PC Try.prog 19 [bcV B] (.sl false 1 (bfsV (beforeL B))):=before_pc h.1 h.2
noncomputable def con19:PCon Try.prog where
  f:=19
  c:=fun
   |[xB]=>match bcOf xB with|some B=>some ((OkB B∧B.ins.length≤100000∧B.outs.length≤100000),.sl false 1 (bfsV (beforeL B)))|_=>none
   |_=>none
  ok:=by
   intro args p r hc hp
   split at hc
   ·split at hc
    ·rename_i hB
     cases hc
     exact PC.weak (before_pc2 hp) ⟨bcOf_le hB,trivial⟩
    ·cases hc
   ·cases hc
  fk:=fk19
theorem con19_f:con19.f=19:=rfl
theorem con19_c {xB:AV}:con19.c [xB]=match bcOf xB with|some B=>some ((OkB B∧B.ins.length≤100000∧B.outs.length≤100000),.sl false 1 (bfsV (beforeL B)))|_=>none:=rfl
attribute [go_sem] con19_f con19_c
end Go.Proofs.Ytnlimcijgpaegaa

namespace Go.Proofs.Ytnlimcijgpaegaa.Bm
open Go.Proofs.Ytnlimcijgpaegaa
open Go Go.Fw
variable {B:Prg} {mt:List Int}
def Ent (n:Nat) (l:List (List Rng)):Prop:=∀ j:Nat,l.getD j []=[]∨OkS n (l.getD j [])
theorem Ent.wipe {n:Nat} {l:List (List Rng)} (h:Ent n l) (i to:Int):Ent n (wipe l i to):=fun j=>by
  rw [wipe_getD]
  split
  ·exact .inl rfl
  ·exact h j
theorem Ent.set {n:Nat} {l:List (List Rng)} (h:Ent n l) (i:Nat) {s:List Rng} (hs:OkS n s):Ent n (l.set i s):=fun j=>by
  rw [List.getD_eq_getElem?_getD,List.getElem?_set]
  split
  ·split
   ·exact .inr hs
   ·exact .inl rfl
  ·have:=h j
   rwa [List.getD_eq_getElem?_getD] at this
theorem vrun_ent (hN:Nest B.ops mt) {n:Nat} (hR:Rights B n):∀ (f:Nat) (tk:VTk) (s:List Rng) (w:W) (t:List Rng) (w':W),vrun B mt f tk s w=some (t,w')→tk.ok B mt→OkS n s→HOk n w→(∀ i v,tk= .lop i v→OkR v)→Ent n w.before→Ent n w'.before
  |0,_,_,_,_,_,h,_,_,_,_,_=>by simp [vrun] at h
  |f+1,.blk i to,s,w,t,w',h,hk,hs,hw,_,he=>by
   have hk':Cl B mt i to:=hk
   by_cases hi:i<to
   ·have hlt:i<B.ops.length:=by have:=hk'.2.1;omega
    have he1:Ent n (w.before.set i.toNat s):=he.set _ hs
    rcases step1_of h hi with ⟨yes,no,w1,w2,t1,hc,h1,h2,h3,h4⟩|⟨hc,hv,h1⟩|⟨t1,w1,hc,hv,h1,h2⟩|⟨_,_,h3⟩
    ·obtain ⟨k1,k2,k3,_,k5,_⟩:=hN.end_ hk' hi hc
     have hin:=hN.inner hk'.1 hlt (.inr (.inl hc))
     have e1:(∀ l,yes=some l→OkS n l)∧HOk n w1∧Ent n w1.before:=by
       rcases part_inv h1 with ⟨_,rfl,rfl⟩|⟨hx,u,rfl,hr⟩
       ·exact ⟨(by intro l h;cases h),hw,he1.wipe _ _⟩
       ·have hx1:=hs.with (i:=(B.op i).a) (ok_yes (hs.at _) hx)
        obtain ⟨q1,q2⟩:=vrun_ok hN hR f (.blk (i+1) (gt mt i)) _ _ _ _ hr hin hx1 hw (by intro i v h;cases h)
        exact ⟨(by intro l h;cases h;exact q1),q2,vrun_ent hN hR f (.blk (i+1) (gt mt i)) _ _ _ _ hr hin hx1 hw (by intro i v h;cases h) he1⟩
     have e2:(∀ l,no=some l→OkS n l)∧HOk n w2∧Ent n w2.before:=by
       rcases part_inv h2 with ⟨_,rfl,rfl⟩|⟨hx,u,rfl,hr⟩
       ·exact ⟨(by intro l h;cases h),e1.2.1,e1.2.2.wipe _ _⟩
       ·have hx1:=hs.with (i:=(B.op i).a) (ok_no (hs.at _) hx)
        obtain ⟨q1,q2⟩:=vrun_ok hN hR f (.blk _ _) _ _ _ _ hr k5 hx1 e1.2.1 (by intro i v h;cases h)
        exact ⟨(by intro l h;cases h;exact q1),q2,vrun_ent hN hR f (.blk _ _) _ _ _ _ hr k5 hx1 e1.2.1 (by intro i v h;cases h) e1.2.2⟩
     exact vrun_ent hN hR f (.blk _ _) _ _ _ _ h4 (hk'.next (by omega)) (hulls_ok h3 e1.1 e2.1) e2.2.1 (by intro i v h;cases h) e2.2.2
    ·obtain ⟨k1,_,_,_⟩:=hN.at hk'.1 hlt (.inl hc)
     exact vrun_ent hN hR f (.blk _ _) _ _ _ _ h1 (hk'.next (by omega)) hs hw (by intro i v h;cases h) (he1.wipe _ _)
    ·obtain ⟨k1,_,_,_⟩:=hN.at hk'.1 hlt (.inl hc)
     have hh:OkS n ((lookH w.heads i).getD s):=by
       cases e:lookH w.heads i with
       |none=>exact hs
       |some l=>exact hw i l e
     have hb:=hs.at (B.op i).b
     have hcc:=hs.at (B.op i).c
     have hvv:∀ (j:Int) (v:Rng),VTk.lop i ⟨(gR s (B.op i).b).lo,(gR s (B.op i).c).hi - 1⟩= .lop j v→OkR v:=by
       intro j v hj
       cases hj
       obtain ⟨b1,b2,b3⟩:=hb
       obtain ⟨c1,c2,c3⟩:=hcc
       refine ⟨?_,?_,?_⟩<;>simp only [machR,maxC] at* <;>omega
     obtain ⟨q1,q2⟩:=vrun_ok hN hR f (.lop i _) _ _ _ _ h1 ⟨hk'.1,hlt,hc⟩ (hh.grown hs) hw hvv
     have q3:=vrun_ent hN hR f (.lop i _) _ _ _ _ h1 ⟨hk'.1,hlt,hc⟩ (hh.grown hs) hw hvv he1
     exact vrun_ent hN hR f (.blk _ _) _ _ _ _ h2 (hk'.next (by omega)) q1 q2 (by intro i v h;cases h) q3
    ·refine vrun_ent hN hR f (.blk _ _) _ _ _ _ h3 (hk'.next (by omega)) ?_ hw (by intro i v h;cases h) he1
     split
     ·exact hs.with (okR_result hs (right_regs (hR i hk'.1 hlt)))
     ·exact hs
   ·simp only [vrun] at h
    rw [if_neg hi] at h
    cases h
    exact he
  |f+1,.lop i v,s,w,t,w',h,hk,hs,hw,hv,he=>by
   obtain ⟨h0,h1,hc⟩:=hk
   have hin:=hN.inner h0 h1 (.inl hc)
   simp only [vrun] at h
   split at h
   ·rename_i t1 w1 hr
    have hp:HOk n {w with heads:=putH w.heads i s}:=by
      intro j l hj
      simp only [lookH_put] at hj
      split at hj
      ·cases hj;exact hs
      ·exact hw j l hj
    obtain ⟨q1,q2⟩:=vrun_ok hN hR f (.blk (i+1) (gt mt i)) _ _ _ _ hr hin (hs.with (hv i v rfl)) hp (by intro i v h;cases h)
    have q3:=vrun_ent hN hR f (.blk (i+1) (gt mt i)) _ _ _ _ hr hin (hs.with (hv i v rfl)) hp (by intro i v h;cases h) he
    split at h
    ·cases h;exact q3
    ·exact vrun_ent hN hR f (.lop i v) _ _ _ _ h ⟨h0,h1,hc⟩ (hs.grown q1) q2 hv q3
   ·cases h
end Go.Proofs.Ytnlimcijgpaegaa.Bm

namespace Go.Proofs.Ytnlimcijgpaegaa
open Go Go.Fw Bm
set_option maxRecDepth 20000
noncomputable def F0:Env:=envJ (P:=Try.prog) jkR zer (fun _=>false) (fun _=>false) [con83,con84,con60,con61,con85,con26] []
theorem F0_ok:EnvOk Try.prog F0:=envJOk zer_ok
structure FailOk (x:Ins) (s:List Rng) (a:Int):Prop where
  len:s.length≤1000000
  ok:OkS s.length s
  right:rightS x s.length=true
  ar:0≤a∧a≤1048576
set_option maxHeartbeats 8000000 in
theorem fails_pc {x:Ins} {s:List Rng} {ar:Int} (h:FailOk x s ar):PC Try.prog 43 [opV x,.sl false 2 (rgsV s),.lit (.int .i64 ar)] (.lit (.bool (failR x s ar))):=by
  obtain ⟨hl,hok,hr,ha1,ha2⟩:=h
  have hx:=right_regs hr
  have hrd:∀ n∈readsS x,0≤n∧n<s.length:=fun n hn=>reads_reg hr hn
  have hpl:=picked_len (x:=x) (s:=s)
  have hfi:=fits_is x.prim (pickedR x s)
  obtain ⟨k,p,a,b,c,d⟩:=x
  have gb:s.getD b.toNat nilR=gR s b:=rfl
  have ga:s.getD a.toNat nilR=gR s a:=rfl
  have xb:=hx.b
  have xc:=hx.c
  have xd:=hx.k2
  have xa:=hx.a
  simp only at xb xc xd xa hfi
  have ob:=hok.at b
  have oc:=hok.at c
  by_cases k2:k=2
  ·subst k2
   have hS:SumOk ⟨2,p,a,b,c,d⟩ s:=⟨hl,xb (by omega),xc (by omega),xd rfl,ob,oc⟩
   have e:failR ⟨2,p,a,b,c,d⟩ s ar= !decide ((sumR ⟨2,p,a,b,c,d⟩ s).within machR):=rfl
   rw [e]
   generalize hq:sumR ⟨2,p,a,b,c,d⟩ s=q
   obtain ⟨q,q'⟩:=q
   simp only [opV]
   refine pcR F0_ok (kp43) Try.func43 [.tmp 6] (h:=fun KF=>?_)
   unfold F0
   repeat' (first
    |(with_reducible first|refine nx ?_|refine t_seq fun K=>?_|refine t_br (fun hc=>?_) fun hc=>?_|refine t_bx ?_|apply And.intro|intro vr)
    |((with_reducible first|refine ny ?_|refine t_dwh (h:=fun K KL=>?_));intros;simp only [go_sem,kp43,geff,hq]))
   all_goals try exact nd
   all_goals (refine nl ?_;simp only [go_sem])
   exact LeA.refl _
  by_cases k5:k=5
  ·subst k5
   have e:failR ⟨5,p,a,b,c,d⟩ s ar= !fitsB p (pickedR ⟨5,p,a,b,c,d⟩ s):=by
     rw [hfi]
     show (fitsR p (pickedR ⟨5,p,a,b,c,d⟩ s)).isNone=_
     cases fitsR p (pickedR ⟨5,p,a,b,c,d⟩ s)<;>rfl
   rw [e]
   simp only [opV]
   refine pcR F0_ok (kp43) Try.func43 [.tmp 6] (h:=fun KF=>?_)
   unfold F0
   repeat' (first
    |(with_reducible first|refine nx ?_|refine t_seq fun K=>?_|refine t_br (fun hc=>?_) fun hc=>?_|refine t_bx ?_|apply And.intro|intro vr)
    |((with_reducible first|refine ny ?_|refine t_dwh (h:=fun K KL=>?_));intros;simp only [go_sem,kp43,geff]))
   all_goals try exact (hrd _ (by assumption)).1
   all_goals try exact (hrd _ (by assumption)).2
   all_goals try exact nd
   all_goals (refine nl ?_;simp only [go_sem])
   exact LeA.refl _
  by_cases k6:k=6
  ·subst k6
   have yb:=xb (by omega)
   have e:failR ⟨6,p,a,b,c,d⟩ s ar= !decide ((gR s b).within ⟨0,ar - 1⟩):=rfl
   rw [e]
   clear xb xc xd hx ob oc hrd hpl hr hok hfi
   generalize gR s b=q at gb
   obtain ⟨q,q'⟩:=q
   simp only [opV]
   refine pcR F0_ok (kp43) Try.func43 [.tmp 6] (h:=fun KF=>?_)
   unfold F0
   repeat' (first
    |(with_reducible first|refine nx ?_|refine t_seq fun K=>?_|refine t_br (fun hc=>?_) fun hc=>?_|refine t_bx ?_|apply And.intro|intro vr)
    |((with_reducible first|refine ny ?_|refine t_dwh (h:=fun K KL=>?_));intros;simp only [go_sem,kp43,geff,gb]))
   all_goals try exact nd
   all_goals (refine nl ?_;simp only [go_sem])
   exact LeA.refl _
  by_cases k7:k=7
  ·subst k7
   have yb:=xb (by omega)
   have ya:=xa (by omega)
   have e:failR ⟨7,p,a,b,c,d⟩ s ar=(!decide ((gR s a).within ⟨0,ar - 1⟩)|| !decide ((gR s b).within intsR)):=rfl
   rw [e]
   clear xb xc xd hx ob oc hrd hpl hr hok hfi
   generalize gR s b=q at gb
   generalize gR s a=r at ga
   obtain ⟨q,q'⟩:=q
   obtain ⟨r,r'⟩:=r
   simp only [opV]
   refine pcR F0_ok (kp43) Try.func43 [.tmp 6] (h:=fun KF=>?_)
   unfold F0
   repeat' (first
    |(with_reducible first|refine nx ?_|refine t_seq fun K=>?_|refine t_br (fun hc=>?_) fun hc=>?_|refine t_bx ?_|apply And.intro|intro vr)
    |((with_reducible first|refine ny ?_|refine t_dwh (h:=fun K KL=>?_));intros;simp only [go_sem,kp43,geff,ga,gb]))
   all_goals try exact nd
   all_goals (refine nl ?_;simp only [go_sem])
   exact LeA.refl _
  ·have e:failR ⟨k,p,a,b,c,d⟩ s ar=false:=by unfold failR;rw [if_neg k2,if_neg k5,if_neg k6,if_neg k7]
   have e2:(k==2)=false:=by simpa using k2
   have e5:(k==5)=false:=by simpa using k5
   have e6:(k==6)=false:=by simpa using k6
   have e7:(k==7)=false:=by simpa using k7
   rw [e]
   clear xb xc xd hx ob oc hrd hpl hr hok hfi
   simp only [opV]
   refine pcR F0_ok (kp43) Try.func43 [.tmp 6] (h:=fun KF=>?_)
   unfold F0
   repeat' (first
    |(with_reducible first|refine nx ?_|refine t_seq fun K=>?_|refine t_br (fun hc=>?_) fun hc=>?_|refine t_bx ?_|apply And.intro|intro vr)
    |((with_reducible first|refine ny ?_|refine t_dwh (h:=fun K KL=>?_));intros;simp only [go_sem,kp43,geff,e2,e5,e6,e7]))
   all_goals try exact nd
   all_goals (refine nl ?_;simp only [go_sem])
   exact LeA.refl _
noncomputable def con43:PCon Try.prog where
  f:=43
  c:=fun
   |[xx,xs,.lit (.int .i64 a)]=>match opOf xx,rngsOf xs with|some x,some s=>some (FailOk x s a,.lit (.bool (failR x s a)))|_,_=>none
   |_=>none
  ok:=by
   intro args p r hc hp
   split at hc
   ·split at hc
    ·rename_i hx hs
     cases hc
     exact PC.weak (fails_pc hp) ⟨opOf_le hx,rngsOf_le hs,LeA.refl _,trivial⟩
    ·cases hc
   ·cases hc
  fk:=fk43
theorem con43_f:con43.f=43:=rfl
theorem con43_c {xx:AV} {xs:AV} {a:Int}:con43.c [xx,xs,.lit (.int .i64 a)]=match opOf xx,rngsOf xs with|some x,some s=>some (FailOk x s a,.lit (.bool (failR x s a)))|_,_=>none:=rfl
attribute [go_sem] con43_f con43_c
def verG (B:Prg):List (List Rng)→Nat→Int×Int
  |[],_=>(B.ops.length,0)
  |s::l,i=>if s≠[]∧failR (B.ops.getD i nilI) s B.arena=true then (i,22) else verG B l (i+1)
noncomputable def verS (B:Prg):Int×Int:=if validS B=true then verG B (beforeL B) 0 else (0,1)
def erV (p:Int×Int):AV:= .tup [.lit (.int .i64 p.1),.lit (.int .i64 p.2)]
end Go.Proofs.Ytnlimcijgpaegaa

namespace Go.Proofs.Ytnlimcijgpaegaa
open Go Go.Fw Bm
set_option maxRecDepth 20000
theorem endV_inv {B:Prg} {mt:List Int} (hv:validS B=true) (hm:matchS B.ops=some mt) (hl:B.ops.length≤1000000):Ent B.regs.toNat (endV B mt).before∧((endV B mt).before=[]∨(endV B mt).before.length=B.ops.length):=by
  have hK:=wk_of hv hm hl
  have hcl:Cl B mt 0 B.ops.length:=⟨Int.le_refl _,Int.le_refl _,fun j j0 j1 j2=>(hK.nest.at j0 j1 j2).2.1⟩
  have hw0:PreW B B.regs.toNat (w0 B):=⟨by simp [w0],fun i l hl=>(by cases hl)⟩
  by_cases hE:EndV B mt
  ·obtain ⟨⟨t,w⟩,hr⟩:=hE
   rw [endV_eq hr]
   refine ⟨?_,.inr (vr_ok hK hr hcl (okS_beg B) hw0).2.len⟩
   obtain ⟨f,hf⟩:=hr
   refine vrun_ent hK.nest hK.rights f (.blk 0 B.ops.length) _ _ _ _ hf hcl (okS_beg B) hw0.hd (fun i v e=>by cases e) (fun j=>?_)
   left
   show (List.replicate B.ops.length ([]:List Rng)).getD j []=[]
   simp only [List.getD_eq_getElem?_getD,List.getElem?_replicate]
   split<;>rfl
  ·have:endV B mt=⟨[],[]⟩:=by unfold endV;rw [dif_neg hE]
   rw [this]
   exact ⟨fun j=> .inl (by simp),.inl rfl⟩
theorem wipeU_ent {n:Nat} {ops:List Ins} {l:List (List Rng)} {j:Nat} (h:Ent n l):Ent n (wipeU ops l j):=fun i=>by
  have e:(wipeU ops l j).getD i []=if i<j∧(cd ops i=12∨cd ops i=13) then [] else l.getD i []:=by
    simp only [wipeU,List.getD_eq_getElem?_getD,List.getElem?_mapIdx]
    cases l[i]? with
    |none=>simp
    |some a=>simp only [Option.map_some,Option.getD_some]
  rw [e]
  split
  ·exact .inl rfl
  ·exact h i
theorem before_inv {B:Prg} (hv:validS B=true) (hl:B.ops.length≤1000000):Ent B.regs.toNat (beforeL B)∧((beforeL B)=[]∨(beforeL B).length=B.ops.length):=by
  obtain ⟨_,_,⟨mt,hm⟩,_⟩:=valid_inv hv
  have e:beforeL B=wipeU B.ops (endV B mt).before B.ops.length:=by unfold beforeL;rw [hv,hm];rfl
  obtain ⟨h1,h2⟩:=endV_inv hv hm hl
  rw [e]
  refine ⟨wipeU_ent h1,?_⟩
  rcases h2 with h2|h2
  ·left;rw [h2];rfl
  ·right;rw [wipeU_len,h2]
theorem bfsV_at {l:List (List Rng)} {i:Nat} (h:i<l.length) (z:AV):(bfsV l).getD i z= .sl false 2 (rgsV (l.getD i [])):=by
  simp [bfsV,List.getD,h]
theorem drop_getL {l:List (List Rng)} {i:Nat} (h:i<l.length):l.drop i=l.getD i []::l.drop (i+1):=drop_getD _ h
noncomputable def F1:Env:=envJ (P:=Try.prog) jkR zer (fun _=>false) (fun _=>false) [con42,con19,con43] []
theorem F1_ok:EnvOk Try.prog F1:=envJOk zer_ok
set_option maxHeartbeats 8000000 in
theorem verify_pc {B:Prg} (h:OkB B∧B.ins.length≤100000∧B.outs.length≤100000):PC Try.prog 15 [bcV B] (erV (verS B)):=by
  obtain ⟨h,hi1,hi2⟩:=h
  have hO:=h.ops
  cases hv:validS B with
  |false=>
   have e:verS B=(0,1):=by unfold verS;rw [hv];rfl
   rw [e]
   simp only [bcV]
   refine pcR F1_ok (kp15) Try.func15 [.tmp 2,.tmp 3] (h:=fun KF=>?_)
   unfold F1
   repeat' (first
    |(with_reducible first|refine nx ?_|refine t_seq fun K=>?_|refine t_br (fun hc=>?_) fun hc=>?_|refine t_bx ?_|apply And.intro|intro vr)
    |((with_reducible first|refine ny ?_|refine t_dwh (h:=fun K KL=>?_));intros;simp only [go_sem,kp15,geff,bcOf_B,hv,Bool.not_false]))
   all_goals try exact nd
   all_goals (refine nl ?_;simp only [go_sem])
   exact LeA.refl _
  |true=>
   obtain ⟨v1,v2,_,hR,_,_⟩:=valid_inv hv
   obtain ⟨hE,hL⟩:=before_inv hv hO
   have e:verS B=verG B (beforeL B) 0:=by unfold verS;rw [hv];rfl
   rw [e]
   have hlen:(beforeL B).length≤B.ops.length:=by rcases hL with h|h<;>rw [h]<;>simp
   generalize hG:verG B (beforeL B) 0=G
   generalize hLe:beforeL B=L at hE hlen hG
   simp only [bcV]
   refine pcR F1_ok (kp15) Try.func15 [.tmp 2,.tmp 3] (h:=fun KF=>?_)
   unfold F1
   repeat' (first
    |(with_reducible first|refine nx ?_|refine t_seq fun K=>?_|refine t_br (fun hc=>?_) fun hc=>?_|refine t_bx ?_|apply And.intro|intro vr)
    |((with_reducible first|refine ny ?_|refine t_dwh (h:=fun K KL=>?_));intros;simp only [go_sem,kp15,geff,bcOf_B,hv,hLe,Bool.not_true]))
   all_goals try exact nd
   refine t_loopF (ι:={i:Nat // i≤L.length∧verG B (L.drop i) i=G}) (fun i=>[(12,.lit (.int .i64 i.1))]) (fun i=>[.box 45 [.lit (.int .i64 B.regs),.lit (.int .i64 B.arena),.sl false 6 (opsV B.ops),.sl false 2 (plsV B.ins),.sl false 2 (plsV B.outs),.sl false 3 (arrs B.types)]]) (fun i=>L.length - i.1) ⟨0,by omega,hG⟩ ?_ ?_
   ·exact lf
   rintro ⟨i,hi,hF⟩ K0
   rcases Nat.lt_or_ge i L.length with hc|hc
   ·have g3:decide ((i:Int)<(L.length:Int))=true:=decide_eq_true (by omega)
    have hat:=bfsV_at hc
    have hEi:=hE i
    rw [drop_getL hc,verG] at hF
    generalize hs:L.getD i []=s at hat hEi hF
    have hri:=hR i (by omega) (by omega)
    have hopi:B.ops.getD i nilI=B.op (i:Int):=rfl
    generalize hx:B.ops.getD i nilI=x at hF hopi
    rw [←hopi] at hri
    obtain ⟨q,p,a,b,c,d⟩:=x
    rcases hEi with rfl|hEi
    ·rw [if_neg (fun h=>h.1 rfl)] at hF
     have g0:decide ((((rgsV []).length:Nat):Int)>0)=false:=rfl
     have g0':decide ((0:Int)>0)=false:=rfl
     repeat' (first
      |(with_reducible first|refine nx ?_|refine t_seq fun K=>?_|refine t_br (fun hc=>?_) fun hc=>?_|refine t_bx ?_|apply And.intro|intro vr)
      |((with_reducible first|refine ny ?_|refine t_dwh (h:=fun K KL=>?_));intros;simp only [go_sem,kp15,geff,g3,hat,hx,g0,g0',rgsV_length,List.length_nil,Int.toNat_natCast,Int.natCast_zero,yes]))
     all_goals try exact nd
     exact ⟨⟨i+1,by omega,hF⟩,wf,lf⟩
    ·have hsl:=hEi.1
     by_cases hn:s=[]
     ·subst hn
      rw [if_neg (fun h=>h.1 rfl)] at hF
      have g0:decide ((((rgsV []).length:Nat):Int)>0)=false:=rfl
      have g0':decide ((0:Int)>0)=false:=rfl
      repeat' (first
       |(with_reducible first|refine nx ?_|refine t_seq fun K=>?_|refine t_br (fun hc=>?_) fun hc=>?_|refine t_bx ?_|apply And.intro|intro vr)
       |((with_reducible first|refine ny ?_|refine t_dwh (h:=fun K KL=>?_));intros;simp only [go_sem,kp15,geff,g3,hat,hx,g0,g0',rgsV_length,List.length_nil,Int.toNat_natCast,Int.natCast_zero,yes]))
      all_goals try exact nd
      exact ⟨⟨i+1,by omega,hF⟩,wf,lf⟩
     ·have hpos:0<s.length:=List.length_pos_iff.2 hn
      have g0:decide ((s.length:Int)>0)=true:=decide_eq_true (by omega)
      have hfo:FailOk ⟨q,p,a,b,c,d⟩ s B.arena:=⟨by omega,by rw [hsl];exact hEi,by rw [hsl];exact hri,v2⟩
      cases hf:failR ⟨q,p,a,b,c,d⟩ s B.arena with
      |true=>
       rw [if_pos ⟨hn,hf⟩] at hF
       subst hF
       repeat' (first
        |(with_reducible first|refine nx ?_|refine t_seq fun K=>?_|refine t_br (fun hc=>?_) fun hc=>?_|refine t_bx ?_|apply And.intro|intro vr)
        |((with_reducible first|refine ny ?_|refine t_dwh (h:=fun K KL=>?_));intros;simp only [go_sem,kp15,geff,g3,hat,hx,g0,hf,Int.toNat_natCast,yes]))
       all_goals try exact nd
       all_goals (refine nl ?_;simp only [go_sem])
       exact LeA.refl _
      |false=>
       rw [if_neg (fun h=>by rw [hf] at h;cases h.2)] at hF
       repeat' (first
        |(with_reducible first|refine nx ?_|refine t_seq fun K=>?_|refine t_br (fun hc=>?_) fun hc=>?_|refine t_bx ?_|apply And.intro|intro vr)
        |((with_reducible first|refine ny ?_|refine t_dwh (h:=fun K KL=>?_));intros;simp only [go_sem,kp15,geff,g3,hat,hx,g0,hf,Int.toNat_natCast,yes]))
       all_goals try exact nd
       exact ⟨⟨i+1,by omega,hF⟩,wf,lf⟩
   ·have g3:decide ((i:Int)<(L.length:Int))=false:=decide_eq_false (by omega)
    rw [List.drop_eq_nil_of_le hc,verG] at hF
    subst hF
    repeat' (first
     |(with_reducible first|refine nx ?_|refine t_seq fun K=>?_|refine t_br (fun hc=>?_) fun hc=>?_|refine t_bx ?_|apply And.intro|intro vr)
     |((with_reducible first|refine ny ?_|refine t_dwh (h:=fun K KL=>?_));intros;simp only [go_sem,kp15,geff,g3]))
    all_goals try exact nd
    all_goals (refine nl ?_;simp only [go_sem])
    exact LeA.refl _
noncomputable def con15:PCon Try.prog where
  f:=15
  c:=fun
   |[xB]=>match bcOf xB with|some B=>some ((OkB B∧B.ins.length≤100000∧B.outs.length≤100000),erV (verS B))|_=>none
   |_=>none
  ok:=by
   intro args p r hc hp
   split at hc
   ·split at hc
    ·rename_i hB
     cases hc
     exact PC.weak (verify_pc hp) ⟨bcOf_le hB,trivial⟩
    ·cases hc
   ·cases hc
  fk:=fk15
theorem con15_f:con15.f=15:=rfl
theorem con15_c {xB:AV}:con15.c [xB]=match bcOf xB with|some B=>some ((OkB B∧B.ins.length≤100000∧B.outs.length≤100000),erV (verS B))|_=>none:=rfl
theorem erV_def {p:Int×Int}:erV p= .tup [.lit (.int .i64 p.1),.lit (.int .i64 p.2)]:=rfl
attribute [go_sem] con15_f con15_c erV_def
end Go.Proofs.Ytnlimcijgpaegaa

namespace Go.Proofs.Ytnlimcijgpaegaa
open Go Go.Fw Bm
set_option maxRecDepth 20000
def e0:ByteArray:=⟨#[]⟩
def exOps:List Ins:=[⟨1,e0,0,0,0,0⟩,⟨1,e0,1,4,0,0⟩,⟨10,e0,2,0,1,1⟩,⟨6,e0,3,2,0,0⟩,⟨13,e0,0,0,0,0⟩]
def exB (a:Int):Prg:=⟨4,a,exOps,[],[],[]⟩
def exM:List Int:=[0,1,4,3,4]
def exW (a:Int):Option (List Rng×W):=vrun (exB a) exM 60 (.blk 0 5) (beg (exB a)) (w0 (exB a))
theorem ex_v4:validS (exB 4)=true:=by kernel_rfl
theorem ex_v3:validS (exB 3)=true:=by kernel_rfl
theorem ex_m:matchS exOps=some exM:=by kernel_rfl
def exL:List (List Rng):=[[⟨0,0⟩,⟨0,0⟩,⟨0,0⟩,⟨0,0⟩],[⟨0,0⟩,⟨0,0⟩,⟨0,0⟩,⟨0,0⟩],[⟨0,0⟩,⟨4,4⟩,⟨0,0⟩,⟨0,0⟩],[⟨0,0⟩,⟨4,4⟩,⟨0,3⟩,⟨-2147483648,2147483647⟩],[]]
theorem ex_l4:((exW 4).map fun p=>wipeU exOps p.2.before 5)=some exL:=by kernel_rfl
theorem ex_l3:((exW 3).map fun p=>wipeU exOps p.2.before 5)=some exL:=by kernel_rfl
theorem ex_bef {a:Int} (hv:validS (exB a)=true) (hl:((exW a).map fun p=>wipeU exOps p.2.before 5)=some exL):beforeL (exB a)=exL:=by
  cases hw:exW a with
  |none=>rw [hw] at hl;cases hl
  |some p=>
   rw [hw] at hl
   obtain ⟨t,w⟩:=p
   have hr:VR (exB a) exM (.blk 0 (exB a).ops.length) (beg (exB a)) (w0 (exB a)) t w:=⟨60,hw⟩
   have he:=endV_eq hr
   unfold beforeL
   rw [hv,if_pos rfl,show matchS (exB a).ops=some exM from ex_m]
   simp only
   rw [he]
   exact Option.some.inj hl
theorem ex_b4:beforeL (exB 4)=exL:=ex_bef ex_v4 ex_l4
theorem ex_b3:beforeL (exB 3)=exL:=ex_bef ex_v3 ex_l3
theorem ex_4:verS (exB 4)=(5,0):=by
  unfold verS;rw [ex_v4,if_pos rfl,ex_b4];kernel_rfl
theorem ex_3:verS (exB 3)=(3,22):=by
  unfold verS;rw [ex_v3,if_pos rfl,ex_b3];kernel_rfl
theorem ok_ex (a:Int):OkB (exB a)∧(exB a).ins.length≤100000∧(exB a).outs.length≤100000:=⟨⟨by simp [exB,exOps],by simp [exB],by simp [exB],by simp [exB],fun t ht=>by cases ht⟩,by simp [exB],by simp [exB]⟩
theorem ex_bc {a:Int}:bcOf (.agg [.lit (.int .i64 4),.lit (.int .i64 a),.sl true 6 [.agg [.lit (.int .i64 1),.lit (.string ByteArray.empty),.lit (.int .i64 0),.lit (.int .i64 0),.lit (.int .i64 0),.lit (.int .i64 0)],.agg [.lit (.int .i64 1),.lit (.string ByteArray.empty),.lit (.int .i64 1),.lit (.int .i64 4),.lit (.int .i64 0),.lit (.int .i64 0)],.agg [.lit (.int .i64 10),.lit (.string ByteArray.empty),.lit (.int .i64 2),.lit (.int .i64 0),.lit (.int .i64 1),.lit (.int .i64 1)],.agg [.lit (.int .i64 6),.lit (.string ByteArray.empty),.lit (.int .i64 3),.lit (.int .i64 2),.lit (.int .i64 0),.lit (.int .i64 0)],.agg [.lit (.int .i64 13),.lit (.string ByteArray.empty),.lit (.int .i64 0),.lit (.int .i64 0),.lit (.int .i64 0),.lit (.int .i64 0)]],.sl true 2 [],.sl true 2 [],.sl true 3 []])=some (exB a):=rfl
noncomputable def G0:Env:=envJ (P:=Try.prog) jkR zer (fun _=>false) (fun _=>false) [con10,con15,con19] []
theorem G0_ok:EnvOk Try.prog G0:=envJOk zer_ok
theorem exP:primV ⟨#[97,100,100]⟩ [⟨1,2⟩,⟨3,5⟩]= .tup [.agg [.lit (.int .i64 4),.lit (.int .i64 7)],.lit (.bool true)]:=by kernel_rfl
set_option maxHeartbeats 8000000 in
theorem awakeV_pc:PC Try.prog 9 [] (.lit (.bool true)):=by
  have o4:=(ok_ex 4).1
  have o3:=(ok_ex 3).1
  have i1:(exB 4).ins.length≤100000:=(ok_ex 4).2.1
  have i2:(exB 4).outs.length≤100000:=(ok_ex 4).2.2
  have i3:(exB 3).ins.length≤100000:=(ok_ex 3).2.1
  have i4:(exB 3).outs.length≤100000:=(ok_ex 3).2.2
  have hr2:rngL [.agg [.lit (.int .i64 1),.lit (.int .i64 2)],.agg [.lit (.int .i64 3),.lit (.int .i64 5)]]=some [⟨1,2⟩,⟨3,5⟩]:=rfl
  have hel:exL.length=5:=rfl
  have hat:∀ z,(bfsV exL).getD 3 z= .sl false 2 (rgsV [⟨0,0⟩,⟨4,4⟩,⟨0,3⟩,⟨-2147483648,2147483647⟩]):=fun _=>rfl
  have ha2:∀ z,(rgsV [⟨0,0⟩,⟨4,4⟩,⟨0,3⟩,⟨-2147483648,2147483647⟩]).getD 2 z= .agg [.lit (.int .i64 0),.lit (.int .i64 3)]:=fun _=>rfl
  refine pcR G0_ok (kp9) Try.func9 [.tmp 0] (h:=fun KF=>?_)
  unfold G0
  repeat' (first
   |(with_reducible first|refine nx ?_|refine t_seq fun K=>?_|refine t_br (fun hc=>?_) fun hc=>?_|refine t_bx ?_|apply And.intro|intro vr)
   |((with_reducible first|refine ny ?_|refine t_dwh (h:=fun K KL=>?_));intros;simp only [go_sem,kp9,geff,ex_bc,ex_4,ex_3,ex_b4,exP,hr2,rngsOf_sl2,hel,hat,ha2]))
  all_goals try exact nd
  all_goals (refine nl ?_;simp only [go_sem])
  exact LeA.of_eq rfl
noncomputable def con9:PCon Try.prog where
  f:=9
  c:=fun
   |[]=>some (True,.lit (.bool true))
   |_=>none
  ok:=by
   intro args p r hc hp
   split at hc
   ·cases hc;exact awakeV_pc
   ·cases hc
  fk:=fk9
theorem con9_f:con9.f=9:=rfl
theorem con9_c:con9.c []=some (True,.lit (.bool true)):=rfl
attribute [go_sem] con9_f con9_c
end Go.Proofs.Ytnlimcijgpaegaa

namespace Go.Proofs.Ytnlimcijgpaegaa
open Go Go.Fw Bm
set_option maxRecDepth 20000
theorem ft28:fieldTs Try.prog 28=[3,3]:=by kernel_rfl
theorem shv_rng {x:AV} (h:ShV Try.prog 28 x):∃ r:Rng,x=rgV r∧inI64 r.lo∧inI64 r.hi:=by
  obtain ⟨c,rfl,hc⟩:=shv_agg ag28 h
  obtain ⟨xss,h1,h2,h3⟩:=sh_fields (by simp) ft28 hc
  match xss,h2 with
  |[p,q],_=>
   obtain ⟨a,rfl,wa⟩:=sh_int u3 (h3 0 3 p rfl rfl)
   obtain ⟨b,rfl,wb⟩:=sh_int u3 (h3 1 3 q rfl rfl)
   exact ⟨⟨a,b⟩,by rw [h1];rfl,wf_i64 wa,wf_i64 wb⟩
theorem list_rngs:∀ {ys:List AV},(∀ y∈ys,∃ r:Rng,y=rgV r∧inI64 r.lo∧inI64 r.hi)→∃ l:List Rng,ys=rgsV l∧∀ r∈l,inI64 r.lo∧inI64 r.hi
  |[],_=>⟨[],rfl,fun r h=>by cases h⟩
  |y::ys,h=>by
   obtain ⟨r,rfl,hr⟩:=h y (by simp)
   obtain ⟨l,rfl,hl⟩:=list_rngs (ys:=ys) fun z hz=>h z (by simp [hz])
   exact ⟨r::l,rfl,fun q hq=>(List.mem_cons.1 hq).elim (fun e=>by rw [e];exact hr) (hl q)⟩
theorem shv_rngs {x:AV} (h:ShV Try.prog 22 x):∃ l:List Rng,x= .sl false 2 (rgsV l)∧∀ r∈l,inI64 r.lo∧inI64 r.hi:=by
  obtain ⟨ys,rfl,hl,hy⟩:=shv_slice u22 h
  obtain ⟨l,rfl,h'⟩:=list_rngs fun y hm=>shv_rng (hy y hm)
  exact ⟨l,by rw [sz28],h'⟩
theorem shv_six {x:AV} (h:ShV Try.prog 39 x):∃ a b c d e f:Int,x= .agg [.lit (.int .u8 a),.lit (.int .u8 b),.lit (.int .u8 c),.lit (.int .u8 d),.lit (.int .u8 e),.lit (.int .u8 f)]∧
    (0≤a∧a<256)∧(0≤b∧b<256)∧(0≤c∧c<256)∧(0≤d∧d<256)∧(0≤e∧e<256)∧(0≤f∧f<256):=by
  obtain ⟨c,rfl,hc⟩:=shv_agg ag39 h
  obtain ⟨xss,rfl,h2,h3⟩:=sh_array u39 hc
  have two:∀ ys,Sh Try.prog 38 ys→∃ a b:Int,ys=[.lit (.int .u8 a),.lit (.int .u8 b)]∧(0≤a∧a<256)∧(0≤b∧b<256):=fun ys hs=>by
    obtain ⟨zss,rfl,q2,q3⟩:=sh_array u38 hs
    match zss,q2 with
    |[p,q],_=>
     obtain ⟨a,rfl,wa⟩:=sh_int u5 (q3 p (by simp))
     obtain ⟨b,rfl,wb⟩:=sh_int u5 (q3 q (by simp))
     exact ⟨a,b,rfl,wf_u8 wa,wf_u8 wb⟩
  match xss,h2 with
  |[p,q,r],_=>
   obtain ⟨a,b,rfl,wa,wb⟩:=two p (h3 p (by simp))
   obtain ⟨c,d,rfl,wc,wd⟩:=two q (h3 q (by simp))
   obtain ⟨e,f,rfl,we,wf⟩:=two r (h3 r (by simp))
   exact ⟨a,b,c,d,e,f,rfl,wa,wb,wc,wd,we,wf⟩
def widM (m:List Int) (l:List Rng):List Rng:=l.mapIdx fun i r=>⟨r.lo - m.getD (2*i) 0,r.hi+m.getD (2*i+1) 0⟩
theorem widM_len {m:List Int} {l:List Rng}:(widM m l).length=l.length:=by simp [widM]
theorem widM_at {m:List Int} {l:List Rng} {i:Nat} (h:i<l.length):(widM m l).getD i nilR=⟨(l.getD i nilR).lo - m.getD (2*i) 0,(l.getD i nilR).hi+m.getD (2*i+1) 0⟩:=by
  simp [widM,List.getD,h]
theorem wins_of:∀ {l m:List Rng},l.length=m.length→(∀ i,i<l.length→(l.getD i nilR).within (m.getD i nilR))→Wins l m
  |[],[],_,_=> .nil
  |[],_::_,h,_=>by cases h
  |_::_,[],h,_=>by cases h
  |a::l,b::m,h,k=> .cons (k 0 (by simp)) (wins_of (by simpa using h) fun i hi=>k (i+1) (by simp;omega))
theorem take_snocR {l:List Rng} {i:Nat} (h:i<l.length):l.take i++[l.getD i nilR]=l.take (i+1):=by
  rw [List.take_add_one,List.getElem?_eq_getElem h,List.getD_eq_getElem?_getD,List.getElem?_eq_getElem h];rfl
theorem wr (m:Int) (h:0≤m∧m<65536):IntKind.i64.wrap m=m:=by rw [IntKind.wrap_i64];omega
theorem isI8 {m:Int}:isIntV (.lit (.int .u8 m))=true:=rfl
noncomputable def G1:Env:=envJ (P:=Try.prog) jkR zer (fun _=>false) (fun _=>false) [con9,con10] []
theorem G1_ok:EnvOk Try.prog G1:=envJOk zer_ok
set_option maxHeartbeats 8000000 in
theorem law4 {op:ByteArray} {l:List Rng} (hl:∀ r∈l,inI64 r.lo∧inI64 r.hi) {m0 m1 m2 m3 m4 m5:Int} (h0:0≤m0∧m0<256) (h1:0≤m1∧m1<256) (h2:0≤m2∧m2<256) (h3:0≤m3∧m3<256) (h4:0≤m4∧m4<256) (h5:0≤m5∧m5<256):
    PC Try.prog 4 [.lit (.string op),.sl false 2 (rgsV l),.agg [.lit (.int .u8 m0),.lit (.int .u8 m1),.lit (.int .u8 m2),.lit (.int .u8 m3),.lit (.int .u8 m4),.lit (.int .u8 m5)]] (.lit (.bool true)):=by
  have hW:Wins l (widM [m0,m1,m2,m3,m4,m5] l)∨3<l.length:=by
    by_cases h:3<l.length
    ·exact .inr h
    ·left
     refine wins_of widM_len.symm fun i hi=>?_
     rw [widM_at hi]
     rcases (show i=0∨i=1∨i=2 by omega) with rfl|rfl|rfl
     ·exact ⟨by show _ - m0≤_;omega,by show _≤_+m1;omega⟩
     ·exact ⟨by show _ - m2≤_;omega,by show _≤_+m3;omega⟩
     ·exact ⟨by show _ - m4≤_;omega,by show _≤_+m5;omega⟩
  refine pcR G1_ok (kp4) Try.func4 [.tmp 6] (h:=fun KF=>?_)
  unfold G1
  repeat' (first
   |(with_reducible first|refine nx ?_|refine t_seq fun K=>?_|refine t_br (fun hc=>?_) fun hc=>?_|refine t_bx ?_|apply And.intro|intro vr)|exact kpd
   |((with_reducible first|refine ny ?_|refine t_kLF ?_ ?_|refine t_drawE (id:=12) (fun _=>true) [(0,1),(1,1),(2,1),(3,1),(4,1),(5,1),(6,1),(7,1),(8,1),(9,1),(10,1),(11,1),(12,1),(13,1),(14,1),(15,1),(16,1),(17,1),(18,1),(19,0),(20,1)] (by kernel_rfl) fun K=>?_|refine t_dwh (h:=fun K KL=>?_));intros;simp only [go_sem,kp4,geff,Bool.not_true]))
  all_goals try exact nd
  ·skip
   all_goals (refine nl ?_;simp only [go_sem])
   exact LeA.refl _
  have hl3:l.length≤3:=by
    simp only [Bool.or_eq_false_iff,decide_eq_false_iff_not] at hc
    omega
  have hW:=hW.resolve_right (by omega)
  have hwl:=widM_len (m:=[m0,m1,m2,m3,m4,m5]) (l:=l)
  refine t_loopF (ι:={q:Nat×Nat // q.1≤l.length}) (fun i=>[(27,.lit (.int .i64 i.1.1)),(7,.arr 1 i.1.2),(8,.arr 2 i.1.2)]) (fun i=>[.box 39 [.lit (.int .u8 m0),.lit (.int .u8 m1),.lit (.int .u8 m2),.lit (.int .u8 m3),.lit (.int .u8 m4),.lit (.int .u8 m5)],.arr 29 2 (rgsV (l.take i.1.1)) i.1.2 false,.arr 29 2 (rgsV ((widM [m0,m1,m2,m3,m4,m5] l).take i.1.1)) i.1.2 false]) (fun i=>l.length - i.1.1) ⟨(0,0),by simp⟩ ?_ ?_
  ·refine (le_nil 7 29 2 rfl).trans ?_
   refine (le_nil 8 29 2 rfl).trans ?_
   exact lf
  rintro ⟨⟨i,v⟩,hi⟩ K0
  simp only at hi
  have hln:(rgsV (l.take i)).length=i:=by rw [rgsV_length,List.length_take];omega
  have hlm:(rgsV ((widM [m0,m1,m2,m3,m4,m5] l).take i)).length=i:=by rw [rgsV_length,List.length_take];omega
  rcases Nat.lt_or_ge i l.length with hc|hc
  ·have g3:decide ((i:Int)<(l.length:Int))=true:=decide_eq_true (by omega)
   have hta:=take_snocR hc
   have htb:=take_snocR (l:=widM [m0,m1,m2,m3,m4,m5] l) (i:=i) (by omega)
   rw [widM_at hc] at htb
   have hbd:=hl _ (getD_mem nilR hc)
   generalize hx:l.getD i nilR=x at hta htb hbd
   obtain ⟨x,x'⟩:=x
   simp only at htb hbd
   obtain ⟨⟨b1,b2⟩,b3,b4⟩:=hbd
   rcases (show i=0∨i=1∨i=2 by omega) with rfl|rfl|rfl
   ·have h0':(((0:Nat):Int))=0:=rfl
    have hz1:([⟨x,x'⟩]:List Rng)=l.take 1:=by simpa using hta
    have hz2:([⟨x - m0,x'+m1⟩]:List Rng)=(widM [m0,m1,m2,m3,m4,m5] l).take 1:=by simpa using htb
    have hta:l.take 0++[⟨x,x'⟩]=l.take (0+1):=hta
    have htb:(widM [m0,m1,m2,m3,m4,m5] l).take 0++[⟨x - m0,x'+m1⟩]=(widM [m0,m1,m2,m3,m4,m5] l).take (0+1):=htb
    repeat' (first
     |(with_reducible first|refine nx ?_|refine t_seq fun K=>?_|refine t_br (fun hc=>?_) fun hc=>?_|refine t_bx ?_|apply And.intro|intro vr)|exact kpd
     |((with_reducible first|refine ny ?_|refine t_kLF ?_ ?_|refine t_drawE (id:=12) (fun _=>true) [(0,1),(1,1),(2,1),(3,1),(4,1),(5,1),(6,1),(7,1),(8,1),(9,1),(10,1),(11,1),(12,1),(13,1),(14,1),(15,1),(16,1),(17,1),(18,1),(19,0),(20,1)] (by kernel_rfl) fun K=>?_|refine t_dwh (h:=fun K KL=>?_));intros;simp only [go_sem,kp4,geff,h0',g3,hx,hln,hlm,hta,htb,rgsV_app,wr m0 (by omega),wr m1 (by omega),hz1,hz2,Nat.zero_add,yes]))
    all_goals try exact isI8
    all_goals try exact nd
    ·skip
     all_goals (refine nl ?_;simp only [go_sem])
     exact LeA.refl _
    ·skip
     refine ⟨⟨(0+1,v+1),by simp only;omega⟩,by first|(simp only;omega)|omega,?_⟩
     try simp only [updL_nil,updL_cons,delF_top,delF_upd,Nat.reduceEqDiff,reduceIte]
     refine le_backM (by first|rfl|(simp only [go_sem];try rfl)) (by first|exact Nat.zero_le _|simp) (by first|rfl|simp [lowO,low_lit,low_sl,low_ref,low_arr,low_sub,low_mp]) ?_ ?_
     ·repeat' (first|exact low_top|(refine low_upd rfl ?_))
     repeat' (first|exact leF_top _|exact (fun _=>LeR.refl _)|(with_reducible refine leF_sl ?_ ?_)|(refine leF_upd ?_ ?_))
     all_goals (first|exact LeR.top _|exact LeR.refl _|(refine LeR.of_eq ?_;(try simp only [go_sem]);try rfl)|((try simp only [go_sem]);try rfl))
   ·have h0':(((1:Nat):Int))=1:=rfl
    have hta:l.take 1++[⟨x,x'⟩]=l.take (1+1):=hta
    have htb:(widM [m0,m1,m2,m3,m4,m5] l).take 1++[⟨x - m2,x'+m3⟩]=(widM [m0,m1,m2,m3,m4,m5] l).take (1+1):=htb
    repeat' (first
     |(with_reducible first|refine nx ?_|refine t_seq fun K=>?_|refine t_br (fun hc=>?_) fun hc=>?_|refine t_bx ?_|apply And.intro|intro vr)|exact kpd
     |((with_reducible first|refine ny ?_|refine t_kLF ?_ ?_|refine t_drawE (id:=12) (fun _=>true) [(0,1),(1,1),(2,1),(3,1),(4,1),(5,1),(6,1),(7,1),(8,1),(9,1),(10,1),(11,1),(12,1),(13,1),(14,1),(15,1),(16,1),(17,1),(18,1),(19,0),(20,1)] (by kernel_rfl) fun K=>?_|refine t_dwh (h:=fun K KL=>?_));intros;simp only [go_sem,kp4,geff,h0',g3,hx,hln,hlm,hta,htb,rgsV_app,wr m2 (by omega),wr m3 (by omega),yes]))
    all_goals try exact isI8
    all_goals try exact nd
    ·skip
     all_goals (refine nl ?_;simp only [go_sem])
     exact LeA.refl _
    ·skip
     refine ⟨⟨(1+1,v+1),by simp only;omega⟩,by first|(simp only;omega)|omega,?_⟩
     try simp only [updL_nil,updL_cons,delF_top,delF_upd,Nat.reduceEqDiff,reduceIte]
     refine le_backM (by first|rfl|(simp only [go_sem];try rfl)) (by first|exact Nat.zero_le _|simp) (by first|rfl|simp [lowO,low_lit,low_sl,low_ref,low_arr,low_sub,low_mp]) ?_ ?_
     ·repeat' (first|exact low_top|(refine low_upd rfl ?_))
     repeat' (first|exact leF_top _|exact (fun _=>LeR.refl _)|(with_reducible refine leF_sl ?_ ?_)|(refine leF_upd ?_ ?_))
     all_goals (first|exact LeR.top _|exact LeR.refl _|(refine LeR.of_eq ?_;(try simp only [go_sem]);try rfl)|((try simp only [go_sem]);try rfl))
   ·have h0':(((2:Nat):Int))=2:=rfl
    have hta:l.take 2++[⟨x,x'⟩]=l.take (2+1):=hta
    have htb:(widM [m0,m1,m2,m3,m4,m5] l).take 2++[⟨x - m4,x'+m5⟩]=(widM [m0,m1,m2,m3,m4,m5] l).take (2+1):=htb
    repeat' (first
     |(with_reducible first|refine nx ?_|refine t_seq fun K=>?_|refine t_br (fun hc=>?_) fun hc=>?_|refine t_bx ?_|apply And.intro|intro vr)|exact kpd
     |((with_reducible first|refine ny ?_|refine t_kLF ?_ ?_|refine t_drawE (id:=12) (fun _=>true) [(0,1),(1,1),(2,1),(3,1),(4,1),(5,1),(6,1),(7,1),(8,1),(9,1),(10,1),(11,1),(12,1),(13,1),(14,1),(15,1),(16,1),(17,1),(18,1),(19,0),(20,1)] (by kernel_rfl) fun K=>?_|refine t_dwh (h:=fun K KL=>?_));intros;simp only [go_sem,kp4,geff,h0',g3,hx,hln,hlm,hta,htb,rgsV_app,wr m4 (by omega),wr m5 (by omega),yes]))
    all_goals try exact isI8
    all_goals try exact nd
    ·skip
     all_goals (refine nl ?_;simp only [go_sem])
     exact LeA.refl _
    ·skip
     refine ⟨⟨(2+1,v+1),by simp only;omega⟩,by first|(simp only;omega)|omega,?_⟩
     try simp only [updL_nil,updL_cons,delF_top,delF_upd,Nat.reduceEqDiff,reduceIte]
     refine le_backM (by first|rfl|(simp only [go_sem];try rfl)) (by first|exact Nat.zero_le _|simp) (by first|rfl|simp [lowO,low_lit,low_sl,low_ref,low_arr,low_sub,low_mp]) ?_ ?_
     ·repeat' (first|exact low_top|(refine low_upd rfl ?_))
     repeat' (first|exact leF_top _|exact (fun _=>LeR.refl _)|(with_reducible refine leF_sl ?_ ?_)|(refine leF_upd ?_ ?_))
     all_goals (first|exact LeR.top _|exact LeR.refl _|(refine LeR.of_eq ?_;(try simp only [go_sem]);try rfl)|((try simp only [go_sem]);try rfl))
  ·have g3:decide ((i:Int)<(l.length:Int))=false:=decide_eq_false (by omega)
   have e1:l.take i=l:=List.take_of_length_le hc
   have e2:(widM [m0,m1,m2,m3,m4,m5] l).take i=widM [m0,m1,m2,m3,m4,m5] l:=List.take_of_length_le (by omega)
   obtain ⟨bl,hbl⟩:∃ bl,widM [m0,m1,m2,m3,m4,m5] l=bl:=⟨_,rfl⟩
   rw [hbl] at hW hwl e2 hlm
   have hwin:∀ x y,primR op l=some x→primR op bl=some y→x.within y:=fun x y hx hy=>prim_mono hW hx hy
   cases hpx:primR op l with
   |none=>
    have v1:primV op l= .tup [.agg [.lit (.int .i64 0),.lit (.int .i64 0)],.lit (.bool false)]:=by simp only [primV,hpx];rfl
    cases hpy:primR op bl with
    |none=>
     have v2:primV op bl= .tup [.agg [.lit (.int .i64 0),.lit (.int .i64 0)],.lit (.bool false)]:=by simp only [primV,hpy];rfl
     repeat' (first
      |(with_reducible first|refine nx ?_|refine t_seq fun K=>?_|refine t_br (fun hc=>?_) fun hc=>?_|refine t_bx ?_|apply And.intro|intro vr)|exact kpd
      |((with_reducible first|refine ny ?_|refine t_kLF ?_ ?_|refine t_drawE (id:=12) (fun _=>true) [(0,1),(1,1),(2,1),(3,1),(4,1),(5,1),(6,1),(7,1),(8,1),(9,1),(10,1),(11,1),(12,1),(13,1),(14,1),(15,1),(16,1),(17,1),(18,1),(19,0),(20,1)] (by kernel_rfl) fun K=>?_|refine t_dwh (h:=fun K KL=>?_));intros;simp only [go_sem,kp4,geff,g3,hbl,e1,e2,v1,v2,Bool.not_false,Bool.true_or]))
     all_goals try exact nd
     all_goals (refine nl ?_;simp only [go_sem])
     exact LeA.of_eq rfl
    |some y=>
     have v2:primV op bl= .tup [.agg [.lit (.int .i64 y.lo),.lit (.int .i64 y.hi)],.lit (.bool true)]:=by simp only [primV,hpy];rfl
     repeat' (first
      |(with_reducible first|refine nx ?_|refine t_seq fun K=>?_|refine t_br (fun hc=>?_) fun hc=>?_|refine t_bx ?_|apply And.intro|intro vr)|exact kpd
      |((with_reducible first|refine ny ?_|refine t_kLF ?_ ?_|refine t_drawE (id:=12) (fun _=>true) [(0,1),(1,1),(2,1),(3,1),(4,1),(5,1),(6,1),(7,1),(8,1),(9,1),(10,1),(11,1),(12,1),(13,1),(14,1),(15,1),(16,1),(17,1),(18,1),(19,0),(20,1)] (by kernel_rfl) fun K=>?_|refine t_dwh (h:=fun K KL=>?_));intros;simp only [go_sem,kp4,geff,g3,hbl,e1,e2,v1,v2,Bool.not_false,Bool.not_true,Bool.true_or]))
     all_goals try exact nd
     all_goals (refine nl ?_;simp only [go_sem])
     exact LeA.of_eq rfl
   |some x=>
    have v1:primV op l= .tup [.agg [.lit (.int .i64 x.lo),.lit (.int .i64 x.hi)],.lit (.bool true)]:=by simp only [primV,hpx];rfl
    cases hpy:primR op bl with
    |none=>
     have v2:primV op bl= .tup [.agg [.lit (.int .i64 0),.lit (.int .i64 0)],.lit (.bool false)]:=by simp only [primV,hpy];rfl
     repeat' (first
      |(with_reducible first|refine nx ?_|refine t_seq fun K=>?_|refine t_br (fun hc=>?_) fun hc=>?_|refine t_bx ?_|apply And.intro|intro vr)|exact kpd
      |((with_reducible first|refine ny ?_|refine t_kLF ?_ ?_|refine t_drawE (id:=12) (fun _=>true) [(0,1),(1,1),(2,1),(3,1),(4,1),(5,1),(6,1),(7,1),(8,1),(9,1),(10,1),(11,1),(12,1),(13,1),(14,1),(15,1),(16,1),(17,1),(18,1),(19,0),(20,1)] (by kernel_rfl) fun K=>?_|refine t_dwh (h:=fun K KL=>?_));intros;simp only [go_sem,kp4,geff,g3,hbl,e1,e2,v1,v2,Bool.not_false,Bool.not_true,Bool.true_or]))
     all_goals try exact nd
     all_goals (refine nl ?_;simp only [go_sem])
     exact LeA.of_eq rfl
    |some y=>
     have v2:primV op bl= .tup [.agg [.lit (.int .i64 y.lo),.lit (.int .i64 y.hi)],.lit (.bool true)]:=by simp only [primV,hpy];rfl
     obtain ⟨w1,w2⟩:=hwin x y hpx hpy
     have d1:decide (y.lo≤x.lo)=true:=decide_eq_true w1
     have d2:decide (y.hi≥x.hi)=true:=decide_eq_true w2
     repeat' (first
      |(with_reducible first|refine nx ?_|refine t_seq fun K=>?_|refine t_br (fun hc=>?_) fun hc=>?_|refine t_bx ?_|apply And.intro|intro vr)|exact kpd
      |((with_reducible first|refine ny ?_|refine t_kLF ?_ ?_|refine t_drawE (id:=12) (fun _=>true) [(0,1),(1,1),(2,1),(3,1),(4,1),(5,1),(6,1),(7,1),(8,1),(9,1),(10,1),(11,1),(12,1),(13,1),(14,1),(15,1),(16,1),(17,1),(18,1),(19,0),(20,1)] (by kernel_rfl) fun K=>?_|refine t_dwh (h:=fun K KL=>?_));intros;simp only [go_sem,kp4,geff,g3,hbl,e1,e2,v1,v2,d1,d2,Bool.not_true,Bool.false_or]))
     all_goals try exact nd
     all_goals (refine nl ?_;simp only [go_sem])
     exact LeA.of_eq rfl
theorem greater_law:∀ xs,ShL Try.prog Try.f4.params.toList xs→PC Try.prog 4 xs (.lit (.bool true))
  |[_,_,_],h=>by
   obtain ⟨op,rfl,_⟩:=shv_str u9 h.1
   obtain ⟨l,rfl,hl⟩:=shv_rngs h.2.1
   obtain ⟨a,b,c,d,e,f,rfl,ha,hb,hc,hd,he,hf⟩:=shv_six h.2.2.1
   exact law4 hl ha hb hc hd he hf
  |[],h=>h.elim
  |[_],h=>h.2.elim
  |[_,_],h=>h.2.2.elim
  |_::_::_::_::_,h=>h.2.2.2.elim
end Go.Proofs.Ytnlimcijgpaegaa

namespace Go.Proofs.Ytnlimcijgpaegaa
open Go Go.Fw Bm
set_option maxRecDepth 20000
noncomputable def B8:Env:=envJ (P:=Try.prog) jkR zer (fun _=>false) (fun _=>false) [El.con29,con30,con31,con32,con33,con34] []
theorem B8_ok:EnvOk Try.prog B8:=envJOk zer_ok
set_option maxHeartbeats 8000000 in
theorem rprim_pc {op:ByteArray} {l:List Rng} (hl:l.length≤1000000):PC Try.prog 11 [.lit (.string op),.sl false 2 (rgsV l)] (primV op l):=by
  have hb:=fits_is op l
  generalize hV:primV op l=V
  cases hT:El.typesS op with
  |none=>
   have hF:fitsR op l=none:=by unfold fitsB at hb;rw [hT] at hb;cases h:fitsR op l with
     |none=>rfl
     |some i=>rw [h] at hb;cases hb
   rw [primV_none hF] at hV
   subst hV
   refine pcR B8_ok (kp11) Try.func11 [.cell 4 28,.tmp 5] (h:=fun KF=>?_)
   unfold B8
   repeat' (first
    |(with_reducible first|refine nx ?_|refine t_seq fun K=>?_|refine t_br (fun hc=>?_) fun hc=>?_|refine t_bx ?_|apply And.intro|intro vr)|exact kpd
    |((with_reducible first|refine ny ?_|refine t_kLF ?_ ?_|refine t_drawE (id:=16) (fun _=>false) [(0,1),(1,1),(2,1),(3,1),(4,1),(5,1),(6,1),(7,1),(8,1),(9,1),(10,1),(11,1),(12,1),(13,1),(14,1),(15,1),(16,1),(17,1),(18,1),(19,1),(20,1),(21,0),(22,1)] (by kernel_rfl) fun K=>?_|refine t_drawE (id:=18) (fun _=>false) [(0,1),(1,1),(2,1),(3,1),(4,1),(5,1),(6,1),(7,1),(8,1),(9,1),(10,1),(11,1),(12,1),(13,1),(14,1),(15,1),(16,1),(17,1),(18,1),(19,1),(20,1),(21,0),(22,1)] (by kernel_rfl) fun K=>?_|refine t_drawE (id:=20) (fun _=>false) [(0,1),(1,1),(2,1),(3,1),(4,1),(5,1),(6,1),(7,1),(8,1),(9,0),(10,1)] (by kernel_rfl) fun K=>?_|refine t_drawE (id:=22) (fun _=>false) [(0,1),(1,1),(2,1),(3,1),(4,1),(5,1),(6,1),(7,1),(8,1),(9,1),(10,1),(11,1),(12,1),(13,1),(14,1),(15,1),(16,1),(17,1),(18,1),(19,0),(20,1)] (by kernel_rfl) fun K=>?_|refine t_drawE (id:=24) (fun _=>false) [(0,1),(1,1),(2,1),(3,1),(4,1),(5,1),(6,1),(7,1),(8,1),(9,1),(10,1),(11,1),(12,1),(13,1),(14,1),(15,1),(16,1),(17,1),(18,1),(19,0),(20,1)] (by kernel_rfl) fun K=>?_|refine t_drawE (id:=33) (fun _=>false) [(0,1),(1,1),(2,1),(3,1),(4,1),(5,1),(6,1),(7,0),(8,1)] (by kernel_rfl) fun K=>?_|refine t_dwh (h:=fun K KL=>?_));intros;simp only [go_sem,kp11,geff,hT,Bool.not_false,Bool.true_or]))
   all_goals try exact nd
   all_goals (refine nl ?_;simp only [go_sem])
   exact LeA.refl _
  |some r=>
   obtain ⟨o,ps,rs⟩:=r
   unfold fitsB at hb
   rw [hT] at hb
   simp only at hb
   by_cases hn:l.length=ps.length
   ·rw [decide_eq_true hn,Bool.true_and] at hb
    have h1:((ps.length:Int) !=(l.length:Int))=false:=by simp [hn]
    refine pcR B8_ok (kp11) Try.func11 [.cell 4 28,.tmp 5] (h:=fun KF=>?_)
    unfold B8
    repeat' (first
     |(with_reducible first|refine nx ?_|refine t_seq fun K=>?_|refine t_br (fun hc=>?_) fun hc=>?_|refine t_bx ?_|apply And.intro|intro vr)|exact kpd
     |((with_reducible first|refine ny ?_|refine t_kLF ?_ ?_|refine t_drawE (id:=16) (fun _=>false) [(0,1),(1,1),(2,1),(3,1),(4,1),(5,1),(6,1),(7,1),(8,1),(9,1),(10,1),(11,1),(12,1),(13,1),(14,1),(15,1),(16,1),(17,1),(18,1),(19,1),(20,1),(21,0),(22,1)] (by kernel_rfl) fun K=>?_|refine t_drawE (id:=18) (fun _=>false) [(0,1),(1,1),(2,1),(3,1),(4,1),(5,1),(6,1),(7,1),(8,1),(9,1),(10,1),(11,1),(12,1),(13,1),(14,1),(15,1),(16,1),(17,1),(18,1),(19,1),(20,1),(21,0),(22,1)] (by kernel_rfl) fun K=>?_|refine t_drawE (id:=20) (fun _=>false) [(0,1),(1,1),(2,1),(3,1),(4,1),(5,1),(6,1),(7,1),(8,1),(9,0),(10,1)] (by kernel_rfl) fun K=>?_|refine t_drawE (id:=22) (fun _=>false) [(0,1),(1,1),(2,1),(3,1),(4,1),(5,1),(6,1),(7,1),(8,1),(9,1),(10,1),(11,1),(12,1),(13,1),(14,1),(15,1),(16,1),(17,1),(18,1),(19,0),(20,1)] (by kernel_rfl) fun K=>?_|refine t_drawE (id:=24) (fun _=>false) [(0,1),(1,1),(2,1),(3,1),(4,1),(5,1),(6,1),(7,1),(8,1),(9,1),(10,1),(11,1),(12,1),(13,1),(14,1),(15,1),(16,1),(17,1),(18,1),(19,0),(20,1)] (by kernel_rfl) fun K=>?_|refine t_drawE (id:=33) (fun _=>false) [(0,1),(1,1),(2,1),(3,1),(4,1),(5,1),(6,1),(7,0),(8,1)] (by kernel_rfl) fun K=>?_|refine t_dwh (h:=fun K KL=>?_));intros;simp only [go_sem,kp11,geff,hT,h1,strs_length,Bool.not_true,Bool.false_or]))
    all_goals try exact nd
    refine t_loopF (ι:={i:Nat // i≤l.length∧(((ps.drop i).zip (l.drop i)).all fun p=>fitB p.1 p.2)=(fitsR op l).isSome}) (fun i=>[(9,.lit (.int .i64 i.1))]) (fun i=>[.box 28 [.lit (.int .i64 0),.lit (.int .i64 0)]]) (fun i=>l.length - i.1) ⟨0,by omega,hb⟩ ?_ ?_
    ·exact lf
    rintro ⟨i,hi,hF⟩ K0
    rcases Nat.lt_or_ge i l.length with hc|hc
    ·have g3:decide ((i:Int)<(l.length:Int))=true:=decide_eq_true (by omega)
     rw [drop_getR hc,drop_getS (show i<ps.length by omega),List.zip_cons_cons,List.all_cons] at hF
     generalize hx:l.getD i nilR=x at hF
     generalize hp:ps.getD i ByteArray.empty=p at hF
     obtain ⟨x,x'⟩:=x
     cases hq:eqS p ⟨#[98,111,111,108]⟩ with
     |true=>
      have hfe:(decide (x>x')|| !decide (Rng.within ⟨x,x'⟩ ⟨0,1⟩))= !fitB p ⟨x,x'⟩:=by
        unfold fitB fitR
        rw [show El.sBool=(⟨#[98,111,111,108]⟩:ByteArray) from rfl,hq,if_pos rfl]
        by_cases h:x≤x'
        ·rw [decide_eq_true h,decide_eq_false (show ¬ x>x' by omega)];rfl
        ·rw [decide_eq_false h,decide_eq_true (show x>x' by omega)];rfl
      cases hb2:fitB p ⟨x,x'⟩ with
      |true=>
       rw [hb2] at hfe
       simp only [hb2,Bool.true_and] at hF
       repeat' (first
        |(with_reducible first|refine nx ?_|refine t_seq fun K=>?_|refine t_br (fun hc=>?_) fun hc=>?_|refine t_bx ?_|apply And.intro|intro vr)|exact kpd
        |((with_reducible first|refine ny ?_|refine t_kLF ?_ ?_|refine t_drawE (id:=16) (fun _=>false) [(0,1),(1,1),(2,1),(3,1),(4,1),(5,1),(6,1),(7,1),(8,1),(9,1),(10,1),(11,1),(12,1),(13,1),(14,1),(15,1),(16,1),(17,1),(18,1),(19,1),(20,1),(21,0),(22,1)] (by kernel_rfl) fun K=>?_|refine t_drawE (id:=18) (fun _=>false) [(0,1),(1,1),(2,1),(3,1),(4,1),(5,1),(6,1),(7,1),(8,1),(9,1),(10,1),(11,1),(12,1),(13,1),(14,1),(15,1),(16,1),(17,1),(18,1),(19,1),(20,1),(21,0),(22,1)] (by kernel_rfl) fun K=>?_|refine t_drawE (id:=20) (fun _=>false) [(0,1),(1,1),(2,1),(3,1),(4,1),(5,1),(6,1),(7,1),(8,1),(9,0),(10,1)] (by kernel_rfl) fun K=>?_|refine t_drawE (id:=22) (fun _=>false) [(0,1),(1,1),(2,1),(3,1),(4,1),(5,1),(6,1),(7,1),(8,1),(9,1),(10,1),(11,1),(12,1),(13,1),(14,1),(15,1),(16,1),(17,1),(18,1),(19,0),(20,1)] (by kernel_rfl) fun K=>?_|refine t_drawE (id:=24) (fun _=>false) [(0,1),(1,1),(2,1),(3,1),(4,1),(5,1),(6,1),(7,1),(8,1),(9,1),(10,1),(11,1),(12,1),(13,1),(14,1),(15,1),(16,1),(17,1),(18,1),(19,0),(20,1)] (by kernel_rfl) fun K=>?_|refine t_drawE (id:=33) (fun _=>false) [(0,1),(1,1),(2,1),(3,1),(4,1),(5,1),(6,1),(7,0),(8,1)] (by kernel_rfl) fun K=>?_|refine t_dwh (h:=fun K KL=>?_));intros;simp only [go_sem,kp11,geff,g3,hx,hp,hq,hfe,strs_length,Int.toNat_natCast,Bool.not_true,yes]))
       all_goals try exact nd
       refine ⟨⟨i+1,by omega,hF⟩,by first|(simp only;omega)|omega,?_⟩
       try simp only [updL_nil,updL_cons,delF_top,delF_upd,Nat.reduceEqDiff,reduceIte]
       refine le_backM (by first|rfl|(simp only [go_sem];try rfl)) (by first|exact Nat.zero_le _|simp) (by first|rfl|simp [lowO,low_lit,low_sl,low_ref,low_arr,low_sub,low_mp]) ?_ ?_
       ·repeat' (first|exact low_top|(refine low_upd rfl ?_))
       repeat' (first|exact leF_top _|exact (fun _=>LeR.refl _)|(with_reducible refine leF_sl ?_ ?_)|(refine leF_upd ?_ ?_))
       all_goals (first|exact LeR.top _|exact LeR.refl _|(refine LeR.of_eq ?_;(try simp only [go_sem]);try rfl)|((try simp only [go_sem]);try rfl))
      |false=>
       rw [hb2] at hfe
       simp only [hb2,Bool.false_and] at hF
       have hN:fitsR op l=none:=by cases h:fitsR op l with
         |none=>rfl
         |some i=>rw [h] at hF;cases hF
       rw [primV_none hN] at hV
       repeat' (first
        |(with_reducible first|refine nx ?_|refine t_seq fun K=>?_|refine t_br (fun hc=>?_) fun hc=>?_|refine t_bx ?_|apply And.intro|intro vr)|exact kpd
        |((with_reducible first|refine ny ?_|refine t_kLF ?_ ?_|refine t_drawE (id:=16) (fun _=>false) [(0,1),(1,1),(2,1),(3,1),(4,1),(5,1),(6,1),(7,1),(8,1),(9,1),(10,1),(11,1),(12,1),(13,1),(14,1),(15,1),(16,1),(17,1),(18,1),(19,1),(20,1),(21,0),(22,1)] (by kernel_rfl) fun K=>?_|refine t_drawE (id:=18) (fun _=>false) [(0,1),(1,1),(2,1),(3,1),(4,1),(5,1),(6,1),(7,1),(8,1),(9,1),(10,1),(11,1),(12,1),(13,1),(14,1),(15,1),(16,1),(17,1),(18,1),(19,1),(20,1),(21,0),(22,1)] (by kernel_rfl) fun K=>?_|refine t_drawE (id:=20) (fun _=>false) [(0,1),(1,1),(2,1),(3,1),(4,1),(5,1),(6,1),(7,1),(8,1),(9,0),(10,1)] (by kernel_rfl) fun K=>?_|refine t_drawE (id:=22) (fun _=>false) [(0,1),(1,1),(2,1),(3,1),(4,1),(5,1),(6,1),(7,1),(8,1),(9,1),(10,1),(11,1),(12,1),(13,1),(14,1),(15,1),(16,1),(17,1),(18,1),(19,0),(20,1)] (by kernel_rfl) fun K=>?_|refine t_drawE (id:=24) (fun _=>false) [(0,1),(1,1),(2,1),(3,1),(4,1),(5,1),(6,1),(7,1),(8,1),(9,1),(10,1),(11,1),(12,1),(13,1),(14,1),(15,1),(16,1),(17,1),(18,1),(19,0),(20,1)] (by kernel_rfl) fun K=>?_|refine t_drawE (id:=33) (fun _=>false) [(0,1),(1,1),(2,1),(3,1),(4,1),(5,1),(6,1),(7,0),(8,1)] (by kernel_rfl) fun K=>?_|refine t_dwh (h:=fun K KL=>?_));intros;simp only [go_sem,kp11,geff,g3,hx,hp,hq,hfe,strs_length,Int.toNat_natCast,Bool.not_false,yes]))
       all_goals try exact nd
       all_goals (refine nl ?_;simp only [go_sem])
       exact LeA.of_eq hV
     |false=>
      have hfe:(decide (x>x')|| !decide (Rng.within ⟨x,x'⟩ ⟨-2147483648,2147483647⟩))= !fitB p ⟨x,x'⟩:=by
        unfold fitB fitR
        rw [show El.sBool=(⟨#[98,111,111,108]⟩:ByteArray) from rfl,hq,if_neg (by decide)]
        by_cases h:x≤x'
        ·rw [decide_eq_true h,decide_eq_false (show ¬ x>x' by omega)];rfl
        ·rw [decide_eq_false h,decide_eq_true (show x>x' by omega)];rfl
      cases hb2:fitB p ⟨x,x'⟩ with
      |true=>
       rw [hb2] at hfe
       simp only [hb2,Bool.true_and] at hF
       repeat' (first
        |(with_reducible first|refine nx ?_|refine t_seq fun K=>?_|refine t_br (fun hc=>?_) fun hc=>?_|refine t_bx ?_|apply And.intro|intro vr)|exact kpd
        |((with_reducible first|refine ny ?_|refine t_kLF ?_ ?_|refine t_drawE (id:=16) (fun _=>false) [(0,1),(1,1),(2,1),(3,1),(4,1),(5,1),(6,1),(7,1),(8,1),(9,1),(10,1),(11,1),(12,1),(13,1),(14,1),(15,1),(16,1),(17,1),(18,1),(19,1),(20,1),(21,0),(22,1)] (by kernel_rfl) fun K=>?_|refine t_drawE (id:=18) (fun _=>false) [(0,1),(1,1),(2,1),(3,1),(4,1),(5,1),(6,1),(7,1),(8,1),(9,1),(10,1),(11,1),(12,1),(13,1),(14,1),(15,1),(16,1),(17,1),(18,1),(19,1),(20,1),(21,0),(22,1)] (by kernel_rfl) fun K=>?_|refine t_drawE (id:=20) (fun _=>false) [(0,1),(1,1),(2,1),(3,1),(4,1),(5,1),(6,1),(7,1),(8,1),(9,0),(10,1)] (by kernel_rfl) fun K=>?_|refine t_drawE (id:=22) (fun _=>false) [(0,1),(1,1),(2,1),(3,1),(4,1),(5,1),(6,1),(7,1),(8,1),(9,1),(10,1),(11,1),(12,1),(13,1),(14,1),(15,1),(16,1),(17,1),(18,1),(19,0),(20,1)] (by kernel_rfl) fun K=>?_|refine t_drawE (id:=24) (fun _=>false) [(0,1),(1,1),(2,1),(3,1),(4,1),(5,1),(6,1),(7,1),(8,1),(9,1),(10,1),(11,1),(12,1),(13,1),(14,1),(15,1),(16,1),(17,1),(18,1),(19,0),(20,1)] (by kernel_rfl) fun K=>?_|refine t_drawE (id:=33) (fun _=>false) [(0,1),(1,1),(2,1),(3,1),(4,1),(5,1),(6,1),(7,0),(8,1)] (by kernel_rfl) fun K=>?_|refine t_dwh (h:=fun K KL=>?_));intros;simp only [go_sem,kp11,geff,g3,hx,hp,hq,hfe,strs_length,Int.toNat_natCast,Bool.not_true,yes]))
       all_goals try exact nd
       refine ⟨⟨i+1,by omega,hF⟩,by first|(simp only;omega)|omega,?_⟩
       try simp only [updL_nil,updL_cons,delF_top,delF_upd,Nat.reduceEqDiff,reduceIte]
       refine le_backM (by first|rfl|(simp only [go_sem];try rfl)) (by first|exact Nat.zero_le _|simp) (by first|rfl|simp [lowO,low_lit,low_sl,low_ref,low_arr,low_sub,low_mp]) ?_ ?_
       ·repeat' (first|exact low_top|(refine low_upd rfl ?_))
       repeat' (first|exact leF_top _|exact (fun _=>LeR.refl _)|(with_reducible refine leF_sl ?_ ?_)|(refine leF_upd ?_ ?_))
       all_goals (first|exact LeR.top _|exact LeR.refl _|(refine LeR.of_eq ?_;(try simp only [go_sem]);try rfl)|((try simp only [go_sem]);try rfl))
      |false=>
       rw [hb2] at hfe
       simp only [hb2,Bool.false_and] at hF
       have hN:fitsR op l=none:=by cases h:fitsR op l with
         |none=>rfl
         |some i=>rw [h] at hF;cases hF
       rw [primV_none hN] at hV
       repeat' (first
        |(with_reducible first|refine nx ?_|refine t_seq fun K=>?_|refine t_br (fun hc=>?_) fun hc=>?_|refine t_bx ?_|apply And.intro|intro vr)|exact kpd
        |((with_reducible first|refine ny ?_|refine t_kLF ?_ ?_|refine t_drawE (id:=16) (fun _=>false) [(0,1),(1,1),(2,1),(3,1),(4,1),(5,1),(6,1),(7,1),(8,1),(9,1),(10,1),(11,1),(12,1),(13,1),(14,1),(15,1),(16,1),(17,1),(18,1),(19,1),(20,1),(21,0),(22,1)] (by kernel_rfl) fun K=>?_|refine t_drawE (id:=18) (fun _=>false) [(0,1),(1,1),(2,1),(3,1),(4,1),(5,1),(6,1),(7,1),(8,1),(9,1),(10,1),(11,1),(12,1),(13,1),(14,1),(15,1),(16,1),(17,1),(18,1),(19,1),(20,1),(21,0),(22,1)] (by kernel_rfl) fun K=>?_|refine t_drawE (id:=20) (fun _=>false) [(0,1),(1,1),(2,1),(3,1),(4,1),(5,1),(6,1),(7,1),(8,1),(9,0),(10,1)] (by kernel_rfl) fun K=>?_|refine t_drawE (id:=22) (fun _=>false) [(0,1),(1,1),(2,1),(3,1),(4,1),(5,1),(6,1),(7,1),(8,1),(9,1),(10,1),(11,1),(12,1),(13,1),(14,1),(15,1),(16,1),(17,1),(18,1),(19,0),(20,1)] (by kernel_rfl) fun K=>?_|refine t_drawE (id:=24) (fun _=>false) [(0,1),(1,1),(2,1),(3,1),(4,1),(5,1),(6,1),(7,1),(8,1),(9,1),(10,1),(11,1),(12,1),(13,1),(14,1),(15,1),(16,1),(17,1),(18,1),(19,0),(20,1)] (by kernel_rfl) fun K=>?_|refine t_drawE (id:=33) (fun _=>false) [(0,1),(1,1),(2,1),(3,1),(4,1),(5,1),(6,1),(7,0),(8,1)] (by kernel_rfl) fun K=>?_|refine t_dwh (h:=fun K KL=>?_));intros;simp only [go_sem,kp11,geff,g3,hx,hp,hq,hfe,strs_length,Int.toNat_natCast,Bool.not_false,yes]))
       all_goals try exact nd
       all_goals (refine nl ?_;simp only [go_sem])
       exact LeA.of_eq hV
    ·have g3:decide ((i:Int)<(l.length:Int))=false:=decide_eq_false (by omega)
     rw [List.drop_eq_nil_of_le hc,List.zip_nil_right] at hF
     obtain ⟨j,hj⟩:∃ j,fitsR op l=some j:=by cases h:fitsR op l with
       |none=>rw [h] at hF;cases hF
       |some j=>exact ⟨j,rfl⟩
     obtain ⟨_,h2,h3⟩:=fits_inv hj
     have hop:=fits_op hj
     have hI:=fitA_int h3 h2
     rw [primV_some hj] at hV
     clear hb hF h3
     rcases rng_ix (row_lt (by assumption)) with rfl|rfl|rfl|rfl|rfl|rfl|rfl|rfl|rfl|rfl|rfl|rfl|rfl|rfl|rfl|rfl|rfl|rfl|rfl|rfl|rfl|rfl
     ·obtain rfl:op=⟨#[97,100,100]⟩:=hop
      obtain ⟨a,b,rfl⟩:=len2L (show l.length=2 from h2)
      obtain rfl:rs=⟨#[105,110,116]⟩:=by have h:=congrArg (fun r:Option El.Rw=>(r.map El.Rw.rs).getD ByteArray.empty) hT;exact h.symm
      obtain ⟨ia1,ia2,ia3⟩:=hI a (by simp)
      have ia:IntR a:=⟨ia1,ia2,ia3⟩
      obtain ⟨ib1,ib2,ib3⟩:=hI b (by simp)
      have ib:IntR b:=⟨ib1,ib2,ib3⟩
      have g3:decide ((i:Int)<2)=false:=decide_eq_false (by simp only [List.length_cons,List.length_nil] at hc;omega)
      have g4:decide ((i:Int)<((([a,b]:List Rng).length:Nat):Int))=false:=g3
      have q0:eqS ⟨#[105,110,116]⟩ ⟨#[98,111,111,108]⟩=false:=by kernel_rfl
      have q1:eqS ⟨#[97,100,100]⟩ ⟨#[97,100,100]⟩=true:=by kernel_rfl
      repeat' (first
       |(with_reducible first|refine nx ?_|refine t_seq fun K=>?_|refine t_br (fun hc=>?_) fun hc=>?_|refine t_bx ?_|apply And.intro|intro vr)|exact kpd
       |((with_reducible first|refine ny ?_|refine t_kLF ?_ ?_|refine t_drawE (id:=16) (fun _=>false) [(0,1),(1,1),(2,1),(3,1),(4,1),(5,1),(6,1),(7,1),(8,1),(9,1),(10,1),(11,1),(12,1),(13,1),(14,1),(15,1),(16,1),(17,1),(18,1),(19,1),(20,1),(21,0),(22,1)] (by kernel_rfl) fun K=>?_|refine t_drawE (id:=18) (fun _=>false) [(0,1),(1,1),(2,1),(3,1),(4,1),(5,1),(6,1),(7,1),(8,1),(9,1),(10,1),(11,1),(12,1),(13,1),(14,1),(15,1),(16,1),(17,1),(18,1),(19,1),(20,1),(21,0),(22,1)] (by kernel_rfl) fun K=>?_|refine t_drawE (id:=20) (fun _=>false) [(0,1),(1,1),(2,1),(3,1),(4,1),(5,1),(6,1),(7,1),(8,1),(9,0),(10,1)] (by kernel_rfl) fun K=>?_|refine t_drawE (id:=22) (fun _=>false) [(0,1),(1,1),(2,1),(3,1),(4,1),(5,1),(6,1),(7,1),(8,1),(9,1),(10,1),(11,1),(12,1),(13,1),(14,1),(15,1),(16,1),(17,1),(18,1),(19,0),(20,1)] (by kernel_rfl) fun K=>?_|refine t_drawE (id:=24) (fun _=>false) [(0,1),(1,1),(2,1),(3,1),(4,1),(5,1),(6,1),(7,1),(8,1),(9,1),(10,1),(11,1),(12,1),(13,1),(14,1),(15,1),(16,1),(17,1),(18,1),(19,0),(20,1)] (by kernel_rfl) fun K=>?_|refine t_drawE (id:=33) (fun _=>false) [(0,1),(1,1),(2,1),(3,1),(4,1),(5,1),(6,1),(7,0),(8,1)] (by kernel_rfl) fun K=>?_|refine t_dwh (h:=fun K KL=>?_));intros;simp only [go_sem,kp11,geff,g3,g4,strs_length,q0,q1,Bool.not_true]))
      all_goals try exact nd
      all_goals (refine nl ?_;simp only [go_sem])
      exact LeA.of_eq hV
     ·obtain rfl:op=⟨#[115,117,98]⟩:=hop
      obtain ⟨a,b,rfl⟩:=len2L (show l.length=2 from h2)
      obtain rfl:rs=⟨#[105,110,116]⟩:=by have h:=congrArg (fun r:Option El.Rw=>(r.map El.Rw.rs).getD ByteArray.empty) hT;exact h.symm
      obtain ⟨ia1,ia2,ia3⟩:=hI a (by simp)
      have ia:IntR a:=⟨ia1,ia2,ia3⟩
      obtain ⟨ib1,ib2,ib3⟩:=hI b (by simp)
      have ib:IntR b:=⟨ib1,ib2,ib3⟩
      have g3:decide ((i:Int)<2)=false:=decide_eq_false (by simp only [List.length_cons,List.length_nil] at hc;omega)
      have g4:decide ((i:Int)<((([a,b]:List Rng).length:Nat):Int))=false:=g3
      have q0:eqS ⟨#[105,110,116]⟩ ⟨#[98,111,111,108]⟩=false:=by kernel_rfl
      have q1:eqS ⟨#[115,117,98]⟩ ⟨#[97,100,100]⟩=false:=by kernel_rfl
      have q2:eqS ⟨#[115,117,98]⟩ ⟨#[115,117,98]⟩=true:=by kernel_rfl
      repeat' (first
       |(with_reducible first|refine nx ?_|refine t_seq fun K=>?_|refine t_br (fun hc=>?_) fun hc=>?_|refine t_bx ?_|apply And.intro|intro vr)|exact kpd
       |((with_reducible first|refine ny ?_|refine t_kLF ?_ ?_|refine t_drawE (id:=16) (fun _=>false) [(0,1),(1,1),(2,1),(3,1),(4,1),(5,1),(6,1),(7,1),(8,1),(9,1),(10,1),(11,1),(12,1),(13,1),(14,1),(15,1),(16,1),(17,1),(18,1),(19,1),(20,1),(21,0),(22,1)] (by kernel_rfl) fun K=>?_|refine t_drawE (id:=18) (fun _=>false) [(0,1),(1,1),(2,1),(3,1),(4,1),(5,1),(6,1),(7,1),(8,1),(9,1),(10,1),(11,1),(12,1),(13,1),(14,1),(15,1),(16,1),(17,1),(18,1),(19,1),(20,1),(21,0),(22,1)] (by kernel_rfl) fun K=>?_|refine t_drawE (id:=20) (fun _=>false) [(0,1),(1,1),(2,1),(3,1),(4,1),(5,1),(6,1),(7,1),(8,1),(9,0),(10,1)] (by kernel_rfl) fun K=>?_|refine t_drawE (id:=22) (fun _=>false) [(0,1),(1,1),(2,1),(3,1),(4,1),(5,1),(6,1),(7,1),(8,1),(9,1),(10,1),(11,1),(12,1),(13,1),(14,1),(15,1),(16,1),(17,1),(18,1),(19,0),(20,1)] (by kernel_rfl) fun K=>?_|refine t_drawE (id:=24) (fun _=>false) [(0,1),(1,1),(2,1),(3,1),(4,1),(5,1),(6,1),(7,1),(8,1),(9,1),(10,1),(11,1),(12,1),(13,1),(14,1),(15,1),(16,1),(17,1),(18,1),(19,0),(20,1)] (by kernel_rfl) fun K=>?_|refine t_drawE (id:=33) (fun _=>false) [(0,1),(1,1),(2,1),(3,1),(4,1),(5,1),(6,1),(7,0),(8,1)] (by kernel_rfl) fun K=>?_|refine t_dwh (h:=fun K KL=>?_));intros;simp only [go_sem,kp11,geff,g3,g4,strs_length,q0,q1,q2,Bool.not_true]))
      all_goals try exact nd
      all_goals (refine nl ?_;simp only [go_sem])
      exact LeA.of_eq hV
     ·obtain rfl:op=⟨#[109,117,108]⟩:=hop
      obtain ⟨a,b,rfl⟩:=len2L (show l.length=2 from h2)
      obtain rfl:rs=⟨#[105,110,116]⟩:=by have h:=congrArg (fun r:Option El.Rw=>(r.map El.Rw.rs).getD ByteArray.empty) hT;exact h.symm
      obtain ⟨ia1,ia2,ia3⟩:=hI a (by simp)
      have ia:IntR a:=⟨ia1,ia2,ia3⟩
      obtain ⟨ib1,ib2,ib3⟩:=hI b (by simp)
      have ib:IntR b:=⟨ib1,ib2,ib3⟩
      have g3:decide ((i:Int)<2)=false:=decide_eq_false (by simp only [List.length_cons,List.length_nil] at hc;omega)
      have g4:decide ((i:Int)<((([a,b]:List Rng).length:Nat):Int))=false:=g3
      have q0:eqS ⟨#[105,110,116]⟩ ⟨#[98,111,111,108]⟩=false:=by kernel_rfl
      have q1:eqS ⟨#[109,117,108]⟩ ⟨#[97,100,100]⟩=false:=by kernel_rfl
      have q2:eqS ⟨#[109,117,108]⟩ ⟨#[115,117,98]⟩=false:=by kernel_rfl
      have q3:eqS ⟨#[109,117,108]⟩ ⟨#[109,117,108]⟩=true:=by kernel_rfl
      repeat' (first
       |(with_reducible first|refine nx ?_|refine t_seq fun K=>?_|refine t_br (fun hc=>?_) fun hc=>?_|refine t_bx ?_|apply And.intro|intro vr)|exact kpd
       |((with_reducible first|refine ny ?_|refine t_kLF ?_ ?_|refine t_drawE (id:=16) (fun _=>false) [(0,1),(1,1),(2,1),(3,1),(4,1),(5,1),(6,1),(7,1),(8,1),(9,1),(10,1),(11,1),(12,1),(13,1),(14,1),(15,1),(16,1),(17,1),(18,1),(19,1),(20,1),(21,0),(22,1)] (by kernel_rfl) fun K=>?_|refine t_drawE (id:=18) (fun _=>false) [(0,1),(1,1),(2,1),(3,1),(4,1),(5,1),(6,1),(7,1),(8,1),(9,1),(10,1),(11,1),(12,1),(13,1),(14,1),(15,1),(16,1),(17,1),(18,1),(19,1),(20,1),(21,0),(22,1)] (by kernel_rfl) fun K=>?_|refine t_drawE (id:=20) (fun _=>false) [(0,1),(1,1),(2,1),(3,1),(4,1),(5,1),(6,1),(7,1),(8,1),(9,0),(10,1)] (by kernel_rfl) fun K=>?_|refine t_drawE (id:=22) (fun _=>false) [(0,1),(1,1),(2,1),(3,1),(4,1),(5,1),(6,1),(7,1),(8,1),(9,1),(10,1),(11,1),(12,1),(13,1),(14,1),(15,1),(16,1),(17,1),(18,1),(19,0),(20,1)] (by kernel_rfl) fun K=>?_|refine t_drawE (id:=24) (fun _=>false) [(0,1),(1,1),(2,1),(3,1),(4,1),(5,1),(6,1),(7,1),(8,1),(9,1),(10,1),(11,1),(12,1),(13,1),(14,1),(15,1),(16,1),(17,1),(18,1),(19,0),(20,1)] (by kernel_rfl) fun K=>?_|refine t_drawE (id:=33) (fun _=>false) [(0,1),(1,1),(2,1),(3,1),(4,1),(5,1),(6,1),(7,0),(8,1)] (by kernel_rfl) fun K=>?_|refine t_dwh (h:=fun K KL=>?_));intros;simp only [go_sem,kp11,geff,g3,g4,strs_length,q0,q1,q2,q3,Bool.not_true]))
      all_goals try exact nd
      all_goals (refine nl ?_;simp only [go_sem])
      exact LeA.of_eq hV
     ·obtain rfl:op=⟨#[100,105,118]⟩:=hop
      obtain ⟨a,b,rfl⟩:=len2L (show l.length=2 from h2)
      obtain rfl:rs=⟨#[105,110,116]⟩:=by have h:=congrArg (fun r:Option El.Rw=>(r.map El.Rw.rs).getD ByteArray.empty) hT;exact h.symm
      obtain ⟨ia1,ia2,ia3⟩:=hI a (by simp)
      have ia:IntR a:=⟨ia1,ia2,ia3⟩
      obtain ⟨ib1,ib2,ib3⟩:=hI b (by simp)
      have ib:IntR b:=⟨ib1,ib2,ib3⟩
      have g3:decide ((i:Int)<2)=false:=decide_eq_false (by simp only [List.length_cons,List.length_nil] at hc;omega)
      have g4:decide ((i:Int)<((([a,b]:List Rng).length:Nat):Int))=false:=g3
      have q0:eqS ⟨#[105,110,116]⟩ ⟨#[98,111,111,108]⟩=false:=by kernel_rfl
      have q1:eqS ⟨#[100,105,118]⟩ ⟨#[97,100,100]⟩=false:=by kernel_rfl
      have q2:eqS ⟨#[100,105,118]⟩ ⟨#[115,117,98]⟩=false:=by kernel_rfl
      have q3:eqS ⟨#[100,105,118]⟩ ⟨#[109,117,108]⟩=false:=by kernel_rfl
      have q4:eqS ⟨#[100,105,118]⟩ ⟨#[109,105,110]⟩=false:=by kernel_rfl
      have q5:eqS ⟨#[100,105,118]⟩ ⟨#[109,97,120]⟩=false:=by kernel_rfl
      have q6:eqS ⟨#[100,105,118]⟩ ⟨#[109,111,100]⟩=false:=by kernel_rfl
      have q7:eqS ⟨#[100,105,118]⟩ ⟨#[115,105,103,110]⟩=false:=by kernel_rfl
      have q8:eqS ⟨#[100,105,118]⟩ ⟨#[116,111,105,110,116]⟩=false:=by kernel_rfl
      have q9:eqS ⟨#[100,105,118]⟩ ⟨#[115,101,108,101,99,116]⟩=false:=by kernel_rfl
      repeat' (first
       |(with_reducible first|refine nx ?_|refine t_seq fun K=>?_|refine t_br (fun hc=>?_) fun hc=>?_|refine t_bx ?_|apply And.intro|intro vr)|exact kpd
       |((with_reducible first|refine ny ?_|refine t_kLF ?_ ?_|refine t_drawE (id:=16) (fun _=>false) [(0,1),(1,1),(2,1),(3,1),(4,1),(5,1),(6,1),(7,1),(8,1),(9,1),(10,1),(11,1),(12,1),(13,1),(14,1),(15,1),(16,1),(17,1),(18,1),(19,1),(20,1),(21,0),(22,1)] (by kernel_rfl) fun K=>?_|refine t_drawE (id:=18) (fun _=>false) [(0,1),(1,1),(2,1),(3,1),(4,1),(5,1),(6,1),(7,1),(8,1),(9,1),(10,1),(11,1),(12,1),(13,1),(14,1),(15,1),(16,1),(17,1),(18,1),(19,1),(20,1),(21,0),(22,1)] (by kernel_rfl) fun K=>?_|refine t_drawE (id:=20) (fun _=>false) [(0,1),(1,1),(2,1),(3,1),(4,1),(5,1),(6,1),(7,1),(8,1),(9,0),(10,1)] (by kernel_rfl) fun K=>?_|refine t_drawE (id:=22) (fun _=>false) [(0,1),(1,1),(2,1),(3,1),(4,1),(5,1),(6,1),(7,1),(8,1),(9,1),(10,1),(11,1),(12,1),(13,1),(14,1),(15,1),(16,1),(17,1),(18,1),(19,0),(20,1)] (by kernel_rfl) fun K=>?_|refine t_drawE (id:=24) (fun _=>false) [(0,1),(1,1),(2,1),(3,1),(4,1),(5,1),(6,1),(7,1),(8,1),(9,1),(10,1),(11,1),(12,1),(13,1),(14,1),(15,1),(16,1),(17,1),(18,1),(19,0),(20,1)] (by kernel_rfl) fun K=>?_|refine t_drawE (id:=33) (fun _=>false) [(0,1),(1,1),(2,1),(3,1),(4,1),(5,1),(6,1),(7,0),(8,1)] (by kernel_rfl) fun K=>?_|refine t_dwh (h:=fun K KL=>?_));intros;simp only [go_sem,kp11,geff,g3,g4,strs_length,q0,q1,q2,q3,q4,q5,q6,q7,q8,q9,Bool.not_true]))
      all_goals try exact nd
      all_goals (refine nl ?_;simp only [go_sem])
      exact LeA.of_eq hV
     ·obtain rfl:op=⟨#[109,111,100]⟩:=hop
      obtain ⟨a,b,rfl⟩:=len2L (show l.length=2 from h2)
      obtain rfl:rs=⟨#[105,110,116]⟩:=by have h:=congrArg (fun r:Option El.Rw=>(r.map El.Rw.rs).getD ByteArray.empty) hT;exact h.symm
      obtain ⟨ia1,ia2,ia3⟩:=hI a (by simp)
      have ia:IntR a:=⟨ia1,ia2,ia3⟩
      obtain ⟨ib1,ib2,ib3⟩:=hI b (by simp)
      have ib:IntR b:=⟨ib1,ib2,ib3⟩
      have g3:decide ((i:Int)<2)=false:=decide_eq_false (by simp only [List.length_cons,List.length_nil] at hc;omega)
      have g4:decide ((i:Int)<((([a,b]:List Rng).length:Nat):Int))=false:=g3
      have q0:eqS ⟨#[105,110,116]⟩ ⟨#[98,111,111,108]⟩=false:=by kernel_rfl
      have q1:eqS ⟨#[109,111,100]⟩ ⟨#[97,100,100]⟩=false:=by kernel_rfl
      have q2:eqS ⟨#[109,111,100]⟩ ⟨#[115,117,98]⟩=false:=by kernel_rfl
      have q3:eqS ⟨#[109,111,100]⟩ ⟨#[109,117,108]⟩=false:=by kernel_rfl
      have q4:eqS ⟨#[109,111,100]⟩ ⟨#[109,105,110]⟩=false:=by kernel_rfl
      have q5:eqS ⟨#[109,111,100]⟩ ⟨#[109,97,120]⟩=false:=by kernel_rfl
      have q6:eqS ⟨#[109,111,100]⟩ ⟨#[109,111,100]⟩=true:=by kernel_rfl
      by_cases hb:b.lo≥1
      ·have hd:=decide_eq_true hb
       have e:rngV 4 [a,b]=⟨0,b.hi - 1⟩:=by show (if b.lo≥1 then _ else _)=_;rw [if_pos hb]
       rw [e] at hV
       repeat' (first
        |(with_reducible first|refine nx ?_|refine t_seq fun K=>?_|refine t_br (fun hc=>?_) fun hc=>?_|refine t_bx ?_|apply And.intro|intro vr)|exact kpd
        |((with_reducible first|refine ny ?_|refine t_kLF ?_ ?_|refine t_drawE (id:=16) (fun _=>false) [(0,1),(1,1),(2,1),(3,1),(4,1),(5,1),(6,1),(7,1),(8,1),(9,1),(10,1),(11,1),(12,1),(13,1),(14,1),(15,1),(16,1),(17,1),(18,1),(19,1),(20,1),(21,0),(22,1)] (by kernel_rfl) fun K=>?_|refine t_drawE (id:=18) (fun _=>false) [(0,1),(1,1),(2,1),(3,1),(4,1),(5,1),(6,1),(7,1),(8,1),(9,1),(10,1),(11,1),(12,1),(13,1),(14,1),(15,1),(16,1),(17,1),(18,1),(19,1),(20,1),(21,0),(22,1)] (by kernel_rfl) fun K=>?_|refine t_drawE (id:=20) (fun _=>false) [(0,1),(1,1),(2,1),(3,1),(4,1),(5,1),(6,1),(7,1),(8,1),(9,0),(10,1)] (by kernel_rfl) fun K=>?_|refine t_drawE (id:=22) (fun _=>false) [(0,1),(1,1),(2,1),(3,1),(4,1),(5,1),(6,1),(7,1),(8,1),(9,1),(10,1),(11,1),(12,1),(13,1),(14,1),(15,1),(16,1),(17,1),(18,1),(19,0),(20,1)] (by kernel_rfl) fun K=>?_|refine t_drawE (id:=24) (fun _=>false) [(0,1),(1,1),(2,1),(3,1),(4,1),(5,1),(6,1),(7,1),(8,1),(9,1),(10,1),(11,1),(12,1),(13,1),(14,1),(15,1),(16,1),(17,1),(18,1),(19,0),(20,1)] (by kernel_rfl) fun K=>?_|refine t_drawE (id:=33) (fun _=>false) [(0,1),(1,1),(2,1),(3,1),(4,1),(5,1),(6,1),(7,0),(8,1)] (by kernel_rfl) fun K=>?_|refine t_dwh (h:=fun K KL=>?_));intros;simp only [go_sem,kp11,geff,g3,g4,hd,strs_length,q0,q1,q2,q3,q4,q5,q6,Bool.not_true]))
       all_goals try exact nd
       all_goals (refine nl ?_;simp only [go_sem])
       exact LeA.of_eq hV
      ·have hd:=decide_eq_false hb
       have e:rngV 4 [a,b]=intsR:=by show (if b.lo≥1 then _ else _)=_;rw [if_neg hb]
       rw [e] at hV
       repeat' (first
        |(with_reducible first|refine nx ?_|refine t_seq fun K=>?_|refine t_br (fun hc=>?_) fun hc=>?_|refine t_bx ?_|apply And.intro|intro vr)|exact kpd
        |((with_reducible first|refine ny ?_|refine t_kLF ?_ ?_|refine t_drawE (id:=16) (fun _=>false) [(0,1),(1,1),(2,1),(3,1),(4,1),(5,1),(6,1),(7,1),(8,1),(9,1),(10,1),(11,1),(12,1),(13,1),(14,1),(15,1),(16,1),(17,1),(18,1),(19,1),(20,1),(21,0),(22,1)] (by kernel_rfl) fun K=>?_|refine t_drawE (id:=18) (fun _=>false) [(0,1),(1,1),(2,1),(3,1),(4,1),(5,1),(6,1),(7,1),(8,1),(9,1),(10,1),(11,1),(12,1),(13,1),(14,1),(15,1),(16,1),(17,1),(18,1),(19,1),(20,1),(21,0),(22,1)] (by kernel_rfl) fun K=>?_|refine t_drawE (id:=20) (fun _=>false) [(0,1),(1,1),(2,1),(3,1),(4,1),(5,1),(6,1),(7,1),(8,1),(9,0),(10,1)] (by kernel_rfl) fun K=>?_|refine t_drawE (id:=22) (fun _=>false) [(0,1),(1,1),(2,1),(3,1),(4,1),(5,1),(6,1),(7,1),(8,1),(9,1),(10,1),(11,1),(12,1),(13,1),(14,1),(15,1),(16,1),(17,1),(18,1),(19,0),(20,1)] (by kernel_rfl) fun K=>?_|refine t_drawE (id:=24) (fun _=>false) [(0,1),(1,1),(2,1),(3,1),(4,1),(5,1),(6,1),(7,1),(8,1),(9,1),(10,1),(11,1),(12,1),(13,1),(14,1),(15,1),(16,1),(17,1),(18,1),(19,0),(20,1)] (by kernel_rfl) fun K=>?_|refine t_drawE (id:=33) (fun _=>false) [(0,1),(1,1),(2,1),(3,1),(4,1),(5,1),(6,1),(7,0),(8,1)] (by kernel_rfl) fun K=>?_|refine t_dwh (h:=fun K KL=>?_));intros;simp only [go_sem,kp11,geff,g3,g4,hd,strs_length,q0,q1,q2,q3,q4,q5,q6,Bool.not_true]))
       all_goals try exact nd
       all_goals (refine nl ?_;simp only [go_sem])
       exact LeA.of_eq hV
     ·obtain rfl:op=⟨#[109,105,110]⟩:=hop
      obtain ⟨a,b,rfl⟩:=len2L (show l.length=2 from h2)
      obtain rfl:rs=⟨#[105,110,116]⟩:=by have h:=congrArg (fun r:Option El.Rw=>(r.map El.Rw.rs).getD ByteArray.empty) hT;exact h.symm
      obtain ⟨ia1,ia2,ia3⟩:=hI a (by simp)
      have ia:IntR a:=⟨ia1,ia2,ia3⟩
      obtain ⟨ib1,ib2,ib3⟩:=hI b (by simp)
      have ib:IntR b:=⟨ib1,ib2,ib3⟩
      have g3:decide ((i:Int)<2)=false:=decide_eq_false (by simp only [List.length_cons,List.length_nil] at hc;omega)
      have g4:decide ((i:Int)<((([a,b]:List Rng).length:Nat):Int))=false:=g3
      have q0:eqS ⟨#[105,110,116]⟩ ⟨#[98,111,111,108]⟩=false:=by kernel_rfl
      have q1:eqS ⟨#[109,105,110]⟩ ⟨#[97,100,100]⟩=false:=by kernel_rfl
      have q2:eqS ⟨#[109,105,110]⟩ ⟨#[115,117,98]⟩=false:=by kernel_rfl
      have q3:eqS ⟨#[109,105,110]⟩ ⟨#[109,117,108]⟩=false:=by kernel_rfl
      have q4:eqS ⟨#[109,105,110]⟩ ⟨#[109,105,110]⟩=true:=by kernel_rfl
      repeat' (first
       |(with_reducible first|refine nx ?_|refine t_seq fun K=>?_|refine t_br (fun hc=>?_) fun hc=>?_|refine t_bx ?_|apply And.intro|intro vr)|exact kpd
       |((with_reducible first|refine ny ?_|refine t_kLF ?_ ?_|refine t_drawE (id:=16) (fun _=>false) [(0,1),(1,1),(2,1),(3,1),(4,1),(5,1),(6,1),(7,1),(8,1),(9,1),(10,1),(11,1),(12,1),(13,1),(14,1),(15,1),(16,1),(17,1),(18,1),(19,1),(20,1),(21,0),(22,1)] (by kernel_rfl) fun K=>?_|refine t_drawE (id:=18) (fun _=>false) [(0,1),(1,1),(2,1),(3,1),(4,1),(5,1),(6,1),(7,1),(8,1),(9,1),(10,1),(11,1),(12,1),(13,1),(14,1),(15,1),(16,1),(17,1),(18,1),(19,1),(20,1),(21,0),(22,1)] (by kernel_rfl) fun K=>?_|refine t_drawE (id:=20) (fun _=>false) [(0,1),(1,1),(2,1),(3,1),(4,1),(5,1),(6,1),(7,1),(8,1),(9,0),(10,1)] (by kernel_rfl) fun K=>?_|refine t_drawE (id:=22) (fun _=>false) [(0,1),(1,1),(2,1),(3,1),(4,1),(5,1),(6,1),(7,1),(8,1),(9,1),(10,1),(11,1),(12,1),(13,1),(14,1),(15,1),(16,1),(17,1),(18,1),(19,0),(20,1)] (by kernel_rfl) fun K=>?_|refine t_drawE (id:=24) (fun _=>false) [(0,1),(1,1),(2,1),(3,1),(4,1),(5,1),(6,1),(7,1),(8,1),(9,1),(10,1),(11,1),(12,1),(13,1),(14,1),(15,1),(16,1),(17,1),(18,1),(19,0),(20,1)] (by kernel_rfl) fun K=>?_|refine t_drawE (id:=33) (fun _=>false) [(0,1),(1,1),(2,1),(3,1),(4,1),(5,1),(6,1),(7,0),(8,1)] (by kernel_rfl) fun K=>?_|refine t_dwh (h:=fun K KL=>?_));intros;simp only [go_sem,kp11,geff,g3,g4,strs_length,q0,q1,q2,q3,q4,Bool.not_true]))
      all_goals try exact nd
      all_goals (refine nl ?_;simp only [go_sem])
      exact LeA.of_eq hV
     ·obtain rfl:op=⟨#[109,97,120]⟩:=hop
      obtain ⟨a,b,rfl⟩:=len2L (show l.length=2 from h2)
      obtain rfl:rs=⟨#[105,110,116]⟩:=by have h:=congrArg (fun r:Option El.Rw=>(r.map El.Rw.rs).getD ByteArray.empty) hT;exact h.symm
      obtain ⟨ia1,ia2,ia3⟩:=hI a (by simp)
      have ia:IntR a:=⟨ia1,ia2,ia3⟩
      obtain ⟨ib1,ib2,ib3⟩:=hI b (by simp)
      have ib:IntR b:=⟨ib1,ib2,ib3⟩
      have g3:decide ((i:Int)<2)=false:=decide_eq_false (by simp only [List.length_cons,List.length_nil] at hc;omega)
      have g4:decide ((i:Int)<((([a,b]:List Rng).length:Nat):Int))=false:=g3
      have q0:eqS ⟨#[105,110,116]⟩ ⟨#[98,111,111,108]⟩=false:=by kernel_rfl
      have q1:eqS ⟨#[109,97,120]⟩ ⟨#[97,100,100]⟩=false:=by kernel_rfl
      have q2:eqS ⟨#[109,97,120]⟩ ⟨#[115,117,98]⟩=false:=by kernel_rfl
      have q3:eqS ⟨#[109,97,120]⟩ ⟨#[109,117,108]⟩=false:=by kernel_rfl
      have q4:eqS ⟨#[109,97,120]⟩ ⟨#[109,105,110]⟩=false:=by kernel_rfl
      have q5:eqS ⟨#[109,97,120]⟩ ⟨#[109,97,120]⟩=true:=by kernel_rfl
      repeat' (first
       |(with_reducible first|refine nx ?_|refine t_seq fun K=>?_|refine t_br (fun hc=>?_) fun hc=>?_|refine t_bx ?_|apply And.intro|intro vr)|exact kpd
       |((with_reducible first|refine ny ?_|refine t_kLF ?_ ?_|refine t_drawE (id:=16) (fun _=>false) [(0,1),(1,1),(2,1),(3,1),(4,1),(5,1),(6,1),(7,1),(8,1),(9,1),(10,1),(11,1),(12,1),(13,1),(14,1),(15,1),(16,1),(17,1),(18,1),(19,1),(20,1),(21,0),(22,1)] (by kernel_rfl) fun K=>?_|refine t_drawE (id:=18) (fun _=>false) [(0,1),(1,1),(2,1),(3,1),(4,1),(5,1),(6,1),(7,1),(8,1),(9,1),(10,1),(11,1),(12,1),(13,1),(14,1),(15,1),(16,1),(17,1),(18,1),(19,1),(20,1),(21,0),(22,1)] (by kernel_rfl) fun K=>?_|refine t_drawE (id:=20) (fun _=>false) [(0,1),(1,1),(2,1),(3,1),(4,1),(5,1),(6,1),(7,1),(8,1),(9,0),(10,1)] (by kernel_rfl) fun K=>?_|refine t_drawE (id:=22) (fun _=>false) [(0,1),(1,1),(2,1),(3,1),(4,1),(5,1),(6,1),(7,1),(8,1),(9,1),(10,1),(11,1),(12,1),(13,1),(14,1),(15,1),(16,1),(17,1),(18,1),(19,0),(20,1)] (by kernel_rfl) fun K=>?_|refine t_drawE (id:=24) (fun _=>false) [(0,1),(1,1),(2,1),(3,1),(4,1),(5,1),(6,1),(7,1),(8,1),(9,1),(10,1),(11,1),(12,1),(13,1),(14,1),(15,1),(16,1),(17,1),(18,1),(19,0),(20,1)] (by kernel_rfl) fun K=>?_|refine t_drawE (id:=33) (fun _=>false) [(0,1),(1,1),(2,1),(3,1),(4,1),(5,1),(6,1),(7,0),(8,1)] (by kernel_rfl) fun K=>?_|refine t_dwh (h:=fun K KL=>?_));intros;simp only [go_sem,kp11,geff,g3,g4,strs_length,q0,q1,q2,q3,q4,q5,Bool.not_true]))
      all_goals try exact nd
      all_goals (refine nl ?_;simp only [go_sem])
      exact LeA.of_eq hV
     ·obtain rfl:op=⟨#[110,101,103]⟩:=hop
      obtain ⟨a,rfl⟩:=len1L (show l.length=1 from h2)
      obtain rfl:rs=⟨#[105,110,116]⟩:=by have h:=congrArg (fun r:Option El.Rw=>(r.map El.Rw.rs).getD ByteArray.empty) hT;exact h.symm
      obtain ⟨ia1,ia2,ia3⟩:=hI a (by simp)
      have ia:IntR a:=⟨ia1,ia2,ia3⟩
      have g3:decide ((i:Int)<1)=false:=decide_eq_false (by simp only [List.length_cons,List.length_nil] at hc;omega)
      have g4:decide ((i:Int)<((([a]:List Rng).length:Nat):Int))=false:=g3
      have q0:eqS ⟨#[105,110,116]⟩ ⟨#[98,111,111,108]⟩=false:=by kernel_rfl
      have q1:eqS ⟨#[110,101,103]⟩ ⟨#[97,100,100]⟩=false:=by kernel_rfl
      have q2:eqS ⟨#[110,101,103]⟩ ⟨#[115,117,98]⟩=false:=by kernel_rfl
      have q3:eqS ⟨#[110,101,103]⟩ ⟨#[109,117,108]⟩=false:=by kernel_rfl
      have q4:eqS ⟨#[110,101,103]⟩ ⟨#[109,105,110]⟩=false:=by kernel_rfl
      have q5:eqS ⟨#[110,101,103]⟩ ⟨#[109,97,120]⟩=false:=by kernel_rfl
      have q6:eqS ⟨#[110,101,103]⟩ ⟨#[109,111,100]⟩=false:=by kernel_rfl
      have q7:eqS ⟨#[110,101,103]⟩ ⟨#[115,105,103,110]⟩=false:=by kernel_rfl
      have q8:eqS ⟨#[110,101,103]⟩ ⟨#[116,111,105,110,116]⟩=false:=by kernel_rfl
      have q9:eqS ⟨#[110,101,103]⟩ ⟨#[115,101,108,101,99,116]⟩=false:=by kernel_rfl
      repeat' (first
       |(with_reducible first|refine nx ?_|refine t_seq fun K=>?_|refine t_br (fun hc=>?_) fun hc=>?_|refine t_bx ?_|apply And.intro|intro vr)|exact kpd
       |((with_reducible first|refine ny ?_|refine t_kLF ?_ ?_|refine t_drawE (id:=16) (fun _=>false) [(0,1),(1,1),(2,1),(3,1),(4,1),(5,1),(6,1),(7,1),(8,1),(9,1),(10,1),(11,1),(12,1),(13,1),(14,1),(15,1),(16,1),(17,1),(18,1),(19,1),(20,1),(21,0),(22,1)] (by kernel_rfl) fun K=>?_|refine t_drawE (id:=18) (fun _=>false) [(0,1),(1,1),(2,1),(3,1),(4,1),(5,1),(6,1),(7,1),(8,1),(9,1),(10,1),(11,1),(12,1),(13,1),(14,1),(15,1),(16,1),(17,1),(18,1),(19,1),(20,1),(21,0),(22,1)] (by kernel_rfl) fun K=>?_|refine t_drawE (id:=20) (fun _=>false) [(0,1),(1,1),(2,1),(3,1),(4,1),(5,1),(6,1),(7,1),(8,1),(9,0),(10,1)] (by kernel_rfl) fun K=>?_|refine t_drawE (id:=22) (fun _=>false) [(0,1),(1,1),(2,1),(3,1),(4,1),(5,1),(6,1),(7,1),(8,1),(9,1),(10,1),(11,1),(12,1),(13,1),(14,1),(15,1),(16,1),(17,1),(18,1),(19,0),(20,1)] (by kernel_rfl) fun K=>?_|refine t_drawE (id:=24) (fun _=>false) [(0,1),(1,1),(2,1),(3,1),(4,1),(5,1),(6,1),(7,1),(8,1),(9,1),(10,1),(11,1),(12,1),(13,1),(14,1),(15,1),(16,1),(17,1),(18,1),(19,0),(20,1)] (by kernel_rfl) fun K=>?_|refine t_drawE (id:=33) (fun _=>false) [(0,1),(1,1),(2,1),(3,1),(4,1),(5,1),(6,1),(7,0),(8,1)] (by kernel_rfl) fun K=>?_|refine t_dwh (h:=fun K KL=>?_));intros;simp only [go_sem,kp11,geff,g3,g4,strs_length,q0,q1,q2,q3,q4,q5,q6,q7,q8,q9,Bool.not_true]))
      all_goals try exact nd
      all_goals (refine nl ?_;simp only [go_sem])
      exact LeA.of_eq hV
     ·obtain rfl:op=⟨#[97,98,115]⟩:=hop
      obtain ⟨a,rfl⟩:=len1L (show l.length=1 from h2)
      obtain rfl:rs=⟨#[105,110,116]⟩:=by have h:=congrArg (fun r:Option El.Rw=>(r.map El.Rw.rs).getD ByteArray.empty) hT;exact h.symm
      obtain ⟨ia1,ia2,ia3⟩:=hI a (by simp)
      have ia:IntR a:=⟨ia1,ia2,ia3⟩
      have g3:decide ((i:Int)<1)=false:=decide_eq_false (by simp only [List.length_cons,List.length_nil] at hc;omega)
      have g4:decide ((i:Int)<((([a]:List Rng).length:Nat):Int))=false:=g3
      have q0:eqS ⟨#[105,110,116]⟩ ⟨#[98,111,111,108]⟩=false:=by kernel_rfl
      have q1:eqS ⟨#[97,98,115]⟩ ⟨#[97,100,100]⟩=false:=by kernel_rfl
      have q2:eqS ⟨#[97,98,115]⟩ ⟨#[115,117,98]⟩=false:=by kernel_rfl
      have q3:eqS ⟨#[97,98,115]⟩ ⟨#[109,117,108]⟩=false:=by kernel_rfl
      have q4:eqS ⟨#[97,98,115]⟩ ⟨#[109,105,110]⟩=false:=by kernel_rfl
      have q5:eqS ⟨#[97,98,115]⟩ ⟨#[109,97,120]⟩=false:=by kernel_rfl
      have q6:eqS ⟨#[97,98,115]⟩ ⟨#[109,111,100]⟩=false:=by kernel_rfl
      have q7:eqS ⟨#[97,98,115]⟩ ⟨#[115,105,103,110]⟩=false:=by kernel_rfl
      have q8:eqS ⟨#[97,98,115]⟩ ⟨#[116,111,105,110,116]⟩=false:=by kernel_rfl
      have q9:eqS ⟨#[97,98,115]⟩ ⟨#[115,101,108,101,99,116]⟩=false:=by kernel_rfl
      repeat' (first
       |(with_reducible first|refine nx ?_|refine t_seq fun K=>?_|refine t_br (fun hc=>?_) fun hc=>?_|refine t_bx ?_|apply And.intro|intro vr)|exact kpd
       |((with_reducible first|refine ny ?_|refine t_kLF ?_ ?_|refine t_drawE (id:=16) (fun _=>false) [(0,1),(1,1),(2,1),(3,1),(4,1),(5,1),(6,1),(7,1),(8,1),(9,1),(10,1),(11,1),(12,1),(13,1),(14,1),(15,1),(16,1),(17,1),(18,1),(19,1),(20,1),(21,0),(22,1)] (by kernel_rfl) fun K=>?_|refine t_drawE (id:=18) (fun _=>false) [(0,1),(1,1),(2,1),(3,1),(4,1),(5,1),(6,1),(7,1),(8,1),(9,1),(10,1),(11,1),(12,1),(13,1),(14,1),(15,1),(16,1),(17,1),(18,1),(19,1),(20,1),(21,0),(22,1)] (by kernel_rfl) fun K=>?_|refine t_drawE (id:=20) (fun _=>false) [(0,1),(1,1),(2,1),(3,1),(4,1),(5,1),(6,1),(7,1),(8,1),(9,0),(10,1)] (by kernel_rfl) fun K=>?_|refine t_drawE (id:=22) (fun _=>false) [(0,1),(1,1),(2,1),(3,1),(4,1),(5,1),(6,1),(7,1),(8,1),(9,1),(10,1),(11,1),(12,1),(13,1),(14,1),(15,1),(16,1),(17,1),(18,1),(19,0),(20,1)] (by kernel_rfl) fun K=>?_|refine t_drawE (id:=24) (fun _=>false) [(0,1),(1,1),(2,1),(3,1),(4,1),(5,1),(6,1),(7,1),(8,1),(9,1),(10,1),(11,1),(12,1),(13,1),(14,1),(15,1),(16,1),(17,1),(18,1),(19,0),(20,1)] (by kernel_rfl) fun K=>?_|refine t_drawE (id:=33) (fun _=>false) [(0,1),(1,1),(2,1),(3,1),(4,1),(5,1),(6,1),(7,0),(8,1)] (by kernel_rfl) fun K=>?_|refine t_dwh (h:=fun K KL=>?_));intros;simp only [go_sem,kp11,geff,g3,g4,strs_length,q0,q1,q2,q3,q4,q5,q6,q7,q8,q9,Bool.not_true]))
      all_goals try exact nd
      all_goals (refine nl ?_;simp only [go_sem])
      exact LeA.of_eq hV
     ·obtain rfl:op=⟨#[115,105,103,110]⟩:=hop
      obtain ⟨a,rfl⟩:=len1L (show l.length=1 from h2)
      obtain rfl:rs=⟨#[105,110,116]⟩:=by have h:=congrArg (fun r:Option El.Rw=>(r.map El.Rw.rs).getD ByteArray.empty) hT;exact h.symm
      obtain ⟨ia1,ia2,ia3⟩:=hI a (by simp)
      have ia:IntR a:=⟨ia1,ia2,ia3⟩
      have g3:decide ((i:Int)<1)=false:=decide_eq_false (by simp only [List.length_cons,List.length_nil] at hc;omega)
      have g4:decide ((i:Int)<((([a]:List Rng).length:Nat):Int))=false:=g3
      have q0:eqS ⟨#[105,110,116]⟩ ⟨#[98,111,111,108]⟩=false:=by kernel_rfl
      have q1:eqS ⟨#[115,105,103,110]⟩ ⟨#[97,100,100]⟩=false:=by kernel_rfl
      have q2:eqS ⟨#[115,105,103,110]⟩ ⟨#[115,117,98]⟩=false:=by kernel_rfl
      have q3:eqS ⟨#[115,105,103,110]⟩ ⟨#[109,117,108]⟩=false:=by kernel_rfl
      have q4:eqS ⟨#[115,105,103,110]⟩ ⟨#[109,105,110]⟩=false:=by kernel_rfl
      have q5:eqS ⟨#[115,105,103,110]⟩ ⟨#[109,97,120]⟩=false:=by kernel_rfl
      have q6:eqS ⟨#[115,105,103,110]⟩ ⟨#[109,111,100]⟩=false:=by kernel_rfl
      have q7:eqS ⟨#[115,105,103,110]⟩ ⟨#[115,105,103,110]⟩=true:=by kernel_rfl
      repeat' (first
       |(with_reducible first|refine nx ?_|refine t_seq fun K=>?_|refine t_br (fun hc=>?_) fun hc=>?_|refine t_bx ?_|apply And.intro|intro vr)|exact kpd
       |((with_reducible first|refine ny ?_|refine t_kLF ?_ ?_|refine t_drawE (id:=16) (fun _=>false) [(0,1),(1,1),(2,1),(3,1),(4,1),(5,1),(6,1),(7,1),(8,1),(9,1),(10,1),(11,1),(12,1),(13,1),(14,1),(15,1),(16,1),(17,1),(18,1),(19,1),(20,1),(21,0),(22,1)] (by kernel_rfl) fun K=>?_|refine t_drawE (id:=18) (fun _=>false) [(0,1),(1,1),(2,1),(3,1),(4,1),(5,1),(6,1),(7,1),(8,1),(9,1),(10,1),(11,1),(12,1),(13,1),(14,1),(15,1),(16,1),(17,1),(18,1),(19,1),(20,1),(21,0),(22,1)] (by kernel_rfl) fun K=>?_|refine t_drawE (id:=20) (fun _=>false) [(0,1),(1,1),(2,1),(3,1),(4,1),(5,1),(6,1),(7,1),(8,1),(9,0),(10,1)] (by kernel_rfl) fun K=>?_|refine t_drawE (id:=22) (fun _=>false) [(0,1),(1,1),(2,1),(3,1),(4,1),(5,1),(6,1),(7,1),(8,1),(9,1),(10,1),(11,1),(12,1),(13,1),(14,1),(15,1),(16,1),(17,1),(18,1),(19,0),(20,1)] (by kernel_rfl) fun K=>?_|refine t_drawE (id:=24) (fun _=>false) [(0,1),(1,1),(2,1),(3,1),(4,1),(5,1),(6,1),(7,1),(8,1),(9,1),(10,1),(11,1),(12,1),(13,1),(14,1),(15,1),(16,1),(17,1),(18,1),(19,0),(20,1)] (by kernel_rfl) fun K=>?_|refine t_drawE (id:=33) (fun _=>false) [(0,1),(1,1),(2,1),(3,1),(4,1),(5,1),(6,1),(7,0),(8,1)] (by kernel_rfl) fun K=>?_|refine t_dwh (h:=fun K KL=>?_));intros;simp only [go_sem,kp11,geff,g3,g4,strs_length,q0,q1,q2,q3,q4,q5,q6,q7,Bool.not_true]))
      all_goals try exact nd
      all_goals (refine nl ?_;simp only [go_sem])
      exact LeA.of_eq hV
     ·obtain rfl:op=⟨#[108,116]⟩:=hop
      obtain ⟨a,b,rfl⟩:=len2L (show l.length=2 from h2)
      obtain rfl:rs=⟨#[98,111,111,108]⟩:=by have h:=congrArg (fun r:Option El.Rw=>(r.map El.Rw.rs).getD ByteArray.empty) hT;exact h.symm
      obtain ⟨ia1,ia2,ia3⟩:=hI a (by simp)
      have ia:IntR a:=⟨ia1,ia2,ia3⟩
      obtain ⟨ib1,ib2,ib3⟩:=hI b (by simp)
      have ib:IntR b:=⟨ib1,ib2,ib3⟩
      have g3:decide ((i:Int)<2)=false:=decide_eq_false (by simp only [List.length_cons,List.length_nil] at hc;omega)
      have g4:decide ((i:Int)<((([a,b]:List Rng).length:Nat):Int))=false:=g3
      have q0:eqS ⟨#[98,111,111,108]⟩ ⟨#[98,111,111,108]⟩=true:=by kernel_rfl
      repeat' (first
       |(with_reducible first|refine nx ?_|refine t_seq fun K=>?_|refine t_br (fun hc=>?_) fun hc=>?_|refine t_bx ?_|apply And.intro|intro vr)|exact kpd
       |((with_reducible first|refine ny ?_|refine t_kLF ?_ ?_|refine t_drawE (id:=16) (fun _=>false) [(0,1),(1,1),(2,1),(3,1),(4,1),(5,1),(6,1),(7,1),(8,1),(9,1),(10,1),(11,1),(12,1),(13,1),(14,1),(15,1),(16,1),(17,1),(18,1),(19,1),(20,1),(21,0),(22,1)] (by kernel_rfl) fun K=>?_|refine t_drawE (id:=18) (fun _=>false) [(0,1),(1,1),(2,1),(3,1),(4,1),(5,1),(6,1),(7,1),(8,1),(9,1),(10,1),(11,1),(12,1),(13,1),(14,1),(15,1),(16,1),(17,1),(18,1),(19,1),(20,1),(21,0),(22,1)] (by kernel_rfl) fun K=>?_|refine t_drawE (id:=20) (fun _=>false) [(0,1),(1,1),(2,1),(3,1),(4,1),(5,1),(6,1),(7,1),(8,1),(9,0),(10,1)] (by kernel_rfl) fun K=>?_|refine t_drawE (id:=22) (fun _=>false) [(0,1),(1,1),(2,1),(3,1),(4,1),(5,1),(6,1),(7,1),(8,1),(9,1),(10,1),(11,1),(12,1),(13,1),(14,1),(15,1),(16,1),(17,1),(18,1),(19,0),(20,1)] (by kernel_rfl) fun K=>?_|refine t_drawE (id:=24) (fun _=>false) [(0,1),(1,1),(2,1),(3,1),(4,1),(5,1),(6,1),(7,1),(8,1),(9,1),(10,1),(11,1),(12,1),(13,1),(14,1),(15,1),(16,1),(17,1),(18,1),(19,0),(20,1)] (by kernel_rfl) fun K=>?_|refine t_drawE (id:=33) (fun _=>false) [(0,1),(1,1),(2,1),(3,1),(4,1),(5,1),(6,1),(7,0),(8,1)] (by kernel_rfl) fun K=>?_|refine t_dwh (h:=fun K KL=>?_));intros;simp only [go_sem,kp11,geff,g3,g4,strs_length,q0,Bool.not_true]))
      all_goals try exact nd
      all_goals (refine nl ?_;simp only [go_sem])
      exact LeA.of_eq hV
     ·obtain rfl:op=⟨#[108,101]⟩:=hop
      obtain ⟨a,b,rfl⟩:=len2L (show l.length=2 from h2)
      obtain rfl:rs=⟨#[98,111,111,108]⟩:=by have h:=congrArg (fun r:Option El.Rw=>(r.map El.Rw.rs).getD ByteArray.empty) hT;exact h.symm
      obtain ⟨ia1,ia2,ia3⟩:=hI a (by simp)
      have ia:IntR a:=⟨ia1,ia2,ia3⟩
      obtain ⟨ib1,ib2,ib3⟩:=hI b (by simp)
      have ib:IntR b:=⟨ib1,ib2,ib3⟩
      have g3:decide ((i:Int)<2)=false:=decide_eq_false (by simp only [List.length_cons,List.length_nil] at hc;omega)
      have g4:decide ((i:Int)<((([a,b]:List Rng).length:Nat):Int))=false:=g3
      have q0:eqS ⟨#[98,111,111,108]⟩ ⟨#[98,111,111,108]⟩=true:=by kernel_rfl
      repeat' (first
       |(with_reducible first|refine nx ?_|refine t_seq fun K=>?_|refine t_br (fun hc=>?_) fun hc=>?_|refine t_bx ?_|apply And.intro|intro vr)|exact kpd
       |((with_reducible first|refine ny ?_|refine t_kLF ?_ ?_|refine t_drawE (id:=16) (fun _=>false) [(0,1),(1,1),(2,1),(3,1),(4,1),(5,1),(6,1),(7,1),(8,1),(9,1),(10,1),(11,1),(12,1),(13,1),(14,1),(15,1),(16,1),(17,1),(18,1),(19,1),(20,1),(21,0),(22,1)] (by kernel_rfl) fun K=>?_|refine t_drawE (id:=18) (fun _=>false) [(0,1),(1,1),(2,1),(3,1),(4,1),(5,1),(6,1),(7,1),(8,1),(9,1),(10,1),(11,1),(12,1),(13,1),(14,1),(15,1),(16,1),(17,1),(18,1),(19,1),(20,1),(21,0),(22,1)] (by kernel_rfl) fun K=>?_|refine t_drawE (id:=20) (fun _=>false) [(0,1),(1,1),(2,1),(3,1),(4,1),(5,1),(6,1),(7,1),(8,1),(9,0),(10,1)] (by kernel_rfl) fun K=>?_|refine t_drawE (id:=22) (fun _=>false) [(0,1),(1,1),(2,1),(3,1),(4,1),(5,1),(6,1),(7,1),(8,1),(9,1),(10,1),(11,1),(12,1),(13,1),(14,1),(15,1),(16,1),(17,1),(18,1),(19,0),(20,1)] (by kernel_rfl) fun K=>?_|refine t_drawE (id:=24) (fun _=>false) [(0,1),(1,1),(2,1),(3,1),(4,1),(5,1),(6,1),(7,1),(8,1),(9,1),(10,1),(11,1),(12,1),(13,1),(14,1),(15,1),(16,1),(17,1),(18,1),(19,0),(20,1)] (by kernel_rfl) fun K=>?_|refine t_drawE (id:=33) (fun _=>false) [(0,1),(1,1),(2,1),(3,1),(4,1),(5,1),(6,1),(7,0),(8,1)] (by kernel_rfl) fun K=>?_|refine t_dwh (h:=fun K KL=>?_));intros;simp only [go_sem,kp11,geff,g3,g4,strs_length,q0,Bool.not_true]))
      all_goals try exact nd
      all_goals (refine nl ?_;simp only [go_sem])
      exact LeA.of_eq hV
     ·obtain rfl:op=⟨#[103,116]⟩:=hop
      obtain ⟨a,b,rfl⟩:=len2L (show l.length=2 from h2)
      obtain rfl:rs=⟨#[98,111,111,108]⟩:=by have h:=congrArg (fun r:Option El.Rw=>(r.map El.Rw.rs).getD ByteArray.empty) hT;exact h.symm
      obtain ⟨ia1,ia2,ia3⟩:=hI a (by simp)
      have ia:IntR a:=⟨ia1,ia2,ia3⟩
      obtain ⟨ib1,ib2,ib3⟩:=hI b (by simp)
      have ib:IntR b:=⟨ib1,ib2,ib3⟩
      have g3:decide ((i:Int)<2)=false:=decide_eq_false (by simp only [List.length_cons,List.length_nil] at hc;omega)
      have g4:decide ((i:Int)<((([a,b]:List Rng).length:Nat):Int))=false:=g3
      have q0:eqS ⟨#[98,111,111,108]⟩ ⟨#[98,111,111,108]⟩=true:=by kernel_rfl
      repeat' (first
       |(with_reducible first|refine nx ?_|refine t_seq fun K=>?_|refine t_br (fun hc=>?_) fun hc=>?_|refine t_bx ?_|apply And.intro|intro vr)|exact kpd
       |((with_reducible first|refine ny ?_|refine t_kLF ?_ ?_|refine t_drawE (id:=16) (fun _=>false) [(0,1),(1,1),(2,1),(3,1),(4,1),(5,1),(6,1),(7,1),(8,1),(9,1),(10,1),(11,1),(12,1),(13,1),(14,1),(15,1),(16,1),(17,1),(18,1),(19,1),(20,1),(21,0),(22,1)] (by kernel_rfl) fun K=>?_|refine t_drawE (id:=18) (fun _=>false) [(0,1),(1,1),(2,1),(3,1),(4,1),(5,1),(6,1),(7,1),(8,1),(9,1),(10,1),(11,1),(12,1),(13,1),(14,1),(15,1),(16,1),(17,1),(18,1),(19,1),(20,1),(21,0),(22,1)] (by kernel_rfl) fun K=>?_|refine t_drawE (id:=20) (fun _=>false) [(0,1),(1,1),(2,1),(3,1),(4,1),(5,1),(6,1),(7,1),(8,1),(9,0),(10,1)] (by kernel_rfl) fun K=>?_|refine t_drawE (id:=22) (fun _=>false) [(0,1),(1,1),(2,1),(3,1),(4,1),(5,1),(6,1),(7,1),(8,1),(9,1),(10,1),(11,1),(12,1),(13,1),(14,1),(15,1),(16,1),(17,1),(18,1),(19,0),(20,1)] (by kernel_rfl) fun K=>?_|refine t_drawE (id:=24) (fun _=>false) [(0,1),(1,1),(2,1),(3,1),(4,1),(5,1),(6,1),(7,1),(8,1),(9,1),(10,1),(11,1),(12,1),(13,1),(14,1),(15,1),(16,1),(17,1),(18,1),(19,0),(20,1)] (by kernel_rfl) fun K=>?_|refine t_drawE (id:=33) (fun _=>false) [(0,1),(1,1),(2,1),(3,1),(4,1),(5,1),(6,1),(7,0),(8,1)] (by kernel_rfl) fun K=>?_|refine t_dwh (h:=fun K KL=>?_));intros;simp only [go_sem,kp11,geff,g3,g4,strs_length,q0,Bool.not_true]))
      all_goals try exact nd
      all_goals (refine nl ?_;simp only [go_sem])
      exact LeA.of_eq hV
     ·obtain rfl:op=⟨#[103,101]⟩:=hop
      obtain ⟨a,b,rfl⟩:=len2L (show l.length=2 from h2)
      obtain rfl:rs=⟨#[98,111,111,108]⟩:=by have h:=congrArg (fun r:Option El.Rw=>(r.map El.Rw.rs).getD ByteArray.empty) hT;exact h.symm
      obtain ⟨ia1,ia2,ia3⟩:=hI a (by simp)
      have ia:IntR a:=⟨ia1,ia2,ia3⟩
      obtain ⟨ib1,ib2,ib3⟩:=hI b (by simp)
      have ib:IntR b:=⟨ib1,ib2,ib3⟩
      have g3:decide ((i:Int)<2)=false:=decide_eq_false (by simp only [List.length_cons,List.length_nil] at hc;omega)
      have g4:decide ((i:Int)<((([a,b]:List Rng).length:Nat):Int))=false:=g3
      have q0:eqS ⟨#[98,111,111,108]⟩ ⟨#[98,111,111,108]⟩=true:=by kernel_rfl
      repeat' (first
       |(with_reducible first|refine nx ?_|refine t_seq fun K=>?_|refine t_br (fun hc=>?_) fun hc=>?_|refine t_bx ?_|apply And.intro|intro vr)|exact kpd
       |((with_reducible first|refine ny ?_|refine t_kLF ?_ ?_|refine t_drawE (id:=16) (fun _=>false) [(0,1),(1,1),(2,1),(3,1),(4,1),(5,1),(6,1),(7,1),(8,1),(9,1),(10,1),(11,1),(12,1),(13,1),(14,1),(15,1),(16,1),(17,1),(18,1),(19,1),(20,1),(21,0),(22,1)] (by kernel_rfl) fun K=>?_|refine t_drawE (id:=18) (fun _=>false) [(0,1),(1,1),(2,1),(3,1),(4,1),(5,1),(6,1),(7,1),(8,1),(9,1),(10,1),(11,1),(12,1),(13,1),(14,1),(15,1),(16,1),(17,1),(18,1),(19,1),(20,1),(21,0),(22,1)] (by kernel_rfl) fun K=>?_|refine t_drawE (id:=20) (fun _=>false) [(0,1),(1,1),(2,1),(3,1),(4,1),(5,1),(6,1),(7,1),(8,1),(9,0),(10,1)] (by kernel_rfl) fun K=>?_|refine t_drawE (id:=22) (fun _=>false) [(0,1),(1,1),(2,1),(3,1),(4,1),(5,1),(6,1),(7,1),(8,1),(9,1),(10,1),(11,1),(12,1),(13,1),(14,1),(15,1),(16,1),(17,1),(18,1),(19,0),(20,1)] (by kernel_rfl) fun K=>?_|refine t_drawE (id:=24) (fun _=>false) [(0,1),(1,1),(2,1),(3,1),(4,1),(5,1),(6,1),(7,1),(8,1),(9,1),(10,1),(11,1),(12,1),(13,1),(14,1),(15,1),(16,1),(17,1),(18,1),(19,0),(20,1)] (by kernel_rfl) fun K=>?_|refine t_drawE (id:=33) (fun _=>false) [(0,1),(1,1),(2,1),(3,1),(4,1),(5,1),(6,1),(7,0),(8,1)] (by kernel_rfl) fun K=>?_|refine t_dwh (h:=fun K KL=>?_));intros;simp only [go_sem,kp11,geff,g3,g4,strs_length,q0,Bool.not_true]))
      all_goals try exact nd
      all_goals (refine nl ?_;simp only [go_sem])
      exact LeA.of_eq hV
     ·obtain rfl:op=⟨#[101,113]⟩:=hop
      obtain ⟨a,b,rfl⟩:=len2L (show l.length=2 from h2)
      obtain rfl:rs=⟨#[98,111,111,108]⟩:=by have h:=congrArg (fun r:Option El.Rw=>(r.map El.Rw.rs).getD ByteArray.empty) hT;exact h.symm
      obtain ⟨ia1,ia2,ia3⟩:=hI a (by simp)
      have ia:IntR a:=⟨ia1,ia2,ia3⟩
      obtain ⟨ib1,ib2,ib3⟩:=hI b (by simp)
      have ib:IntR b:=⟨ib1,ib2,ib3⟩
      have g3:decide ((i:Int)<2)=false:=decide_eq_false (by simp only [List.length_cons,List.length_nil] at hc;omega)
      have g4:decide ((i:Int)<((([a,b]:List Rng).length:Nat):Int))=false:=g3
      have q0:eqS ⟨#[98,111,111,108]⟩ ⟨#[98,111,111,108]⟩=true:=by kernel_rfl
      repeat' (first
       |(with_reducible first|refine nx ?_|refine t_seq fun K=>?_|refine t_br (fun hc=>?_) fun hc=>?_|refine t_bx ?_|apply And.intro|intro vr)|exact kpd
       |((with_reducible first|refine ny ?_|refine t_kLF ?_ ?_|refine t_drawE (id:=16) (fun _=>false) [(0,1),(1,1),(2,1),(3,1),(4,1),(5,1),(6,1),(7,1),(8,1),(9,1),(10,1),(11,1),(12,1),(13,1),(14,1),(15,1),(16,1),(17,1),(18,1),(19,1),(20,1),(21,0),(22,1)] (by kernel_rfl) fun K=>?_|refine t_drawE (id:=18) (fun _=>false) [(0,1),(1,1),(2,1),(3,1),(4,1),(5,1),(6,1),(7,1),(8,1),(9,1),(10,1),(11,1),(12,1),(13,1),(14,1),(15,1),(16,1),(17,1),(18,1),(19,1),(20,1),(21,0),(22,1)] (by kernel_rfl) fun K=>?_|refine t_drawE (id:=20) (fun _=>false) [(0,1),(1,1),(2,1),(3,1),(4,1),(5,1),(6,1),(7,1),(8,1),(9,0),(10,1)] (by kernel_rfl) fun K=>?_|refine t_drawE (id:=22) (fun _=>false) [(0,1),(1,1),(2,1),(3,1),(4,1),(5,1),(6,1),(7,1),(8,1),(9,1),(10,1),(11,1),(12,1),(13,1),(14,1),(15,1),(16,1),(17,1),(18,1),(19,0),(20,1)] (by kernel_rfl) fun K=>?_|refine t_drawE (id:=24) (fun _=>false) [(0,1),(1,1),(2,1),(3,1),(4,1),(5,1),(6,1),(7,1),(8,1),(9,1),(10,1),(11,1),(12,1),(13,1),(14,1),(15,1),(16,1),(17,1),(18,1),(19,0),(20,1)] (by kernel_rfl) fun K=>?_|refine t_drawE (id:=33) (fun _=>false) [(0,1),(1,1),(2,1),(3,1),(4,1),(5,1),(6,1),(7,0),(8,1)] (by kernel_rfl) fun K=>?_|refine t_dwh (h:=fun K KL=>?_));intros;simp only [go_sem,kp11,geff,g3,g4,strs_length,q0,Bool.not_true]))
      all_goals try exact nd
      all_goals (refine nl ?_;simp only [go_sem])
      exact LeA.of_eq hV
     ·obtain rfl:op=⟨#[110,101]⟩:=hop
      obtain ⟨a,b,rfl⟩:=len2L (show l.length=2 from h2)
      obtain rfl:rs=⟨#[98,111,111,108]⟩:=by have h:=congrArg (fun r:Option El.Rw=>(r.map El.Rw.rs).getD ByteArray.empty) hT;exact h.symm
      obtain ⟨ia1,ia2,ia3⟩:=hI a (by simp)
      have ia:IntR a:=⟨ia1,ia2,ia3⟩
      obtain ⟨ib1,ib2,ib3⟩:=hI b (by simp)
      have ib:IntR b:=⟨ib1,ib2,ib3⟩
      have g3:decide ((i:Int)<2)=false:=decide_eq_false (by simp only [List.length_cons,List.length_nil] at hc;omega)
      have g4:decide ((i:Int)<((([a,b]:List Rng).length:Nat):Int))=false:=g3
      have q0:eqS ⟨#[98,111,111,108]⟩ ⟨#[98,111,111,108]⟩=true:=by kernel_rfl
      repeat' (first
       |(with_reducible first|refine nx ?_|refine t_seq fun K=>?_|refine t_br (fun hc=>?_) fun hc=>?_|refine t_bx ?_|apply And.intro|intro vr)|exact kpd
       |((with_reducible first|refine ny ?_|refine t_kLF ?_ ?_|refine t_drawE (id:=16) (fun _=>false) [(0,1),(1,1),(2,1),(3,1),(4,1),(5,1),(6,1),(7,1),(8,1),(9,1),(10,1),(11,1),(12,1),(13,1),(14,1),(15,1),(16,1),(17,1),(18,1),(19,1),(20,1),(21,0),(22,1)] (by kernel_rfl) fun K=>?_|refine t_drawE (id:=18) (fun _=>false) [(0,1),(1,1),(2,1),(3,1),(4,1),(5,1),(6,1),(7,1),(8,1),(9,1),(10,1),(11,1),(12,1),(13,1),(14,1),(15,1),(16,1),(17,1),(18,1),(19,1),(20,1),(21,0),(22,1)] (by kernel_rfl) fun K=>?_|refine t_drawE (id:=20) (fun _=>false) [(0,1),(1,1),(2,1),(3,1),(4,1),(5,1),(6,1),(7,1),(8,1),(9,0),(10,1)] (by kernel_rfl) fun K=>?_|refine t_drawE (id:=22) (fun _=>false) [(0,1),(1,1),(2,1),(3,1),(4,1),(5,1),(6,1),(7,1),(8,1),(9,1),(10,1),(11,1),(12,1),(13,1),(14,1),(15,1),(16,1),(17,1),(18,1),(19,0),(20,1)] (by kernel_rfl) fun K=>?_|refine t_drawE (id:=24) (fun _=>false) [(0,1),(1,1),(2,1),(3,1),(4,1),(5,1),(6,1),(7,1),(8,1),(9,1),(10,1),(11,1),(12,1),(13,1),(14,1),(15,1),(16,1),(17,1),(18,1),(19,0),(20,1)] (by kernel_rfl) fun K=>?_|refine t_drawE (id:=33) (fun _=>false) [(0,1),(1,1),(2,1),(3,1),(4,1),(5,1),(6,1),(7,0),(8,1)] (by kernel_rfl) fun K=>?_|refine t_dwh (h:=fun K KL=>?_));intros;simp only [go_sem,kp11,geff,g3,g4,strs_length,q0,Bool.not_true]))
      all_goals try exact nd
      all_goals (refine nl ?_;simp only [go_sem])
      exact LeA.of_eq hV
     ·obtain rfl:op=⟨#[97,110,100]⟩:=hop
      obtain ⟨a,b,rfl⟩:=len2L (show l.length=2 from h2)
      obtain rfl:rs=⟨#[98,111,111,108]⟩:=by have h:=congrArg (fun r:Option El.Rw=>(r.map El.Rw.rs).getD ByteArray.empty) hT;exact h.symm
      obtain ⟨ia1,ia2,ia3⟩:=hI a (by simp)
      have ia:IntR a:=⟨ia1,ia2,ia3⟩
      obtain ⟨ib1,ib2,ib3⟩:=hI b (by simp)
      have ib:IntR b:=⟨ib1,ib2,ib3⟩
      have g3:decide ((i:Int)<2)=false:=decide_eq_false (by simp only [List.length_cons,List.length_nil] at hc;omega)
      have g4:decide ((i:Int)<((([a,b]:List Rng).length:Nat):Int))=false:=g3
      have q0:eqS ⟨#[98,111,111,108]⟩ ⟨#[98,111,111,108]⟩=true:=by kernel_rfl
      repeat' (first
       |(with_reducible first|refine nx ?_|refine t_seq fun K=>?_|refine t_br (fun hc=>?_) fun hc=>?_|refine t_bx ?_|apply And.intro|intro vr)|exact kpd
       |((with_reducible first|refine ny ?_|refine t_kLF ?_ ?_|refine t_drawE (id:=16) (fun _=>false) [(0,1),(1,1),(2,1),(3,1),(4,1),(5,1),(6,1),(7,1),(8,1),(9,1),(10,1),(11,1),(12,1),(13,1),(14,1),(15,1),(16,1),(17,1),(18,1),(19,1),(20,1),(21,0),(22,1)] (by kernel_rfl) fun K=>?_|refine t_drawE (id:=18) (fun _=>false) [(0,1),(1,1),(2,1),(3,1),(4,1),(5,1),(6,1),(7,1),(8,1),(9,1),(10,1),(11,1),(12,1),(13,1),(14,1),(15,1),(16,1),(17,1),(18,1),(19,1),(20,1),(21,0),(22,1)] (by kernel_rfl) fun K=>?_|refine t_drawE (id:=20) (fun _=>false) [(0,1),(1,1),(2,1),(3,1),(4,1),(5,1),(6,1),(7,1),(8,1),(9,0),(10,1)] (by kernel_rfl) fun K=>?_|refine t_drawE (id:=22) (fun _=>false) [(0,1),(1,1),(2,1),(3,1),(4,1),(5,1),(6,1),(7,1),(8,1),(9,1),(10,1),(11,1),(12,1),(13,1),(14,1),(15,1),(16,1),(17,1),(18,1),(19,0),(20,1)] (by kernel_rfl) fun K=>?_|refine t_drawE (id:=24) (fun _=>false) [(0,1),(1,1),(2,1),(3,1),(4,1),(5,1),(6,1),(7,1),(8,1),(9,1),(10,1),(11,1),(12,1),(13,1),(14,1),(15,1),(16,1),(17,1),(18,1),(19,0),(20,1)] (by kernel_rfl) fun K=>?_|refine t_drawE (id:=33) (fun _=>false) [(0,1),(1,1),(2,1),(3,1),(4,1),(5,1),(6,1),(7,0),(8,1)] (by kernel_rfl) fun K=>?_|refine t_dwh (h:=fun K KL=>?_));intros;simp only [go_sem,kp11,geff,g3,g4,strs_length,q0,Bool.not_true]))
      all_goals try exact nd
      all_goals (refine nl ?_;simp only [go_sem])
      exact LeA.of_eq hV
     ·obtain rfl:op=⟨#[111,114]⟩:=hop
      obtain ⟨a,b,rfl⟩:=len2L (show l.length=2 from h2)
      obtain rfl:rs=⟨#[98,111,111,108]⟩:=by have h:=congrArg (fun r:Option El.Rw=>(r.map El.Rw.rs).getD ByteArray.empty) hT;exact h.symm
      obtain ⟨ia1,ia2,ia3⟩:=hI a (by simp)
      have ia:IntR a:=⟨ia1,ia2,ia3⟩
      obtain ⟨ib1,ib2,ib3⟩:=hI b (by simp)
      have ib:IntR b:=⟨ib1,ib2,ib3⟩
      have g3:decide ((i:Int)<2)=false:=decide_eq_false (by simp only [List.length_cons,List.length_nil] at hc;omega)
      have g4:decide ((i:Int)<((([a,b]:List Rng).length:Nat):Int))=false:=g3
      have q0:eqS ⟨#[98,111,111,108]⟩ ⟨#[98,111,111,108]⟩=true:=by kernel_rfl
      repeat' (first
       |(with_reducible first|refine nx ?_|refine t_seq fun K=>?_|refine t_br (fun hc=>?_) fun hc=>?_|refine t_bx ?_|apply And.intro|intro vr)|exact kpd
       |((with_reducible first|refine ny ?_|refine t_kLF ?_ ?_|refine t_drawE (id:=16) (fun _=>false) [(0,1),(1,1),(2,1),(3,1),(4,1),(5,1),(6,1),(7,1),(8,1),(9,1),(10,1),(11,1),(12,1),(13,1),(14,1),(15,1),(16,1),(17,1),(18,1),(19,1),(20,1),(21,0),(22,1)] (by kernel_rfl) fun K=>?_|refine t_drawE (id:=18) (fun _=>false) [(0,1),(1,1),(2,1),(3,1),(4,1),(5,1),(6,1),(7,1),(8,1),(9,1),(10,1),(11,1),(12,1),(13,1),(14,1),(15,1),(16,1),(17,1),(18,1),(19,1),(20,1),(21,0),(22,1)] (by kernel_rfl) fun K=>?_|refine t_drawE (id:=20) (fun _=>false) [(0,1),(1,1),(2,1),(3,1),(4,1),(5,1),(6,1),(7,1),(8,1),(9,0),(10,1)] (by kernel_rfl) fun K=>?_|refine t_drawE (id:=22) (fun _=>false) [(0,1),(1,1),(2,1),(3,1),(4,1),(5,1),(6,1),(7,1),(8,1),(9,1),(10,1),(11,1),(12,1),(13,1),(14,1),(15,1),(16,1),(17,1),(18,1),(19,0),(20,1)] (by kernel_rfl) fun K=>?_|refine t_drawE (id:=24) (fun _=>false) [(0,1),(1,1),(2,1),(3,1),(4,1),(5,1),(6,1),(7,1),(8,1),(9,1),(10,1),(11,1),(12,1),(13,1),(14,1),(15,1),(16,1),(17,1),(18,1),(19,0),(20,1)] (by kernel_rfl) fun K=>?_|refine t_drawE (id:=33) (fun _=>false) [(0,1),(1,1),(2,1),(3,1),(4,1),(5,1),(6,1),(7,0),(8,1)] (by kernel_rfl) fun K=>?_|refine t_dwh (h:=fun K KL=>?_));intros;simp only [go_sem,kp11,geff,g3,g4,strs_length,q0,Bool.not_true]))
      all_goals try exact nd
      all_goals (refine nl ?_;simp only [go_sem])
      exact LeA.of_eq hV
     ·obtain rfl:op=⟨#[120,111,114]⟩:=hop
      obtain ⟨a,b,rfl⟩:=len2L (show l.length=2 from h2)
      obtain rfl:rs=⟨#[98,111,111,108]⟩:=by have h:=congrArg (fun r:Option El.Rw=>(r.map El.Rw.rs).getD ByteArray.empty) hT;exact h.symm
      obtain ⟨ia1,ia2,ia3⟩:=hI a (by simp)
      have ia:IntR a:=⟨ia1,ia2,ia3⟩
      obtain ⟨ib1,ib2,ib3⟩:=hI b (by simp)
      have ib:IntR b:=⟨ib1,ib2,ib3⟩
      have g3:decide ((i:Int)<2)=false:=decide_eq_false (by simp only [List.length_cons,List.length_nil] at hc;omega)
      have g4:decide ((i:Int)<((([a,b]:List Rng).length:Nat):Int))=false:=g3
      have q0:eqS ⟨#[98,111,111,108]⟩ ⟨#[98,111,111,108]⟩=true:=by kernel_rfl
      repeat' (first
       |(with_reducible first|refine nx ?_|refine t_seq fun K=>?_|refine t_br (fun hc=>?_) fun hc=>?_|refine t_bx ?_|apply And.intro|intro vr)|exact kpd
       |((with_reducible first|refine ny ?_|refine t_kLF ?_ ?_|refine t_drawE (id:=16) (fun _=>false) [(0,1),(1,1),(2,1),(3,1),(4,1),(5,1),(6,1),(7,1),(8,1),(9,1),(10,1),(11,1),(12,1),(13,1),(14,1),(15,1),(16,1),(17,1),(18,1),(19,1),(20,1),(21,0),(22,1)] (by kernel_rfl) fun K=>?_|refine t_drawE (id:=18) (fun _=>false) [(0,1),(1,1),(2,1),(3,1),(4,1),(5,1),(6,1),(7,1),(8,1),(9,1),(10,1),(11,1),(12,1),(13,1),(14,1),(15,1),(16,1),(17,1),(18,1),(19,1),(20,1),(21,0),(22,1)] (by kernel_rfl) fun K=>?_|refine t_drawE (id:=20) (fun _=>false) [(0,1),(1,1),(2,1),(3,1),(4,1),(5,1),(6,1),(7,1),(8,1),(9,0),(10,1)] (by kernel_rfl) fun K=>?_|refine t_drawE (id:=22) (fun _=>false) [(0,1),(1,1),(2,1),(3,1),(4,1),(5,1),(6,1),(7,1),(8,1),(9,1),(10,1),(11,1),(12,1),(13,1),(14,1),(15,1),(16,1),(17,1),(18,1),(19,0),(20,1)] (by kernel_rfl) fun K=>?_|refine t_drawE (id:=24) (fun _=>false) [(0,1),(1,1),(2,1),(3,1),(4,1),(5,1),(6,1),(7,1),(8,1),(9,1),(10,1),(11,1),(12,1),(13,1),(14,1),(15,1),(16,1),(17,1),(18,1),(19,0),(20,1)] (by kernel_rfl) fun K=>?_|refine t_drawE (id:=33) (fun _=>false) [(0,1),(1,1),(2,1),(3,1),(4,1),(5,1),(6,1),(7,0),(8,1)] (by kernel_rfl) fun K=>?_|refine t_dwh (h:=fun K KL=>?_));intros;simp only [go_sem,kp11,geff,g3,g4,strs_length,q0,Bool.not_true]))
      all_goals try exact nd
      all_goals (refine nl ?_;simp only [go_sem])
      exact LeA.of_eq hV
     ·obtain rfl:op=⟨#[110,111,116]⟩:=hop
      obtain ⟨a,rfl⟩:=len1L (show l.length=1 from h2)
      obtain rfl:rs=⟨#[98,111,111,108]⟩:=by have h:=congrArg (fun r:Option El.Rw=>(r.map El.Rw.rs).getD ByteArray.empty) hT;exact h.symm
      obtain ⟨ia1,ia2,ia3⟩:=hI a (by simp)
      have ia:IntR a:=⟨ia1,ia2,ia3⟩
      have g3:decide ((i:Int)<1)=false:=decide_eq_false (by simp only [List.length_cons,List.length_nil] at hc;omega)
      have g4:decide ((i:Int)<((([a]:List Rng).length:Nat):Int))=false:=g3
      have q0:eqS ⟨#[98,111,111,108]⟩ ⟨#[98,111,111,108]⟩=true:=by kernel_rfl
      repeat' (first
       |(with_reducible first|refine nx ?_|refine t_seq fun K=>?_|refine t_br (fun hc=>?_) fun hc=>?_|refine t_bx ?_|apply And.intro|intro vr)|exact kpd
       |((with_reducible first|refine ny ?_|refine t_kLF ?_ ?_|refine t_drawE (id:=16) (fun _=>false) [(0,1),(1,1),(2,1),(3,1),(4,1),(5,1),(6,1),(7,1),(8,1),(9,1),(10,1),(11,1),(12,1),(13,1),(14,1),(15,1),(16,1),(17,1),(18,1),(19,1),(20,1),(21,0),(22,1)] (by kernel_rfl) fun K=>?_|refine t_drawE (id:=18) (fun _=>false) [(0,1),(1,1),(2,1),(3,1),(4,1),(5,1),(6,1),(7,1),(8,1),(9,1),(10,1),(11,1),(12,1),(13,1),(14,1),(15,1),(16,1),(17,1),(18,1),(19,1),(20,1),(21,0),(22,1)] (by kernel_rfl) fun K=>?_|refine t_drawE (id:=20) (fun _=>false) [(0,1),(1,1),(2,1),(3,1),(4,1),(5,1),(6,1),(7,1),(8,1),(9,0),(10,1)] (by kernel_rfl) fun K=>?_|refine t_drawE (id:=22) (fun _=>false) [(0,1),(1,1),(2,1),(3,1),(4,1),(5,1),(6,1),(7,1),(8,1),(9,1),(10,1),(11,1),(12,1),(13,1),(14,1),(15,1),(16,1),(17,1),(18,1),(19,0),(20,1)] (by kernel_rfl) fun K=>?_|refine t_drawE (id:=24) (fun _=>false) [(0,1),(1,1),(2,1),(3,1),(4,1),(5,1),(6,1),(7,1),(8,1),(9,1),(10,1),(11,1),(12,1),(13,1),(14,1),(15,1),(16,1),(17,1),(18,1),(19,0),(20,1)] (by kernel_rfl) fun K=>?_|refine t_drawE (id:=33) (fun _=>false) [(0,1),(1,1),(2,1),(3,1),(4,1),(5,1),(6,1),(7,0),(8,1)] (by kernel_rfl) fun K=>?_|refine t_dwh (h:=fun K KL=>?_));intros;simp only [go_sem,kp11,geff,g3,g4,strs_length,q0,Bool.not_true]))
      all_goals try exact nd
      all_goals (refine nl ?_;simp only [go_sem])
      exact LeA.of_eq hV
     ·obtain rfl:op=⟨#[115,101,108,101,99,116]⟩:=hop
      obtain ⟨a,b,c,rfl⟩:=len3L (show l.length=3 from h2)
      obtain rfl:rs=⟨#[65]⟩:=by have h:=congrArg (fun r:Option El.Rw=>(r.map El.Rw.rs).getD ByteArray.empty) hT;exact h.symm
      obtain ⟨ia1,ia2,ia3⟩:=hI a (by simp)
      have ia:IntR a:=⟨ia1,ia2,ia3⟩
      obtain ⟨ib1,ib2,ib3⟩:=hI b (by simp)
      have ib:IntR b:=⟨ib1,ib2,ib3⟩
      obtain ⟨ic1,ic2,ic3⟩:=hI c (by simp)
      have ic:IntR c:=⟨ic1,ic2,ic3⟩
      have g3:decide ((i:Int)<3)=false:=decide_eq_false (by simp only [List.length_cons,List.length_nil] at hc;omega)
      have g4:decide ((i:Int)<((([a,b,c]:List Rng).length:Nat):Int))=false:=g3
      have q0:eqS ⟨#[65]⟩ ⟨#[98,111,111,108]⟩=false:=by kernel_rfl
      have q1:eqS ⟨#[115,101,108,101,99,116]⟩ ⟨#[97,100,100]⟩=false:=by kernel_rfl
      have q2:eqS ⟨#[115,101,108,101,99,116]⟩ ⟨#[115,117,98]⟩=false:=by kernel_rfl
      have q3:eqS ⟨#[115,101,108,101,99,116]⟩ ⟨#[109,117,108]⟩=false:=by kernel_rfl
      have q4:eqS ⟨#[115,101,108,101,99,116]⟩ ⟨#[109,105,110]⟩=false:=by kernel_rfl
      have q5:eqS ⟨#[115,101,108,101,99,116]⟩ ⟨#[109,97,120]⟩=false:=by kernel_rfl
      have q6:eqS ⟨#[115,101,108,101,99,116]⟩ ⟨#[109,111,100]⟩=false:=by kernel_rfl
      have q7:eqS ⟨#[115,101,108,101,99,116]⟩ ⟨#[115,105,103,110]⟩=false:=by kernel_rfl
      have q8:eqS ⟨#[115,101,108,101,99,116]⟩ ⟨#[116,111,105,110,116]⟩=false:=by kernel_rfl
      have q9:eqS ⟨#[115,101,108,101,99,116]⟩ ⟨#[115,101,108,101,99,116]⟩=true:=by kernel_rfl
      repeat' (first
       |(with_reducible first|refine nx ?_|refine t_seq fun K=>?_|refine t_br (fun hc=>?_) fun hc=>?_|refine t_bx ?_|apply And.intro|intro vr)|exact kpd
       |((with_reducible first|refine ny ?_|refine t_kLF ?_ ?_|refine t_drawE (id:=16) (fun _=>false) [(0,1),(1,1),(2,1),(3,1),(4,1),(5,1),(6,1),(7,1),(8,1),(9,1),(10,1),(11,1),(12,1),(13,1),(14,1),(15,1),(16,1),(17,1),(18,1),(19,1),(20,1),(21,0),(22,1)] (by kernel_rfl) fun K=>?_|refine t_drawE (id:=18) (fun _=>false) [(0,1),(1,1),(2,1),(3,1),(4,1),(5,1),(6,1),(7,1),(8,1),(9,1),(10,1),(11,1),(12,1),(13,1),(14,1),(15,1),(16,1),(17,1),(18,1),(19,1),(20,1),(21,0),(22,1)] (by kernel_rfl) fun K=>?_|refine t_drawE (id:=20) (fun _=>false) [(0,1),(1,1),(2,1),(3,1),(4,1),(5,1),(6,1),(7,1),(8,1),(9,0),(10,1)] (by kernel_rfl) fun K=>?_|refine t_drawE (id:=22) (fun _=>false) [(0,1),(1,1),(2,1),(3,1),(4,1),(5,1),(6,1),(7,1),(8,1),(9,1),(10,1),(11,1),(12,1),(13,1),(14,1),(15,1),(16,1),(17,1),(18,1),(19,0),(20,1)] (by kernel_rfl) fun K=>?_|refine t_drawE (id:=24) (fun _=>false) [(0,1),(1,1),(2,1),(3,1),(4,1),(5,1),(6,1),(7,1),(8,1),(9,1),(10,1),(11,1),(12,1),(13,1),(14,1),(15,1),(16,1),(17,1),(18,1),(19,0),(20,1)] (by kernel_rfl) fun K=>?_|refine t_drawE (id:=33) (fun _=>false) [(0,1),(1,1),(2,1),(3,1),(4,1),(5,1),(6,1),(7,0),(8,1)] (by kernel_rfl) fun K=>?_|refine t_dwh (h:=fun K KL=>?_));intros;simp only [go_sem,kp11,geff,g3,g4,strs_length,q0,q1,q2,q3,q4,q5,q6,q7,q8,q9,Bool.not_true]))
      all_goals try exact nd
      all_goals (refine nl ?_;simp only [go_sem])
      exact LeA.of_eq hV
     ·obtain rfl:op=⟨#[116,111,105,110,116]⟩:=hop
      obtain ⟨a,rfl⟩:=len1L (show l.length=1 from h2)
      obtain rfl:rs=⟨#[105,110,116]⟩:=by have h:=congrArg (fun r:Option El.Rw=>(r.map El.Rw.rs).getD ByteArray.empty) hT;exact h.symm
      obtain ⟨ia1,ia2,ia3⟩:=hI a (by simp)
      have ia:IntR a:=⟨ia1,ia2,ia3⟩
      have g3:decide ((i:Int)<1)=false:=decide_eq_false (by simp only [List.length_cons,List.length_nil] at hc;omega)
      have g4:decide ((i:Int)<((([a]:List Rng).length:Nat):Int))=false:=g3
      have q0:eqS ⟨#[105,110,116]⟩ ⟨#[98,111,111,108]⟩=false:=by kernel_rfl
      have q1:eqS ⟨#[116,111,105,110,116]⟩ ⟨#[97,100,100]⟩=false:=by kernel_rfl
      have q2:eqS ⟨#[116,111,105,110,116]⟩ ⟨#[115,117,98]⟩=false:=by kernel_rfl
      have q3:eqS ⟨#[116,111,105,110,116]⟩ ⟨#[109,117,108]⟩=false:=by kernel_rfl
      have q4:eqS ⟨#[116,111,105,110,116]⟩ ⟨#[109,105,110]⟩=false:=by kernel_rfl
      have q5:eqS ⟨#[116,111,105,110,116]⟩ ⟨#[109,97,120]⟩=false:=by kernel_rfl
      have q6:eqS ⟨#[116,111,105,110,116]⟩ ⟨#[109,111,100]⟩=false:=by kernel_rfl
      have q7:eqS ⟨#[116,111,105,110,116]⟩ ⟨#[115,105,103,110]⟩=false:=by kernel_rfl
      have q8:eqS ⟨#[116,111,105,110,116]⟩ ⟨#[116,111,105,110,116]⟩=true:=by kernel_rfl
      repeat' (first
       |(with_reducible first|refine nx ?_|refine t_seq fun K=>?_|refine t_br (fun hc=>?_) fun hc=>?_|refine t_bx ?_|apply And.intro|intro vr)|exact kpd
       |((with_reducible first|refine ny ?_|refine t_kLF ?_ ?_|refine t_drawE (id:=16) (fun _=>false) [(0,1),(1,1),(2,1),(3,1),(4,1),(5,1),(6,1),(7,1),(8,1),(9,1),(10,1),(11,1),(12,1),(13,1),(14,1),(15,1),(16,1),(17,1),(18,1),(19,1),(20,1),(21,0),(22,1)] (by kernel_rfl) fun K=>?_|refine t_drawE (id:=18) (fun _=>false) [(0,1),(1,1),(2,1),(3,1),(4,1),(5,1),(6,1),(7,1),(8,1),(9,1),(10,1),(11,1),(12,1),(13,1),(14,1),(15,1),(16,1),(17,1),(18,1),(19,1),(20,1),(21,0),(22,1)] (by kernel_rfl) fun K=>?_|refine t_drawE (id:=20) (fun _=>false) [(0,1),(1,1),(2,1),(3,1),(4,1),(5,1),(6,1),(7,1),(8,1),(9,0),(10,1)] (by kernel_rfl) fun K=>?_|refine t_drawE (id:=22) (fun _=>false) [(0,1),(1,1),(2,1),(3,1),(4,1),(5,1),(6,1),(7,1),(8,1),(9,1),(10,1),(11,1),(12,1),(13,1),(14,1),(15,1),(16,1),(17,1),(18,1),(19,0),(20,1)] (by kernel_rfl) fun K=>?_|refine t_drawE (id:=24) (fun _=>false) [(0,1),(1,1),(2,1),(3,1),(4,1),(5,1),(6,1),(7,1),(8,1),(9,1),(10,1),(11,1),(12,1),(13,1),(14,1),(15,1),(16,1),(17,1),(18,1),(19,0),(20,1)] (by kernel_rfl) fun K=>?_|refine t_drawE (id:=33) (fun _=>false) [(0,1),(1,1),(2,1),(3,1),(4,1),(5,1),(6,1),(7,0),(8,1)] (by kernel_rfl) fun K=>?_|refine t_dwh (h:=fun K KL=>?_));intros;simp only [go_sem,kp11,geff,g3,g4,strs_length,q0,q1,q2,q3,q4,q5,q6,q7,q8,Bool.not_true]))
      all_goals try exact nd
      all_goals (refine nl ?_;simp only [go_sem])
      exact LeA.of_eq hV
   ·rw [decide_eq_false hn,Bool.false_and] at hb
    have hF:fitsR op l=none:=by cases h:fitsR op l with
      |none=>rfl
      |some i=>rw [h] at hb;cases hb
    rw [primV_none hF] at hV
    subst hV
    have h1:((ps.length:Int) !=(l.length:Int))=true:=by simp;omega
    refine pcR B8_ok (kp11) Try.func11 [.cell 4 28,.tmp 5] (h:=fun KF=>?_)
    unfold B8
    repeat' (first
     |(with_reducible first|refine nx ?_|refine t_seq fun K=>?_|refine t_br (fun hc=>?_) fun hc=>?_|refine t_bx ?_|apply And.intro|intro vr)|exact kpd
     |((with_reducible first|refine ny ?_|refine t_kLF ?_ ?_|refine t_drawE (id:=16) (fun _=>false) [(0,1),(1,1),(2,1),(3,1),(4,1),(5,1),(6,1),(7,1),(8,1),(9,1),(10,1),(11,1),(12,1),(13,1),(14,1),(15,1),(16,1),(17,1),(18,1),(19,1),(20,1),(21,0),(22,1)] (by kernel_rfl) fun K=>?_|refine t_drawE (id:=18) (fun _=>false) [(0,1),(1,1),(2,1),(3,1),(4,1),(5,1),(6,1),(7,1),(8,1),(9,1),(10,1),(11,1),(12,1),(13,1),(14,1),(15,1),(16,1),(17,1),(18,1),(19,1),(20,1),(21,0),(22,1)] (by kernel_rfl) fun K=>?_|refine t_drawE (id:=20) (fun _=>false) [(0,1),(1,1),(2,1),(3,1),(4,1),(5,1),(6,1),(7,1),(8,1),(9,0),(10,1)] (by kernel_rfl) fun K=>?_|refine t_drawE (id:=22) (fun _=>false) [(0,1),(1,1),(2,1),(3,1),(4,1),(5,1),(6,1),(7,1),(8,1),(9,1),(10,1),(11,1),(12,1),(13,1),(14,1),(15,1),(16,1),(17,1),(18,1),(19,0),(20,1)] (by kernel_rfl) fun K=>?_|refine t_drawE (id:=24) (fun _=>false) [(0,1),(1,1),(2,1),(3,1),(4,1),(5,1),(6,1),(7,1),(8,1),(9,1),(10,1),(11,1),(12,1),(13,1),(14,1),(15,1),(16,1),(17,1),(18,1),(19,0),(20,1)] (by kernel_rfl) fun K=>?_|refine t_drawE (id:=33) (fun _=>false) [(0,1),(1,1),(2,1),(3,1),(4,1),(5,1),(6,1),(7,0),(8,1)] (by kernel_rfl) fun K=>?_|refine t_dwh (h:=fun K KL=>?_));intros;simp only [go_sem,kp11,geff,hT,h1,strs_length,Bool.not_true,Bool.false_or]))
    all_goals try exact nd
    all_goals (refine nl ?_;simp only [go_sem])
    exact LeA.refl _
end Go.Proofs.Ytnlimcijgpaegaa

namespace Go.Proofs.Ytnlimcijgpaegaa
open Go Go.Fw Bm
set_option maxRecDepth 20000
noncomputable def con11:PCon Try.prog where
  f:=11
  c:=fun
   |[.lit (.string p),xl]=>match rngsOf xl with|some l=>some (l.length≤1000000,primV p l)|_=>none
   |_=>none
  ok:=by
   intro args p r hc hp
   split at hc
   ·split at hc
    ·rename_i hl
     cases hc
     exact PC.weak (rprim_pc hp) ⟨LeA.refl _,rngsOf_le hl,trivial⟩
    ·cases hc
   ·cases hc
  fk:=fk11
theorem con11_f:con11.f=11:=rfl
theorem con11_c {p:ByteArray} {xl:AV}:con11.c [.lit (.string p),xl]=match rngsOf xl with|some l=>some (l.length≤1000000,primV p l)|_=>none:=rfl
attribute [go_sem] con11_f con11_c El.con12_f El.con12_c
theorem shv_three {x:AV} (h:ShV Try.prog 24 x):∃ a b c:Int,x= .agg [.lit (.int .u16 a),.lit (.int .u16 b),.lit (.int .u16 c)]∧(0≤a∧a<65536)∧(0≤b∧b<65536)∧(0≤c∧c<65536):=by
  obtain ⟨c,rfl,hc⟩:=shv_agg ag24 h
  obtain ⟨xss,rfl,h2,h3⟩:=sh_array u24 hc
  have w16:∀ a:Int,(Lit.int .u16 a).wf=true→0≤a∧a<65536:=fun a w=>by
    have:0≤a∧a≤65535:=by simpa [Lit.wf,IntKind.min,IntKind.max,IntKind.signed,IntKind.bits] using w
    omega
  match xss,h2 with
  |[p,q,r],_=>
   obtain ⟨a,rfl,wa⟩:=sh_int u23 (h3 p (by simp))
   obtain ⟨b,rfl,wb⟩:=sh_int u23 (h3 q (by simp))
   obtain ⟨c,rfl,wc⟩:=sh_int u23 (h3 r (by simp))
   exact ⟨a,b,c,rfl,w16 a wa,w16 b wb,w16 c wc⟩
def argI (r:Rng) (p:Int):Int:=r.lo+p.tmod (r.hi - r.lo+1)
def argL (pk:List Int) (l:List Rng):List Int:=l.mapIdx fun i r=>argI r (pk.getD i 0)
theorem argL_len {pk:List Int} {l:List Rng}:(argL pk l).length=l.length:=by simp [argL]
theorem argL_at {pk:List Int} {l:List Rng} {i:Nat} (h:i<l.length):(argL pk l).getD i 0=argI (l.getD i nilR) (pk.getD i 0):=by
  simp [argL,List.getD,h]
theorem argI_has {r:Rng} {p:Int} (h:r.lo≤r.hi) (hp:0≤p):r.has (argI r p):=by
  have h1:=Int.tmod_nonneg (b:=r.hi - r.lo+1) hp
  have h2:=Int.tmod_lt_of_pos p (show 0<r.hi - r.lo+1 by omega)
  unfold argI Rng.has
  omega
theorem has_of:∀ {l:List Rng} {m:List Int},l.length=m.length→(∀ i,i<l.length→(l.getD i nilR).has (m.getD i 0))→Has l m
  |[],[],_,_=> .nil
  |[],_::_,h,_=>by cases h
  |_::_,[],h,_=>by cases h
  |a::l,b::m,h,k=> .cons (k 0 (by simp)) (has_of (by simpa using h) fun i hi=>k (i+1) (by simp;omega))
theorem take_snocI {l:List Int} {i:Nat} (h:i<l.length):l.take i++[l.getD i 0]=l.take (i+1):=by
  rw [List.take_add_one,List.getElem?_eq_getElem h,List.getD_eq_getElem?_getD,List.getElem?_eq_getElem h];rfl
theorem isI16 {m:Int}:isIntV (.lit (.int .u16 m))=true:=rfl
theorem psN_le {i:Nat} (h:i<22):(El.psN i).length≤3:=by
  have:∀ i,i<22→(El.psN i).length≤3:=by decide
  exact this i h
noncomputable def G2:Env:=envJ (P:=Try.prog) jkR zer (fun _=>false) (fun _=>false) [con9,con10,con11,El.con12] []
theorem G2_ok:EnvOk Try.prog G2:=envJOk zer_ok
set_option maxHeartbeats 8000000 in
theorem law3 {op:ByteArray} {l:List Rng} {p0 p1 p2:Int} (h0:0≤p0∧p0<65536) (h1:0≤p1∧p1<65536) (h2:0≤p2∧p2<65536):
    PC Try.prog 3 [.lit (.string op),.sl false 2 (rgsV l),.agg [.lit (.int .u16 p0),.lit (.int .u16 p1),.lit (.int .u16 p2)]] (.lit (.bool true)):=by
  refine pcR G2_ok (kp3) Try.func3 [.tmp 6] (h:=fun KF=>?_)
  unfold G2
  repeat' (first
   |(with_reducible first|refine nx ?_|refine t_seq fun K=>?_|refine t_br (fun hc=>?_) fun hc=>?_|refine t_bx ?_|apply And.intro|intro vr)|exact kpd
   |((with_reducible first|refine ny ?_|refine t_kLF ?_ ?_|refine t_drawE (id:=21) (fun _=>true) [(0,1),(1,1),(2,1),(3,1),(4,1),(5,1),(6,1),(7,1),(8,1),(9,1),(10,1),(11,1),(12,1),(13,1),(14,1),(15,1),(16,0),(17,1)] (by kernel_rfl) fun K=>?_|refine t_dwh (h:=fun K KL=>?_));intros;simp only [go_sem,kp3,geff,Bool.not_true]))
  all_goals try exact nd
  ·skip
   all_goals (refine nl ?_;simp only [go_sem])
   exact LeA.refl _
  have hl4:l.length≤4:=by
    simp only [Bool.or_eq_false_iff,decide_eq_false_iff_not] at hc
    omega
  refine t_loopF (ι:={q:Nat×Nat // q.1≤l.length}) (fun i=>[(31,.lit (.int .i64 i.1.1)),(7,.arr 1 i.1.2)]) (fun i=>[.box 24 [.lit (.int .u16 p0),.lit (.int .u16 p1),.lit (.int .u16 p2)],.arr 29 2 (rgsV (l.take i.1.1)) i.1.2 false]) (fun i=>l.length - i.1.1) ⟨(0,0),by simp⟩ ?_ ?_
  ·refine (le_nil 7 29 2 rfl).trans ?_
   exact lf
  rintro ⟨⟨i,v⟩,hi⟩ K0
  simp only at hi
  have hln:(rgsV (l.take i)).length=i:=by rw [rgsV_length,List.length_take];omega
  rcases Nat.lt_or_ge i l.length with hc|hc
  ·have g3:decide ((i:Int)<(l.length:Int))=true:=decide_eq_true (by omega)
   have hta:=take_snocR hc
   generalize hx:l.getD i nilR=x at hta
   obtain ⟨x,x'⟩:=x
   repeat' (first
    |(with_reducible first|refine nx ?_|refine t_seq fun K=>?_|refine t_br (fun hc=>?_) fun hc=>?_|refine t_bx ?_|apply And.intro|intro vr)|exact kpd
    |((with_reducible first|refine ny ?_|refine t_kLF ?_ ?_|refine t_drawE (id:=21) (fun _=>true) [(0,1),(1,1),(2,1),(3,1),(4,1),(5,1),(6,1),(7,1),(8,1),(9,1),(10,1),(11,1),(12,1),(13,1),(14,1),(15,1),(16,0),(17,1)] (by kernel_rfl) fun K=>?_|refine t_dwh (h:=fun K KL=>?_));intros;simp only [go_sem,kp3,geff,g3,hx,hln,hta,rgsV_app,Int.toNat_natCast,yes]))
   all_goals try exact nd
   refine ⟨⟨(i+1,v+1),by simp only;omega⟩,by first|(simp only;omega)|omega,?_⟩
   try simp only [updL_nil,updL_cons,delF_top,delF_upd,Nat.reduceEqDiff,reduceIte]
   refine le_backM (by first|rfl|(simp only [go_sem];try rfl)) (by first|exact Nat.zero_le _|simp) (by first|rfl|simp [lowO,low_lit,low_sl,low_ref,low_arr,low_sub,low_mp]) ?_ ?_
   ·repeat' (first|exact low_top|(refine low_upd rfl ?_))
   repeat' (first|exact leF_top _|exact (fun _=>LeR.refl _)|(with_reducible refine leF_sl ?_ ?_)|(refine leF_upd ?_ ?_))
   all_goals (first|exact LeR.top _|exact LeR.refl _|(refine LeR.of_eq ?_;(try simp only [go_sem]);try rfl)|((try simp only [go_sem]);try rfl))
  ·have g3:decide ((i:Int)<(l.length:Int))=false:=decide_eq_false (by omega)
   have e1:l.take i=l:=List.take_of_length_le hc
   cases hF:fitsR op l with
   |none=>
    have v1:=primV_none hF
    repeat' (first
     |(with_reducible first|refine nx ?_|refine t_seq fun K=>?_|refine t_br (fun hc=>?_) fun hc=>?_|refine t_bx ?_|apply And.intro|intro vr)|exact kpd
     |((with_reducible first|refine ny ?_|refine t_kLF ?_ ?_|refine t_drawE (id:=21) (fun _=>true) [(0,1),(1,1),(2,1),(3,1),(4,1),(5,1),(6,1),(7,1),(8,1),(9,1),(10,1),(11,1),(12,1),(13,1),(14,1),(15,1),(16,0),(17,1)] (by kernel_rfl) fun K=>?_|refine t_dwh (h:=fun K KL=>?_));intros;simp only [go_sem,kp3,geff,g3,e1,v1,beq_self_eq_true,Bool.and_self,Bool.not_true,Bool.not_false,bne_self_eq_false]))
    all_goals try exact nd
    all_goals (refine nl ?_;simp only [go_sem])
    exact LeA.of_eq rfl
   |some j=>
    obtain ⟨hix,hps,hfa⟩:=fits_inv hF
    have hpl:=psN_le (row_lt hix)
    have hI:=fitA_int hfa hps
    have v1:primV op l= .tup [.agg [.lit (.int .i64 (rngV j l).lo),.lit (.int .i64 (rngV j l).hi)],.lit (.bool true)]:=primV_some hF
    have hpr:primR op l=some (rngV j l):=by unfold primR;rw [hF];rfl
    have hH:Has l (argL [p0,p1,p2] l):=by
      refine has_of argL_len.symm fun q hq=>?_
      rw [argL_at hq]
      have hr:=hI _ (getD_mem nilR hq)
      refine argI_has hr.2.1 ?_
      rcases (show q=0∨q=1∨q=2 by omega) with rfl|rfl|rfl
      ·exact h0.1
      ·exact h1.1
      ·exact h2.1
    obtain ⟨n,hn1,hn2⟩:=prim_sound hpr hH
    have hal:=argL_len (pk:=[p0,p1,p2]) (l:=l)
    generalize rngV j l=R at v1 hn2
    obtain ⟨R,R'⟩:=R
    obtain ⟨hn2,hn3⟩:=hn2
    simp only at v1 hn2 hn3
    repeat' (first
     |(with_reducible first|refine nx ?_|refine t_seq fun K=>?_|refine t_br (fun hc=>?_) fun hc=>?_|refine t_bx ?_|apply And.intro|intro vr)|exact kpd
     |((with_reducible first|refine ny ?_|refine t_kLF ?_ ?_|refine t_drawE (id:=21) (fun _=>true) [(0,1),(1,1),(2,1),(3,1),(4,1),(5,1),(6,1),(7,1),(8,1),(9,1),(10,1),(11,1),(12,1),(13,1),(14,1),(15,1),(16,0),(17,1)] (by kernel_rfl) fun K=>?_|refine t_dwh (h:=fun K KL=>?_));intros;simp only [go_sem,kp3,geff,g3,e1,v1,beq_self_eq_true,Bool.and_self,Bool.not_true,Bool.not_false,bne_self_eq_false]))
    all_goals try exact nd
    have hl3:l.length≤3:=by omega
    refine t_loopF (ι:={q:Nat×Nat // q.1≤l.length}) (fun i=>[(64,.lit (.int .i64 i.1.1)),(14,.arr 4 i.1.2)]) (fun i=>[.box 24 [.lit (.int .u16 p0),.lit (.int .u16 p1),.lit (.int .u16 p2)],.arr 29 2 (rgsV l) v false,.box 29 [.lit (.int .i64 R),.lit (.int .i64 R')],.box 28 [.lit (.int .i64 R),.lit (.int .i64 R')],.arr 3 1 (ints .i64 ((argL [p0,p1,p2] l).take i.1.1)) i.1.2 false]) (fun i=>l.length - i.1.1) ⟨(0,0),by simp⟩ ?_ ?_
    ·refine (le_nil 14 3 1 rfl).trans ?_
     exact lf
    rintro ⟨⟨i,w⟩,hi⟩ K1
    simp only at hi
    have hlm:(ints .i64 ((argL [p0,p1,p2] l).take i)).length=i:=by rw [ints_length,List.length_take];omega
    rcases Nat.lt_or_ge i l.length with hc|hc
    ·have g3:decide ((i:Int)<(l.length:Int))=true:=decide_eq_true (by omega)
     have htb:=take_snocI (l:=argL [p0,p1,p2] l) (i:=i) (by omega)
     rw [argL_at hc] at htb
     have hr:=hI _ (getD_mem nilR hc)
     generalize hx:l.getD i nilR=x at hr htb
     obtain ⟨x,x'⟩:=x
     obtain ⟨b1,b2,b3⟩:=hr
     simp only at b1 b2 b3
     rcases (show i=0∨i=1∨i=2 by omega) with rfl|rfl|rfl
     ·have h0':(((0:Nat):Int))=0:=rfl
      have htb:(argL [p0,p1,p2] l).take 0++[argI ⟨x,x'⟩ p0]=(argL [p0,p1,p2] l).take (0+1):=htb
      have hgi:x+p0.tmod (x' - x+1)=argI ⟨x,x'⟩ p0:=rfl
      have hbh:x≤argI ⟨x,x'⟩ p0∧argI ⟨x,x'⟩ p0≤x':=argI_has (r:=⟨x,x'⟩) b2 h0.1
      generalize argI ⟨x,x'⟩ p0=y at htb hgi hbh
      have hap:ints .i64 ((argL [p0,p1,p2] l).take 0)++[.lit (.int .i64 y)]=ints .i64 ((argL [p0,p1,p2] l).take (0+1)):=by rw [ints_append1,htb]
      have hap0:ints .i64 []++[.lit (.int .i64 y)]=ints .i64 ((argL [p0,p1,p2] l).take 1):=by simpa using hap
      repeat' (first
       |(with_reducible first|refine nx ?_|refine t_seq fun K=>?_|refine t_br (fun hc=>?_) fun hc=>?_|refine t_bx ?_|apply And.intro|intro vr)|exact kpd
       |((with_reducible first|refine ny ?_|refine t_kLF ?_ ?_|refine t_drawE (id:=21) (fun _=>true) [(0,1),(1,1),(2,1),(3,1),(4,1),(5,1),(6,1),(7,1),(8,1),(9,1),(10,1),(11,1),(12,1),(13,1),(14,1),(15,1),(16,0),(17,1)] (by kernel_rfl) fun K=>?_|refine t_dwh (h:=fun K KL=>?_));intros;simp only [go_sem,kp3,geff,h0',g3,hx,hlm,wr p0 (by omega),hgi,hap,hap0,yes]))
      all_goals try exact isI16
      all_goals try (rw [hgi];unfold inI64;omega)
      all_goals try exact nd
      refine ⟨⟨(0+1,w+1),by simp only;omega⟩,by first|(simp only;omega)|omega,?_⟩
      try simp only [updL_nil,updL_cons,delF_top,delF_upd,Nat.reduceEqDiff,reduceIte]
      refine le_backM (by first|rfl|(simp only [go_sem];try rfl)) (by first|exact Nat.zero_le _|simp) (by first|rfl|simp [lowO,low_lit,low_sl,low_ref,low_arr,low_sub,low_mp]) ?_ ?_
      ·repeat' (first|exact low_top|(refine low_upd rfl ?_))
      repeat' (first|exact leF_top _|exact (fun _=>LeR.refl _)|(with_reducible refine leF_sl ?_ ?_)|(refine leF_upd ?_ ?_))
      all_goals (first|exact LeR.top _|exact LeR.refl _|(refine LeR.of_eq ?_;(try simp only [go_sem]);try rfl)|((try simp only [go_sem]);try rfl))
     ·have h0':(((1:Nat):Int))=1:=rfl
      have htb:(argL [p0,p1,p2] l).take 1++[argI ⟨x,x'⟩ p1]=(argL [p0,p1,p2] l).take (1+1):=htb
      have hgi:x+p1.tmod (x' - x+1)=argI ⟨x,x'⟩ p1:=rfl
      have hbh:x≤argI ⟨x,x'⟩ p1∧argI ⟨x,x'⟩ p1≤x':=argI_has (r:=⟨x,x'⟩) b2 h1.1
      generalize argI ⟨x,x'⟩ p1=y at htb hgi hbh
      have hap:ints .i64 ((argL [p0,p1,p2] l).take 1)++[.lit (.int .i64 y)]=ints .i64 ((argL [p0,p1,p2] l).take (1+1)):=by rw [ints_append1,htb]
      repeat' (first
       |(with_reducible first|refine nx ?_|refine t_seq fun K=>?_|refine t_br (fun hc=>?_) fun hc=>?_|refine t_bx ?_|apply And.intro|intro vr)|exact kpd
       |((with_reducible first|refine ny ?_|refine t_kLF ?_ ?_|refine t_drawE (id:=21) (fun _=>true) [(0,1),(1,1),(2,1),(3,1),(4,1),(5,1),(6,1),(7,1),(8,1),(9,1),(10,1),(11,1),(12,1),(13,1),(14,1),(15,1),(16,0),(17,1)] (by kernel_rfl) fun K=>?_|refine t_dwh (h:=fun K KL=>?_));intros;simp only [go_sem,kp3,geff,h0',g3,hx,hlm,wr p1 (by omega),hgi,hap,yes]))
      all_goals try exact isI16
      all_goals try (rw [hgi];unfold inI64;omega)
      all_goals try exact nd
      refine ⟨⟨(1+1,w+1),by simp only;omega⟩,by first|(simp only;omega)|omega,?_⟩
      try simp only [updL_nil,updL_cons,delF_top,delF_upd,Nat.reduceEqDiff,reduceIte]
      refine le_backM (by first|rfl|(simp only [go_sem];try rfl)) (by first|exact Nat.zero_le _|simp) (by first|rfl|simp [lowO,low_lit,low_sl,low_ref,low_arr,low_sub,low_mp]) ?_ ?_
      ·repeat' (first|exact low_top|(refine low_upd rfl ?_))
      repeat' (first|exact leF_top _|exact (fun _=>LeR.refl _)|(with_reducible refine leF_sl ?_ ?_)|(refine leF_upd ?_ ?_))
      all_goals (first|exact LeR.top _|exact LeR.refl _|(refine LeR.of_eq ?_;(try simp only [go_sem]);try rfl)|((try simp only [go_sem]);try rfl))
     ·have h0':(((2:Nat):Int))=2:=rfl
      have htb:(argL [p0,p1,p2] l).take 2++[argI ⟨x,x'⟩ p2]=(argL [p0,p1,p2] l).take (2+1):=htb
      have hgi:x+p2.tmod (x' - x+1)=argI ⟨x,x'⟩ p2:=rfl
      have hbh:x≤argI ⟨x,x'⟩ p2∧argI ⟨x,x'⟩ p2≤x':=argI_has (r:=⟨x,x'⟩) b2 h2.1
      generalize argI ⟨x,x'⟩ p2=y at htb hgi hbh
      have hap:ints .i64 ((argL [p0,p1,p2] l).take 2)++[.lit (.int .i64 y)]=ints .i64 ((argL [p0,p1,p2] l).take (2+1)):=by rw [ints_append1,htb]
      repeat' (first
       |(with_reducible first|refine nx ?_|refine t_seq fun K=>?_|refine t_br (fun hc=>?_) fun hc=>?_|refine t_bx ?_|apply And.intro|intro vr)|exact kpd
       |((with_reducible first|refine ny ?_|refine t_kLF ?_ ?_|refine t_drawE (id:=21) (fun _=>true) [(0,1),(1,1),(2,1),(3,1),(4,1),(5,1),(6,1),(7,1),(8,1),(9,1),(10,1),(11,1),(12,1),(13,1),(14,1),(15,1),(16,0),(17,1)] (by kernel_rfl) fun K=>?_|refine t_dwh (h:=fun K KL=>?_));intros;simp only [go_sem,kp3,geff,h0',g3,hx,hlm,wr p2 (by omega),hgi,hap,yes]))
      all_goals try exact isI16
      all_goals try (rw [hgi];unfold inI64;omega)
      all_goals try exact nd
      refine ⟨⟨(2+1,w+1),by simp only;omega⟩,by first|(simp only;omega)|omega,?_⟩
      try simp only [updL_nil,updL_cons,delF_top,delF_upd,Nat.reduceEqDiff,reduceIte]
      refine le_backM (by first|rfl|(simp only [go_sem];try rfl)) (by first|exact Nat.zero_le _|simp) (by first|rfl|simp [lowO,low_lit,low_sl,low_ref,low_arr,low_sub,low_mp]) ?_ ?_
      ·repeat' (first|exact low_top|(refine low_upd rfl ?_))
      repeat' (first|exact leF_top _|exact (fun _=>LeR.refl _)|(with_reducible refine leF_sl ?_ ?_)|(refine leF_upd ?_ ?_))
      all_goals (first|exact LeR.top _|exact LeR.refl _|(refine LeR.of_eq ?_;(try simp only [go_sem]);try rfl)|((try simp only [go_sem]);try rfl))
    ·have g3:decide ((i:Int)<(l.length:Int))=false:=decide_eq_false (by omega)
     have e2:(argL [p0,p1,p2] l).take i=argL [p0,p1,p2] l:=List.take_of_length_le (by omega)
     have hav:El.applyV (El.applyS op (argL [p0,p1,p2] l))= .tup [.lit (.int .i64 n),.lit (.bool true)]:=by rw [hn1];rfl
     have d1:decide (n≥R)=true:=decide_eq_true hn2
     have d2:decide (n≤R')=true:=decide_eq_true hn3
     repeat' (first
      |(with_reducible first|refine nx ?_|refine t_seq fun K=>?_|refine t_br (fun hc=>?_) fun hc=>?_|refine t_bx ?_|apply And.intro|intro vr)|exact kpd
      |((with_reducible first|refine ny ?_|refine t_kLF ?_ ?_|refine t_drawE (id:=21) (fun _=>true) [(0,1),(1,1),(2,1),(3,1),(4,1),(5,1),(6,1),(7,1),(8,1),(9,1),(10,1),(11,1),(12,1),(13,1),(14,1),(15,1),(16,0),(17,1)] (by kernel_rfl) fun K=>?_|refine t_dwh (h:=fun K KL=>?_));intros;simp only [go_sem,kp3,geff,g3,e2,slK_ints,hav,Option.map_some,d1,d2]))
     all_goals try exact nd
     all_goals (refine nl ?_;simp only [go_sem])
     exact LeA.of_eq rfl
theorem prim_law:∀ xs,ShL Try.prog Try.f3.params.toList xs→PC Try.prog 3 xs (.lit (.bool true))
  |[_,_,_],h=>by
   obtain ⟨op,rfl,_⟩:=shv_str u9 h.1
   obtain ⟨l,rfl,hl⟩:=shv_rngs h.2.1
   obtain ⟨a,b,c,rfl,ha,hb,hc⟩:=shv_three h.2.2.1
   exact law3 ha hb hc
  |[],h=>h.elim
  |[_],h=>h.2.elim
  |[_,_],h=>h.2.2.elim
  |_::_::_::_::_,h=>h.2.2.2.elim
end Go.Proofs.Ytnlimcijgpaegaa
