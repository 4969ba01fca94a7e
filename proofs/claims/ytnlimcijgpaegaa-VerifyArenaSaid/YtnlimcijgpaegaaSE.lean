import Derived.Test.YtnlimcijgpaegaaSD
import Derived.Test.YtnlimcijgpaegaaFwE
import Derived.Test.YtnlimcijgpaegaaSA

set_option linter.all false

namespace Go.Proofs.Ytnlimcijgpaegaa
open Go Go.Fw Bm
set_option maxRecDepth 20000
theorem blk_base {B:Prg} {mt:List Int} {n:Nat}:BlkH B mt n 0:=by
  intro i to s w ex k h1 h2 h3 h4 h5
  refine ec_fin fun hbd=>?_
  have h20:=h2.1
  refine ecR D0_ok (kp46) Try.func46 [.tmp 8] (h:=fun KF=>?_)
  unfold D0
  repeat' (first
   |(with_reducible first|refine nx ?_|refine t_seq fun K=>?_|refine t_br (fun hc=>?_) fun hc=>?_|refine t_bx ?_|apply And.intro|intro vr)
   |((with_reducible first|refine ny ?_|refine t_dwh (h:=fun K KL=>?_));intros;simp only [go_sem,kp46,geff]))
  all_goals try exact nd
  refine t_loopF (ι:=Unit) (fun _=>[(9,.lit (.int .i64 i)),(3,.sl false 2 (rgsV s))]) (fun _=>objs B mt w ex) (fun _=>0) () ?_ ?_
  ·exact lf
  rintro ⟨⟩ K0
  have g3:decide (i<to)=false:=decide_eq_false (by omega)
  repeat' (first
   |(with_reducible first|refine nx ?_|refine t_seq fun K=>?_|refine t_br (fun hc=>?_) fun hc=>?_|refine t_bx ?_|apply And.intro|intro vr)
   |((with_reducible first|refine ny ?_|refine t_dwh (h:=fun K KL=>?_));intros;simp only [go_sem,kp46,geff,g3]))
  all_goals try exact nd
  all_goals (refine nl ?_;simp only [go_sem,finE])
  exact ⟨_,_,rfl,LeA.refl _,ob_bds hbd,h5 _ _ (vr_end (by omega))⟩
theorem blk_all {B:Prg} {mt:List Int} {n:Nat} (hK:Wk B mt n):∀ N,BlkH B mt n N
  |0=>blk_base
  |N+1=>block_step hK (blk_all hK N)
theorem vr_det {B:Prg} {mt:List Int} {tk:VTk} {s t t':List Rng} {w w' w'':W} (h:VR B mt tk s w t w') (k:VR B mt tk s w t' w''):t=t'∧w'=w'':=by
  obtain ⟨f,hf⟩:=h
  obtain ⟨g,hg⟩:=k
  have h1:=vrun_le (Nat.le_max_left f g) hf
  have h2:=vrun_le (Nat.le_max_right f g) hg
  rw [h1] at h2
  cases h2
  exact ⟨rfl,rfl⟩
def beg (B:Prg):List Rng:=List.replicate B.regs.toNat nilR
def w0 (B:Prg):W:=⟨List.replicate B.ops.length [],[]⟩
def EndV (B:Prg) (mt:List Int):Prop:=∃ p:List Rng×W,VR B mt (.blk 0 B.ops.length) (beg B) (w0 B) p.1 p.2
noncomputable def endV (B:Prg) (mt:List Int):W:= @dite _ (EndV B mt) (Classical.propDecidable _) (fun h=>h.choose.2) (fun _=>⟨[],[]⟩)
theorem endV_eq {B:Prg} {mt:List Int} {t:List Rng} {w:W} (h:VR B mt (.blk 0 B.ops.length) (beg B) (w0 B) t w):endV B mt=w:=by
  have hE:EndV B mt:=⟨(t,w),h⟩
  unfold endV
  rw [dif_pos hE]
  exact (vr_det hE.choose_spec h).2
def wipeU (ops:List Ins) (l:List (List Rng)) (j:Nat):List (List Rng):=l.mapIdx fun q s=>if q<j∧(cd ops q=12∨cd ops q=13) then [] else s
theorem wipeU_0 {ops:List Ins} {l:List (List Rng)}:wipeU ops l 0=l:=by
  apply List.ext_getElem?
  intro n
  simp only [wipeU,List.getElem?_mapIdx]
  cases l[n]? with
  |none=>rfl
  |some a=>simp only [Option.map_some];rw [if_neg (by omega)]
theorem wipeU_len {ops:List Ins} {l:List (List Rng)} {j:Nat}:(wipeU ops l j).length=l.length:=by simp [wipeU]
theorem wipeU_y {ops:List Ins} {l:List (List Rng)} {j:Nat} (h:cd ops j=12∨cd ops j=13):(wipeU ops l j).set j []=wipeU ops l (j+1):=by
  apply List.ext_getElem?
  intro n
  rw [List.getElem?_set]
  by_cases e:j=n
  ·subst e
   rw [if_pos rfl,wipeU_len]
   simp only [wipeU,List.getElem?_mapIdx]
   split
   ·rename_i hl
    rw [List.getElem?_eq_getElem hl,Option.map_some,if_pos ⟨by omega,h⟩]
   ·rename_i hl
    rw [List.getElem?_eq_none (by omega)];rfl
  ·rw [if_neg e]
   simp only [wipeU,List.getElem?_mapIdx]
   cases l[n]? with
   |none=>rfl
   |some a=>
    simp only [Option.map_some]
    by_cases c:n<j
    ·simp only [c,show n<j+1 by omega]
    ·simp only [c,show ¬ n<j+1 by omega]
theorem wipeU_n {ops:List Ins} {l:List (List Rng)} {j:Nat} (h: ¬ (cd ops j=12∨cd ops j=13)):wipeU ops l j=wipeU ops l (j+1):=by
  apply List.ext_getElem?
  intro n
  simp only [wipeU,List.getElem?_mapIdx]
  cases l[n]? with
  |none=>rfl
  |some a=>
   simp only [Option.map_some]
   by_cases e:j=n
   ·subst e;rw [if_neg (by omega),if_neg (fun k=>h k.2)]
   ·by_cases c:n<j
    ·simp only [c,show n<j+1 by omega]
    ·simp only [c,show ¬ n<j+1 by omega]
noncomputable def beforeL (B:Prg):List (List Rng):=if validS B=true then (match matchS B.ops with
  |some mt=>wipeU B.ops (endV B mt).before B.ops.length
  |none=>[]) else []
theorem okS_beg (B:Prg):OkS B.regs.toNat (beg B):=⟨by simp [beg],fun i hi=>by
  have:(beg B).getD i nilR=nilR:=by simp [beg,List.getD,hi]
  rw [this];exact okR_nil⟩
theorem valid_inv {B:Prg} (h:validS B=true):(0≤B.regs∧B.regs≤200)∧(0≤B.arena∧B.arena≤1048576)∧(∃ mt,matchS B.ops=some mt)∧Rights B B.regs.toNat∧B.types.length=B.ins.length+B.outs.length∧typesOk B.arena B.types (B.ins++B.outs)=true:=by
  rw [valid_eq,Bool.and_eq_true,Bool.not_eq_true'] at h
  obtain ⟨h1,h2⟩:=h
  simp only [headB,formedB,Bool.or_eq_false_iff,decide_eq_false_iff_not,bne_eq_false_iff_eq,Bool.not_eq_false',Bool.and_eq_true] at h1
  obtain ⟨⟨⟨⟨⟨k1,k2⟩,k3⟩,k4⟩,k5,k6⟩,k7⟩:=h1
  refine ⟨⟨by omega,by omega⟩,⟨by omega,by omega⟩,?_,?_,by omega,h2⟩
  ·cases hm:matchS B.ops with
   |none=>rw [hm] at k6;cases k6
   |some mt=>exact ⟨mt,rfl⟩
  ·intro i i0 i1
   rw [List.all_eq_true] at k5
   have hmem:B.op i∈B.ops:=by
     unfold Prg.op
     rw [List.getD_eq_getElem?_getD,List.getElem?_eq_getElem (by omega)]
     exact List.getElem_mem _
   have:=k5 _ hmem
   rw [show ((B.regs.toNat:Nat):Int)=B.regs by omega]
   exact this
theorem wk_of {B:Prg} {mt:List Int} (h:validS B=true) (hm:matchS B.ops=some mt) (hl:B.ops.length≤1000000):Wk B mt B.regs.toNat:=by
  obtain ⟨h1,_,_,h3,_⟩:=valid_inv h
  have hn:=match_nest hm
  exact ⟨hn,h3,hl,by omega,hn.len⟩
noncomputable def ecnW:ECon Try.prog where
  f:=46
  c:=fun args σ k=>∃ (B:Prg) (mt:List Int) (ver:Nat),args=[.ref 3 0,.lit (.int .i64 0),.lit (.int .i64 B.ops.length),.arr 4 ver]∧σ=objs B mt (w0 B) [.arr 29 2 (rgsV (beg B)) ver false]∧Wk B mt B.regs.toNat∧
   ∀ t w',VR B mt (.blk 0 B.ops.length) (beg B) (w0 B) t w'→k (.sl false 2 (rgsV t)) (objs B mt w' [.arr 29 2 (rgsV (beg B)) ver true])
  ok:=by
   rintro _ _ k ⟨B,mt,ver,rfl,rfl,hK,h5⟩
   refine EC.frz1 (pre:=[.ref 3 0,.lit (.int .i64 0),.lit (.int .i64 B.ops.length)]) (post:=[]) (e:=29) (sz:=2) (xs:=rgsV (beg B)) rfl ?_
   exact blk_all hK B.ops.length 0 B.ops.length (beg B) (w0 B) [.arr 29 2 (rgsV (beg B)) ver true] k (by omega) ⟨Int.le_refl _,Int.le_refl _,fun j j0 j1 j2=>(hK.nest.at j0 j1 j2).2.1⟩ (okS_beg B)
     ⟨by simp [w0],fun i l hl=>by cases hl⟩ h5
  fk:=fk46
theorem ecnW_f:ecnW.f=46:=rfl
theorem ecnW_i {B:Prg} {mt:List Int} {ver:Nat} {k:AV→List AObj→Prop} (hK:Wk B mt B.regs.toNat) (h5:∀ t w',VR B mt (.blk 0 B.ops.length) (beg B) (w0 B) t w'→k (.sl false 2 (rgsV t)) (objs B mt w' [.arr 29 2 (rgsV (beg B)) ver true])):
    ecnW.c [.ref 3 0,.lit (.int .i64 0),.lit (.int .i64 B.ops.length),.arr 4 ver] (objs B mt (w0 B) [.arr 29 2 (rgsV (beg B)) ver false]) k:=⟨B,mt,ver,rfl,rfl,hK,h5⟩
theorem bvalid_pc2 {B:Prg} (h:OkB B∧B.ins.length≤100000∧B.outs.length≤100000):PC Try.prog 42 [bcV B] (.lit (.bool (validS B))):=bvalid_pc h.1 h.2
noncomputable def con42:PCon Try.prog where
  f:=42
  c:=fun
   |[xB]=>match bcOf xB with|some B=>some ((OkB B∧B.ins.length≤100000∧B.outs.length≤100000),.lit (.bool (validS B)))|_=>none
   |_=>none
  ok:=by
   intro args p r hc hp
   split at hc
   ·split at hc
    ·rename_i hB
     cases hc
     exact PC.weak (bvalid_pc2 hp) ⟨bcOf_le hB,trivial⟩
    ·cases hc
   ·cases hc
  fk:=fk42
theorem con42_f:con42.f=42:=rfl
theorem con42_c {xB:AV}:con42.c [xB]=match bcOf xB with|some B=>some ((OkB B∧B.ins.length≤100000∧B.outs.length≤100000),.lit (.bool (validS B)))|_=>none:=rfl
attribute [go_sem] ecnW_f con42_f con42_c
noncomputable def D5:Env:=envJ (P:=Try.prog) jkR zer (fun _=>false) (fun _=>false) [con42,con45] [ecnW]
theorem D5_ok:EnvOk Try.prog D5:=envJOk zer_ok
theorem rz_beg (B:Prg):List.replicate B.regs.toNat (AV.agg [.lit (.int .i64 0),.lit (.int .i64 0)])=rgsV (beg B):=rz_rgs _
theorem bcOf_B {B:Prg}:bcOf (.agg [.lit (.int .i64 B.regs),.lit (.int .i64 B.arena),.sl false 6 (opsV B.ops),.sl false 2 (plsV B.ins),.sl false 2 (plsV B.outs),.sl false 3 (arrs B.types)])=some B:=bcOf_mk
theorem le_bef0 {n0:Nat} {f:Nat→AV} {σ:List AObj} {n:Nat} (h:σ[1]? =some (.arr 26 1 (List.replicate n (.sl true 2 [])) 0 false)):Le n0 ⟨f,σ⟩ ⟨f,σ.set 1 (.arr 26 1 (bfsV (List.replicate n [])) 0 false)⟩:=by
  have e2:bfsV (List.replicate n [])=List.replicate n (.sl false 2 []):=by simp [bfsV,rgsV]
  have e3:∀ b n,flat (List.replicate n (AV.sl b 2 []))=List.replicate n (.sl b 2 []):=fun b n=>by
    induction n with
    |zero=>rfl
    |succ n ih=>show AV.cells _++flat _=_;rw [ih];rfl
  refine le_arrE h ?_ ?_ ?_ ?_
  ·rw [e2];simp
  ·intro y hy
   rw [e2] at hy
   obtain rfl:=(List.mem_replicate.1 hy).2
   rfl
  ·rw [e2,e3,e3];simp
  ·intro i hi
   rw [e2,e3,e3]
   rw [e3] at hi
   simp only [List.length_replicate] at hi
   have a1:∀ b,(List.replicate n (AV.sl b 2 [])).getD i .top= .sl b 2 []:=fun b=>by simp [List.getD,hi]
   rw [a1,a1]
   exact LeA.full _ _ _
theorem kp_oz {B:Prg} {mt:List Int} {w w':W} {e sz ver:Nat} {xs:List AV} {fz fz':Bool} {D:Nat→Bool}:Kp D (objs B mt w [.arr e sz xs ver fz]) (objs B mt w' [.arr e sz xs ver fz']):=kp_ob fun o t cs h=>by
  rcases o with _|o
  ·cases h
  ·cases h
theorem kp_on {B:Prg} {mt:List Int} {w w':W} {m:List AObj} {D:Nat→Bool}:Kp D (objs B mt w []) (objs B mt w' m):=kp_ob fun o t cs h=>by cases h
theorem ob_bd1 {B:Prg} {mt:List Int} {w:W} {e sz ver:Nat} {xs:List AV} {fz:Bool}:BdS (objs B mt w [.arr e sz xs ver fz]).length (objs B mt w [.arr e sz xs ver fz]):=bds_low (by
  simp [objs,bxB,wkO,lowO,low1,low0])
set_option maxHeartbeats 8000000 in
theorem before_pc {B:Prg} (h:OkB B) (hi:B.ins.length≤100000∧B.outs.length≤100000):PC Try.prog 19 [bcV B] (.sl false 1 (bfsV (beforeL B))):=by
  have hh:OkB B∧B.ins.length≤100000∧B.outs.length≤100000:=⟨h,hi⟩
  have hO:=h.ops
  obtain ⟨hi1,hi2⟩:=hi
  cases hv:validS B with
  |false=>
   have e:beforeL B=[]:=by unfold beforeL;rw [hv];rfl
   rw [e]
   simp only [bcV]
   refine pcR D5_ok (kp19) Try.func19 [.tmp 2] (h:=fun KF=>?_)
   unfold D5
   repeat' (first
    |(with_reducible first|refine nx ?_|refine t_seq fun K=>?_|refine t_br (fun hc=>?_) fun hc=>?_|refine t_bx ?_|apply And.intro|intro vr)|exact kp_oz|exact kp_on|exact kpd
    |((with_reducible first|refine ny ?_|refine t_kLF ?_ ?_|refine t_drawE (id:=5) (fun _=>true) [(0,1),(1,1),(2,1),(3,1),(4,1),(5,1),(6,0),(7,0)] (by kernel_rfl) fun K=>?_|refine t_dwh (h:=fun K KL=>?_));intros;simp only [go_sem,kp19,geff,bcOf_B,hv,Bool.not_false]))
   all_goals try exact nd
   all_goals (refine nl ?_;simp only [go_sem])
   exact LeA.nil _ _
  |true=>
   obtain ⟨v1,v2,⟨mt,hm⟩,_,_,_⟩:=valid_inv hv
   have hK:=wk_of hv hm hO
   have e:beforeL B=wipeU B.ops (endV B mt).before B.ops.length:=by unfold beforeL;rw [hv,hm];rfl
   have hmv:matchV B.ops= .tup [.sl false 1 (ints .i64 mt),.lit (.bool true)]:=by unfold matchV;rw [hm]
   generalize beforeL B=R at e
   simp only [bcV]
   refine pcR D5_ok (kp19) Try.func19 [.tmp 2] (h:=fun KF=>?_)
   unfold D5
   repeat' (first
    |(with_reducible first|refine nx ?_|refine t_seq fun K=>?_|refine t_br (fun hc=>?_) fun hc=>?_|refine t_bx ?_|apply And.intro|intro vr)|exact kp_oz|exact kp_on|exact kpd
    |((with_reducible first|refine ny ?_|refine t_kLF ?_ ?_|refine t_drawE (id:=5) (fun _=>true) [(0,1),(1,1),(2,1),(3,1),(4,1),(5,1),(6,0),(7,0)] (by kernel_rfl) fun K=>?_);intros;simp only [go_sem,kp19,geff,bcOf_B,hv,hmv,Bool.not_true]))
   all_goals try exact nd
   refine t_drawP ⟨upd (upd topF 5 (.ref 3 0)) 1 (.ref 0 0),objs B mt (w0 B) []⟩ (fun i=>i==0) [(0,1),(1,1),(2,1),(3,1),(4,1)] [5,6] [(7,1),(8,0),(9,1)] (by kernel_rfl) ?_ ?_
   rotate_left
   ·skip
    intro K
    simp only [pickO,pickG,List.getElem?_toArray,List.getElem?_cons_zero,List.getElem?_cons_succ,List.length_cons,List.length_nil,Nat.reduceAdd,lp_some]
    simp only [go_sem,pickO,pickG,geff,kp19]
    repeat' (first
     |(with_reducible first|refine nx ?_|refine t_seq fun K=>?_|refine t_br (fun hc=>?_) fun hc=>?_|refine t_bx ?_|apply And.intro|intro vr)|exact kp_oz|exact kp_on|exact kpd
     |((with_reducible first|refine ny ?_|refine t_kLF ?_ ?_|refine t_kPE ?_ ?_|refine t_drawE (id:=5) (fun _=>true) [(0,1),(1,1),(2,1),(3,1),(4,1),(5,1),(6,0),(7,0)] (by kernel_rfl) fun K=>?_);intros;simp only [go_sem,kp19,geff]))
    all_goals try exact Int.le_refl _
    all_goals try exact nd
    ·refine (le_bef0 (n:=B.ops.length) rfl).trans ?_
     exact lg
    ·refine le_swapM (τ:=[_]) (m:=[_]) (Nat.zero_le _) (bds_low (by simp [lowO,low_lit,low_sl])) rfl rfl rfl ?_ ?_
     ·repeat' (first|exact flatF_top|(refine flatF_upd rfl ?_))
     simp only [renF_upd,renF_top,ren1,renA,renO,sw,List.map_cons,List.map_nil,List.length_cons,List.length_nil,Nat.reduceAdd,Nat.reduceEqDiff,reduceIte,List.cons_append,List.nil_append]
     refine (le_bef0 (n:=B.ops.length) rfl).trans ?_
     exact lg
   repeat' (first
    |(with_reducible first|refine nx ?_|refine t_seq fun K=>?_|refine t_br (fun hc=>?_) fun hc=>?_|refine t_bx ?_|apply And.intro|intro vr)|exact kp_oz|exact kp_on|exact kpd
    |((with_reducible first|refine ny ?_|refine t_kLF ?_ ?_|refine t_drawE (id:=5) (fun _=>true) [(0,1),(1,1),(2,1),(3,1),(4,1),(5,1),(6,0),(7,0)] (by kernel_rfl) fun K=>?_|refine t_dwh (h:=fun K KL=>?_));intros;simp only [go_sem,kp19,geff,bcOf_B,bxB,rz_beg,List.nil_append,List.length_nil,Nat.zero_add]))
   all_goals try exact Int.le_refl _
   all_goals try exact nd
   refine ecnW_i hK fun t w' hr=>?_
   have he:=endV_eq hr
   have hcl:Cl B mt 0 B.ops.length:=⟨Int.le_refl _,Int.le_refl _,fun j j0 j1 j2=>(hK.nest.at j0 j1 j2).2.1⟩
   obtain ⟨_,hw⟩:=vr_ok hK hr hcl (okS_beg B) ⟨by simp [w0],fun i l hl=>(by cases hl)⟩
   have hwl:=hw.len
   rw [he] at e
   repeat' (first
    |(with_reducible first|refine nx ?_|refine t_seq fun K=>?_|refine t_br (fun hc=>?_) fun hc=>?_|refine t_bx ?_|apply And.intro|intro vr)|exact kp_oz|exact kp_on|exact kpd
    |((with_reducible first|refine ny ?_|refine t_kLF ?_ ?_|refine t_drawE (id:=5) (fun _=>true) [(0,1),(1,1),(2,1),(3,1),(4,1),(5,1),(6,0),(7,0)] (by kernel_rfl) fun K=>?_|refine t_dwh (h:=fun K KL=>?_));intros;simp only [go_sem,kp19,geff,bxB]))
   all_goals try exact nd
   refine t_loopF (ι:={j:Nat // j≤B.ops.length}) (fun i=>[(37,.lit (.int .i64 i.1))]) (fun i=>objs B mt ⟨wipeU B.ops w'.before i.1,w'.heads⟩ [.arr 29 2 (rgsV (beg B)) 0 true]) (fun i=>B.ops.length - i.1) ⟨0,by omega⟩ ?_ ?_
   ·simp only [wipeU_0]
    exact lf
   rintro ⟨j,hj⟩ K0
   have hwu:(wipeU B.ops w'.before j).length=B.ops.length:=by rw [wipeU_len,hwl]
   rcases Nat.lt_or_ge j B.ops.length with hc|hc
   ·have g3:decide ((j:Int)<(B.ops.length:Int))=true:=decide_eq_true (by omega)
    have hcd:cd B.ops j=(B.ops.getD j nilI).code:=rfl
    generalize hx:B.ops.getD j nilI=x at hcd
    obtain ⟨q,p,a,b,c,d⟩:=x
    simp only at hcd
    by_cases hq:q=12∨q=13
    ·have hw2:=wipeU_y (ops:=B.ops) (l:=w'.before) (j:=j) (by rw [hcd];exact hq)
     have gq:(q==12||q==13)=true:=by simpa using hq
     repeat' (first
      |(with_reducible first|refine nx ?_|refine t_seq fun K=>?_|refine t_br (fun hc=>?_) fun hc=>?_|refine t_bx ?_|apply And.intro|intro vr)|exact kp_oz|exact kp_on|exact kpd
      |((with_reducible first|refine ny ?_|refine t_kLF ?_ ?_|refine t_drawE (id:=5) (fun _=>true) [(0,1),(1,1),(2,1),(3,1),(4,1),(5,1),(6,0),(7,0)] (by kernel_rfl) fun K=>?_|refine t_dwh (h:=fun K KL=>?_));intros;simp only [go_sem,kp19,geff,g3,hx,gq,Int.toNat_natCast,yes]))
     all_goals try exact nd
     refine ⟨⟨j+1,by omega⟩,by simp only;omega,?_⟩
     refine (le_bef (w:=⟨wipeU B.ops w'.before j,w'.heads⟩)).trans ?_
     simp only [hw2]
     try simp only [updL_nil,updL_cons,delF_top,delF_upd,Nat.reduceEqDiff,reduceIte]
     refine le_obB (m:=[.box 73 [.lit (.int .i64 q),.lit (.string p),.lit (.int .i64 a),.lit (.int .i64 b),.lit (.int .i64 c),.lit (.int .i64 d)]]) (ex:=[.arr 29 2 (rgsV (beg B)) 0 true]) (Nat.zero_le _) ob_bd1 ?_ ?_
     ·repeat' (first|exact low_top|(refine low_upd rfl ?_)|(refine lg_w ?_ (by rw [ob_len];omega)))
     repeat' (first|exact leF_top _|exact (fun _=>LeR.refl _)|(with_reducible refine leF_sl ?_ ?_)|(refine leF_upd ?_ ?_))
     all_goals (first|exact LeR.top _|exact LeR.refl _|(refine LeR.of_eq ?_;(try simp only [go_sem]);try rfl)|((try simp only [go_sem]);try rfl))
    ·have hw2:=wipeU_n (ops:=B.ops) (l:=w'.before) (j:=j) (by rw [hcd];exact hq)
     have gq:(q==12||q==13)=false:=by simpa using hq
     repeat' (first
      |(with_reducible first|refine nx ?_|refine t_seq fun K=>?_|refine t_br (fun hc=>?_) fun hc=>?_|refine t_bx ?_|apply And.intro|intro vr)|exact kp_oz|exact kp_on|exact kpd
      |((with_reducible first|refine ny ?_|refine t_kLF ?_ ?_|refine t_drawE (id:=5) (fun _=>true) [(0,1),(1,1),(2,1),(3,1),(4,1),(5,1),(6,0),(7,0)] (by kernel_rfl) fun K=>?_|refine t_dwh (h:=fun K KL=>?_));intros;simp only [go_sem,kp19,geff,g3,hx,gq,Int.toNat_natCast,yes]))
     all_goals try exact nd
     refine ⟨⟨j+1,by omega⟩,by simp only;omega,?_⟩
     rw [hw2]
     try simp only [updL_nil,updL_cons,delF_top,delF_upd,Nat.reduceEqDiff,reduceIte]
     refine le_obB (m:=[.box 73 [.lit (.int .i64 q),.lit (.string p),.lit (.int .i64 a),.lit (.int .i64 b),.lit (.int .i64 c),.lit (.int .i64 d)]]) (ex:=[.arr 29 2 (rgsV (beg B)) 0 true]) (Nat.zero_le _) ob_bd1 ?_ ?_
     ·repeat' (first|exact low_top|(refine low_upd rfl ?_)|(refine lg_w ?_ (by rw [ob_len];omega)))
     repeat' (first|exact leF_top _|exact (fun _=>LeR.refl _)|(with_reducible refine leF_sl ?_ ?_)|(refine leF_upd ?_ ?_))
     all_goals (first|exact LeR.top _|exact LeR.refl _|(refine LeR.of_eq ?_;(try simp only [go_sem]);try rfl)|((try simp only [go_sem]);try rfl))
   ·have g3:decide ((j:Int)<(B.ops.length:Int))=false:=decide_eq_false (by omega)
    obtain rfl:j=B.ops.length:=by omega
    repeat' (first
     |(with_reducible first|refine nx ?_|refine t_seq fun K=>?_|refine t_br (fun hc=>?_) fun hc=>?_|refine t_bx ?_|apply And.intro|intro vr)|exact kp_oz|exact kp_on|exact kpd
     |((with_reducible first|refine ny ?_|refine t_kLF ?_ ?_|refine t_drawE (id:=5) (fun _=>true) [(0,1),(1,1),(2,1),(3,1),(4,1),(5,1),(6,0),(7,0)] (by kernel_rfl) fun K=>?_|refine t_dwh (h:=fun K KL=>?_));intros;simp only [go_sem,kp19,geff,g3]))
    all_goals try exact nd
    all_goals (refine nl ?_;simp only [go_sem])
    exact ⟨_,rfl,LeA.of_eq (by rw [e])⟩
theorem before_pc2 {B:Prg} (h:OkB B∧B.ins.length≤100000∧B.outs.length≤100000):PC Try.prog 19 [bcV B] (.sl false 1 (bfsV (beforeL B))):=before_pc h.1 h.2
noncomputable def con19:PCon Try.prog where
  f:=19
  c:=fun
   |[xB]=>match bcOf xB with|some B=>some ((OkB B∧B.ins.length≤100000∧B.outs.length≤100000),.sl false 1 (bfsV (beforeL B)))|_=>none
   |_=>none
  ok:=by
   intro args p r hc hp
   split at hc
   ·split at hc
    ·rename_i hB
     cases hc
     exact PC.weak (before_pc2 hp) ⟨bcOf_le hB,trivial⟩
    ·cases hc
   ·cases hc
  fk:=fk19
theorem con19_f:con19.f=19:=rfl
theorem con19_c {xB:AV}:con19.c [xB]=match bcOf xB with|some B=>some ((OkB B∧B.ins.length≤100000∧B.outs.length≤100000),.sl false 1 (bfsV (beforeL B)))|_=>none:=rfl
attribute [go_sem] con19_f con19_c
end Go.Proofs.Ytnlimcijgpaegaa

namespace Go.Proofs.Ytnlimcijgpaegaa.Bm
open Go.Proofs.Ytnlimcijgpaegaa
open Go Go.Fw
variable {B:Prg} {mt:List Int}
def Ent (n:Nat) (l:List (List Rng)):Prop:=∀ j:Nat,l.getD j []=[]∨OkS n (l.getD j [])
theorem Ent.wipe {n:Nat} {l:List (List Rng)} (h:Ent n l) (i to:Int):Ent n (wipe l i to):=fun j=>by
  rw [wipe_getD]
  split
  ·exact .inl rfl
  ·exact h j
theorem Ent.set {n:Nat} {l:List (List Rng)} (h:Ent n l) (i:Nat) {s:List Rng} (hs:OkS n s):Ent n (l.set i s):=fun j=>by
  rw [List.getD_eq_getElem?_getD,List.getElem?_set]
  split
  ·split
   ·exact .inr hs
   ·exact .inl rfl
  ·have:=h j
   rwa [List.getD_eq_getElem?_getD] at this
theorem vrun_ent (hN:Nest B.ops mt) {n:Nat} (hR:Rights B n):∀ (f:Nat) (tk:VTk) (s:List Rng) (w:W) (t:List Rng) (w':W),vrun B mt f tk s w=some (t,w')→tk.ok B mt→OkS n s→HOk n w→(∀ i v,tk= .lop i v→OkR v)→Ent n w.before→Ent n w'.before
  |0,_,_,_,_,_,h,_,_,_,_,_=>by simp [vrun] at h
  |f+1,.blk i to,s,w,t,w',h,hk,hs,hw,_,he=>by
   have hk':Cl B mt i to:=hk
   by_cases hi:i<to
   ·have hlt:i<B.ops.length:=by have:=hk'.2.1;omega
    have he1:Ent n (w.before.set i.toNat s):=he.set _ hs
    rcases step1_of h hi with ⟨yes,no,w1,w2,t1,hc,h1,h2,h3,h4⟩|⟨hc,hv,h1⟩|⟨t1,w1,hc,hv,h1,h2⟩|⟨_,_,h3⟩
    ·obtain ⟨k1,k2,k3,_,k5,_⟩:=hN.end_ hk' hi hc
     have hin:=hN.inner hk'.1 hlt (.inr (.inl hc))
     have e1:(∀ l,yes=some l→OkS n l)∧HOk n w1∧Ent n w1.before:=by
       rcases part_inv h1 with ⟨_,rfl,rfl⟩|⟨hx,u,rfl,hr⟩
       ·exact ⟨(by intro l h;cases h),hw,he1.wipe _ _⟩
       ·have hx1:=hs.with (i:=(B.op i).a) (ok_yes (hs.at _) hx)
        obtain ⟨q1,q2⟩:=vrun_ok hN hR f (.blk (i+1) (gt mt i)) _ _ _ _ hr hin hx1 hw (by intro i v h;cases h)
        exact ⟨(by intro l h;cases h;exact q1),q2,vrun_ent hN hR f (.blk (i+1) (gt mt i)) _ _ _ _ hr hin hx1 hw (by intro i v h;cases h) he1⟩
     have e2:(∀ l,no=some l→OkS n l)∧HOk n w2∧Ent n w2.before:=by
       rcases part_inv h2 with ⟨_,rfl,rfl⟩|⟨hx,u,rfl,hr⟩
       ·exact ⟨(by intro l h;cases h),e1.2.1,e1.2.2.wipe _ _⟩
       ·have hx1:=hs.with (i:=(B.op i).a) (ok_no (hs.at _) hx)
        obtain ⟨q1,q2⟩:=vrun_ok hN hR f (.blk _ _) _ _ _ _ hr k5 hx1 e1.2.1 (by intro i v h;cases h)
        exact ⟨(by intro l h;cases h;exact q1),q2,vrun_ent hN hR f (.blk _ _) _ _ _ _ hr k5 hx1 e1.2.1 (by intro i v h;cases h) e1.2.2⟩
     exact vrun_ent hN hR f (.blk _ _) _ _ _ _ h4 (hk'.next (by omega)) (hulls_ok h3 e1.1 e2.1) e2.2.1 (by intro i v h;cases h) e2.2.2
    ·obtain ⟨k1,_,_,_⟩:=hN.at hk'.1 hlt (.inl hc)
     exact vrun_ent hN hR f (.blk _ _) _ _ _ _ h1 (hk'.next (by omega)) hs hw (by intro i v h;cases h) (he1.wipe _ _)
    ·obtain ⟨k1,_,_,_⟩:=hN.at hk'.1 hlt (.inl hc)
     have hh:OkS n ((lookH w.heads i).getD s):=by
       cases e:lookH w.heads i with
       |none=>exact hs
       |some l=>exact hw i l e
     have hb:=hs.at (B.op i).b
     have hcc:=hs.at (B.op i).c
     have hvv:∀ (j:Int) (v:Rng),VTk.lop i ⟨(gR s (B.op i).b).lo,(gR s (B.op i).c).hi - 1⟩= .lop j v→OkR v:=by
       intro j v hj
       cases hj
       obtain ⟨b1,b2,b3⟩:=hb
       obtain ⟨c1,c2,c3⟩:=hcc
       refine ⟨?_,?_,?_⟩<;>simp only [machR,maxC] at* <;>omega
     obtain ⟨q1,q2⟩:=vrun_ok hN hR f (.lop i _) _ _ _ _ h1 ⟨hk'.1,hlt,hc⟩ (hh.grown hs) hw hvv
     have q3:=vrun_ent hN hR f (.lop i _) _ _ _ _ h1 ⟨hk'.1,hlt,hc⟩ (hh.grown hs) hw hvv he1
     exact vrun_ent hN hR f (.blk _ _) _ _ _ _ h2 (hk'.next (by omega)) q1 q2 (by intro i v h;cases h) q3
    ·refine vrun_ent hN hR f (.blk _ _) _ _ _ _ h3 (hk'.next (by omega)) ?_ hw (by intro i v h;cases h) he1
     split
     ·exact hs.with (okR_result hs (right_regs (hR i hk'.1 hlt)))
     ·exact hs
   ·simp only [vrun] at h
    rw [if_neg hi] at h
    cases h
    exact he
  |f+1,.lop i v,s,w,t,w',h,hk,hs,hw,hv,he=>by
   obtain ⟨h0,h1,hc⟩:=hk
   have hin:=hN.inner h0 h1 (.inl hc)
   simp only [vrun] at h
   split at h
   ·rename_i t1 w1 hr
    have hp:HOk n {w with heads:=putH w.heads i s}:=by
      intro j l hj
      simp only [lookH_put] at hj
      split at hj
      ·cases hj;exact hs
      ·exact hw j l hj
    obtain ⟨q1,q2⟩:=vrun_ok hN hR f (.blk (i+1) (gt mt i)) _ _ _ _ hr hin (hs.with (hv i v rfl)) hp (by intro i v h;cases h)
    have q3:=vrun_ent hN hR f (.blk (i+1) (gt mt i)) _ _ _ _ hr hin (hs.with (hv i v rfl)) hp (by intro i v h;cases h) he
    split at h
    ·cases h;exact q3
    ·exact vrun_ent hN hR f (.lop i v) _ _ _ _ h ⟨h0,h1,hc⟩ (hs.grown q1) q2 hv q3
   ·cases h
end Go.Proofs.Ytnlimcijgpaegaa.Bm

namespace Go.Proofs.Ytnlimcijgpaegaa
open Go Go.Fw Bm
set_option maxRecDepth 20000
noncomputable def F0:Env:=envJ (P:=Try.prog) jkR zer (fun _=>false) (fun _=>false) [con83,con84,con60,con61,con85,con26] []
theorem F0_ok:EnvOk Try.prog F0:=envJOk zer_ok
structure FailOk (x:Ins) (s:List Rng) (a:Int):Prop where
  len:s.length≤1000000
  ok:OkS s.length s
  right:rightS x s.length=true
  ar:0≤a∧a≤1048576
set_option maxHeartbeats 8000000 in
theorem fails_pc {x:Ins} {s:List Rng} {ar:Int} (h:FailOk x s ar):PC Try.prog 43 [opV x,.sl false 2 (rgsV s),.lit (.int .i64 ar)] (.lit (.bool (failR x s ar))):=by
  obtain ⟨hl,hok,hr,ha1,ha2⟩:=h
  have hx:=right_regs hr
  have hrd:∀ n∈readsS x,0≤n∧n<s.length:=fun n hn=>reads_reg hr hn
  have hpl:=picked_len (x:=x) (s:=s)
  have hfi:=fits_is x.prim (pickedR x s)
  obtain ⟨k,p,a,b,c,d⟩:=x
  have gb:s.getD b.toNat nilR=gR s b:=rfl
  have ga:s.getD a.toNat nilR=gR s a:=rfl
  have xb:=hx.b
  have xc:=hx.c
  have xd:=hx.k2
  have xa:=hx.a
  simp only at xb xc xd xa hfi
  have ob:=hok.at b
  have oc:=hok.at c
  by_cases k2:k=2
  ·subst k2
   have hS:SumOk ⟨2,p,a,b,c,d⟩ s:=⟨hl,xb (by omega),xc (by omega),xd rfl,ob,oc⟩
   have e:failR ⟨2,p,a,b,c,d⟩ s ar= !decide ((sumR ⟨2,p,a,b,c,d⟩ s).within machR):=rfl
   rw [e]
   generalize hq:sumR ⟨2,p,a,b,c,d⟩ s=q
   obtain ⟨q,q'⟩:=q
   simp only [opV]
   refine pcR F0_ok (kp43) Try.func43 [.tmp 6] (h:=fun KF=>?_)
   unfold F0
   repeat' (first
    |(with_reducible first|refine nx ?_|refine t_seq fun K=>?_|refine t_br (fun hc=>?_) fun hc=>?_|refine t_bx ?_|apply And.intro|intro vr)
    |((with_reducible first|refine ny ?_|refine t_dwh (h:=fun K KL=>?_));intros;simp only [go_sem,kp43,geff,hq]))
   all_goals try exact nd
   all_goals (refine nl ?_;simp only [go_sem])
   exact LeA.refl _
  by_cases k5:k=5
  ·subst k5
   have e:failR ⟨5,p,a,b,c,d⟩ s ar= !fitsB p (pickedR ⟨5,p,a,b,c,d⟩ s):=by
     rw [hfi]
     show (fitsR p (pickedR ⟨5,p,a,b,c,d⟩ s)).isNone=_
     cases fitsR p (pickedR ⟨5,p,a,b,c,d⟩ s)<;>rfl
   rw [e]
   simp only [opV]
   refine pcR F0_ok (kp43) Try.func43 [.tmp 6] (h:=fun KF=>?_)
   unfold F0
   repeat' (first
    |(with_reducible first|refine nx ?_|refine t_seq fun K=>?_|refine t_br (fun hc=>?_) fun hc=>?_|refine t_bx ?_|apply And.intro|intro vr)
    |((with_reducible first|refine ny ?_|refine t_dwh (h:=fun K KL=>?_));intros;simp only [go_sem,kp43,geff]))
   all_goals try exact (hrd _ (by assumption)).1
   all_goals try exact (hrd _ (by assumption)).2
   all_goals try exact nd
   all_goals (refine nl ?_;simp only [go_sem])
   exact LeA.refl _
  by_cases k6:k=6
  ·subst k6
   have yb:=xb (by omega)
   have e:failR ⟨6,p,a,b,c,d⟩ s ar= !decide ((gR s b).within ⟨0,ar - 1⟩):=rfl
   rw [e]
   clear xb xc xd hx ob oc hrd hpl hr hok hfi
   generalize gR s b=q at gb
   obtain ⟨q,q'⟩:=q
   simp only [opV]
   refine pcR F0_ok (kp43) Try.func43 [.tmp 6] (h:=fun KF=>?_)
   unfold F0
   repeat' (first
    |(with_reducible first|refine nx ?_|refine t_seq fun K=>?_|refine t_br (fun hc=>?_) fun hc=>?_|refine t_bx ?_|apply And.intro|intro vr)
    |((with_reducible first|refine ny ?_|refine t_dwh (h:=fun K KL=>?_));intros;simp only [go_sem,kp43,geff,gb]))
   all_goals try exact nd
   all_goals (refine nl ?_;simp only [go_sem])
   exact LeA.refl _
  by_cases k7:k=7
  ·subst k7
   have yb:=xb (by omega)
   have ya:=xa (by omega)
   have e:failR ⟨7,p,a,b,c,d⟩ s ar=(!decide ((gR s a).within ⟨0,ar - 1⟩)|| !decide ((gR s b).within intsR)):=rfl
   rw [e]
   clear xb xc xd hx ob oc hrd hpl hr hok hfi
   generalize gR s b=q at gb
   generalize gR s a=r at ga
   obtain ⟨q,q'⟩:=q
   obtain ⟨r,r'⟩:=r
   simp only [opV]
   refine pcR F0_ok (kp43) Try.func43 [.tmp 6] (h:=fun KF=>?_)
   unfold F0
   repeat' (first
    |(with_reducible first|refine nx ?_|refine t_seq fun K=>?_|refine t_br (fun hc=>?_) fun hc=>?_|refine t_bx ?_|apply And.intro|intro vr)
    |((with_reducible first|refine ny ?_|refine t_dwh (h:=fun K KL=>?_));intros;simp only [go_sem,kp43,geff,ga,gb]))
   all_goals try exact nd
   all_goals (refine nl ?_;simp only [go_sem])
   exact LeA.refl _
  ·have e:failR ⟨k,p,a,b,c,d⟩ s ar=false:=by unfold failR;rw [if_neg k2,if_neg k5,if_neg k6,if_neg k7]
   have e2:(k==2)=false:=by simpa using k2
   have e5:(k==5)=false:=by simpa using k5
   have e6:(k==6)=false:=by simpa using k6
   have e7:(k==7)=false:=by simpa using k7
   rw [e]
   clear xb xc xd hx ob oc hrd hpl hr hok hfi
   simp only [opV]
   refine pcR F0_ok (kp43) Try.func43 [.tmp 6] (h:=fun KF=>?_)
   unfold F0
   repeat' (first
    |(with_reducible first|refine nx ?_|refine t_seq fun K=>?_|refine t_br (fun hc=>?_) fun hc=>?_|refine t_bx ?_|apply And.intro|intro vr)
    |((with_reducible first|refine ny ?_|refine t_dwh (h:=fun K KL=>?_));intros;simp only [go_sem,kp43,geff,e2,e5,e6,e7]))
   all_goals try exact nd
   all_goals (refine nl ?_;simp only [go_sem])
   exact LeA.refl _
noncomputable def con43:PCon Try.prog where
  f:=43
  c:=fun
   |[xx,xs,.lit (.int .i64 a)]=>match opOf xx,rngsOf xs with|some x,some s=>some (FailOk x s a,.lit (.bool (failR x s a)))|_,_=>none
   |_=>none
  ok:=by
   intro args p r hc hp
   split at hc
   ·split at hc
    ·rename_i hx hs
     cases hc
     exact PC.weak (fails_pc hp) ⟨opOf_le hx,rngsOf_le hs,LeA.refl _,trivial⟩
    ·cases hc
   ·cases hc
  fk:=fk43
theorem con43_f:con43.f=43:=rfl
theorem con43_c {xx:AV} {xs:AV} {a:Int}:con43.c [xx,xs,.lit (.int .i64 a)]=match opOf xx,rngsOf xs with|some x,some s=>some (FailOk x s a,.lit (.bool (failR x s a)))|_,_=>none:=rfl
attribute [go_sem] con43_f con43_c
def verG (B:Prg):List (List Rng)→Nat→Int×Int
  |[],_=>(B.ops.length,0)
  |s::l,i=>if s≠[]∧failR (B.ops.getD i nilI) s B.arena=true then (i,22) else verG B l (i+1)
noncomputable def verS (B:Prg):Int×Int:=if validS B=true then verG B (beforeL B) 0 else (0,1)
def erV (p:Int×Int):AV:= .tup [.lit (.int .i64 p.1),.lit (.int .i64 p.2)]
end Go.Proofs.Ytnlimcijgpaegaa

namespace Go.Proofs.Ytnlimcijgpaegaa
open Go Go.Fw Bm
set_option maxRecDepth 20000
theorem endV_inv {B:Prg} {mt:List Int} (hv:validS B=true) (hm:matchS B.ops=some mt) (hl:B.ops.length≤1000000):Ent B.regs.toNat (endV B mt).before∧((endV B mt).before=[]∨(endV B mt).before.length=B.ops.length):=by
  have hK:=wk_of hv hm hl
  have hcl:Cl B mt 0 B.ops.length:=⟨Int.le_refl _,Int.le_refl _,fun j j0 j1 j2=>(hK.nest.at j0 j1 j2).2.1⟩
  have hw0:PreW B B.regs.toNat (w0 B):=⟨by simp [w0],fun i l hl=>(by cases hl)⟩
  by_cases hE:EndV B mt
  ·obtain ⟨⟨t,w⟩,hr⟩:=hE
   rw [endV_eq hr]
   refine ⟨?_,.inr (vr_ok hK hr hcl (okS_beg B) hw0).2.len⟩
   obtain ⟨f,hf⟩:=hr
   refine vrun_ent hK.nest hK.rights f (.blk 0 B.ops.length) _ _ _ _ hf hcl (okS_beg B) hw0.hd (fun i v e=>by cases e) (fun j=>?_)
   left
   show (List.replicate B.ops.length ([]:List Rng)).getD j []=[]
   simp only [List.getD_eq_getElem?_getD,List.getElem?_replicate]
   split<;>rfl
  ·have:endV B mt=⟨[],[]⟩:=by unfold endV;rw [dif_neg hE]
   rw [this]
   exact ⟨fun j=> .inl (by simp),.inl rfl⟩
theorem wipeU_ent {n:Nat} {ops:List Ins} {l:List (List Rng)} {j:Nat} (h:Ent n l):Ent n (wipeU ops l j):=fun i=>by
  have e:(wipeU ops l j).getD i []=if i<j∧(cd ops i=12∨cd ops i=13) then [] else l.getD i []:=by
    simp only [wipeU,List.getD_eq_getElem?_getD,List.getElem?_mapIdx]
    cases l[i]? with
    |none=>simp
    |some a=>simp only [Option.map_some,Option.getD_some]
  rw [e]
  split
  ·exact .inl rfl
  ·exact h i
theorem before_inv {B:Prg} (hv:validS B=true) (hl:B.ops.length≤1000000):Ent B.regs.toNat (beforeL B)∧((beforeL B)=[]∨(beforeL B).length=B.ops.length):=by
  obtain ⟨_,_,⟨mt,hm⟩,_⟩:=valid_inv hv
  have e:beforeL B=wipeU B.ops (endV B mt).before B.ops.length:=by unfold beforeL;rw [hv,hm];rfl
  obtain ⟨h1,h2⟩:=endV_inv hv hm hl
  rw [e]
  refine ⟨wipeU_ent h1,?_⟩
  rcases h2 with h2|h2
  ·left;rw [h2];rfl
  ·right;rw [wipeU_len,h2]
theorem bfsV_at {l:List (List Rng)} {i:Nat} (h:i<l.length) (z:AV):(bfsV l).getD i z= .sl false 2 (rgsV (l.getD i [])):=by
  simp [bfsV,List.getD,h]
theorem drop_getL {l:List (List Rng)} {i:Nat} (h:i<l.length):l.drop i=l.getD i []::l.drop (i+1):=drop_getD _ h
noncomputable def F1:Env:=envJ (P:=Try.prog) jkR zer (fun _=>false) (fun _=>false) [con42,con19,con43] []
theorem F1_ok:EnvOk Try.prog F1:=envJOk zer_ok
set_option maxHeartbeats 8000000 in
theorem verify_pc {B:Prg} (h:OkB B∧B.ins.length≤100000∧B.outs.length≤100000):PC Try.prog 15 [bcV B] (erV (verS B)):=by
  obtain ⟨h,hi1,hi2⟩:=h
  have hO:=h.ops
  cases hv:validS B with
  |false=>
   have e:verS B=(0,1):=by unfold verS;rw [hv];rfl
   rw [e]
   simp only [bcV]
   refine pcR F1_ok (kp15) Try.func15 [.tmp 2,.tmp 3] (h:=fun KF=>?_)
   unfold F1
   repeat' (first
    |(with_reducible first|refine nx ?_|refine t_seq fun K=>?_|refine t_br (fun hc=>?_) fun hc=>?_|refine t_bx ?_|apply And.intro|intro vr)
    |((with_reducible first|refine ny ?_|refine t_dwh (h:=fun K KL=>?_));intros;simp only [go_sem,kp15,geff,bcOf_B,hv,Bool.not_false]))
   all_goals try exact nd
   all_goals (refine nl ?_;simp only [go_sem])
   exact LeA.refl _
  |true=>
   obtain ⟨v1,v2,_,hR,_,_⟩:=valid_inv hv
   obtain ⟨hE,hL⟩:=before_inv hv hO
   have e:verS B=verG B (beforeL B) 0:=by unfold verS;rw [hv];rfl
   rw [e]
   have hlen:(beforeL B).length≤B.ops.length:=by rcases hL with h|h<;>rw [h]<;>simp
   generalize hG:verG B (beforeL B) 0=G
   generalize hLe:beforeL B=L at hE hlen hG
   simp only [bcV]
   refine pcR F1_ok (kp15) Try.func15 [.tmp 2,.tmp 3] (h:=fun KF=>?_)
   unfold F1
   repeat' (first
    |(with_reducible first|refine nx ?_|refine t_seq fun K=>?_|refine t_br (fun hc=>?_) fun hc=>?_|refine t_bx ?_|apply And.intro|intro vr)
    |((with_reducible first|refine ny ?_|refine t_dwh (h:=fun K KL=>?_));intros;simp only [go_sem,kp15,geff,bcOf_B,hv,hLe,Bool.not_true]))
   all_goals try exact nd
   refine t_loopF (ι:={i:Nat // i≤L.length∧verG B (L.drop i) i=G}) (fun i=>[(12,.lit (.int .i64 i.1))]) (fun i=>[.box 45 [.lit (.int .i64 B.regs),.lit (.int .i64 B.arena),.sl false 6 (opsV B.ops),.sl false 2 (plsV B.ins),.sl false 2 (plsV B.outs),.sl false 3 (arrs B.types)]]) (fun i=>L.length - i.1) ⟨0,by omega,hG⟩ ?_ ?_
   ·exact lf
   rintro ⟨i,hi,hF⟩ K0
   rcases Nat.lt_or_ge i L.length with hc|hc
   ·have g3:decide ((i:Int)<(L.length:Int))=true:=decide_eq_true (by omega)
    have hat:=bfsV_at hc
    have hEi:=hE i
    rw [drop_getL hc,verG] at hF
    generalize hs:L.getD i []=s at hat hEi hF
    have hri:=hR i (by omega) (by omega)
    have hopi:B.ops.getD i nilI=B.op (i:Int):=rfl
    generalize hx:B.ops.getD i nilI=x at hF hopi
    rw [←hopi] at hri
    obtain ⟨q,p,a,b,c,d⟩:=x
    rcases hEi with rfl|hEi
    ·rw [if_neg (fun h=>h.1 rfl)] at hF
     have g0:decide ((((rgsV []).length:Nat):Int)>0)=false:=rfl
     have g0':decide ((0:Int)>0)=false:=rfl
     repeat' (first
      |(with_reducible first|refine nx ?_|refine t_seq fun K=>?_|refine t_br (fun hc=>?_) fun hc=>?_|refine t_bx ?_|apply And.intro|intro vr)
      |((with_reducible first|refine ny ?_|refine t_dwh (h:=fun K KL=>?_));intros;simp only [go_sem,kp15,geff,g3,hat,hx,g0,g0',rgsV_length,List.length_nil,Int.toNat_natCast,Int.natCast_zero,yes]))
     all_goals try exact nd
     exact ⟨⟨i+1,by omega,hF⟩,wf,lf⟩
    ·have hsl:=hEi.1
     by_cases hn:s=[]
     ·subst hn
      rw [if_neg (fun h=>h.1 rfl)] at hF
      have g0:decide ((((rgsV []).length:Nat):Int)>0)=false:=rfl
      have g0':decide ((0:Int)>0)=false:=rfl
      repeat' (first
       |(with_reducible first|refine nx ?_|refine t_seq fun K=>?_|refine t_br (fun hc=>?_) fun hc=>?_|refine t_bx ?_|apply And.intro|intro vr)
       |((with_reducible first|refine ny ?_|refine t_dwh (h:=fun K KL=>?_));intros;simp only [go_sem,kp15,geff,g3,hat,hx,g0,g0',rgsV_length,List.length_nil,Int.toNat_natCast,Int.natCast_zero,yes]))
      all_goals try exact nd
      exact ⟨⟨i+1,by omega,hF⟩,wf,lf⟩
     ·have hpos:0<s.length:=List.length_pos_iff.2 hn
      have g0:decide ((s.length:Int)>0)=true:=decide_eq_true (by omega)
      have hfo:FailOk ⟨q,p,a,b,c,d⟩ s B.arena:=⟨by omega,by rw [hsl];exact hEi,by rw [hsl];exact hri,v2⟩
      cases hf:failR ⟨q,p,a,b,c,d⟩ s B.arena with
      |true=>
       rw [if_pos ⟨hn,hf⟩] at hF
       subst hF
       repeat' (first
        |(with_reducible first|refine nx ?_|refine t_seq fun K=>?_|refine t_br (fun hc=>?_) fun hc=>?_|refine t_bx ?_|apply And.intro|intro vr)
        |((with_reducible first|refine ny ?_|refine t_dwh (h:=fun K KL=>?_));intros;simp only [go_sem,kp15,geff,g3,hat,hx,g0,hf,Int.toNat_natCast,yes]))
       all_goals try exact nd
       all_goals (refine nl ?_;simp only [go_sem])
       exact LeA.refl _
      |false=>
       rw [if_neg (fun h=>by rw [hf] at h;cases h.2)] at hF
       repeat' (first
        |(with_reducible first|refine nx ?_|refine t_seq fun K=>?_|refine t_br (fun hc=>?_) fun hc=>?_|refine t_bx ?_|apply And.intro|intro vr)
        |((with_reducible first|refine ny ?_|refine t_dwh (h:=fun K KL=>?_));intros;simp only [go_sem,kp15,geff,g3,hat,hx,g0,hf,Int.toNat_natCast,yes]))
       all_goals try exact nd
       exact ⟨⟨i+1,by omega,hF⟩,wf,lf⟩
   ·have g3:decide ((i:Int)<(L.length:Int))=false:=decide_eq_false (by omega)
    rw [List.drop_eq_nil_of_le hc,verG] at hF
    subst hF
    repeat' (first
     |(with_reducible first|refine nx ?_|refine t_seq fun K=>?_|refine t_br (fun hc=>?_) fun hc=>?_|refine t_bx ?_|apply And.intro|intro vr)
     |((with_reducible first|refine ny ?_|refine t_dwh (h:=fun K KL=>?_));intros;simp only [go_sem,kp15,geff,g3]))
    all_goals try exact nd
    all_goals (refine nl ?_;simp only [go_sem])
    exact LeA.refl _
noncomputable def con15:PCon Try.prog where
  f:=15
  c:=fun
   |[xB]=>match bcOf xB with|some B=>some ((OkB B∧B.ins.length≤100000∧B.outs.length≤100000),erV (verS B))|_=>none
   |_=>none
  ok:=by
   intro args p r hc hp
   split at hc
   ·split at hc
    ·rename_i hB
     cases hc
     exact PC.weak (verify_pc hp) ⟨bcOf_le hB,trivial⟩
    ·cases hc
   ·cases hc
  fk:=fk15
theorem con15_f:con15.f=15:=rfl
theorem con15_c {xB:AV}:con15.c [xB]=match bcOf xB with|some B=>some ((OkB B∧B.ins.length≤100000∧B.outs.length≤100000),erV (verS B))|_=>none:=rfl
theorem erV_def {p:Int×Int}:erV p= .tup [.lit (.int .i64 p.1),.lit (.int .i64 p.2)]:=rfl
attribute [go_sem] con15_f con15_c erV_def
end Go.Proofs.Ytnlimcijgpaegaa

namespace Go.Proofs.Ytnlimcijgpaegaa
open Go Go.Fw Bm
set_option maxRecDepth 20000
def e0:ByteArray:=⟨#[]⟩
def exOps:List Ins:=[⟨1,e0,0,0,0,0⟩,⟨1,e0,1,4,0,0⟩,⟨10,e0,2,0,1,1⟩,⟨6,e0,3,2,0,0⟩,⟨13,e0,0,0,0,0⟩]
def exB (a:Int):Prg:=⟨4,a,exOps,[],[],[]⟩
def exM:List Int:=[0,1,4,3,4]
def exW (a:Int):Option (List Rng×W):=vrun (exB a) exM 60 (.blk 0 5) (beg (exB a)) (w0 (exB a))
theorem ex_v4:validS (exB 4)=true:=by kernel_rfl
theorem ex_v3:validS (exB 3)=true:=by kernel_rfl
theorem ex_m:matchS exOps=some exM:=by kernel_rfl
def exL:List (List Rng):=[[⟨0,0⟩,⟨0,0⟩,⟨0,0⟩,⟨0,0⟩],[⟨0,0⟩,⟨0,0⟩,⟨0,0⟩,⟨0,0⟩],[⟨0,0⟩,⟨4,4⟩,⟨0,0⟩,⟨0,0⟩],[⟨0,0⟩,⟨4,4⟩,⟨0,3⟩,⟨-2147483648,2147483647⟩],[]]
theorem ex_l4:((exW 4).map fun p=>wipeU exOps p.2.before 5)=some exL:=by kernel_rfl
theorem ex_l3:((exW 3).map fun p=>wipeU exOps p.2.before 5)=some exL:=by kernel_rfl
theorem ex_bef {a:Int} (hv:validS (exB a)=true) (hl:((exW a).map fun p=>wipeU exOps p.2.before 5)=some exL):beforeL (exB a)=exL:=by
  cases hw:exW a with
  |none=>rw [hw] at hl;cases hl
  |some p=>
   rw [hw] at hl
   obtain ⟨t,w⟩:=p
   have hr:VR (exB a) exM (.blk 0 (exB a).ops.length) (beg (exB a)) (w0 (exB a)) t w:=⟨60,hw⟩
   have he:=endV_eq hr
   unfold beforeL
   rw [hv,if_pos rfl,show matchS (exB a).ops=some exM from ex_m]
   simp only
   rw [he]
   exact Option.some.inj hl
theorem ex_b4:beforeL (exB 4)=exL:=ex_bef ex_v4 ex_l4
theorem ex_b3:beforeL (exB 3)=exL:=ex_bef ex_v3 ex_l3
theorem ex_4:verS (exB 4)=(5,0):=by
  unfold verS;rw [ex_v4,if_pos rfl,ex_b4];kernel_rfl
theorem ex_3:verS (exB 3)=(3,22):=by
  unfold verS;rw [ex_v3,if_pos rfl,ex_b3];kernel_rfl
theorem ok_ex (a:Int):OkB (exB a)∧(exB a).ins.length≤100000∧(exB a).outs.length≤100000:=⟨⟨by simp [exB,exOps],by simp [exB],by simp [exB],by simp [exB],fun t ht=>by cases ht⟩,by simp [exB],by simp [exB]⟩
theorem ex_bc {a:Int}:bcOf (.agg [.lit (.int .i64 4),.lit (.int .i64 a),.sl true 6 [.agg [.lit (.int .i64 1),.lit (.string ByteArray.empty),.lit (.int .i64 0),.lit (.int .i64 0),.lit (.int .i64 0),.lit (.int .i64 0)],.agg [.lit (.int .i64 1),.lit (.string ByteArray.empty),.lit (.int .i64 1),.lit (.int .i64 4),.lit (.int .i64 0),.lit (.int .i64 0)],.agg [.lit (.int .i64 10),.lit (.string ByteArray.empty),.lit (.int .i64 2),.lit (.int .i64 0),.lit (.int .i64 1),.lit (.int .i64 1)],.agg [.lit (.int .i64 6),.lit (.string ByteArray.empty),.lit (.int .i64 3),.lit (.int .i64 2),.lit (.int .i64 0),.lit (.int .i64 0)],.agg [.lit (.int .i64 13),.lit (.string ByteArray.empty),.lit (.int .i64 0),.lit (.int .i64 0),.lit (.int .i64 0),.lit (.int .i64 0)]],.sl true 2 [],.sl true 2 [],.sl true 3 []])=some (exB a):=rfl
noncomputable def G0:Env:=envJ (P:=Try.prog) jkR zer (fun _=>false) (fun _=>false) [con10,con15,con19] []
theorem G0_ok:EnvOk Try.prog G0:=envJOk zer_ok
theorem exP:primV ⟨#[97,100,100]⟩ [⟨1,2⟩,⟨3,5⟩]= .tup [.agg [.lit (.int .i64 4),.lit (.int .i64 7)],.lit (.bool true)]:=by kernel_rfl
set_option maxHeartbeats 8000000 in
theorem awakeV_pc:PC Try.prog 9 [] (.lit (.bool true)):=by
  have o4:=(ok_ex 4).1
  have o3:=(ok_ex 3).1
  have i1:(exB 4).ins.length≤100000:=(ok_ex 4).2.1
  have i2:(exB 4).outs.length≤100000:=(ok_ex 4).2.2
  have i3:(exB 3).ins.length≤100000:=(ok_ex 3).2.1
  have i4:(exB 3).outs.length≤100000:=(ok_ex 3).2.2
  have hr2:rngL [.agg [.lit (.int .i64 1),.lit (.int .i64 2)],.agg [.lit (.int .i64 3),.lit (.int .i64 5)]]=some [⟨1,2⟩,⟨3,5⟩]:=rfl
  have hel:exL.length=5:=rfl
  have hat:∀ z,(bfsV exL).getD 3 z= .sl false 2 (rgsV [⟨0,0⟩,⟨4,4⟩,⟨0,3⟩,⟨-2147483648,2147483647⟩]):=fun _=>rfl
  have ha2:∀ z,(rgsV [⟨0,0⟩,⟨4,4⟩,⟨0,3⟩,⟨-2147483648,2147483647⟩]).getD 2 z= .agg [.lit (.int .i64 0),.lit (.int .i64 3)]:=fun _=>rfl
  refine pcR G0_ok (kp9) Try.func9 [.tmp 0] (h:=fun KF=>?_)
  unfold G0
  repeat' (first
   |(with_reducible first|refine nx ?_|refine t_seq fun K=>?_|refine t_br (fun hc=>?_) fun hc=>?_|refine t_bx ?_|apply And.intro|intro vr)
   |((with_reducible first|refine ny ?_|refine t_dwh (h:=fun K KL=>?_));intros;simp only [go_sem,kp9,geff,ex_bc,ex_4,ex_3,ex_b4,exP,hr2,rngsOf_sl2,hel,hat,ha2]))
  all_goals try exact nd
  all_goals (refine nl ?_;simp only [go_sem])
  exact LeA.of_eq rfl
noncomputable def con9:PCon Try.prog where
  f:=9
  c:=fun
   |[]=>some (True,.lit (.bool true))
   |_=>none
  ok:=by
   intro args p r hc hp
   split at hc
   ·cases hc;exact awakeV_pc
   ·cases hc
  fk:=fk9
theorem con9_f:con9.f=9:=rfl
theorem con9_c:con9.c []=some (True,.lit (.bool true)):=rfl
attribute [go_sem] con9_f con9_c
end Go.Proofs.Ytnlimcijgpaegaa

namespace Go.Proofs.Ytnlimcijgpaegaa
open Go Go.Fw Bm
set_option maxRecDepth 20000
theorem ft73:fieldTs Try.prog 73=[3,9,3,3,3,3]:=by kernel_rfl
theorem ft99:fieldTs Try.prog 99=[3,3]:=by kernel_rfl
theorem ft45:fieldTs Try.prog 45=[3,3,41,42,42,43]:=by kernel_rfl
theorem shv_op {x:AV} (h:ShV Try.prog 73 x):∃ o:Ins,x=opV o∧o.prim.size≤maxLen:=by
  obtain ⟨c,rfl,hc⟩:=shv_agg ag73 h
  obtain ⟨xss,h1,h2,h3⟩:=sh_fields (by simp) ft73 hc
  match xss,h2 with
  |[p,q,r,s,t,u],_=>
   obtain ⟨k,rfl,_⟩:=sh_int u3 (h3 0 3 p rfl rfl)
   obtain ⟨m,rfl,hm⟩:=sh_str u9 (h3 1 9 q rfl rfl)
   obtain ⟨a,rfl,_⟩:=sh_int u3 (h3 2 3 r rfl rfl)
   obtain ⟨b,rfl,_⟩:=sh_int u3 (h3 3 3 s rfl rfl)
   obtain ⟨c,rfl,_⟩:=sh_int u3 (h3 4 3 t rfl rfl)
   obtain ⟨d,rfl,_⟩:=sh_int u3 (h3 5 3 u rfl rfl)
   exact ⟨⟨k,m,a,b,c,d⟩,by rw [h1];rfl,hm⟩
theorem list_ops:∀ {ys:List AV},(∀ y∈ys,∃ o:Ins,y=opV o∧o.prim.size≤maxLen)→∃ l:List Ins,ys=opsV l∧∀ o∈l,o.prim.size≤maxLen
  |[],_=>⟨[],rfl,fun r h=>by cases h⟩
  |y::ys,h=>by
   obtain ⟨r,rfl,hr⟩:=h y (by simp)
   obtain ⟨l,rfl,hl⟩:=list_ops (ys:=ys) fun z hz=>h z (by simp [hz])
   exact ⟨r::l,rfl,fun q hq=>(List.mem_cons.1 hq).elim (fun e=>by rw [e];exact hr) (hl q)⟩
theorem shv_pl {x:AV} (h:ShV Try.prog 99 x):∃ o:Int×Int,x=plV o:=by
  obtain ⟨c,rfl,hc⟩:=shv_agg ag99 h
  obtain ⟨p,q,rfl,h1,h2⟩:=sh_two ft99 hc
  obtain ⟨a,rfl,_⟩:=sh_int u3 h1
  obtain ⟨b,rfl,_⟩:=sh_int u3 h2
  exact ⟨(a,b),rfl⟩
theorem list_pls:∀ {ys:List AV},(∀ y∈ys,∃ o:Int×Int,y=plV o)→∃ l:List (Int×Int),ys=plsV l
  |[],_=>⟨[],rfl⟩
  |y::ys,h=>by
   obtain ⟨r,rfl⟩:=h y (by simp)
   obtain ⟨l,rfl⟩:=list_pls (ys:=ys) fun z hz=>h z (by simp [hz])
   exact ⟨r::l,rfl⟩
structure ArgB (B:Prg):Prop where
  regs:inI64 B.regs
  arena:inI64 B.arena
  ops:B.ops.length≤maxLen
  prims:∀ o∈B.ops,o.prim.size≤maxLen
  ins:B.ins.length≤maxLen
  outs:B.outs.length≤maxLen
  types:B.types.length≤maxLen
  arr:∀ a∈B.types,okW a
theorem shv_bc {x:AV} (h:ShV Try.prog 45 x):∃ B:Prg,x=bcV B∧ArgB B:=by
  obtain ⟨c,rfl,hc⟩:=shv_agg ag45 h
  obtain ⟨xss,h1,h2,h3⟩:=sh_fields (by simp) ft45 hc
  have one:∀ {t:TypeId} {x:List AV},aggT Try.prog t=some false→Sh Try.prog t x→(∃ y,x=[y])→∃ y,x=[y]∧ShV Try.prog t y:=by
    rintro t x ha hs ⟨y,rfl⟩
    exact ⟨y,rfl,⟨[y],hs,by rw [mkV_one ha]⟩⟩
  match xss,h2 with
  |[p,q,r,s,t,u],_=>
   obtain ⟨k,rfl,wk⟩:=sh_int u3 (h3 0 3 p rfl rfl)
   obtain ⟨m,rfl,wm⟩:=sh_int u3 (h3 1 3 q rfl rfl)
   obtain ⟨os,rfl,ol,oy⟩:=sh_slice u41 (h3 2 41 r rfl rfl)
   obtain ⟨is,rfl,il,iy⟩:=sh_slice u42 (h3 3 42 s rfl rfl)
   obtain ⟨us,rfl,ul,uy⟩:=sh_slice u42 (h3 4 42 t rfl rfl)
   obtain ⟨ts,rfl,tl,ty⟩:=sh_slice u43 (h3 5 43 u rfl rfl)
   obtain ⟨o,rfl,ho⟩:=list_ops fun y hy=>shv_op (oy y hy)
   obtain ⟨i,rfl⟩:=list_pls fun y hy=>shv_pl (iy y hy)
   obtain ⟨v,rfl⟩:=list_pls fun y hy=>shv_pl (uy y hy)
   obtain ⟨w,rfl,hw⟩:=list_arrs fun y hy=>shv_arr (ty y hy)
   refine ⟨⟨k,m,o,i,v,w⟩,by rw [h1,sz73,sz99,sz96];rfl,wf_i64 wk,wf_i64 wm,?_,ho,?_,?_,?_,hw⟩
   ·simpa [opsV] using ol
   ·simpa [plsV] using il
   ·simpa [plsV] using ul
   ·simpa [arrs] using tl
def fewO (n:Int) (l:List Ins):Bool:=(l.all fun x=> !decide ((x.prim.size:Int)>20))&&decide ((l.length:Int)≤n)
def fewT (t:Arr):Bool:=decide ((t.d.length:Int)>8)||decide ((t.e.size:Int)>20)||decide ((t.x.length:Int)>20)
def smB (n:Int) (B:Prg):Bool:=(B.types.all fun t=> !fewT t)&&(fewO n B.ops&&decide ((B.ins.length:Int)≤6)&&decide ((B.outs.length:Int)≤6)&&decide ((B.types.length:Int)≤14))
noncomputable def H0:Env:=envJ (P:=Try.prog) jkR zer (fun _=>false) (fun _=>false) [] []
theorem H0_ok:EnvOk Try.prog H0:=envJOk zer_ok
set_option maxHeartbeats 4000000 in
theorem fewo_pc {l:List Ins} {n:Int} (hl:l.length≤maxLen) (hp:∀ o∈l,o.prim.size≤maxLen):PC Try.prog 76 [.sl false 6 (opsV l),.lit (.int .i64 n)] (.lit (.bool (fewO n l))):=by
  unfold maxLen at hl hp
  generalize hR:fewO n l=R
  unfold fewO at hR
  refine pcR H0_ok (kp76) Try.func76 [.tmp 4] (h:=fun KF=>?_)
  unfold H0
  repeat' (first
   |(with_reducible first|refine nx ?_|refine t_seq fun K=>?_|refine t_br (fun hc=>?_) fun hc=>?_|refine t_bx ?_|apply And.intro|intro vr)
   |((with_reducible first|refine ny ?_|refine t_dwh (h:=fun K KL=>?_));intros;simp only [go_sem,kp76,geff]))
  all_goals try exact nd
  refine t_loopF (ι:={i:Nat // i≤l.length∧(((l.drop i).all fun x=> !decide ((x.prim.size:Int)>20))&&decide ((l.length:Int)≤n))=R}) (fun i=>[(5,.lit (.int .i64 i.1))]) (fun i=>[]) (fun i=>l.length - i.1) ⟨0,by omega,hR⟩ ?_ ?_
  ·exact lf
  rintro ⟨i,hi,hF⟩ K0
  rcases Nat.lt_or_ge i l.length with hc|hc
  ·have g3:decide ((i:Int)<(l.length:Int))=true:=decide_eq_true (by omega)
   rw [drop_getI hc,List.all_cons] at hF
   have hps:=hp _ (show l.getD i nilI∈l by rw [List.getD_eq_getElem?_getD,List.getElem?_eq_getElem hc];exact List.getElem_mem _)
   generalize hx:l.getD i nilI=x at hF hps
   obtain ⟨q,p,a,b,c,d⟩:=x
   simp only at hF hps
   cases hb:decide ((p.size:Int)>20) with
   |true=>
    rw [hb] at hF
    repeat' (first
     |(with_reducible first|refine nx ?_|refine t_seq fun K=>?_|refine t_br (fun hc=>?_) fun hc=>?_|refine t_bx ?_|apply And.intro|intro vr)
     |((with_reducible first|refine ny ?_|refine t_dwh (h:=fun K KL=>?_));intros;simp only [go_sem,kp76,geff,g3,hx,hb,Int.toNat_natCast,yes]))
    all_goals try exact nd
    all_goals (refine nl ?_;simp only [go_sem])
    exact LeA.of_eq (by rw [←hF];rfl)
   |false=>
    rw [hb,Bool.not_false,Bool.true_and] at hF
    repeat' (first
     |(with_reducible first|refine nx ?_|refine t_seq fun K=>?_|refine t_br (fun hc=>?_) fun hc=>?_|refine t_bx ?_|apply And.intro|intro vr)
     |((with_reducible first|refine ny ?_|refine t_dwh (h:=fun K KL=>?_));intros;simp only [go_sem,kp76,geff,g3,hx,hb,Int.toNat_natCast,yes]))
    all_goals try exact nd
    exact ⟨⟨i+1,by omega,hF⟩,wf,lf⟩
  ·have g3:decide ((i:Int)<(l.length:Int))=false:=decide_eq_false (by omega)
   rw [List.drop_eq_nil_of_le hc] at hF
   repeat' (first
    |(with_reducible first|refine nx ?_|refine t_seq fun K=>?_|refine t_br (fun hc=>?_) fun hc=>?_|refine t_bx ?_|apply And.intro|intro vr)
    |((with_reducible first|refine ny ?_|refine t_dwh (h:=fun K KL=>?_));intros;simp only [go_sem,kp76,geff,g3]))
   all_goals try exact nd
   all_goals (refine nl ?_;simp only [go_sem])
   exact LeA.of_eq (by rw [←hF];rfl)
theorem fewo_pc2 {l:List Ins} {n:Int} (h:l.length≤maxLen∧∀ o∈l,o.prim.size≤maxLen):PC Try.prog 76 [.sl false 6 (opsV l),.lit (.int .i64 n)] (.lit (.bool (fewO n l))):=fewo_pc h.1 h.2
noncomputable def con76:PCon Try.prog where
  f:=76
  c:=fun
   |[xl,.lit (.int .i64 n)]=>match opsOf xl with|some l=>some ((l.length≤maxLen∧∀ o∈l,o.prim.size≤maxLen),.lit (.bool (fewO n l)))|_=>none
   |_=>none
  ok:=by
   intro args p r hc hp
   split at hc
   ·split at hc
    ·rename_i hl
     cases hc
     exact PC.weak (fewo_pc2 hp) ⟨opsOf_le hl,LeA.refl _,trivial⟩
    ·cases hc
   ·cases hc
  fk:=fk76
theorem con76_f:con76.f=76:=rfl
theorem con76_c {xl:AV} {n:Int}:con76.c [xl,.lit (.int .i64 n)]=match opsOf xl with|some l=>some ((l.length≤maxLen∧∀ o∈l,o.prim.size≤maxLen),.lit (.bool (fewO n l)))|_=>none:=rfl
attribute [go_sem] con76_f con76_c
noncomputable def H1:Env:=envJ (P:=Try.prog) jkR zer (fun _=>false) (fun _=>false) [con76] []
theorem H1_ok:EnvOk Try.prog H1:=envJOk zer_ok
set_option maxHeartbeats 4000000 in
theorem sm_pc {B:Prg} {n:Int} (h:ArgB B):PC Try.prog 38 [bcV B,.lit (.int .i64 n)] (.lit (.bool (smB n B))):=by
  obtain ⟨_,_,ho,hp,hi,hu,ht,ha⟩:=h
  have ht':=ht
  have hi':=hi
  have hu':=hu
  unfold maxLen at ht' hi' hu'
  generalize hR:smB n B=R
  unfold smB at hR
  simp only [bcV]
  refine pcR H1_ok (kp38) Try.func38 [.tmp 4] (h:=fun KF=>?_)
  unfold H1
  repeat' (first
   |(with_reducible first|refine nx ?_|refine t_seq fun K=>?_|refine t_br (fun hc=>?_) fun hc=>?_|refine t_bx ?_|apply And.intro|intro vr)
   |((with_reducible first|refine ny ?_|refine t_dwh (h:=fun K KL=>?_));intros;simp only [go_sem,kp38,geff]))
  all_goals try exact nd
  refine t_loopF (ι:={i:Nat // i≤B.types.length∧(((B.types.drop i).all fun t=> !fewT t)&&(fewO n B.ops&&decide ((B.ins.length:Int)≤6)&&decide ((B.outs.length:Int)≤6)&&decide ((B.types.length:Int)≤14)))=R}) (fun i=>[(5,.lit (.int .i64 i.1))]) (fun i=>[.box 45 [.lit (.int .i64 B.regs),.lit (.int .i64 B.arena),.sl false 6 (opsV B.ops),.sl false 2 (plsV B.ins),.sl false 2 (plsV B.outs),.sl false 3 (arrs B.types)]]) (fun i=>B.types.length - i.1) ⟨0,by omega,hR⟩ ?_ ?_
  ·exact lf
  rintro ⟨i,hi2,hF⟩ K0
  rcases Nat.lt_or_ge i B.types.length with hc|hc
  ·have g3:decide ((i:Int)<(B.types.length:Int))=true:=decide_eq_true (by omega)
   rw [drop_getD nilA hc,List.all_cons] at hF
   generalize hx:B.types.getD i nilA=x at hF
   obtain ⟨e,d,x⟩:=x
   have hpy:arrV ⟨e,d,x⟩= .agg [.lit (.string e),.sl false 1 (ints .i64 d),.sl false 1 (ints .i64 x)]:=rfl
   have hfe:(decide ((d.length:Int)>8)||decide ((e.size:Int)>20)||decide ((x.length:Int)>20))=fewT ⟨e,d,x⟩:=rfl
   cases hb:fewT ⟨e,d,x⟩ with
   |true=>
    rw [hb] at hF hfe
    repeat' (first
     |(with_reducible first|refine nx ?_|refine t_seq fun K=>?_|refine t_br (fun hc=>?_) fun hc=>?_|refine t_bx ?_|apply And.intro|intro vr)
     |((with_reducible first|refine ny ?_|refine t_dwh (h:=fun K KL=>?_));intros;simp only [go_sem,kp38,geff,g3,hx,hpy,ints_length,hfe,Int.toNat_natCast,yes]))
    all_goals try exact nd
    all_goals (refine nl ?_;simp only [go_sem])
    exact LeA.of_eq (by rw [←hF];rfl)
   |false=>
    rw [hb,Bool.not_false,Bool.true_and] at hF
    rw [hb] at hfe
    repeat' (first
     |(with_reducible first|refine nx ?_|refine t_seq fun K=>?_|refine t_br (fun hc=>?_) fun hc=>?_|refine t_bx ?_|apply And.intro|intro vr)
     |((with_reducible first|refine ny ?_|refine t_dwh (h:=fun K KL=>?_));intros;simp only [go_sem,kp38,geff,g3,hx,hpy,ints_length,hfe,Int.toNat_natCast,yes]))
    all_goals try exact nd
    exact ⟨⟨i+1,by omega,hF⟩,wf,lf⟩
  ·have g3:decide ((i:Int)<(B.types.length:Int))=false:=decide_eq_false (by omega)
   rw [List.drop_eq_nil_of_le hc] at hF
   repeat' (first
    |(with_reducible first|refine nx ?_|refine t_seq fun K=>?_|refine t_br (fun hc=>?_) fun hc=>?_|refine t_bx ?_|apply And.intro|intro vr)
    |((with_reducible first|refine ny ?_|refine t_dwh (h:=fun K KL=>?_));intros;simp only [go_sem,kp38,geff,g3]))
   all_goals try exact hp _ (by assumption)
   all_goals try exact nd
   all_goals (refine nl ?_;simp only [go_sem])
   exact LeA.of_eq (by rw [←hF];rfl)
noncomputable def con38:PCon Try.prog where
  f:=38
  c:=fun
   |[xB,.lit (.int .i64 n)]=>match bcOf xB with|some B=>some (ArgB B,.lit (.bool (smB n B)))|_=>none
   |_=>none
  ok:=by
   intro args p r hc hp
   split at hc
   ·split at hc
    ·rename_i hB
     cases hc
     exact PC.weak (sm_pc hp) ⟨bcOf_le hB,LeA.refl _,trivial⟩
    ·cases hc
   ·cases hc
  fk:=fk38
theorem con38_f:con38.f=38:=rfl
theorem con38_c {xB:AV} {n:Int}:con38.c [xB,.lit (.int .i64 n)]=match bcOf xB with|some B=>some (ArgB B,.lit (.bool (smB n B)))|_=>none:=rfl
attribute [go_sem] con38_f con38_c
noncomputable def H2:Env:=envJ (P:=Try.prog) jkR zer (fun _=>false) (fun _=>false) [con38] []
theorem H2_ok:EnvOk Try.prog H2:=envJOk zer_ok
def smallS (B:Prg):Bool:=smB 30 B&&decide (B.regs≤20)&&decide (B.arena≤1000)
theorem small_pc {B:Prg} (h:ArgB B):PC Try.prog 13 [bcV B] (.lit (.bool (smallS B))):=by
  simp only [bcV]
  refine pcR H2_ok (kp13) Try.func13 [.tmp 2] (h:=fun KF=>?_)
  unfold H2
  repeat' (first
   |(with_reducible first|refine nx ?_|refine t_seq fun K=>?_|refine t_br (fun hc=>?_) fun hc=>?_|refine t_bx ?_|apply And.intro|intro vr)
   |((with_reducible first|refine ny ?_|refine t_dwh (h:=fun K KL=>?_));intros;simp only [go_sem,kp13,geff,bcOf_B]))
  all_goals try exact nd
  all_goals (refine nl ?_;simp only [go_sem])
  exact LeA.refl _
noncomputable def con13:PCon Try.prog where
  f:=13
  c:=fun
   |[xB]=>match bcOf xB with|some B=>some (ArgB B,.lit (.bool (smallS B)))|_=>none
   |_=>none
  ok:=by
   intro args p r hc hp
   split at hc
   ·split at hc
    ·rename_i hB
     cases hc
     exact PC.weak (small_pc hp) ⟨bcOf_le hB,trivial⟩
    ·cases hc
   ·cases hc
  fk:=fk13
theorem con13_f:con13.f=13:=rfl
theorem con13_c {xB:AV}:con13.c [xB]=match bcOf xB with|some B=>some (ArgB B,.lit (.bool (smallS B)))|_=>none:=rfl
attribute [go_sem] con13_f con13_c
theorem small_inv {B:Prg} (h:smallS B=true):OkB B∧B.ins.length≤6∧B.outs.length≤6∧B.ops.length≤30∧B.regs≤20∧B.arena≤1000:=by
  simp only [smallS,smB,fewO,Bool.and_eq_true,decide_eq_true_eq] at h
  obtain ⟨⟨⟨h1,⟨⟨⟨h2,h3⟩,h4⟩,h5⟩,h6⟩,h7⟩,h8⟩:=h
  refine ⟨⟨by omega,by omega,by omega,by omega,fun t ht=>?_⟩,by omega,by omega,by omega,h7,h8⟩
  rw [List.all_eq_true] at h1
  have:=h1 t ht
  simp only [fewT,Bool.not_eq_true',Bool.or_eq_false_iff,decide_eq_false_iff_not] at this
  exact ⟨by omega,by omega⟩
end Go.Proofs.Ytnlimcijgpaegaa

namespace Go.Proofs.Ytnlimcijgpaegaa.Bm
open Go.Proofs.Ytnlimcijgpaegaa
open Go Go.Fw
def ez (z l:List Rng):List Rng:=if l=[] then [] else l++z
def extW (z:List Rng) (w:W):W:=⟨w.before.map (ez z),w.heads.map fun e=>(e.1,e.2++z)⟩
structure Zs (z:List Rng):Prop where
  nil:∀ r∈z,r=nilR
theorem Zs.zip {z:List Rng} (h:Zs z) (f:Rng→Rng→Rng) (hf:f nilR nilR=nilR):List.zipWith f z z=z:=by
  have key:∀ z:List Rng,(∀ r∈z,r=nilR)→List.zipWith f z z=z:=fun z=>by
    induction z with
    |nil=>intro _;rfl
    |cons a z ih=>
     intro h
     rw [List.zipWith_cons_cons,ih (fun r hr=>h r (List.mem_cons_of_mem _ hr)),h a (List.mem_cons_self ..),hf]
  exact key z h.nil
theorem ez_ne {z l:List Rng} (h:l≠[]):ez z l=l++z:=by unfold ez;rw [if_neg h]
section
variable {n:Nat} {z:List Rng}
theorem gR_ext {s:List Rng} {i:Int} (h:i<s.length) (h0:0≤i):gR (s++z) i=gR s i:=by
  unfold gR
  rw [List.getD_eq_getElem?_getD,List.getElem?_append_left (by omega),←List.getD_eq_getElem?_getD]
theorem withR_ext {s:List Rng} {i:Int} {x:Rng} (h:i<s.length) (h0:0≤i):withR (s++z) i x=withR s i x++z:=by
  unfold withR
  rw [List.set_append_left _ _ (by omega)]
theorem grown_ext {s t:List Rng} (hz:Zs z) (h:s.length=t.length):grownR (s++z) (t++z)=grownR s t++z:=by
  unfold grownR
  rw [List.zipWith_append h,hz.zip growR (by decide)]
theorem hulls_ext {s t:List Rng} (hz:Zs z) (h:s.length=t.length):List.zipWith hullR (s++z) (t++z)=List.zipWith hullR s t++z:=by
  rw [List.zipWith_append h,hz.zip hullR (by decide)]
theorem picked_ext {x:Ins} {s:List Rng} (h:∀ m∈readsS x,0≤m∧m<s.length):pickedR x (s++z)=pickedR x s:=by
  unfold pickedR
  exact List.map_congr_left fun m hm=>gR_ext (h m hm).2 (h m hm).1
theorem sum_ext {x:Ins} {s:List Rng} (hb:0≤x.b∧x.b<s.length) (hc:0≤x.c∧x.c<s.length):sumR x (s++z)=sumR x s:=by
  unfold sumR
  rw [gR_ext hb.2 hb.1,gR_ext hc.2 hc.1]
theorem result_ext {x:Ins} {s:List Rng} (hr:rightS x s.length=true):resultR x (s++z)=resultR x s:=by
  have hx:=right_regs hr
  have hrd:∀ m∈readsS x,0≤m∧m<s.length:=fun m hm=>reads_reg hr hm
  unfold resultR
  by_cases c1:x.code=1
  ·rw [if_pos c1,if_pos c1]
  rw [if_neg c1,if_neg c1]
  by_cases c2:x.code=2
  ·rw [if_pos c2,if_pos c2,sum_ext (hx.b (by omega)) (hx.c (by omega))]
  rw [if_neg c2,if_neg c2]
  by_cases c3:x.code=3
  ·rw [if_pos c3,if_pos c3,gR_ext (hx.b (by omega)).2 (hx.b (by omega)).1,gR_ext (hx.c (by omega)).2 (hx.c (by omega)).1]
  rw [if_neg c3,if_neg c3]
  by_cases c4:x.code=4
  ·rw [if_pos c4,if_pos c4,gR_ext (hx.b (by omega)).2 (hx.b (by omega)).1,gR_ext (hx.c (by omega)).2 (hx.c (by omega)).1]
  rw [if_neg c4,if_neg c4]
  by_cases c5:x.code=5
  ·rw [if_pos c5,if_pos c5,picked_ext hrd]
  rw [if_neg c5,if_neg c5]
  by_cases c6:x.code=14
  ·rw [if_pos c6,if_pos c6,gR_ext (hx.b (by omega)).2 (hx.b (by omega)).1]
  rw [if_neg c6,if_neg c6]
theorem fail_ext {x:Ins} {s:List Rng} {a b:Int} (hr:rightS x s.length=true) (hab:a≤b) (h:failR x s a=false):failR x (s++z) b=false:=by
  have hx:=right_regs hr
  have hrd:∀ m∈readsS x,0≤m∧m<s.length:=fun m hm=>reads_reg hr hm
  unfold failR at h ⊢
  by_cases c2:x.code=2
  ·rw [if_pos c2] at h ⊢
   rw [sum_ext (hx.b (by omega)) (hx.c (by omega))];exact h
  rw [if_neg c2] at h ⊢
  by_cases c5:x.code=5
  ·rw [if_pos c5] at h ⊢
   rw [picked_ext hrd];exact h
  rw [if_neg c5] at h ⊢
  have mono:∀ {r:Rng},r.within ⟨0,a - 1⟩→r.within ⟨0,b - 1⟩:=fun {r} k=>⟨k.1,by have:=k.2;simp only at this ⊢;omega⟩
  by_cases c6:x.code=6
  ·rw [if_pos c6] at h ⊢
   rw [gR_ext (hx.b (by omega)).2 (hx.b (by omega)).1]
   rw [Bool.not_eq_false',decide_eq_true_eq] at h ⊢
   exact mono h
  rw [if_neg c6] at h ⊢
  by_cases c7:x.code=7
  ·rw [if_pos c7] at h ⊢
   rw [gR_ext (hx.b (by omega)).2 (hx.b (by omega)).1,gR_ext (hx.a (by omega)).2 (hx.a (by omega)).1]
   rw [Bool.or_eq_false_iff,Bool.not_eq_false',Bool.not_eq_false',decide_eq_true_eq,decide_eq_true_eq] at h ⊢
   exact ⟨mono h.1,h.2⟩
  rw [if_neg c7]
theorem wipe_map {l:List (List Rng)} {i to:Int}:(wipe l i to).map (ez z)=wipe (l.map (ez z)) i to:=by
  apply List.ext_getElem?
  intro k
  simp only [wipe,List.getElem?_map,List.getElem?_mapIdx]
  cases l[k]? with
  |none=>rfl
  |some a=>simp only [Option.map_some];split<;>rfl
theorem set_map {l:List (List Rng)} {i:Nat} {s:List Rng} (h:s≠[]):(l.set i s).map (ez z)=(l.map (ez z)).set i (s++z):=by
  rw [List.map_set,ez_ne h]
theorem look_map {l:List (Int×List Rng)} {i:Int}:lookH (l.map fun e=>(e.1,e.2++z)) i=(lookH l i).map (·++z):=by
  induction l with
  |nil=>rfl
  |cons e l ih=>
   simp only [List.map_cons,lookH]
   split
   ·rfl
   ·exact ih
theorem put_map {l:List (Int×List Rng)} {i:Int} {s:List Rng}:(putH l i s).map (fun e=>(e.1,e.2++z))=putH (l.map fun e=>(e.1,e.2++z)) i (s++z):=by
  induction l with
  |nil=>rfl
  |cons e l ih=>
   simp only [List.map_cons,putH]
   split
   ·rfl
   ·rw [List.map_cons,ih]
end
variable {B B':Prg} {mt:List Int}
theorem vrun_ext (hN:Nest B.ops mt) {n:Nat} (hR:Rights B n) (hn:0<n) {z:List Rng} (hz:Zs z) (hB:∀ i,B'.op i=B.op i):
    ∀ (f:Nat) (tk:VTk) (s:List Rng) (w:W),tk.ok B mt→OkS n s→HOk n w→(∀ i v,tk= .lop i v→OkR v)→
      ∀ (t:List Rng) (w':W),vrun B mt f tk s w=some (t,w')→vrun B' mt f tk (s++z) (extW z w)=some (t++z,extW z w')
  |0,_,_,_,_,_,_,_,_,_,h=>by simp [vrun] at h
  |f+1,.blk i to,s,w,hk,hs,hw,_,t,w',h=>by
   have hk':Cl B mt i to:=hk
   have hsl:=hs.1
   have hsn:s≠[]:=fun e=>by subst e;simp at hsl;omega
   by_cases hi:i<to
   ·have hlt:i<B.ops.length:=by have:=hk'.2.1;omega
    have hright:=hR i hk'.1 hlt
    have hx:=right_regs hright
    have e0:({extW z w with before:=(extW z w).before.set i.toNat (s++z)}:W)=extW z {w with before:=w.before.set i.toNat s}:=by
      unfold extW;simp only;rw [set_map hsn]
    rcases step1_of h hi with ⟨yes,no,w1,w2,t1,hc,h1,h2,h3,h4⟩|⟨hc,hv,h1⟩|⟨t1,w1,hc,hv,h1,h2⟩|⟨c1,c2,h3⟩
    ·obtain ⟨k1,k2,k3,_,k5,_⟩:=hN.end_ hk' hi hc
     have hin:=hN.inner hk'.1 hlt (.inr (.inl hc))
     have ha:=hx.a (.inr hc)
     have hga:gR (s++z) (B.op i).a=gR s (B.op i).a:=gR_ext (by omega) ha.1
     have p1:partV (vrun B' mt f) (i+1) (gt mt i) (s++z) (B.op i).a ⟨maxI (gR s (B.op i).a).lo 0,(gR s (B.op i).a).hi⟩ (extW z {w with before:=w.before.set i.toNat s})=some (yes.map (·++z),extW z w1)∧(∀ l,yes=some l→OkS n l)∧HOk n w1:=by
       rcases part_inv h1 with ⟨hx0,rfl,rfl⟩|⟨hx0,u,rfl,hr⟩
       ·refine ⟨?_,(by intro l h;cases h),hw⟩
        unfold partV;rw [if_pos hx0]
        unfold extW;simp only [wipe_map];rfl
       ·have hx1:=hs.with (i:=(B.op i).a) (ok_yes (hs.at _) hx0)
        obtain ⟨q1,q2⟩:=vrun_ok hN hR f (.blk (i+1) (gt mt i)) _ _ _ _ hr hin hx1 hw (by intro i v h;cases h)
        refine ⟨?_,(by intro l h;cases h;exact q1),q2⟩
        unfold partV;rw [if_neg hx0,withR_ext (by omega) ha.1]
        rw [vrun_ext hN hR hn hz hB f (.blk (i+1) (gt mt i)) _ {w with before:=w.before.set i.toNat s} hin hx1 hw (by intro i v h;cases h) _ _ hr];rfl
     obtain ⟨p1,y1,y2⟩:=p1
     have p2:partV (vrun B' mt f) (minI (gt mt i+1) (gt mt (gt mt i))) (gt mt (gt mt i)) (s++z) (B.op i).a ⟨(gR s (B.op i).a).lo,minI (gR s (B.op i).a).hi (-1)⟩ (extW z w1)=some (no.map (·++z),extW z w2)∧(∀ l,no=some l→OkS n l)∧HOk n w2:=by
       rcases part_inv h2 with ⟨hx0,rfl,rfl⟩|⟨hx0,u,rfl,hr⟩
       ·refine ⟨?_,(by intro l h;cases h),y2⟩
        unfold partV;rw [if_pos hx0]
        unfold extW;simp only [wipe_map];rfl
       ·have hx1:=hs.with (i:=(B.op i).a) (ok_no (hs.at _) hx0)
        obtain ⟨q1,q2⟩:=vrun_ok hN hR f (.blk _ _) _ _ _ _ hr k5 hx1 y2 (by intro i v h;cases h)
        refine ⟨?_,(by intro l h;cases h;exact q1),q2⟩
        unfold partV;rw [if_neg hx0,withR_ext (by omega) ha.1]
        rw [vrun_ext hN hR hn hz hB f (.blk _ _) _ _ k5 hx1 y2 (by intro i v h;cases h) _ _ hr];rfl
     obtain ⟨p2,z1,z2⟩:=p2
     have ph:hullsR (yes.map (·++z)) (no.map (·++z))=some (t1++z):=by
       cases yes with
       |none=>cases no with
        |none=>cases h3
        |some b=>cases h3;rfl
       |some a=>cases no with
        |none=>cases h3;rfl
        |some b=>
         cases h3
         show some (List.zipWith hullR (a++z) (b++z))=_
         rw [hulls_ext hz (by rw [(y1 a rfl).1,(z1 b rfl).1])]
     rw [vrun,if_pos hi]
     simp only [e0,hB]
     rw [if_pos hc,hga,p1]
     simp only
     rw [p2]
     simp only
     rw [ph]
     exact vrun_ext hN hR hn hz hB f (.blk _ _) _ _ (hk'.next (by omega)) (hulls_ok h3 y1 z1) z2 (by intro i v h;cases h) _ _ h4
    ·obtain ⟨k1,_,_,_⟩:=hN.at hk'.1 hlt (.inl hc)
     have hb:=hx.b (by omega)
     have hcc:=hx.c (by omega)
     have e1:({before:=wipe ((extW z w).before.set i.toNat (s++z)) (i+1) (gt mt i),heads:=(extW z w).heads}:W)=extW z {w with before:=wipe (w.before.set i.toNat s) (i+1) (gt mt i)}:=by
       unfold extW;simp only;rw [wipe_map,set_map hsn]
     rw [vrun,if_pos hi]
     simp only [e0,hB]
     rw [if_neg (by omega),if_pos hc,gR_ext (by omega) hb.1,gR_ext (by omega) hcc.1,if_pos hv,e1]
     exact vrun_ext hN hR hn hz hB f (.blk _ _) _ {w with before:=wipe (w.before.set i.toNat s) (i+1) (gt mt i)} (hk'.next (j:=gt mt i+1) (by omega)) hs hw (by intro i v h;cases h) _ _ h1
    ·obtain ⟨k1,_,_,_⟩:=hN.at hk'.1 hlt (.inl hc)
     have hb:=hx.b (by omega)
     have hcc:=hx.c (by omega)
     have hh:OkS n ((lookH w.heads i).getD s):=by
       cases e:lookH w.heads i with
       |none=>exact hs
       |some l=>exact hw i l e
     have ob:=hs.at (B.op i).b
     have oc:=hs.at (B.op i).c
     have hvv:∀ (j:Int) (v:Rng),VTk.lop i ⟨(gR s (B.op i).b).lo,(gR s (B.op i).c).hi - 1⟩= .lop j v→OkR v:=by
       intro j v hj
       cases hj
       obtain ⟨b1,b2,b3⟩:=ob
       obtain ⟨c1,c2,c3⟩:=oc
       refine ⟨?_,?_,?_⟩<;>simp only [machR,maxC] at* <;>omega
     obtain ⟨q1,q2⟩:=vrun_ok hN hR f (.lop i _) _ _ _ _ h1 ⟨hk'.1,hlt,hc⟩ (hh.grown hs) hw hvv
     have eh:grownR ((lookH (extW z w).heads i).getD (s++z)) (s++z)=grownR ((lookH w.heads i).getD s) s++z:=by
       unfold extW
       simp only [look_map]
       cases e:lookH w.heads i with
       |none=>exact grown_ext hz rfl
       |some l=>
        have:=hw i l e
        exact grown_ext hz (by rw [this.1,hsl])
     rw [vrun,if_pos hi]
     simp only [e0,hB]
     rw [if_neg (by omega),if_pos hc,gR_ext (by omega) hb.1,gR_ext (by omega) hcc.1,if_neg hv]
     rw [eh]
     rw [vrun_ext hN hR hn hz hB f (.lop i _) _ {w with before:=w.before.set i.toNat s} ⟨hk'.1,hlt,hc⟩ (hh.grown hs) hw hvv _ _ h1]
     exact vrun_ext hN hR hn hz hB f (.blk _ _) _ _ (hk'.next (by omega)) q1 q2 (by intro i v h;cases h) _ _ h2
    ·rw [vrun,if_pos hi]
     simp only [e0,hB]
     rw [if_neg c2,if_neg c1]
     have er:(if wrtB (B.op i).code=true then withR (s++z) (B.op i).a (resultR (B.op i) (s++z)) else s++z)=(if wrtB (B.op i).code=true then withR s (B.op i).a (resultR (B.op i) s) else s)++z:=by
       split
       ·rename_i hwb
        have ha:=hx.w hwb
        rw [result_ext (by rw [hsl];exact hright),withR_ext (by omega) ha.1]
       ·rfl
     rw [er]
     refine vrun_ext hN hR hn hz hB f (.blk _ _) _ {w with before:=w.before.set i.toNat s} (hk'.next (j:=i+1) (by omega)) ?_ hw (by intro i v h;cases h) _ _ h3
     split
     ·exact hs.with (okR_result hs hx)
     ·exact hs
   ·simp only [vrun] at h
    rw [if_neg hi] at h
    cases h
    rw [vrun,if_neg hi]
  |f+1,.lop i v,s,w,hk,hs,hw,hv,t,w',h=>by
   obtain ⟨h0,h1,hc⟩:=hk
   have hin:=hN.inner h0 h1 (.inl hc)
   have hsl:=hs.1
   have ha:=(right_regs (hR i h0 h1)).w (by rw [hc];rfl)
   have hp:HOk n {w with heads:=putH w.heads i s}:=by
     intro j l hj
     simp only [lookH_put] at hj
     split at hj
     ·cases hj;exact hs
     ·exact hw j l hj
   have e0:({extW z w with heads:=putH (extW z w).heads i (s++z)}:W)=extW z {w with heads:=putH w.heads i s}:=by
     unfold extW;simp only;rw [put_map]
   simp only [vrun] at h
   split at h
   ·rename_i t1 w1 hr
    obtain ⟨q1,q2⟩:=vrun_ok hN hR f (.blk (i+1) (gt mt i)) _ _ _ _ hr hin (hs.with (hv i v rfl)) hp (by intro i v h;cases h)
    have r1:=vrun_ext hN hR hn hz hB f (.blk (i+1) (gt mt i)) _ _ hin (hs.with (hv i v rfl)) hp (by intro i v h;cases h) _ _ hr
    have eg:grownR (s++z) (t1++z)=grownR s t1++z:=grown_ext hz (by rw [hsl,q1.1])
    rw [vrun,hB,e0,withR_ext (by omega) ha.1,r1]
    simp only
    split at h
    ·rename_i hg
     cases h
     rw [if_pos (by rw [eg,hg])]
    ·rename_i hg
     rw [if_neg (by rw [eg];exact fun e=>hg (List.append_cancel_right e)),eg]
     exact vrun_ext hN hR hn hz hB f (.lop i v) _ _ ⟨h0,h1,hc⟩ (hs.grown q1) q2 hv _ _ h
   ·cases h
end Go.Proofs.Ytnlimcijgpaegaa.Bm

namespace Go.Proofs.Ytnlimcijgpaegaa.Bm
open Go.Proofs.Ytnlimcijgpaegaa
open Go Go.Fw
variable {B:Prg} {mt:List Int}
theorem hok_put' {n:Nat} {w:W} {i:Int} {s:List Rng} (h:HOk n w) (hs:OkS n s):HOk n {w with heads:=putH w.heads i s}:=fun j l hl=>by
  rw [lookH_put] at hl
  split at hl
  ·cases hl;exact hs
  ·exact h j l hl
theorem vr_ok' (hN:Nest B.ops mt) {n:Nat} (hR:Rights B n) {i to:Int} {s t:List Rng} {w w':W} (h:VR B mt (.blk i to) s w t w') (hc:Cl B mt i to) (hs:OkS n s) (hw:HOk n w):OkS n t∧HOk n w':=by
  obtain ⟨f,hf⟩:=h
  exact vrun_ok hN hR f (.blk i to) _ _ _ _ hf hc hs hw (by intro i v h;cases h)
theorem lop_total (hN:Nest B.ops mt) {n:Nat} (hR:Rights B n) {i:Int} (h0:0≤i) (h1:i<B.ops.length) (hc:(B.op i).code=10) {v:Rng} (hv:OkR v)
    (ih:∀ (s:List Rng) (w:W),OkS n s→HOk n w→∃ t w',VR B mt (.blk (i+1) (gt mt i)) s w t w'):
    ∀ (k:Nat) (head:List Rng) (w:W),rkS head≤k→OkS n head→HOk n w→∃ t w',VR B mt (.lop i v) head w t w':=by
  have hin:=hN.inner h0 h1 (.inl hc)
  intro k
  induction k with
  |zero=>
   intro head w hk hs hw
   obtain ⟨t,w1,hr⟩:=ih (withR head (B.op i).a v) {w with heads:=putH w.heads i head} (hs.with hv) (hok_put' hw hs)
   obtain ⟨q1,q2⟩:=vr_ok' hN hR hr hin (hs.with hv) (hok_put' hw hs)
   rcases grown_rk hs q1 with hg|hg
   ·exact ⟨_,_,vr_lopE hr hg⟩
   ·omega
  |succ k ihk=>
   intro head w hk hs hw
   obtain ⟨t,w1,hr⟩:=ih (withR head (B.op i).a v) {w with heads:=putH w.heads i head} (hs.with hv) (hok_put' hw hs)
   obtain ⟨q1,q2⟩:=vr_ok' hN hR hr hin (hs.with hv) (hok_put' hw hs)
   by_cases hg:grownR head t=head
   ·exact ⟨_,_,vr_lopE hr hg⟩
   ·have hlt:=(grown_rk hs q1).resolve_left hg
    obtain ⟨t2,w2,hr2⟩:=ihk (grownR head t) w1 (by omega) (hs.grown q1) q2
    exact ⟨_,_,vr_lop hr hg hr2⟩
theorem vr_total (hN:Nest B.ops mt) {n:Nat} (hR:Rights B n):∀ (N:Nat) (i to:Int) (s:List Rng) (w:W),to - i≤N→Cl B mt i to→OkS n s→HOk n w→∃ t w',VR B mt (.blk i to) s w t w':=by
  intro N
  induction N with
  |zero=>intro i to s w h _ _ _;exact ⟨s,w,vr_end (by omega)⟩
  |succ N ih=>
   intro i to s w h hcl hs hw
   by_cases hi:i<to
   ·have h0:=hcl.1
    have hlt:i<B.ops.length:=by have:=hcl.2.1;omega
    have hright:=hR i h0 hlt
    by_cases c11:(B.op i).code=11
    ·obtain ⟨k1,k2,k3,_,k5,_⟩:=hN.end_ hcl hi c11
     have hin:=hN.inner h0 hlt (.inr (.inl c11))
     have hra:=hs.at (B.op i).a
     have hw0:HOk n {w with before:=w.before.set i.toNat s}:=hw
     have pv:∀ (j to':Int) (x:Rng) (w:W),to' - j≤N→Cl B mt j to'→(¬ x.lo>x.hi→OkR x)→HOk n w→∃ o w',PV B mt j to' s (B.op i).a x w o w'∧(∀ l,o=some l→OkS n l)∧HOk n w'∧(o=none→x.lo>x.hi):=by
       intro j to' x w hj hc hx hw
       by_cases hxx:x.lo>x.hi
       ·exact ⟨none,_,.inl ⟨hxx,rfl,rfl⟩,(by intro l h;cases h),hw,fun _=>hxx⟩
       ·obtain ⟨t,w',hr⟩:=ih j to' (withR s (B.op i).a x) w hj hc (hs.with (hx hxx)) hw
        obtain ⟨q1,q2⟩:=vr_ok' hN hR hr hc (hs.with (hx hxx)) hw
        exact ⟨some t,w',.inr ⟨hxx,t,rfl,hr⟩,(by intro l h;cases h;exact q1),q2,(by intro h;cases h)⟩
     obtain ⟨yes,w1,p1,y1,y2,y3⟩:=pv (i+1) (gt mt i) ⟨maxI (gR s (B.op i).a).lo 0,(gR s (B.op i).a).hi⟩ {w with before:=w.before.set i.toNat s} (by omega) hin (fun h=>ok_yes hra h) hw0
     have hmn:i+1≤minI (gt mt i+1) (gt mt (gt mt i)):=by unfold minI;split<;>omega
     obtain ⟨no,w2,p2,z1,z2,z3⟩:=pv (minI (gt mt i+1) (gt mt (gt mt i))) (gt mt (gt mt i)) ⟨(gR s (B.op i).a).lo,minI (gR s (B.op i).a).hi (-1)⟩ w1 (by omega) k5 (fun h=>ok_no hra h) y2
     obtain ⟨u,hu⟩:∃ u,hullsR yes no=some u:=by
       cases yes with
       |some a=>cases no with
        |some b=>exact ⟨_,rfl⟩
        |none=>exact ⟨_,rfl⟩
       |none=>cases no with
        |some b=>exact ⟨_,rfl⟩
        |none=>
         exfalso
         have q1:=y3 rfl
         have q3:=z3 rfl
         obtain ⟨q5,_⟩:=hra
         simp only [maxI,minI] at q1 q3
         split at q1<;>split at q3<;>omega
     obtain ⟨t,w3,hr⟩:=ih (gt mt (gt mt i)+1) to u w2 (by omega) (hcl.next (by omega)) (hulls_ok hu y1 z1) z2
     exact ⟨t,w3,vr_if hi c11 p1 p2 hu hr⟩
    ·by_cases c10:(B.op i).code=10
     ·obtain ⟨k1,_,_,_⟩:=hN.at h0 hlt (.inl c10)
      have k3:=hcl.2.2 i (Int.le_refl _) hi (.inl c10)
      have hin:=hN.inner h0 hlt (.inl c10)
      by_cases hv:(gR s (B.op i).b).lo>(gR s (B.op i).c).hi - 1
      ·obtain ⟨t,w1,hr⟩:=ih (gt mt i+1) to s {w with before:=wipe (w.before.set i.toNat s) (i+1) (gt mt i)} (by omega) (hcl.next (by omega)) hs hw
       exact ⟨t,w1,vr_for0 hi c10 hv hr⟩
      ·have ob:=hs.at (B.op i).b
       have oc:=hs.at (B.op i).c
       have hvo:OkR ⟨(gR s (B.op i).b).lo,(gR s (B.op i).c).hi - 1⟩:=by
         obtain ⟨b1,b2,b3⟩:=ob
         obtain ⟨c1,c2,c3⟩:=oc
         refine ⟨?_,?_,?_⟩<;>simp only [machR,maxC] at* <;>omega
       have hg0:OkS n (grownR ((lookH w.heads i).getD s) s):=by
         cases hq:lookH w.heads i with
         |none=>exact hs.grown hs
         |some l=>exact (hw i l hq).grown hs
       obtain ⟨t,w1,hr⟩:=lop_total hN hR h0 hlt c10 hvo (fun s w hs hw=>ih (i+1) (gt mt i) s w (by omega) hin hs hw) _ (grownR ((lookH w.heads i).getD s) s) {w with before:=w.before.set i.toNat s} (Nat.le_refl _) hg0 hw
       obtain ⟨f,hf⟩:=hr
       obtain ⟨q1,q2⟩:=vrun_ok hN hR f (.lop i _) _ _ _ _ hf ⟨h0,hlt,c10⟩ hg0 hw (by intro j v h;cases h;exact hvo)
       obtain ⟨t2,w2,hr2⟩:=ih (gt mt i+1) to t w1 (by omega) (hcl.next (by omega)) q1 q2
       exact ⟨t2,w2,vr_for hi c10 hv ⟨f,hf⟩ hr2⟩
     ·obtain ⟨t,w1,hr⟩:=ih (i+1) to (if wrtB (B.op i).code=true then withR s (B.op i).a (resultR (B.op i) s) else s) {w with before:=w.before.set i.toNat s} (by omega) (hcl.next (by omega)) (by
        split
        ·exact hs.with (okR_result hs (right_regs hright))
        ·exact hs) hw
      exact ⟨t,w1,vr_plain hi c11 c10 hr⟩
   ·exact ⟨s,w,vr_end hi⟩
theorem opr_mono {f:List Bool} {r r':Int} (h:r≤r') {i:Nat} {n:Int} (k:oprOk f r i n=true):oprOk f r' i n=true:=by
  unfold oprOk at k ⊢
  split at k
  ·rename_i h1;rw [if_pos h1];exact k
  ·rename_i h1
   rw [if_neg h1]
   split at k
   ·rename_i h2
    rw [if_pos h2]
    rw [decide_eq_true_eq] at k ⊢
    omega
   ·rename_i h2;rw [if_neg h2]
theorem right_mono {x:Ins} {r r':Int} (h:r≤r') (k:rightS x r=true):rightS x r'=true:=by
  unfold rightS at k ⊢
  split at k
  ·cases k
  ·rename_i f hf
   rw [Bool.and_eq_true,Bool.and_eq_true,Bool.and_eq_true,Bool.and_eq_true,Bool.and_eq_true] at k ⊢
   obtain ⟨⟨k1,⟨⟨k2,k3⟩,k4⟩,k5⟩,k6⟩:=k
   exact ⟨⟨k1,⟨⟨opr_mono h k2,opr_mono h k3⟩,opr_mono h k4⟩,opr_mono h k5⟩,k6⟩
theorem types_mono {a b:Int} (h:a≤b):∀ {l:List Arr} {m:List (Int×Int)},typesOk a l m=true→typesOk b l m=true
  |[],_,_=>by unfold typesOk;rfl
  |_::_,[],_=>by unfold typesOk;rfl
  |t::l,p::m,k=>by
   unfold typesOk at k ⊢
   rw [Bool.and_eq_true] at k ⊢
   refine ⟨?_,types_mono h k.2⟩
   have k1:=k.1
   unfold typeOk at k1 ⊢
   simp only [Bool.and_eq_true,decide_eq_true_eq] at k1 ⊢
   exact ⟨k1.1,by have:=k1.2;omega⟩
end Go.Proofs.Ytnlimcijgpaegaa.Bm

namespace Go.Proofs.Ytnlimcijgpaegaa
open Go Go.Fw Bm
set_option maxRecDepth 20000
def moreP (B:Prg) (m k:Int):Prg:=⟨B.regs+k,B.arena+m,B.ops,B.ins,B.outs,B.types⟩
theorem valid_more {B:Prg} {m k:Int} (h:validS B=true) (hm:0≤m) (hk:0≤k) (h1:B.regs+k≤200) (h2:B.arena+m≤1048576):validS (moreP B m k)=true:=by
  rw [valid_eq,Bool.and_eq_true,Bool.not_eq_true'] at h ⊢
  obtain ⟨h3,h4⟩:=h
  refine ⟨?_,types_mono (show B.arena≤B.arena+m by omega) h4⟩
  simp only [headB,formedB,Bool.or_eq_false_iff,decide_eq_false_iff_not,bne_eq_false_iff_eq,Bool.not_eq_false',Bool.and_eq_true] at h3 ⊢
  obtain ⟨⟨⟨⟨⟨k1,k2⟩,k3⟩,k4⟩,k5,k6⟩,k7⟩:=h3
  refine ⟨⟨⟨⟨⟨?_,?_⟩,?_⟩,?_⟩,?_,k6⟩,k7⟩
  ·show ¬ (B.regs+k<0);omega
  ·show ¬ (B.regs+k>200);omega
  ·show ¬ (B.arena+m<0);omega
  ·show ¬ (B.arena+m>1048576);omega
  ·rw [List.all_eq_true] at k5 ⊢
   exact fun x hx=>right_mono (show B.regs≤B.regs+k by omega) (k5 x hx)
theorem endV_of {B:Prg} {mt:List Int} (hv:validS B=true) (hm:matchS B.ops=some mt) (hl:B.ops.length≤1000000):∃ t,VR B mt (.blk 0 B.ops.length) (beg B) (w0 B) t (endV B mt):=by
  have hK:=wk_of hv hm hl
  have hcl:Cl B mt 0 B.ops.length:=⟨Int.le_refl _,Int.le_refl _,fun j j0 j1 j2=>(hK.nest.at j0 j1 j2).2.1⟩
  obtain ⟨t,w,hr⟩:=vr_total hK.nest hK.rights B.ops.length 0 B.ops.length (beg B) (w0 B) (by omega) hcl (okS_beg B) (fun i l hl=>by cases hl)
  exact ⟨t,by rw [endV_eq hr];exact hr⟩
theorem wipeU_map {z:List Rng} {ops:List Ins} {l:List (List Rng)} {j:Nat}:wipeU ops (l.map (ez z)) j=(wipeU ops l j).map (ez z):=by
  apply List.ext_getElem?
  intro n
  simp only [wipeU,List.getElem?_mapIdx,List.getElem?_map]
  cases l[n]? with
  |none=>rfl
  |some a=>simp only [Option.map_some];split<;>rfl
theorem verG_ok {B:Prg}:∀ (l:List (List Rng)) (i:Nat),(∀ j,j<l.length→l.getD j []≠[]→failR (B.ops.getD (i+j) nilI) (l.getD j []) B.arena=false)→verG B l i=((B.ops.length:Int),0)
  |[],_,_=>rfl
  |s::l,i,h=>by
   rw [verG,if_neg (fun k=>by
    have:=h 0 (by simp) (by simpa using k.1)
    simp only [Nat.add_zero,List.getD_cons_zero] at this
    rw [this] at k;cases k.2)]
   refine verG_ok l (i+1) fun j hj hn=>?_
   have:=h (j+1) (by simp;omega) (by simpa using hn)
   rw [show i+1+j=i+(j+1) by omega]
   simpa using this
theorem verG_inv {B:Prg}:∀ (l:List (List Rng)) (i:Nat),(verG B l i).2=0→∀ j,j<l.length→l.getD j []≠[]→failR (B.ops.getD (i+j) nilI) (l.getD j []) B.arena=false
  |[],_,_,j,hj,_=>by simp at hj
  |s::l,i,h,j,hj,hn=>by
   rw [verG] at h
   split at h
   ·cases h
   ·rename_i hk
    cases j with
    |zero=>
     simp only [Nat.add_zero,List.getD_cons_zero] at hn ⊢
     cases hf:failR (B.ops.getD i nilI) s B.arena with
     |false=>rfl
     |true=>exact absurd ⟨hn,hf⟩ hk
    |succ j=>
     have:=verG_inv l (i+1) h j (by simpa using hj) (by simpa using hn)
     rw [show i+1+j=i+(j+1) by omega] at this
     simpa using this
theorem fail_zero {x:Ins} {s:List Rng} {a:Int} (h:rightS x 0=true):failR x s a=false:=by
  have hx:=right_regs h
  have c2:x.code≠2:=fun e=>by have:=hx.b (by omega);omega
  have c5:x.code≠5:=fun e=>by have:=hx.w (by rw [e];rfl);omega
  have c6:x.code≠6:=fun e=>by have:=hx.b (by omega);omega
  have c7:x.code≠7:=fun e=>by have:=hx.b (by omega);omega
  unfold failR
  rw [if_neg c2,if_neg c5,if_neg c6,if_neg c7]
theorem ver_more {B:Prg} {m k:Int} (h:verS B=((B.ops.length:Int),0)∨(verS B).2=0) (hl:B.ops.length≤1000000) (hm:0≤m) (hk:0≤k) (h1:B.regs+k≤200) (h2:B.arena+m≤1048576):
    verS B=((B.ops.length:Int),0)∧verS (moreP B m k)=((B.ops.length:Int),0):=by
  have h0:(verS B).2=0:=by rcases h with h|h;rw [h];exact h
  have hv:validS B=true:=by
    cases hv:validS B with
    |true=>rfl
    |false=>unfold verS at h0;rw [hv] at h0;cases h0
  have hv':=valid_more hv hm hk h1 h2
  have e:verS B=verG B (beforeL B) 0:=by unfold verS;rw [hv];rfl
  have e':verS (moreP B m k)=verG (moreP B m k) (beforeL (moreP B m k)) 0:=by unfold verS;rw [hv'];rfl
  rw [e] at h0
  have hin:=verG_inv _ _ h0
  refine ⟨by rw [e];exact verG_ok _ _ hin,?_⟩
  rw [e']
  obtain ⟨⟨r0,r1⟩,_,⟨mt,hmt⟩,hR,_,_⟩:=valid_inv hv
  have hop:∀ i,(moreP B m k).op i=B.op i:=fun _=>rfl
  by_cases hn:0<B.regs.toNat
  ·have hK:=wk_of hv hmt hl
   obtain ⟨t,hr⟩:=endV_of hv hmt hl
   have hcl:Cl B mt 0 B.ops.length:=⟨Int.le_refl _,Int.le_refl _,fun j j0 j1 j2=>(hK.nest.at j0 j1 j2).2.1⟩
   have hz:Zs (List.replicate k.toNat nilR):=⟨fun r hr=>(List.mem_replicate.1 hr).2⟩
   have hr':VR (moreP B m k) mt (.blk 0 B.ops.length) (beg (moreP B m k)) (w0 (moreP B m k)) (t++List.replicate k.toNat nilR) (extW (List.replicate k.toNat nilR) (endV B mt)):=by
     obtain ⟨f,hf⟩:=hr
     refine ⟨f,?_⟩
     have hx:=vrun_ext hK.nest hK.rights hn hz hop f (.blk 0 B.ops.length) _ _ hcl (okS_beg B) (fun i l hl=>by cases hl) (by intro i v h;cases h) _ _ hf
     have b1:beg (moreP B m k)=beg B++List.replicate k.toNat nilR:=by
       show List.replicate (B.regs+k).toNat nilR=_
       rw [show (B.regs+k).toNat=B.regs.toNat+k.toNat by omega,←List.replicate_append_replicate];rfl
     have b2:w0 (moreP B m k)=extW (List.replicate k.toNat nilR) (w0 B):=by
       show (⟨List.replicate B.ops.length [],[]⟩:W)=⟨(List.replicate B.ops.length []).map _,_⟩
       rw [List.map_replicate];rfl
     rw [b1,b2];exact hx
   have he:=endV_eq (B:=moreP B m k) hr'
   have hb:beforeL (moreP B m k)=(beforeL B).map (ez (List.replicate k.toNat nilR)):=by
     have q1:beforeL B=wipeU B.ops (endV B mt).before B.ops.length:=by unfold beforeL;rw [hv,hmt];rfl
     have q2:beforeL (moreP B m k)=wipeU B.ops (endV (moreP B m k) mt).before B.ops.length:=by
       unfold beforeL;rw [hv',if_pos rfl,show matchS (moreP B m k).ops=some mt from hmt];rfl
     rw [q2,he,q1]
     exact wipeU_map
   obtain ⟨hE,hL⟩:=before_inv hv hl
   have hlen:(beforeL B).length≤B.ops.length:=by rcases hL with h|h<;>rw [h]<;>simp
   rw [hb]
   refine verG_ok (B:=moreP B m k) _ _ fun j hj hne=>?_
   rw [List.length_map] at hj
   have g1:((beforeL B).map (ez (List.replicate k.toNat nilR))).getD j []=ez (List.replicate k.toNat nilR) ((beforeL B).getD j []):=by simp [List.getD,hj]
   rw [g1] at hne ⊢
   have hsn:(beforeL B).getD j []≠[]:=fun e=>hne (by rw [e];rfl)
   have hok:=(hE j).resolve_left hsn
   have hf:=hin j hj hsn
   rw [ez_ne hsn]
   have hj2:j<B.ops.length:=by omega
   have hri:=hR (j:Int) (by omega) (by omega)
   rw [Nat.zero_add] at hf ⊢
   exact fail_ext (by rw [hok.1];exact hri) (show B.arena≤B.arena+m by omega) hf
  ·have hr0:B.regs=0:=by omega
   obtain ⟨hE,hL⟩:=before_inv hv' hl
   have hlen:(beforeL (moreP B m k)).length≤B.ops.length:=by
     rcases hL with h|h
     ·rw [h];simp
     ·exact Nat.le_of_eq h
   refine verG_ok (B:=moreP B m k) _ _ fun j hj _=>?_
   have hri:=hR (j:Int) (by omega) (by omega)
   rw [Nat.zero_add]
   refine fail_zero ?_
   rw [show ((B.regs.toNat:Nat):Int)=0 by omega] at hri
   exact hri
noncomputable def H3:Env:=envJ (P:=Try.prog) jkR zer (fun _=>false) (fun _=>false) [con9,con13,con15] []
theorem H3_ok:EnvOk Try.prog H3:=envJOk zer_ok
theorem wr8 (m:Int) (h:0≤m∧m<65536):IntKind.i64.wrap m=m:=by rw [IntKind.wrap_i64];omega
theorem isI8' {m:Int}:isIntV (.lit (.int .u8 m))=true:=rfl
theorem moreP_bc {B:Prg} {m k:Int}:bcOf (.agg [.lit (.int .i64 (B.regs+k)),.lit (.int .i64 (B.arena+m)),.sl false 6 (opsV B.ops),.sl false 2 (plsV B.ins),.sl false 2 (plsV B.outs),.sl false 3 (arrs B.types)])=some (moreP B m k):=bcOf_mk
set_option maxHeartbeats 8000000 in
theorem law6 {B:Prg} (hA:ArgB B) {m:Int} (hm:0≤m∧m<256):PC Try.prog 6 [bcV B,.lit (.int .u8 m)] (.lit (.bool true)):=by
  simp only [bcV]
  cases hs:smallS B with
  |false=>
   refine pcR H3_ok (kp6) Try.func6 [.tmp 4] (h:=fun KF=>?_)
   unfold H3
   repeat' (first
    |(with_reducible first|refine nx ?_|refine t_seq fun K=>?_|refine t_br (fun hc=>?_) fun hc=>?_|refine t_bx ?_|apply And.intro|intro vr)
    |((with_reducible first|refine ny ?_|refine t_dwh (h:=fun K KL=>?_));intros;simp only [go_sem,kp6,geff,bcOf_B,hs,Bool.not_true,Bool.not_false]))
   all_goals try exact nd
   all_goals (refine nl ?_;simp only [go_sem])
   exact LeA.refl _
  |true=>
   obtain ⟨hO,hi,hu,hl,hr,ha⟩:=small_inv hs
   have i1:B.ins.length≤100000:=by omega
   have i2:B.outs.length≤100000:=by omega
   have hrg:=hA.regs
   have har:=hA.arena
   have hO':OkB (moreP B m (m.tmod 3)):=⟨hO.ops,hO.ins,hO.outs,hO.types,hO.dims⟩
   have i3:(moreP B m (m.tmod 3)).ins.length≤100000:=i1
   have i4:(moreP B m (m.tmod 3)).outs.length≤100000:=i2
   have t0:=Int.tmod_nonneg (b:=3) hm.1
   have t1:=Int.tmod_lt_of_pos m (show (0:Int)<3 by omega)
   have hvm:(verS B).2=0→verS B=((B.ops.length:Int),0)∧verS (moreP B m (m.tmod 3))=((B.ops.length:Int),0):=fun h=>ver_more (.inr h) (by omega) hm.1 t0 (by omega) (by omega)
   generalize hk:m.tmod 3=k at*
   by_cases hz:(verS B).2=0
   ·obtain ⟨v1,v2⟩:=hvm hz
    have z1:((verS B).2 !=0)=false:=by simp [hz]
    refine pcR H3_ok (kp6) Try.func6 [.tmp 4] (h:=fun KF=>?_)
    unfold H3
    repeat' (first
     |(with_reducible first|refine nx ?_|refine t_seq fun K=>?_|refine t_br (fun hc=>?_) fun hc=>?_|refine t_bx ?_|apply And.intro|intro vr)
     |((with_reducible first|refine ny ?_|refine t_dwh (h:=fun K KL=>?_));intros;simp only [go_sem,kp6,geff,bcOf_B,hs,v1,v2,wr8 m (by omega),hk,moreP_bc,Bool.not_true,bne_self_eq_false,beq_self_eq_true,Bool.and_self]))
    all_goals try exact isI8'
    all_goals try exact nd
    all_goals (refine nl ?_;simp only [go_sem])
    exact LeA.of_eq rfl
   ·have z1:((verS B).2 !=0)=true:=by simpa using hz
    refine pcR H3_ok (kp6) Try.func6 [.tmp 4] (h:=fun KF=>?_)
    unfold H3
    repeat' (first
     |(with_reducible first|refine nx ?_|refine t_seq fun K=>?_|refine t_br (fun hc=>?_) fun hc=>?_|refine t_bx ?_|apply And.intro|intro vr)
     |((with_reducible first|refine ny ?_|refine t_dwh (h:=fun K KL=>?_));intros;simp only [go_sem,kp6,geff,bcOf_B,hs,z1,Bool.not_true]))
    all_goals try exact nd
    all_goals (refine nl ?_;simp only [go_sem])
    exact LeA.of_eq rfl
theorem arena_law:∀ xs,ShL Try.prog Try.f6.params.toList xs→PC Try.prog 6 xs (.lit (.bool true))
  |[_,_],h=>by
   obtain ⟨B,rfl,hB⟩:=shv_bc h.1
   obtain ⟨m,rfl,wm⟩:=shv_int u5 h.2.1
   exact law6 hB (wf_u8 wm)
  |[],h=>h.elim
  |[_],h=>h.2.elim
  |_::_::_::_,h=>h.2.2.elim
end Go.Proofs.Ytnlimcijgpaegaa
