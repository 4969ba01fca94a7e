import Derived.Test.YtnlimcijgpaegaaSC
import Derived.Test.YtnlimcijgpaegaaFwC
import Derived.Lib.AppendZeros
import Derived.Lib.Walk
import Derived.Lib.Slices

set_option linter.all false

namespace Go.Proofs.Ytnlimcijgpaegaa
open Go Go.Fw Bm
set_option maxRecDepth 20000
theorem bcOf_mk {r a:Int} {o:List Ins} {i u:List (Int×Int)} {t:List Arr}:bcOf (.agg [.lit (.int .i64 r),.lit (.int .i64 a),.sl false 6 (opsV o),.sl false 2 (plsV i),.sl false 2 (plsV u),.sl false 3 (arrs t)])=some ⟨r,a,o,i,u,t⟩:=by
  rw [bcOf_agg,opsOf_sl,plsOf_sl,plsOf_sl,arrsOf_sl]
attribute [go_sem] arrs_length bcOf_mk
def headB (B:Prg):Bool:=decide (B.regs<0)||decide (B.regs>200)||decide (B.arena<0)||decide (B.arena>1048576)|| !formedB B.ops B.regs||((B.types.length:Int) !=(B.ins.length:Int)+(B.outs.length:Int))
theorem valid_eq (B:Prg):validS B=(!headB B&&typesOk B.arena B.types (B.ins++B.outs)):=by
  rw [Bool.eq_iff_iff];simp only [validS,headB,formedB,maxA,Bool.and_eq_true,Bool.not_eq_true',Bool.or_eq_false_iff,decide_eq_true_eq,decide_eq_false_iff_not,bne_eq_false_iff_eq,Bool.not_eq_false']
  constructor
  ·rintro ⟨⟨⟨⟨⟨h1,h2⟩,h3⟩,h4⟩,h5⟩,h6⟩;have h2:=of_decide_eq_true h2;exact ⟨⟨⟨⟨⟨⟨by omega,by omega⟩,by omega⟩,by omega⟩,h4,h5⟩,by omega⟩,h6⟩
  ·rintro ⟨⟨⟨⟨⟨⟨h1,h2⟩,h3⟩,h3'⟩,h4,h5⟩,h⟩,h6⟩;exact ⟨⟨⟨⟨⟨by omega,decide_eq_true (by omega)⟩,by omega⟩,h4⟩,h5⟩,h6⟩
theorem drop_getP {l:List (Int×Int)} {i:Nat} (h:i<l.length):l.drop i=l.getD i (0,0)::l.drop (i+1):=drop_getD _ h
end Go.Proofs.Ytnlimcijgpaegaa

namespace Go.Proofs.Ytnlimcijgpaegaa
open Go Go.Fw Bm
set_option maxRecDepth 20000
noncomputable def V13:Env:=envJ (P:=Try.prog) jkV zer (fun _=>false) (fun _=>false) [con80] []
theorem V13_ok:EnvOk Try.prog V13:=envJOk zer_ok
theorem notr_ec {r:Int} {c1 c2 c3 c4 c5:AV} {x:Ins} {k:AV→List AObj→Prop} (hk:k (.lit (.bool (!rightS x r))) [.box 45 [.lit (.int .i64 r),c1,c2,c3,c4,c5]]):
    EC Try.prog 79 [opV x,.ref 0 0] [.box 45 [.lit (.int .i64 r),c1,c2,c3,c4,c5]] k:=by
  refine ec_fin fun hbd=>?_
  obtain ⟨q,p,a,b,c,d⟩:=x
  simp only [opV]
  refine ecR V13_ok (kp79) Try.func79 [.tmp 3] (h:=fun KF=>?_)
  unfold V13
  repeat' (first
   |(with_reducible first|refine nx ?_|refine t_seq fun K=>?_|refine t_br (fun hc=>?_) fun hc=>?_|refine t_bx ?_|apply And.intro|intro vr)
   |((with_reducible first|refine ny ?_|refine t_dwh (h:=fun K KL=>?_));intros;simp only [go_sem,kp79,geff,yes]))
  all_goals try exact nd
  all_goals (refine nl ?_;simp only [go_sem,finE])
  exact ⟨_,_,rfl,LeA.refl _,hbd,hk⟩
noncomputable def ecn79:ECon Try.prog where
  f:=79
  c:=fun args σ k=>match args,σ with
   |[x,.ref 0 0],[.box 45 [.lit (.int .i64 r),c1,c2,c3,c4,c5]]=>match opOf x with
    |some x=>k (.lit (.bool (!rightS x r))) [.box 45 [.lit (.int .i64 r),c1,c2,c3,c4,c5]]
    |none=>False
   |_,_=>False
  ok:=by
   intro args σ k h
   split at h
   ·split at h
    ·rename_i hx
     rw [opOf_inv hx]
     exact notr_ec h
    ·exact h.elim
   ·exact h.elim
  fk:=fk79
theorem ecn79_f:ecn79.f=79:=rfl
theorem ecn79_c {x c1 c2 c3 c4 c5:AV} {r:Int} {k:AV→List AObj→Prop}:ecn79.c [x,.ref 0 0] [.box 45 [.lit (.int .i64 r),c1,c2,c3,c4,c5]] k=match opOf x with
      |some x=>k (.lit (.bool (!rightS x r))) [.box 45 [.lit (.int .i64 r),c1,c2,c3,c4,c5]]
      |none=>False:=rfl
attribute [go_sem] ecn79_f ecn79_c
noncomputable def W13:Env:=envJ (P:=Try.prog) jkV zer (fun _=>false) (fun _=>false) [] [ecn79]
theorem W13_ok:EnvOk Try.prog W13:=envJOk zer_ok
def idxI (p:Ins→Bool):List Ins→Int→Int
  |[],_=> -1
  |d::t,i=>if p d=true then i else idxI p t (i+1)
theorem idxI_any (p:Ins→Bool):∀ (l:List Ins) (i:Int),0≤i→decide (idxI p l i≥0)=l.any p
  |[],_,_=>rfl
  |d::t,i,hi=>by
   unfold idxI
   by_cases h:p d=true
   ·rw [if_pos h,List.any_cons,h,decide_eq_true hi];rfl
   ·rw [if_neg h,idxI_any p t (i+1) (by omega),List.any_cons]
    simp only [Bool.not_eq_true] at h
    rw [h];rfl
def notR (r:Int) (x:Ins):Bool:= !rightS x r
theorem idxi_ec {l:List Ins} {r:Int} {c1 c2 c3 c4 c5:AV} {k:AV→List AObj→Prop} (hl:l.length≤1000000)
    (hk:k (.lit (.int .i64 (idxI (notR r) l 0))) [.box 45 [.lit (.int .i64 r),c1,c2,c3,c4,c5]]):
    EC Try.prog 109 [.sl false 6 (opsV l),.fn (.func 79) [] [.ref 0 0]] [.box 45 [.lit (.int .i64 r),c1,c2,c3,c4,c5]] k:=by
  generalize hR:idxI (notR r) l 0=R at hk
  refine ecR W13_ok (kp109) Try.func109 [.tmp 4] (h:=fun KF=>?_)
  unfold W13
  repeat' (first
   |(with_reducible first|refine nx ?_|refine t_seq fun K=>?_|refine t_br (fun hc=>?_) fun hc=>?_|refine t_bx ?_|apply And.intro|intro vr)
   |((with_reducible first|refine ny ?_|refine t_dwh (h:=fun K KL=>?_));intros;simp only [go_sem,kp109,geff]))
  all_goals try exact nd
  refine t_loopF (ι:={i:Nat // i≤l.length∧idxI (notR r) (l.drop i) i=R}) (fun i=>[(8,.lit (.int .i64 i.1))]) (fun i=>[.box 45 [.lit (.int .i64 r),c1,c2,c3,c4,c5]]) (fun i=>l.length - i.1) ⟨0,by omega,hR⟩ ?_ ?_
  ·exact lf
  rintro ⟨i,hi,hF⟩ K0
  rcases Nat.lt_or_ge i l.length with hc|hc
  ·rw [drop_getI hc,idxI] at hF
   have g3:decide ((i:Int)<(l.length:Int))=true:=decide_eq_true (by omega)
   generalize hx:l.getD i nilI=x at hF
   cases h4:rightS x r with
   |true=>
    rw [if_neg (by unfold notR;rw [h4];decide)] at hF
    obtain ⟨q,p,a,b,c,d⟩:=x
    repeat' (first
     |(with_reducible first|refine nx ?_|refine t_seq fun K=>?_|refine t_br (fun hc=>?_) fun hc=>?_|refine t_bx ?_|apply And.intro|intro vr)
     |((with_reducible first|refine ny ?_|refine t_dwh (h:=fun K KL=>?_));intros;simp only [go_sem,kp109,geff,g3,hx,h4,Int.toNat_natCast,Bool.not_true,yes]))
    all_goals try exact nd
    exact ⟨⟨i+1,by omega,by rw [←hF];congr 1⟩,wf,lf⟩
   |false=>
    rw [if_pos (by unfold notR;rw [h4];decide)] at hF
    obtain ⟨q,p,a,b,c,d⟩:=x
    repeat' (first
     |(with_reducible first|refine nx ?_|refine t_seq fun K=>?_|refine t_br (fun hc=>?_) fun hc=>?_|refine t_bx ?_|apply And.intro|intro vr)
     |((with_reducible first|refine ny ?_|refine t_dwh (h:=fun K KL=>?_));intros;simp only [go_sem,kp109,geff,g3,hx,h4,Int.toNat_natCast,Bool.not_false,yes]))
    all_goals try exact nd
    all_goals (refine nl ?_;simp only [go_sem])
    rw [hF];exact hk
  ·have g3:decide ((i:Int)<(l.length:Int))=false:=decide_eq_false (by omega)
   rw [List.drop_eq_nil_of_le (by omega),idxI] at hF
   repeat' (first
    |(with_reducible first|refine nx ?_|refine t_seq fun K=>?_|refine t_br (fun hc=>?_) fun hc=>?_|refine t_bx ?_|apply And.intro|intro vr)
    |((with_reducible first|refine ny ?_|refine t_dwh (h:=fun K KL=>?_));intros;simp only [go_sem,kp109,geff,g3,Int.toNat_natCast]))
   all_goals try exact nd
   all_goals (refine nl ?_;simp only [go_sem])
   rw [hF];exact hk
noncomputable def ecn109:ECon Try.prog where
  f:=109
  c:=fun args σ k=>match args,σ with
   |[x,.fn (.func 79) [] [.ref 0 0]],[.box 45 [.lit (.int .i64 r),c1,c2,c3,c4,c5]]=>match opsOf x with
    |some x=>x.length≤1000000∧k (.lit (.int .i64 (idxI (notR r) x 0))) [.box 45 [.lit (.int .i64 r),c1,c2,c3,c4,c5]]
    |none=>False
   |_,_=>False
  ok:=by
   intro args σ k h
   split at h
   ·split at h
    ·rename_i hx
     exact EC.weak (idxi_ec h.1 h.2) (LeRL.cons (opsOf_leR hx) (LeRL.cons (LeR.refl _) LeRL.nil))
    ·exact h.elim
   ·exact h.elim
  fk:=fk109
theorem ecn109_f:ecn109.f=109:=rfl
theorem ecn109_c {x c1 c2 c3 c4 c5:AV} {r:Int} {k:AV→List AObj→Prop}:ecn109.c [x,.fn (.func 79) [] [.ref 0 0]] [.box 45 [.lit (.int .i64 r),c1,c2,c3,c4,c5]] k=match opsOf x with
      |some x=>x.length≤1000000∧k (.lit (.int .i64 (idxI (notR r) x 0))) [.box 45 [.lit (.int .i64 r),c1,c2,c3,c4,c5]]
      |none=>False:=rfl
attribute [go_sem] ecn109_f ecn109_c
noncomputable def X13:Env:=envJ (P:=Try.prog) jkV zer (fun _=>false) (fun _=>false) [] [ecn109]
theorem X13_ok:EnvOk Try.prog X13:=envJOk zer_ok
theorem anyi_ec {l:List Ins} {r:Int} {c1 c2 c3 c4 c5:AV} {k:AV→List AObj→Prop} (hl:l.length≤1000000)
    (hk:k (.lit (.bool (l.any (notR r)))) [.box 45 [.lit (.int .i64 r),c1,c2,c3,c4,c5]]):
    EC Try.prog 78 [.sl false 6 (opsV l),.fn (.func 79) [] [.ref 0 0]] [.box 45 [.lit (.int .i64 r),c1,c2,c3,c4,c5]] k:=by
  rw [←idxI_any (notR r) l 0 (by omega)] at hk
  refine ecR X13_ok (kp78) Try.func78 [.tmp 4] (h:=fun KF=>?_)
  unfold X13
  repeat' (first
   |(with_reducible first|refine nx ?_|refine t_seq fun K=>?_|refine t_br (fun hc=>?_) fun hc=>?_|refine t_bx ?_|apply And.intro|intro vr)
   |((with_reducible first|refine ny ?_|refine t_dwh (h:=fun K KL=>?_));intros;simp only [go_sem,kp78,geff]))
  all_goals try exact nd
  all_goals (refine nl ?_;simp only [go_sem])
  exact hk
noncomputable def ecn78:ECon Try.prog where
  f:=78
  c:=fun args σ k=>match args,σ with
   |[x,.fn (.func 79) [] [.ref 0 0]],[.box 45 [.lit (.int .i64 r),c1,c2,c3,c4,c5]]=>match opsOf x with
    |some x=>x.length≤1000000∧k (.lit (.bool (x.any (notR r)))) [.box 45 [.lit (.int .i64 r),c1,c2,c3,c4,c5]]
    |none=>False
   |_,_=>False
  ok:=by
   intro args σ k h
   split at h
   ·split at h
    ·rename_i hx
     exact EC.weak (anyi_ec h.1 h.2) (LeRL.cons (opsOf_leR hx) (LeRL.cons (LeR.refl _) LeRL.nil))
    ·exact h.elim
   ·exact h.elim
  fk:=fk78
theorem ecn78_f:ecn78.f=78:=rfl
theorem ecn78_c {x c1 c2 c3 c4 c5:AV} {r:Int} {k:AV→List AObj→Prop}:ecn78.c [x,.fn (.func 79) [] [.ref 0 0]] [.box 45 [.lit (.int .i64 r),c1,c2,c3,c4,c5]] k=match opsOf x with
      |some x=>x.length≤1000000∧k (.lit (.bool (x.any (notR r)))) [.box 45 [.lit (.int .i64 r),c1,c2,c3,c4,c5]]
      |none=>False:=rfl
attribute [go_sem] ecn78_f ecn78_c
end Go.Proofs.Ytnlimcijgpaegaa

set_option linter.unusedVariables false
namespace Go.Proofs
open Go.RowKit
set_option maxHeartbeats 2000000 in
set_option maxRecDepth 100000 in
theorem Try.growP_run (n:Nat) (h0:0<n) (h63:n≤1000000) (w:World):
    Calls Try.prog 113 #[.slice none 0 0,.int .i64 n] w fun e w'=>e= .returned (.slice (some ⟨w.heap.size,0,none⟩) 0 (grownCap w n 0 99))∧∃ cur,cur.size=grownCap w n 0 99*2∧w'=w.drew.alloc (.cells cur 99):=by
  obtain ⟨i0,hi,hz0,hz1,hz2⟩:=info_parts (show (Try.prog.info? 99).map (fun i=>(i.zero,i.size,i.bytes))=some (some (.agg #[.int .i64 0,.int .i64 0]),2,16) from by kernel_rfl)
  have h:=Lib.run_append_nil_zeros (P:=Try.prog) w 42 3 42 99 i0 (.agg #[.int .i64 0,.int .i64 0]) .i64 .i64 Try.underlying42 Try.underlying3 hi hz0 n h0 (by omega) (by omega) (by rw [hz2];omega)
  go_enter Try.func113,Try.ntmps113
  go_wp2_with (at_builtin;refine Lib.wpList_append_run _ rfl _ _ _ _ rfl _ _ rfl rfl _ _ h ?_)
  go_ret
  exact ⟨rfl,_,by have:=grownCap_ge w n 0 99;simp [size_zeroCells];omega,rfl⟩
set_option maxHeartbeats 2000000 in
set_option maxRecDepth 100000 in
theorem Try.growP_zero (w:World):Calls Try.prog 113 #[.slice none 0 0,.int .i64 0] w fun e w'=>e= .returned (.slice none 0 0)∧w'=w:=by
  go_enter Try.func113,Try.ntmps113
  go_wp2
  go_ret
  exact ⟨rfl,rfl⟩
namespace Ytnlimcijgpaegaa
open Go.Fw
theorem growP_ec {n:Nat} (h0:0<n) (hn:n≤1000000) {σ:List AObj} {k:AV→List AObj→Prop} (hk:k (.arr σ.length 0) (σ++[.arr 99 2 [] 0 false])):EC Try.prog 113 [.lit (.slice none 0 0),.lit (.int .i64 n)] σ k:=by
  intro cx G w vs hr hl
  obtain ⟨h1,h2⟩:=hl
  match vs,h1 with
  |[a,b],_=>
   have ha:=(show R G (.lit (.slice none 0 0)) a from h2 0 (by simp)).lit_inv
   have hb:=(show R G (.lit (.int .i64 n)) b from h2 1 (by simp)).lit_inv
   subst ha;subst hb
   refine (Try.growP_run n h0 hn w).mono ?_
   rintro e w' ⟨rfl,cur,hc,rfl⟩
   have hge:=grownCap_ge w n 0 99
   obtain ⟨G',g1,g2,g3⟩:=(hr.more (More.drawn w (w.drawn+1))).newArr 99 2 (xs:=[]) (cur:=cur) (cap:=grownCap w n 0 99) (fz:=(0,0)) ⟨by simp,by simp,by simp⟩ (by omega) (by simp) (grownCap_le_maxLen w n 0 99 (by unfold maxLen;omega)) (by omega) ⟨Nat.le_refl _,fun off _ h=>by simp at h⟩
   exact ⟨_,G',_,_,rfl,g1,g2,g3,hk⟩
theorem growP_ec0 {σ:List AObj} {k:AV→List AObj→Prop} (hk:k (.lit (.slice none 0 0)) σ):EC Try.prog 113 [.lit (.slice none 0 0),.lit (.int .i64 0)] σ k:=by
  intro cx G w vs hr hl
  obtain ⟨h1,h2⟩:=hl
  match vs,h1 with
  |[a,b],_=>
   have ha:=(show R G (.lit (.slice none 0 0)) a from h2 0 (by simp)).lit_inv
   have hb:=(show R G (.lit (.int .i64 0)) b from h2 1 (by simp)).lit_inv
   subst ha;subst hb
   refine (Try.growP_zero w).mono ?_
   rintro e w' ⟨rfl,rfl⟩
   exact ⟨_,G,_,_,rfl,Gh.le.refl G,hr,.clo _ _ (.lit _),hk⟩
end Ytnlimcijgpaegaa
end Go.Proofs

namespace Go.Proofs.Ytnlimcijgpaegaa
open Go Go.Fw Bm
set_option maxRecDepth 20000
def pss (L:List (List (Int×Int))):List AV:=L.map fun l=> .sl false 2 (plsV l)
def jPs:AV:= .sl false 2 (plsV [])
def jkC:TypeId→AV:=fun t=>if t=42 then jPs else jkV t
theorem jkC_42:jkC 42=jPs:=rfl
theorem pss_length (L:List (List (Int×Int))):(pss L).length=L.length:=by simp [pss]
theorem pss_getJ (L:List (List (Int×Int))) (i:Nat):(pss L).getD i jPs= .sl false 2 (plsV (L.getD i [])):=by
  simp only [pss,jPs,List.getD_eq_getElem?_getD,List.getElem?_map];cases L[i]? <;>rfl
attribute [go_sem] jkC_42 pss_length pss_getJ
noncomputable def ecn113:ECon Try.prog where
  f:=113
  c:=fun args σ k=>match args with
   |[.lit (.slice none 0 0),.lit (.int .i64 n)]=>0≤n∧n≤1000000∧(n=0→k (.lit (.slice none 0 0)) σ)∧(n≠0→k (.arr σ.length 0) (σ++[.arr 99 2 [] 0 false]))
   |_=>False
  ok:=by
   intro args σ k h
   split at h
   ·rename_i n
    obtain ⟨m,rfl⟩:∃ m:Nat,n=m:=⟨n.toNat,by omega⟩
    rcases Nat.eq_zero_or_pos m with rfl|hm
    ·exact growP_ec0 (h.2.2.1 rfl)
    ·exact growP_ec hm (by omega) (h.2.2.2 (by omega))
   ·exact h.elim
  fk:=fk113
theorem ecn113_f:ecn113.f=113:=rfl
theorem ecn113_c {n:Int} {σ:List AObj} {k:AV→List AObj→Prop}:ecn113.c [.lit (.slice none 0 0),.lit (.int .i64 n)] σ k=(0≤n∧n≤1000000∧(n=0→k (.lit (.slice none 0 0)) σ)∧(n≠0→k (.arr σ.length 0) (σ++[.arr 99 2 [] 0 false]))):=rfl
attribute [go_sem] ecn113_f ecn113_c
noncomputable def V14:Env:=envJ (P:=Try.prog) jkC zer (fun _=>false) (fun _=>false) [] [ecn113]
theorem V14_ok:EnvOk Try.prog V14:=envJOk zer_ok
theorem flat_take {L:List (List (Int×Int))} {i:Nat} (h:i<L.length):(L.take (i+1)).flatten=(L.take i).flatten++L.getD i []:=by
  rw [List.take_add_one,List.getElem?_eq_getElem h,List.getD_eq_getElem?_getD,List.getElem?_eq_getElem h,List.flatten_append];simp
theorem flat_le (L:List (List (Int×Int))) (i:Nat):(L.take i).flatten.length≤L.flatten.length:=by
  have h:L.flatten=(L.take i).flatten++(L.drop i).flatten:=by rw [←List.flatten_append,List.take_append_drop]
  rw [h,List.length_append];omega
set_option maxHeartbeats 4000000 in
theorem concat_pc {L:List (List (Int×Int))} (hl:L.flatten.length≤1000000) (hL:L.length≤1000000):PC Try.prog 81 [.sl false 1 (pss L)] (.sl false 2 (plsV L.flatten)):=by
  refine pcR V14_ok (kp81) Try.func81 [.tmp 2] (h:=fun KF=>?_)
  unfold V14
  repeat' (first
   |(with_reducible first|refine nx ?_|refine t_seq fun K=>?_|refine t_br (fun hc=>?_) fun hc=>?_|refine t_bx ?_|apply And.intro|intro vr)
   |((with_reducible first|refine ny ?_|refine t_dwh (h:=fun K KL=>?_));intros;simp only [go_sem,kp81,geff]))
  all_goals try exact nd
  refine t_loopF (ι:={i:Nat // i≤L.length}) (fun i=>[(11,.lit (.int .i64 i.1)),(3,.lit (.int .i64 (L.take i.1).flatten.length))]) (fun i=>[]) (fun i=>L.length - i.1) ⟨0,by omega⟩ ?_ ?_
  ·exact lf
  rintro ⟨i,hi⟩ K0
  rcases Nat.lt_or_ge i L.length with hc|hc
  ·have g3:decide ((i:Int)<(L.length:Int))=true:=decide_eq_true (by omega)
   have hf:=flat_take hc
   have hle:=flat_le L (i+1)
   have hlen:=congrArg List.length hf
   rw [List.length_append] at hlen
   have g8:((L.take i).flatten.length:Int)+((L.getD i []).length:Int)=((L.take (i+1)).flatten.length:Nat):=by omega
   have g9:decide ((((L.take (i+1)).flatten.length:Nat):Int)<0)=false:=decide_eq_false (by omega)
   repeat' (first
    |(with_reducible first|refine nx ?_|refine t_seq fun K=>?_|refine t_br (fun hc=>?_) fun hc=>?_|refine t_bx ?_|apply And.intro|intro vr)
    |((with_reducible first|refine ny ?_|refine t_dwh (h:=fun K KL=>?_));intros;simp only [go_sem,kp81,geff,updL_cons,updL_nil,Int.toNat_natCast,g3,g8,g9]))
   all_goals try exact nd
   exact ⟨⟨i+1,by omega⟩,wf,lf⟩
  ·have g3:decide ((i:Int)<(L.length:Int))=false:=decide_eq_false (by omega)
   have e:L.take i=L:=List.take_of_length_le hc
   have z0:L.take 0=[]:=List.take_zero
   rcases Nat.eq_zero_or_pos L.flatten.length with ht|ht
   ·have g4:((L.flatten.length:Nat):Int)=0:=by omega
    repeat' (first
     |(with_reducible first|refine nx ?_|refine t_seq fun K=>?_|refine t_br (fun hc=>?_) fun hc=>?_|refine t_bx ?_|apply And.intro|intro vr)
     |((with_reducible first|refine ny ?_|refine t_dwh (h:=fun K KL=>?_));intros;simp only [go_sem,kp81,geff,updL_cons,updL_nil,Int.toNat_natCast,g3,e,g4,true_imp_iff,ne_eq,not_true_eq_false,false_imp_iff]))
    all_goals try exact nd
    refine t_loopF (ι:={p:Nat×Nat // p.1≤L.length}) (fun i=>[(27,.lit (.int .i64 i.1.1)),(6,.arr 0 i.1.2)]) (fun i=>[.arr 99 2 (plsV (L.take i.1.1).flatten) i.1.2 false]) (fun i=>L.length - i.1.1) ⟨(0,0),by simp⟩ ?_ ?_
    ·refine (le_nil 6 99 2 rfl).trans ?_
     exact lf
    rintro ⟨⟨i,ver⟩,hi⟩ K1
    simp only at hi
    rcases Nat.lt_or_ge i L.length with hc|hc
    ·have g3:decide ((i:Int)<(L.length:Int))=true:=decide_eq_true (by omega)
     have hf:=flat_take hc
     have hle:=flat_le L (i+1)
     have hlen:=congrArg List.length hf
     rw [List.length_append] at hlen
     repeat' (first
      |(with_reducible first|refine nx ?_|refine t_seq fun K=>?_|refine t_br (fun hc=>?_) fun hc=>?_|refine t_bx ?_|apply And.intro|intro vr)
      |((with_reducible first|refine ny ?_|refine t_dwh (h:=fun K KL=>?_));intros;simp only [go_sem,kp81,geff,updL_cons,updL_nil,Int.toNat_natCast,g3,plsV_app,←hf]))
     all_goals try (first|(with_reducible assumption)|(intros;(try simp only [Bool.and_eq_true,Bool.or_eq_true,Bool.or_eq_false_iff,Bool.not_eq_true',Bool.not_eq_false',decide_eq_true_eq,decide_eq_false_iff_not,beq_iff_eq,beq_eq_false_iff_ne,bne_iff_ne,bne_eq_false_iff_eq,ne_eq,inI64,plsV_length] at*)<;>omega)|(intros;(with_reducible first|refine impB_ofR ?_|refine and_ofB ?_ ?_)<;>with_reducible first|assumption|(refine impB_ofR ?_;assumption))|((try simp only [Bool.and_eq_true] at vr);simp only [impB,vr,Bool.or_true,Bool.true_or,Bool.and_self,Bool.not_true,Bool.not_false,Bool.and_true];done))
     exact ⟨⟨(i+1,ver+1),by simp only;omega⟩,wf,lf⟩
    ·have g3:decide ((i:Int)<(L.length:Int))=false:=decide_eq_false (by omega)
     have e:L.take i=L:=List.take_of_length_le hc
     repeat' (first
      |(with_reducible first|refine nx ?_|refine t_seq fun K=>?_|refine t_br (fun hc=>?_) fun hc=>?_|refine t_bx ?_|apply And.intro|intro vr)
      |((with_reducible first|refine ny ?_|refine t_dwh (h:=fun K KL=>?_));intros;simp only [go_sem,kp81,geff,updL_cons,updL_nil,Int.toNat_natCast,g3,e]))
     all_goals try exact nd
     all_goals (refine nl ?_;simp only [go_sem])
     exact LeA.refl _
   ·have g4:(((L.flatten.length:Nat):Int)=0)=False:=eq_false (by omega)
    repeat' (first
     |(with_reducible first|refine nx ?_|refine t_seq fun K=>?_|refine t_br (fun hc=>?_) fun hc=>?_|refine t_bx ?_|apply And.intro|intro vr)
     |((with_reducible first|refine ny ?_|refine t_dwh (h:=fun K KL=>?_));intros;simp only [go_sem,kp81,geff,updL_cons,updL_nil,Int.toNat_natCast,g3,e,g4,true_imp_iff,ne_eq,not_false_eq_true,false_imp_iff]))
    all_goals try exact nd
    refine t_loopF (ι:={p:Nat×Nat // p.1≤L.length}) (fun i=>[(27,.lit (.int .i64 i.1.1)),(6,.arr 0 i.1.2)]) (fun i=>[.arr 99 2 (plsV (L.take i.1.1).flatten) i.1.2 false]) (fun i=>L.length - i.1.1) ⟨(0,0),by simp⟩ ?_ ?_
    ·exact lf
    rintro ⟨⟨i,ver⟩,hi⟩ K1
    simp only at hi
    rcases Nat.lt_or_ge i L.length with hc|hc
    ·have g3:decide ((i:Int)<(L.length:Int))=true:=decide_eq_true (by omega)
     have hf:=flat_take hc
     have hle:=flat_le L (i+1)
     have hlen:=congrArg List.length hf
     rw [List.length_append] at hlen
     repeat' (first
      |(with_reducible first|refine nx ?_|refine t_seq fun K=>?_|refine t_br (fun hc=>?_) fun hc=>?_|refine t_bx ?_|apply And.intro|intro vr)
      |((with_reducible first|refine ny ?_|refine t_dwh (h:=fun K KL=>?_));intros;simp only [go_sem,kp81,geff,updL_cons,updL_nil,Int.toNat_natCast,g3,plsV_app,←hf]))
     all_goals try (first|(with_reducible assumption)|(intros;(try simp only [Bool.and_eq_true,Bool.or_eq_true,Bool.or_eq_false_iff,Bool.not_eq_true',Bool.not_eq_false',decide_eq_true_eq,decide_eq_false_iff_not,beq_iff_eq,beq_eq_false_iff_ne,bne_iff_ne,bne_eq_false_iff_eq,ne_eq,inI64,plsV_length] at*)<;>omega)|(intros;(with_reducible first|refine impB_ofR ?_|refine and_ofB ?_ ?_)<;>with_reducible first|assumption|(refine impB_ofR ?_;assumption))|((try simp only [Bool.and_eq_true] at vr);simp only [impB,vr,Bool.or_true,Bool.true_or,Bool.and_self,Bool.not_true,Bool.not_false,Bool.and_true];done))
     exact ⟨⟨(i+1,ver+1),by simp only;omega⟩,wf,lf⟩
    ·have g3:decide ((i:Int)<(L.length:Int))=false:=decide_eq_false (by omega)
     have e:L.take i=L:=List.take_of_length_le hc
     repeat' (first
      |(with_reducible first|refine nx ?_|refine t_seq fun K=>?_|refine t_br (fun hc=>?_) fun hc=>?_|refine t_bx ?_|apply And.intro|intro vr)
      |((with_reducible first|refine ny ?_|refine t_dwh (h:=fun K KL=>?_));intros;simp only [go_sem,kp81,geff,updL_cons,updL_nil,Int.toNat_natCast,g3,e]))
     all_goals try exact nd
     all_goals (refine nl ?_;simp only [go_sem])
     exact LeA.refl _
end Go.Proofs.Ytnlimcijgpaegaa

namespace Go.Proofs.Ytnlimcijgpaegaa
open Go Go.Fw Bm
set_option maxRecDepth 20000
noncomputable def con45:PCon Try.prog where
  f:=45
  c:=fun
   |[xx]=>match opsOf xx with|some x=>some ((x.length≤1000000),matchV x)|_=>none
   |_=>none
  ok:=by
   intro args p r hc hp
   split at hc
   ·split at hc
    ·rename_i hx
     cases hc
     exact PC.weak (match_pc hp) ⟨opsOf_le hx,trivial⟩
    ·cases hc
   ·cases hc
  fk:=fk45
theorem con45_f:con45.f=45:=rfl
theorem con45_c {xx:AV}:con45.c [xx]=match opsOf xx with|some x=>some ((x.length≤1000000),matchV x)|_=>none:=rfl
attribute [go_sem] con45_f con45_c
theorem concat2_pc {a b:List (Int×Int)} {b1 b2 b3:Bool} (h:a.length≤100000∧b.length≤100000):PC Try.prog 81 [.sl b1 1 [.sl b2 2 (plsV a),.sl b3 2 (plsV b)]] (.sl false 2 (plsV (a++b))):=by
  have:=concat_pc (L:=[a,b]) (by simp;omega) (by simp)
  rw [show [a,b].flatten=a++b by simp] at this
  refine PC.weak this ⟨LeA.sl rfl (by intro y hy;simp [pss] at hy;rcases hy with rfl|rfl<;>rfl) ⟨LeA.full _ _ _,LeA.full _ _ _,trivial⟩,trivial⟩
noncomputable def con81:PCon Try.prog where
  f:=81
  c:=fun
   |[.sl _ 1 [.sl _ 2 x,.sl _ 2 y]]=>match plL x,plL y with
    |some a,some b=>some (a.length≤100000∧b.length≤100000,.sl false 2 (plsV (a++b)))
    |_,_=>none
   |_=>none
  ok:=by
   intro args p r hc hp
   split at hc
   ·split at hc
    ·rename_i hx hy
     cases hc
     rw [plL_inv hx,plL_inv hy]
     exact concat2_pc hp
    ·cases hc
   ·cases hc
  fk:=fk81
theorem con81_f:con81.f=81:=rfl
theorem con81_c {b1 b2 b3:Bool} {x y:List AV}:con81.c [.sl b1 1 [.sl b2 2 x,.sl b3 2 y]]=match plL x,plL y with
      |some a,some b=>some (a.length≤100000∧b.length≤100000,.sl false 2 (plsV (a++b)))
      |_,_=>none:=rfl
attribute [go_sem] con81_f con81_c plL_pls
noncomputable def V15:Env:=envJ (P:=Try.prog) jkV zer (fun _=>false) (fun t=>t==52) [con45,con81,con82] [ecn78]
theorem V15_ok:EnvOk Try.prog V15:=envJOk zer_ok
theorem any_all {l:List Ins} {r:Int}:l.any (notR r)= !(l.all fun x=>rightS x r):=by
  induction l with
  |nil=>rfl
  |cons x l ih=>simp only [List.any_cons,List.all_cons,ih,notR,Bool.not_and]
set_option maxHeartbeats 8000000 in
theorem bvalid_pc {B:Prg} (h:OkB B) (hi:B.ins.length≤100000∧B.outs.length≤100000):PC Try.prog 42 [bcV B] (.lit (.bool (validS B))):=by
  rw [valid_eq]
  have hT:=h.types;have hD:=h.dims;have hO:=h.ops
  obtain ⟨r,a,o,ii,u,t⟩:=B
  simp only at hT hD hO hi
  obtain ⟨ml,hml⟩:=matchV_eq o
  generalize hR:(!headB ⟨r,a,o,ii,u,t⟩&&typesOk a t (ii++u))=R
  simp only [headB,formedB] at hR
  simp only [bcV_mk]
  refine pcR V15_ok (kp42) Try.func42 [.tmp 2] (h:=fun KF=>?_)
  unfold V15
  cases hm:(matchS o).isSome with
  |false=>
   rw [hm] at hR
   repeat' (first
    |(with_reducible first|refine nx ?_|refine t_seq fun K=>?_|refine t_bx ?_|apply And.intro|intro vr)
    |((with_reducible refine t_cond fun A B=>?_);simp only [go_sem,kp42,geff_true,geff_false,hml,any_all,hm];first|(with_reducible refine A.h ?_)|(with_reducible refine B.h ?_)|(refine And.intro (fun hc=>A.h ?_) (fun hc=>B.h ?_)))
    |((with_reducible first|refine ny ?_|refine t_dwh (h:=fun K KL=>?_));intros;simp only [go_sem,kp42,geff_true,geff_false,hml,any_all,hm])
    |((with_reducible refine t_geffS (fun hg=>?_) (fun hg=>?_))<;>((try simp only [Bool.not_eq_true',Bool.not_eq_false',Bool.and_eq_true,Bool.or_eq_false_iff] at hg);simp only [hg,go_sem,kp42,geff_true,geff_false,hml,any_all,hm])))
   all_goals try exact nd
   all_goals
     all_goals (refine nl ?_;simp only [go_sem])
     refine LeA.of_eq ?_
     rw [←hR]
     simp
  |true=>
  rw [hm] at hR
  cases hA:(o.all fun x=>rightS x r) with
  |false=>
   rw [hA] at hR
   repeat' (first
    |(with_reducible first|refine nx ?_|refine t_seq fun K=>?_|refine t_bx ?_|apply And.intro|intro vr)
    |((with_reducible refine t_cond fun A B=>?_);simp only [go_sem,kp42,geff_true,geff_false,hml,any_all,hm,hA];first|(with_reducible refine A.h ?_)|(with_reducible refine B.h ?_)|(refine And.intro (fun hc=>A.h ?_) (fun hc=>B.h ?_)))
    |((with_reducible first|refine ny ?_|refine t_dwh (h:=fun K KL=>?_));intros;simp only [go_sem,kp42,geff_true,geff_false,hml,any_all,hm,hA])
    |((with_reducible refine t_geffS (fun hg=>?_) (fun hg=>?_))<;>((try simp only [Bool.not_eq_true',Bool.not_eq_false',Bool.and_eq_true,Bool.or_eq_false_iff] at hg);simp only [hg,go_sem,kp42,geff_true,geff_false,hml,any_all,hm,hA])))
   all_goals try exact nd
   all_goals
     all_goals (refine nl ?_;simp only [go_sem])
     refine LeA.of_eq ?_
     rw [←hR]
     simp
  |true=>
  rw [hA] at hR
  repeat' (first
   |(with_reducible first|refine nx ?_|refine t_seq fun K=>?_|refine t_bx ?_|apply And.intro|intro vr)
   |((with_reducible refine t_cond fun A B=>?_);simp only [go_sem,kp42,geff_true,geff_false,hml,any_all,hm,hA];first|(with_reducible refine A.h ?_)|(with_reducible refine B.h ?_)|(refine And.intro (fun hc=>A.h ?_) (fun hc=>B.h ?_)))
   |((with_reducible first|refine ny ?_|refine t_dwh (h:=fun K KL=>?_));intros;simp only [go_sem,kp42,geff_true,geff_false,hml,any_all,hm,hA])
   |((with_reducible refine t_geffS (fun hg=>?_) (fun hg=>?_))<;>((try simp only [Bool.not_eq_true',Bool.not_eq_false',Bool.and_eq_true,Bool.or_eq_false_iff] at hg);simp only [hg,go_sem,kp42,geff_true,geff_false,hml,any_all,hm,hA])))
  all_goals try exact nd
  ·skip
   all_goals (refine nl ?_;simp only [go_sem])
   refine LeA.of_eq ?_
   rw [←hR]
   simp_all
   intro k1 k2 k3 k4 k5
   exfalso
   omega
  have hH:headB ⟨r,a,o,ii,u,t⟩=false:=by simp only [headB,formedB,hA,hm];simp_all
  have hRT:typesOk a t (ii++u)=R:=by rw [←hR];simp only [headB,formedB,hA,hm] at hH;rw [hH];rfl
  have hla:0≤a∧a≤1048576:=by simp only [headB,Bool.or_eq_false_iff,decide_eq_false_iff_not] at hH;omega
  have hlt:t.length=ii.length+u.length:=by simp only [headB,Bool.or_eq_false_iff,bne_eq_false_iff_eq] at hH;omega
  clear hR hH hc
  refine t_loopF (ι:={j:Nat // j≤t.length∧typesOk a (t.drop j) ((ii++u).drop j)=R}) (fun i=>[(61,.lit (.int .i64 i.1))]) (fun i=>[.box 45 [.lit (.int .i64 r),.lit (.int .i64 a),.sl false 6 (opsV o),.sl false 2 (plsV ii),.sl false 2 (plsV u),.sl false 3 (arrs t)]]) (fun i=>t.length - i.1) ⟨0,by omega,hRT⟩ ?_ ?_
  ·exact lf
  rintro ⟨j,hj,hF⟩ K0
  have hcl:(ii++u).length=t.length:=by rw [List.length_append];omega
  rcases Nat.lt_or_ge j t.length with hc|hc
  ·have g3:decide ((j:Int)<(t.length:Int))=true:=decide_eq_true (by omega)
   have hpl:j<(ii++u).length:=by rw [List.length_append];omega
   rw [drop_getD nilA hc,drop_getP hpl,typesOk,typeOk_eq] at hF
   have hm:okA (t.getD j nilA):=hD _ (getD_mem nilA hc)
   generalize hp:(ii++u).getD j (0,0)=p at hF
   generalize hy:t.getD j nilA=y at hF hm
   obtain ⟨po,ps⟩:=p
   have hbd:=sizeS_bd y.d
   obtain ⟨e,d,x⟩:=y
   simp only at hF hbd
   have hpy:arrV ⟨e,d,x⟩= .agg [.lit (.string e),.sl false 1 (ints .i64 d),.sl false 1 (ints .i64 x)]:=rfl
   have hpp:plV (po,ps)= .agg [.lit (.int .i64 po),.lit (.int .i64 ps)]:=rfl
   repeat' (first
    |(with_reducible first|refine nx ?_|refine t_seq fun K=>?_|refine t_br (fun hc=>?_) fun hc=>?_|refine t_bx ?_|apply And.intro|intro vr)
    |((with_reducible first|refine ny ?_|refine t_dwh (h:=fun K KL=>?_));intros;simp only [go_sem,kp42,geff,g3,hcl,hy,hpy,hp,hpp,Int.toNat_natCast,yes]))
   all_goals try exact nd
   ·skip
    all_goals (refine nl ?_;simp only [go_sem])
    refine LeA.of_eq ?_
    rw [←hF]
    revert hc
    simp only [bne]
    cases typdB ⟨e,d,x⟩<;>cases (ps==(sizeS d).1)<;>cases decide (po<0)<;>cases decide (po>a - (sizeS d).1)<;>simp
   ·skip
    have hF':typesOk a (t.drop (j+1)) ((ii++u).drop (j+1))=R:=by rw [←hF];simp_all
    refine ⟨⟨j+1,by omega,hF'⟩,by first|(simp only;omega)|omega,?_⟩
    try simp only [updL_nil,updL_cons,delF_top,delF_upd,Nat.reduceEqDiff,reduceIte]
    refine le_backM (by first|rfl|(simp only [go_sem];try rfl)) (by first|exact Nat.zero_le _|simp) (by first|rfl|simp [lowO,low_lit,low_sl,low_ref,low_arr,low_sub,low_mp]) ?_ ?_
    ·repeat' (first|exact low_top|(refine low_upd rfl ?_))
    repeat' (first|exact leF_top _|exact (fun _=>LeR.refl _)|(with_reducible refine leF_sl ?_ ?_)|(refine leF_upd ?_ ?_))
    all_goals (first|exact LeR.top _|exact LeR.refl _|(refine LeR.of_eq ?_;(try simp only [go_sem]);try rfl)|((try simp only [go_sem]);try rfl))
  ·have g3:decide ((j:Int)<(t.length:Int))=false:=decide_eq_false (by omega)
   rw [List.drop_eq_nil_of_le hc] at hF
   repeat' (first
    |(with_reducible first|refine nx ?_|refine t_seq fun K=>?_|refine t_br (fun hc=>?_) fun hc=>?_|refine t_bx ?_|apply And.intro|intro vr)
    |((with_reducible first|refine ny ?_|refine t_dwh (h:=fun K KL=>?_));intros;simp only [go_sem,kp42,geff,g3,hcl]))
   all_goals try exact nd
   all_goals (refine nl ?_;simp only [go_sem])
   exact LeA.of_eq (by rw [←hF];rfl)
end Go.Proofs.Ytnlimcijgpaegaa

namespace Go.Proofs.Ytnlimcijgpaegaa
open Go Go.Fw Bm
set_option maxRecDepth 20000
def rgV (r:Rng):AV:= .agg [.lit (.int .i64 r.lo),.lit (.int .i64 r.hi)]
theorem rgV_mk {a b:Int}:rgV ⟨a,b⟩= .agg [.lit (.int .i64 a),.lit (.int .i64 b)]:=rfl
theorem rgV_def {r:Rng}:rgV r= .agg [.lit (.int .i64 r.lo),.lit (.int .i64 r.hi)]:=rfl
def rgsV (l:List Rng):List AV:=l.map rgV
theorem rgsV_length (l:List Rng):(rgsV l).length=l.length:=by simp [rgsV]
def jR:AV:=rgV nilR
theorem rgsV_getJ (l:List Rng) (i:Nat):(rgsV l).getD i jR=rgV (l.getD i nilR):=by
  simp only [rgsV,jR,List.getD_eq_getElem?_getD,List.getElem?_map];cases l[i]? <;>rfl
def rngOf:AV→Option Rng
  |.agg [.lit (.int .i64 a),.lit (.int .i64 b)]=>some ⟨a,b⟩
  |_=>none
theorem rngOf_agg {a b:Int}:rngOf (.agg [.lit (.int .i64 a),.lit (.int .i64 b)])=some ⟨a,b⟩:=rfl
theorem rngOf_V {r:Rng}:rngOf (rgV r)=some r:=rfl
def rngL:List AV→Option (List Rng)
  |[]=>some []
  |x::xs=>match rngOf x,rngL xs with
   |some s,some l=>some (s::l)
   |_,_=>none
theorem rngL_rgs:∀ l:List Rng,rngL (rgsV l)=some l
  |[]=>rfl
  |s::l=>by
   show rngL (rgV s::rgsV l)=_
   rw [rngL,rngOf_V,rngL_rgs l]
def rngsOf (x:AV):Option (List Rng):=(slA 2 x).bind rngL
theorem rngsOf_sl {b:Bool} {l:List Rng}:rngsOf (.sl b 2 (rgsV l))=some l:=by simp [rngsOf,slA,rngL_rgs]
theorem rngsOf_nil:rngsOf (.lit (.slice none 0 0))=some []:=rfl
def jkR:TypeId→AV:=fun t=>if t=29 then jR else if t=28 then jR else jkC t
theorem jkR_29:jkR 29=jR:=rfl
theorem jkR_28:jkR 28=jR:=rfl
theorem jkR_73:jkR 73=jOp:=rfl
theorem jkR_99:jkR 99=jPl:=rfl
theorem jkR_42:jkR 42=jPs:=rfl
theorem jkR_3:jkR 3= .lit (.int .i64 0):=rfl
theorem jkR_9:jkR 9= .lit (.string ByteArray.empty):=rfl
theorem jkR_34:jkR 34=jI:=rfl
theorem jkR_96:jkR 96=jA:=rfl
attribute [go_sem] jkR_29 jkR_28 jkR_73 jkR_99 jkR_42 jkR_3 jkR_9 jkR_34 jkR_96 rgsV_getJ rgsV_length rngOf_V rngOf_agg rngsOf_sl rngsOf_nil
theorem intsR_V:rgV intsR= .agg [.lit (.int .i64 (-2147483648)),.lit (.int .i64 2147483647)]:=rfl
theorem machR_V:rgV machR= .agg [.lit (.int .i64 (-1099511627776)),.lit (.int .i64 1099511627776)]:=rfl
attribute [go_sem] intsR_V machR_V rgV_mk
end Go.Proofs.Ytnlimcijgpaegaa

namespace Go.Proofs.Ytnlimcijgpaegaa
open Go Go.Fw Bm
set_option maxRecDepth 20000
attribute [go_sem] rgV_def
section
end
end Go.Proofs.Ytnlimcijgpaegaa
