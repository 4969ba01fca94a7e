import Derived.Test.YtcpjahmajkhchaaGreatSC
import Derived.Test.YtcpjahmajkhchaaGreatSB

set_option linter.all false

namespace Go.Proofs.YtcpjahmajkhchaaGreat
open Go Go.Fw
set_option maxRecDepth 20000
set_option maxRecDepth 20000
def opT (L:List Ent) (i:Nat):List ByteArray:=(L.take i).map (·.op)
theorem opT_zero {L:List Ent}:opT L 0=[]:=rfl
theorem opT_succ {L:List Ent} {i:Nat} (h:i<L.length):opT L (i+1)=opT L i++[(L.getD i ent0).op]:=by
  unfold opT
  rw [List.take_add_one,List.getElem?_eq_getElem h,List.getD_eq_getElem?_getD,List.getElem?_eq_getElem h,List.map_append];rfl
theorem opT_len {L:List Ent} {i:Nat} (h:i≤L.length):(opT L i).length=i:=by simp [opT];omega
noncomputable def M2:Env:=envJ (P:=Tryz.prog) jk2 zer (fun _=>false) (fun _=>false) [con127] []
theorem M2_ok:EnvOk Tryz.prog M2:=envJOk zer_ok
set_option maxHeartbeats 2000000 in
theorem ops_pc:PC Tryz.prog 108 [] (.sl false 1 (strs opNames)):=by
  have hR:opT ents ents.length++[n_pack]=opNames:=rfl
  generalize hL:ents=L at hR
  have hlen:L.length=12:=by rw [←hL];rfl
  generalize opNames=R at hR
  refine pcR M2_ok (kp108) Tryz.func108 [.tmp 0] (h:=fun KF=>?_)
  unfold M2
  repeat' (first
   |(with_reducible first|refine t_seq fun K=>?_|refine nx ?_|refine t_br (fun hc=>?_) fun hc=>?_)|exact kpd
   |((with_reducible first|refine ny ?_|refine t_kLF ?_ ?_|refine t_region fun K=>?_|refine t_cond fun A B=>?_|refine t_dw (h:=fun K=>?_));(try (refine nh ?_;intro KL));simp only [go_sem,geff,kp108,con127_f,con127_c,entsV_length,hL])
   |simp only [thenQ,blockQ,scopeQ,Nat.reduceEqDiff,reduceIte]|(with_reducible first|refine And.intro ?_ ?_|intro vr))
  all_goals try exact nd
  refine t_loopF (ι:={i:Gat // i.i≤L.length}) (fun i=>[(6,.lit (.int .i64 i.1.i)),(1,.arr 0 i.1.v)]) (fun i=>[.arr 9 1 (strs (opT L i.1.i)) i.1.v false]) (fun i=>L.length - i.1.i) ⟨⟨0,0⟩,by simp⟩ ?_ ?_
  ·refine (le_nil 1 9 1 rfl).trans ?_
   simp only [updL_nil,updL_cons,delF_top,delF_upd,Nat.reduceEqDiff,reduceIte]
   simp only [opT_zero,strs_nil']
   refine Le.frameS (by first|rfl|(simp only [go_sem];try rfl)) ?_
   repeat' (first|exact leF_top _|exact (fun _=>LeR.refl _)|(with_reducible refine leF_sl ?_ ?_)|(refine leF_upd ?_ ?_))
   all_goals (first|exact LeR.top _|exact LeR.refl _|(refine LeR.of_eq ?_;(try simp only [go_sem]);try rfl)|((try simp only [go_sem]);try rfl))
  rintro ⟨⟨i,v⟩,hi⟩ K0
  simp only at hi
  rcases Nat.lt_or_ge i L.length with hc|hc
  ·have g3:decide ((i:Int)<(L.length:Int))=true:=decide_eq_true (by omega)
   have hb:=opT_len (L:=L) (i:=i) hi
   repeat' (first
    |(with_reducible first|refine t_seq fun K=>?_|refine nx ?_|refine t_br (fun hc=>?_) fun hc=>?_)|exact kpd
    |((with_reducible first|refine ny ?_|refine t_kLF ?_ ?_|refine t_region fun K=>?_|refine t_cond fun A B=>?_|refine t_dw (h:=fun K=>?_));(try (refine nh ?_;intro KL));simp only [go_sem,geff,kp108,con127_f,g3,Int.toNat_natCast,entsV_length,entV_def,strs_length,strs_append1])
    |simp only [thenQ,blockQ,scopeQ,Nat.reduceEqDiff,reduceIte]|(with_reducible first|refine And.intro ?_ ?_|intro vr))
   all_goals try exact nd
   simp only [←opT_succ hc]
   refine ⟨⟨⟨i+1,v+1⟩,by simp only;omega⟩,by first|(simp only;omega)|omega,?_⟩
   simp only [updL_nil,updL_cons,delF_top,delF_upd,Nat.reduceEqDiff,reduceIte]
   refine le_backD (by first|rfl|(simp only [go_sem];try rfl)) (by first|exact Nat.zero_le _|simp) (by first|rfl|simp [lowO,low_lit,low_sl,low_ref,low_arr,low_fnV]) ?_ ?_
   ·repeat' (first|exact low_top|(refine low_upd rfl ?_))
   repeat' (first|exact leF_top _|exact (fun _=>LeR.refl _)|(with_reducible refine leF_sl ?_ ?_)|(refine leF_upd ?_ ?_))
   all_goals (first|exact LeR.top _|exact LeR.refl _|(refine LeR.of_eq ?_;(try simp only [go_sem]);try rfl)|((try simp only [go_sem]);try rfl))
  ·have hie:i=L.length:=by omega
   have g3:decide ((L.length:Int)<(L.length:Int))=false:=decide_eq_false (by omega)
   have hb:=opT_len (L:=L) (i:=L.length) (by omega)
   repeat' (first
    |(with_reducible first|refine t_seq fun K=>?_|refine nx ?_|refine t_br (fun hc=>?_) fun hc=>?_)|exact kpd
    |((with_reducible first|refine ny ?_|refine t_kLF ?_ ?_|refine t_region fun K=>?_|refine t_cond fun A B=>?_|refine t_dw (h:=fun K=>?_));(try (refine nh ?_;intro KL));simp only [go_sem,geff,kp108,con127_f,hie,g3,Int.toNat_natCast,entsV_length,entV_def,strs_length,strs_append1])
    |simp only [thenQ,blockQ,scopeQ,Nat.reduceEqDiff,reduceIte]|(with_reducible first|refine And.intro ?_ ?_|intro vr))
   all_goals try exact nd
   all_goals ((first|refine end_retE ?_|refine end_normE ?_);simp only [fin,go_sem])
   rw [←hR]
   exact LeA.refl _
noncomputable def con108:PCon Tryz.prog where
  f:=108
  c:=fun
   |[]=>some (True,.sl false 1 (strs opNames))
   |_=>none
  ok:=by
   intro args p r hc hp
   split at hc
   ·cases hc;exact ops_pc
   ·cases hc
  fk:=fk108
theorem con108_f:con108.f=108:=rfl
theorem con108_c:con108.c []=some (True,.sl false 1 (strs opNames)):=rfl
set_option maxHeartbeats 2000000 in
theorem indexS_pc {l:List ByteArray} {s:ByteArray} (hl:l.length≤1000000):PC Tryz.prog 126 [.sl false 1 (strs l),.lit (.string s)] (.lit (.int .i64 (idxB (fun t=>eqS s t) l 0))):=by
  generalize hR:idxB (fun t=>eqS s t) l 0=R
  refine pcR F1_ok (kp126) Tryz.func126 [.tmp 4] (h:=fun KF=>?_)
  unfold F1
  repeat' (first
   |(with_reducible first|refine t_seq fun K=>?_|refine nx ?_|refine t_br (fun hc=>?_) fun hc=>?_)|exact kpd
   |((with_reducible first|refine ny ?_|refine t_kLF ?_ ?_|refine t_region fun K=>?_|refine t_cond fun A B=>?_|refine t_dw (h:=fun K=>?_));(try (refine nh ?_;intro KL));simp only [go_sem,geff,kp126,strs_length])
   |simp only [thenQ,blockQ,scopeQ,Nat.reduceEqDiff,reduceIte]|(with_reducible first|refine And.intro ?_ ?_|intro vr))
  all_goals try exact nd
  refine t_loopF (ι:={i:Nat // i≤l.length∧idxB (fun t=>eqS s t) (l.drop i) i=R}) (fun i=>[(8,.lit (.int .i64 i.1))]) (fun i=>[]) (fun i=>l.length - i.1) ⟨0,by omega,hR⟩ ?_ ?_
  ·simp only [updL_nil,updL_cons,delF_top,delF_upd,Nat.reduceEqDiff,reduceIte]
   refine Le.frameS (by first|rfl|(simp only [go_sem];try rfl)) ?_
   repeat' (first|exact leF_top _|exact (fun _=>LeR.refl _)|(with_reducible refine leF_sl ?_ ?_)|(refine leF_upd ?_ ?_))
   all_goals (first|exact LeR.top _|exact LeR.refl _|(refine LeR.of_eq ?_;(try simp only [go_sem]);try rfl)|((try simp only [go_sem]);try rfl))
  rintro ⟨i,hi,hF⟩ K0
  rcases Nat.lt_or_ge i l.length with hc|hc
  ·rw [drop_getD ByteArray.empty hc,idxB] at hF
   have g3:decide ((i:Int)<(l.length:Int))=true:=decide_eq_true (by omega)
   repeat' (first
    |(with_reducible first|refine t_seq fun K=>?_|refine nx ?_|refine t_br (fun hc=>?_) fun hc=>?_)|exact kpd
    |((with_reducible first|refine ny ?_|refine t_kLF ?_ ?_|refine t_region fun K=>?_|refine t_cond fun A B=>?_|refine t_dw (h:=fun K=>?_));(try (refine nh ?_;intro KL));simp only [go_sem,geff,kp126,g3,Int.toNat_natCast,strs_length])
    |simp only [thenQ,blockQ,scopeQ,Nat.reduceEqDiff,reduceIte]|(with_reducible first|refine And.intro ?_ ?_|intro vr))
   all_goals try exact nd
   ·skip
    all_goals ((first|refine end_retE ?_|refine end_normE ?_);simp only [fin,go_sem])
    rw [if_pos hc] at hF
    rw [hF];exact LeA.refl _
   ·skip
    refine ⟨⟨i+1,by omega,by rw [if_neg (by rw [hc];decide)] at hF;rw [←hF];congr 1⟩,by first|(simp only;omega)|omega,?_⟩
    simp only [updL_nil,updL_cons,delF_top,delF_upd,Nat.reduceEqDiff,reduceIte]
    refine Le.frameS (by first|rfl|(simp only [go_sem];try rfl)) ?_
    repeat' (first|exact leF_top _|exact (fun _=>LeR.refl _)|(with_reducible refine leF_sl ?_ ?_)|(refine leF_upd ?_ ?_))
    all_goals (first|exact LeR.top _|exact LeR.refl _|(refine LeR.of_eq ?_;(try simp only [go_sem]);try rfl)|((try simp only [go_sem]);try rfl))
  ·have hie:i=l.length:=by omega
   have g3:decide ((l.length:Int)<(l.length:Int))=false:=decide_eq_false (by omega)
   rw [hie,List.drop_eq_nil_of_le (by omega),idxB] at hF
   repeat' (first
    |(with_reducible first|refine t_seq fun K=>?_|refine nx ?_|refine t_br (fun hc=>?_) fun hc=>?_)|exact kpd
    |((with_reducible first|refine ny ?_|refine t_kLF ?_ ?_|refine t_region fun K=>?_|refine t_cond fun A B=>?_|refine t_dw (h:=fun K=>?_));(try (refine nh ?_;intro KL));simp only [go_sem,geff,kp126,hie,g3,Int.toNat_natCast,strs_length])
    |simp only [thenQ,blockQ,scopeQ,Nat.reduceEqDiff,reduceIte]|(with_reducible first|refine And.intro ?_ ?_|intro vr))
   all_goals try exact nd
   all_goals ((first|refine end_retE ?_|refine end_normE ?_);simp only [fin,go_sem])
   rw [hF];exact LeA.refl _
noncomputable def con126:PCon Tryz.prog where
  f:=126
  c:=fun
   |[xl,.lit (.string s)]=>match slS xl with|some l=>some (l.length≤1000000,.lit (.int .i64 (idxB (fun t=>eqS s t) l 0)))|_=>none
   |_=>none
  ok:=by
   intro args p r hc hp
   split at hc
   ·split at hc
    ·rename_i hl
     cases hc
     exact PC.weak (indexS_pc hp) ⟨slS_le hl,LeA.refl _,trivial⟩
    ·cases hc
   ·cases hc
  fk:=fk126
theorem con126_f:con126.f=126:=rfl
theorem con126_c {xl:AV} {s:ByteArray}:con126.c [xl,.lit (.string s)]=match slS xl with|some l=>some (l.length≤1000000,.lit (.int .i64 (idxB (fun t=>eqS s t) l 0)))|_=>none:=rfl
noncomputable def M3:Env:=envJ (P:=Tryz.prog) jk2 zer (fun _=>false) (fun _=>false) [con126] []
theorem M3_ok:EnvOk Tryz.prog M3:=envJOk zer_ok
theorem hasS_pc {l:List ByteArray} {s:ByteArray} (hl:l.length≤1000000):PC Tryz.prog 107 [.sl false 1 (strs l),.lit (.string s)] (.lit (.bool (l.any fun t=>eqS s t))):=by
  rw [←idxB_any _ l 0 (by omega)]
  refine pcR M3_ok (kp107) Tryz.func107 [.tmp 4] (h:=fun KF=>?_)
  unfold M3
  repeat' (first
   |(with_reducible first|refine t_seq fun K=>?_|refine nx ?_|refine t_br (fun hc=>?_) fun hc=>?_)|exact kpd
   |((with_reducible first|refine ny ?_|refine t_kLF ?_ ?_|refine t_region fun K=>?_|refine t_cond fun A B=>?_|refine t_dw (h:=fun K=>?_));(try (refine nh ?_;intro KL));simp only [go_sem,geff,kp107,con126_f,con126_c,slS_sl])
   |simp only [thenQ,blockQ,scopeQ,Nat.reduceEqDiff,reduceIte]|(with_reducible first|refine And.intro ?_ ?_|intro vr))
  all_goals try exact nd
  all_goals ((first|refine end_retE ?_|refine end_normE ?_);simp only [fin,go_sem])
  exact LeA.refl _
noncomputable def con107:PCon Tryz.prog where
  f:=107
  c:=fun
   |[xl,.lit (.string s)]=>match slS xl with|some l=>some (l.length≤1000000,.lit (.bool (l.any fun t=>eqS s t)))|_=>none
   |_=>none
  ok:=by
   intro args p r hc hp
   split at hc
   ·split at hc
    ·rename_i hl
     cases hc
     exact PC.weak (hasS_pc hp) ⟨slS_le hl,LeA.refl _,trivial⟩
    ·cases hc
   ·cases hc
  fk:=fk107
theorem con107_f:con107.f=107:=rfl
theorem con107_c {xl:AV} {s:ByteArray}:con107.c [xl,.lit (.string s)]=match slS xl with|some l=>some (l.length≤1000000,.lit (.bool (l.any fun t=>eqS s t)))|_=>none:=rfl
noncomputable def M4:Env:=envJ (P:=Tryz.prog) jk2 zer (fun _=>false) (fun _=>false) [con108,con107] []
theorem M4_ok:EnvOk Tryz.prog M4:=envJOk zer_ok
theorem is_pc {op:ByteArray}:PC Tryz.prog 74 [.lit (.string op)] (.lit (.bool (isS op))):=by
  have e:isS op=opNames.any fun t=>eqS op t:=by
    unfold isS
    congr 1
    funext t
    exact eqS_symm t op
  rw [e]
  have hl:opNames.length=13:=rfl
  refine pcR M4_ok (kp74) Tryz.func74 [.tmp 2] (h:=fun KF=>?_)
  unfold M4
  repeat' (first
   |(with_reducible first|refine t_seq fun K=>?_|refine nx ?_|refine t_br (fun hc=>?_) fun hc=>?_)|exact kpd
   |((with_reducible first|refine ny ?_|refine t_kLF ?_ ?_|refine t_region fun K=>?_|refine t_cond fun A B=>?_|refine t_dw (h:=fun K=>?_));(try (refine nh ?_;intro KL));simp only [go_sem,geff,kp74,con108_f,con107_f,con108_c,con107_c,slS_sl])
   |simp only [thenQ,blockQ,scopeQ,Nat.reduceEqDiff,reduceIte]|(with_reducible first|refine And.intro ?_ ?_|intro vr))
  all_goals try exact nd
  all_goals ((first|refine end_retE ?_|refine end_normE ?_);simp only [fin,go_sem])
  exact LeA.refl _
noncomputable def con74:PCon Tryz.prog where
  f:=74
  c:=fun
   |[.lit (.string op)]=>some (True,.lit (.bool (isS op)))
   |_=>none
  ok:=by
   intro args p r hc hp
   split at hc
   ·cases hc;exact is_pc
   ·cases hc
  fk:=fk74
theorem con74_f:con74.f=74:=rfl
theorem con74_c {op:ByteArray}:con74.c [.lit (.string op)]=some (True,.lit (.bool (isS op))):=rfl
end Go.Proofs.YtcpjahmajkhchaaGreat

namespace Go.Proofs.YtcpjahmajkhchaaGreat
open Go Go.Fw Go.RowKit Go.Shelf
attribute [local go_sem] Oper.semAt_some
theorem boxed_pc {f g:FuncId} {x:AV} {t:TypeId} (hx:x.cells=[x]) (h:∀ (C:Nat→Nat→Option Value) (v:Value) (w:World),RC C x v→v.oneCell'=true→
      Calls Tryz.prog f #[v] w fun e w'=>e= .returned (.func (.func g) #[] #[.pointer (some ⟨w.heap.size,0,none⟩)])∧w'=w.alloc (.cells #[v] t))
    (h1:∀ (C:Nat→Nat→Option Value) (v:Value),RC C x v→v.oneCell'=true):PC Tryz.prog f [x] (.fn (.func g) [] [.sref x 0]):=by
  intro C w vs hr hin
  obtain ⟨hl,hr⟩:=hr
  match vs,hl with
  |[v],_=>
  have hv:RC C x v:=hr 0 (by simp)
  have ho:=h1 C v hv
  refine (h C v w hv ho).mono ?_
  rintro e w' ⟨rfl,rfl⟩
  have hold:∀ k o u,C k o=some u→k<w.heap.size:=fun k o u hu=>World.block_lt_of_cell? w _ (hin k o u hu)
  have hm:More w (w.alloc (.cells #[v] t)):=More.push w _
  have hle:CLe C (fun k o=>if k=w.heap.size then (#[v]:Array Value)[o]? else C k o):=fun k o u hu=>by
    have:=hold k o u hu
    show (if k=w.heap.size then _ else _)=_
    rw [if_neg (by omega)];exact hu
  refine ⟨_,fun k o=>if k=w.heap.size then (#[v]:Array Value)[o]? else C k o,rfl,hle,?_,?_,hm,?_⟩
  ·refine .fn (.func g) [] [.sref x 0] [] [.pointer (some ⟨w.heap.size,0,none⟩)] rfl (by simp) rfl fun i hi=>?_
   have:i=0:=by simp at hi;omega
   subst this
   refine RC.sref x 0 w.heap.size 0 (fun _=>v) ?_ ?_ ?_
   ·intro j hj
    rw [hx] at hj
    have:j=0:=by simp at hj;omega
    subst this
    show (if w.heap.size=w.heap.size then _ else _)=_
    rw [if_pos rfl];rfl
   ·intro j hj;exact ho
   ·intro j hj
    rw [hx] at hj ⊢
    have:j=0:=by simp at hj;omega
    subst this
    exact hv.mono hle
  ·intro k o u hu
   simp only at hu
   split at hu
   ·rename_i hk
    subst hk
    have:o=0:=by
      rcases o with _|o
      ·rfl
      ·simp at hu
    subst this
    obtain rfl:v=u:=by simpa using hu
    exact (Boxed.new w t v).cell
   ·exact hm.cell (hin k o u hu)
  ·intro k hk j
   show (if k=w.heap.size then _ else _)=_
   rw [if_neg (by omega)]
set_option maxHeartbeats 1000000 in
theorem named_pc {s:ByteArray}:PC Tryz.prog 102 [.lit (.string s)] (.fn (.func 125) [] [.sref (.lit (.string s)) 0]):=by
  refine boxed_pc (t:=9) rfl (fun C v w hv _=>?_) (fun C v hv=>by rw [rc_lit hv];rfl)
  obtain rfl:=rc_lit hv
  refine (callsIn_wide (n:=1)).1 ?_
  refine callsIn_of_wp Tryz.func102 rfl trivial ?_ rfl
  simp only [Tryz.ntmps102,List.size_toArray,List.length_cons,List.length_nil,Nat.reduceAdd,Nat.reduceSub,Array.replicate_succ,Array.replicate_zero,List.push_toArray,List.append_toArray,List.nil_append,List.cons_append]
  gi_wp2
  go_ret
  exact ⟨rfl,rfl⟩
set_option maxHeartbeats 1000000 in
theorem fixed_pc {l:List Int}:PC Tryz.prog 97 [.sl false 1 (ints .i64 l)] (.fn (.func 117) [] [.sref (.sl false 1 (ints .i64 l)) 0]):=by
  refine boxed_pc (t:=23) rfl (fun C v w hv _=>?_) (fun C v hv=>by obtain ⟨a,b,c,rfl⟩:=rc_slice hv;rfl)
  obtain ⟨a,b,c,rfl⟩:=rc_slice hv
  refine (callsIn_wide (n:=1)).1 ?_
  refine callsIn_of_wp Tryz.func97 rfl trivial ?_ rfl
  simp only [Tryz.ntmps97,List.size_toArray,List.length_cons,List.length_nil,Nat.reduceAdd,Nat.reduceSub,Array.replicate_succ,Array.replicate_zero,List.push_toArray,List.append_toArray,List.nil_append,List.cons_append]
  gi_wp2
  go_ret
  exact ⟨rfl,rfl⟩
end Go.Proofs.YtcpjahmajkhchaaGreat

namespace Go.Proofs.YtcpjahmajkhchaaGreat
open Go Go.Fw
set_option maxRecDepth 20000
noncomputable def con102:PCon Tryz.prog where
  f:=102
  c:=fun
   |[.lit (.string s)]=>some (True,.fn (.func 125) [] [.sref (.lit (.string s)) 0])
   |_=>none
  ok:=by
   intro args p r hc hp
   split at hc
   ·cases hc;exact named_pc
   ·cases hc
  fk:=fk102
theorem con102_f:con102.f=102:=rfl
theorem con102_c {s:ByteArray}:con102.c [.lit (.string s)]=some (True,.fn (.func 125) [] [.sref (.lit (.string s)) 0]):=rfl
noncomputable def con97:PCon Tryz.prog where
  f:=97
  c:=fun
   |[xl]=>match slK .i64 xl with|some l=>some (True,.fn (.func 117) [] [.sref (.sl false 1 (ints .i64 l)) 0])|_=>none
   |_=>none
  ok:=by
   intro args p r hc hp
   split at hc
   ·split at hc
    ·rename_i hl
     cases hc
     exact PC.weak fixed_pc ⟨slK_le hl,trivial⟩
    ·cases hc
   ·cases hc
  fk:=fk97
theorem con97_f:con97.f=97:=rfl
theorem con97_c {xl:AV}:con97.c [xl]=match slK .i64 xl with|some l=>some (True,.fn (.func 117) [] [.sref (.sl false 1 (ints .i64 l)) 0])|_=>none:=rfl
def sFold:ByteArray:=⟨#[102,111,108,100]⟩
def sScan:ByteArray:=⟨#[115,99,97,110]⟩
def sSize:ByteArray:=⟨#[115,105,122,101]⟩
inductive Kd where
  |prim|struc|fold|scan|const|size
def namV (s:ByteArray):AV:= .fn (.func 125) [] [.sref (.lit (.string s)) 0]
def fixV (l:List Int):AV:= .fn (.func 117) [] [.sref (.sl false 1 (ints .i64 l)) 0]
def fun0 (f:FuncId):AV:= .fn (.func f) [] []
def kdV:Kd→AV
  |.prim=> .agg [fun0 95,fun0 96,fun0 98]
  |.struc=> .agg [fun0 74,fun0 99,fun0 100]
  |.fold=> .agg [namV sFold,fixV [0,1],fun0 103]
  |.scan=> .agg [namV sScan,fixV [1],fun0 104]
  |.const=> .agg [namV sConst,fixV [],fun0 105]
  |.size=> .agg [namV sSize,fixV [],fun0 106]
def kds:List Kd:=[.prim,.struc,.fold,.scan,.const,.size]
def kdsV (l:List Kd):List AV:=l.map kdV
theorem kdsV_length (l:List Kd):(kdsV l).length=l.length:=by simp [kdsV]
def jKd:AV:=kdV .prim
theorem kdsV_getJ (l:List Kd) (i:Nat):(kdsV l).getD i jKd=kdV (l.getD i .prim):=by
  simp only [jKd,kdsV,List.getD_eq_getElem?_getD,List.getElem?_map];cases l[i]? <;>rfl
def jkK:TypeId→AV:=fun t=>if t=92 then jKd else jkR t
theorem jkK_92:jkK 92=jKd:=rfl
theorem jkK_3:jkK 3= .lit (.int .i64 0):=rfl
theorem jkK_9:jkK 9= .lit (.string ByteArray.empty):=rfl
theorem jkK_23:jkK 23=jI:=rfl
theorem jkK_31:jkK 31=jA:=rfl
theorem jkK_78:jkK 78=jStp:=rfl
attribute [go_sem] con102_f con102_c con97_f con97_c jkK_92 jkK_3 jkK_9 jkK_23 jkK_31 jkK_78 kdsV_getJ kdsV_length
theorem szf89:szT Tryz.prog 89=1:=by kernel_rfl
theorem szf64:szT Tryz.prog 64=1:=by kernel_rfl
theorem szf90:szT Tryz.prog 90=1:=by kernel_rfl
theorem agf89:aggT Tryz.prog 89=some false:=by kernel_rfl
theorem agf64:aggT Tryz.prog 64=some false:=by kernel_rfl
theorem agf90:aggT Tryz.prog 90=some false:=by kernel_rfl
attribute [go_sem] szf89 szf64 szf90 agf89 agf64 agf90
noncomputable def B1:Env:=envJ (P:=Tryz.prog) jkK zer (fun _=>false) (fun _=>false) [con102,con97] []
theorem B1_ok:EnvOk Tryz.prog B1:=envJOk zer_ok
set_option maxHeartbeats 4000000 in
theorem kinds_pc:PC Tryz.prog 73 [] (.sl false 3 (kdsV kds)):=by
  refine pcR B1_ok (kp73) Tryz.func73 [.tmp 0] (h:=fun KF=>?_)
  unfold B1
  repeat' (first
   |(with_reducible first|refine t_seq fun K=>?_|refine nx ?_|refine t_br (fun hc=>?_) fun hc=>?_)|exact kpd
   |((with_reducible first|refine ny ?_|refine t_kLF ?_ ?_|refine t_region fun K=>?_|refine t_cond fun A B=>?_|refine t_dw (h:=fun K=>?_));(try (refine nh ?_;intro KL));simp only [go_sem,geff,kp73,capC])
   |simp only [thenQ,blockQ,scopeQ,Nat.reduceEqDiff,reduceIte]|(with_reducible first|refine And.intro ?_ ?_|intro vr))
  all_goals try exact nd
  all_goals ((first|refine end_retE ?_|refine end_normE ?_);simp only [fin,go_sem])
  refine LeA.sl rfl (by simp [kdsV,kds,kdV,AV.cells]) ?_
  show LeL _ _
  simp only [flat,kdsV,kds,kdV,List.map_cons,List.map_nil,List.flatMap_cons,List.flatMap_nil,cells_agg,List.cons_append,List.nil_append,fun0,namV,fixV]
  repeat' (first|exact LeL.nil|refine LeL.cons ?_ ?_)
  all_goals exact LeA.refl _
end Go.Proofs.YtcpjahmajkhchaaGreat

namespace Go.Proofs.YtcpjahmajkhchaaGreat
open Go Go.Fw
set_option maxRecDepth 20000
noncomputable def con73:PCon Tryz.prog where
  f:=73
  c:=fun
   |[]=>some (True,.sl false 3 (kdsV kds))
   |_=>none
  ok:=by
   intro args p r hc hp
   split at hc
   ·cases hc;exact kinds_pc
   ·cases hc
  fk:=fk73
theorem con73_f:con73.f=73:=rfl
theorem con73_c:con73.c []=some (True,.sl false 3 (kdsV kds)):=rfl
noncomputable def B2:Env:=envJ (P:=Tryz.prog) jkK zer (fun _=>false) (fun _=>false) [El.con65] []
theorem B2_ok:EnvOk Tryz.prog B2:=envJOk zer_ok
theorem named1_pc {op s:ByteArray}:PC Tryz.prog 125 [.lit (.string op),.sref (.lit (.string s)) 0] (.lit (.bool (eqS op s))):=by
  refine pcR B2_ok (kp125) Tryz.func125 [.tmp 3] (h:=fun KF=>?_)
  unfold B2
  repeat' (first
   |(with_reducible first|refine t_seq fun K=>?_|refine nx ?_|refine t_br (fun hc=>?_) fun hc=>?_)|exact kpd
   |((with_reducible first|refine ny ?_|refine t_kLF ?_ ?_|refine t_region fun K=>?_|refine t_cond fun A B=>?_|refine t_dw (h:=fun K=>?_));(try (refine nh ?_;intro KL));simp only [go_sem,geff,kp125])
   |simp only [thenQ,blockQ,scopeQ,Nat.reduceEqDiff,reduceIte]|(with_reducible first|refine And.intro ?_ ?_|intro vr))
  all_goals try exact nd
  all_goals ((first|refine end_retE ?_|refine end_normE ?_);simp only [fin,go_sem])
  exact LeA.refl _
noncomputable def con125:PCon Tryz.prog where
  f:=125
  c:=fun
   |[.lit (.string op),.sref (.lit (.string s)) 0]=>some (True,.lit (.bool (eqS op s)))
   |_=>none
  ok:=by
   intro args p r hc hp
   split at hc
   ·cases hc;exact named1_pc
   ·cases hc
  fk:=fk125
theorem con125_f:con125.f=125:=rfl
theorem con125_c {op s:ByteArray}:con125.c [.lit (.string op),.sref (.lit (.string s)) 0]=some (True,.lit (.bool (eqS op s))):=rfl
def fixS (l:List Int) (n:Int):List Int×Bool:=if n=(l.length:Int) then (l,true) else ([],false)
def rkV (p:List Int×Bool):AV:= .tup [.sl false 1 (ints .i64 p.1),.lit (.bool p.2)]
theorem fixed1_pc {op:ByteArray} {n:Int} {l:List Int}:PC Tryz.prog 117 [.lit (.string op),.lit (.int .i64 n),.sref (.sl false 1 (ints .i64 l)) 0] (rkV (fixS l n)):=by
  generalize hR:fixS l n=R
  unfold fixS at hR
  by_cases h:n=(l.length:Int)
  ·rw [if_pos h] at hR
   have h':(n !=(l.length:Int))=false:=by rw [bne_eq_false_iff_eq];exact h
   refine pcR B2_ok (kp117) Tryz.func117 [.tmp 5,.tmp 6] (h:=fun KF=>?_)
   unfold B2
   repeat' (first
    |(with_reducible first|refine t_seq fun K=>?_|refine nx ?_|refine t_br (fun hc=>?_) fun hc=>?_)|exact kpd
    |((with_reducible first|refine ny ?_|refine t_kLF ?_ ?_|refine t_region fun K=>?_|refine t_cond fun A B=>?_|refine t_dw (h:=fun K=>?_));(try (refine nh ?_;intro KL));simp only [go_sem,geff,kp117,h'])
    |simp only [thenQ,blockQ,scopeQ,Nat.reduceEqDiff,reduceIte]|(with_reducible first|refine And.intro ?_ ?_|intro vr))
   all_goals try exact nd
   all_goals ((first|refine end_retE ?_|refine end_normE ?_);simp only [fin,go_sem])
   rw [←hR]
   exact LeA.refl _
  ·rw [if_neg h] at hR
   have h':(n !=(l.length:Int))=true:=bne_iff_ne.2 h
   refine pcR B2_ok (kp117) Tryz.func117 [.tmp 5,.tmp 6] (h:=fun KF=>?_)
   unfold B2
   repeat' (first
    |(with_reducible first|refine t_seq fun K=>?_|refine nx ?_|refine t_br (fun hc=>?_) fun hc=>?_)|exact kpd
    |((with_reducible first|refine ny ?_|refine t_kLF ?_ ?_|refine t_region fun K=>?_|refine t_cond fun A B=>?_|refine t_dw (h:=fun K=>?_));(try (refine nh ?_;intro KL));simp only [go_sem,geff,kp117,h'])
    |simp only [thenQ,blockQ,scopeQ,Nat.reduceEqDiff,reduceIte]|(with_reducible first|refine And.intro ?_ ?_|intro vr))
   all_goals try exact nd
   all_goals ((first|refine end_retE ?_|refine end_normE ?_);simp only [fin,go_sem])
   rw [←hR]
   exact LeA.tup ⟨LeA.nil _ _,LeA.refl _,trivial⟩
noncomputable def con117:PCon Tryz.prog where
  f:=117
  c:=fun
   |[.lit (.string _),.lit (.int .i64 n),.sref (.sl false 1 xs) 0]=>(kOf .i64 xs).map fun l=>(True,rkV (fixS l n))
   |_=>none
  ok:=by
   intro args p r hc hp
   split at hc
   ·rename_i xs
    cases hk:kOf .i64 xs with
    |none=>rw [hk] at hc;cases hc
    |some l=>
     rw [hk] at hc;cases hc
     rw [kOf_inv hk]
     exact fixed1_pc
   ·cases hc
  fk:=fk117
theorem con117_f:con117.f=117:=rfl
theorem con117_c {op:ByteArray} {n:Int} {xs:List AV}:con117.c [.lit (.string op),.lit (.int .i64 n),.sref (.sl false 1 xs) 0]=(kOf .i64 xs).map fun l=>(True,rkV (fixS l n)):=rfl
attribute [go_sem] con125_f con125_c con117_f con117_c con73_f con73_c
theorem prim1_pc {op:ByteArray}:PC Tryz.prog 95 [.lit (.string op)] (.lit (.bool (El.typesS op).isSome)):=by
  cases hT:El.typesS op with
  |none=>
   refine pcR B2_ok (kp95) Tryz.func95 [.tmp 2] (h:=fun KF=>?_)
   unfold B2
   repeat' (first
    |(with_reducible first|refine t_seq fun K=>?_|refine nx ?_|refine t_br (fun hc=>?_) fun hc=>?_)|exact kpd
    |((with_reducible first|refine ny ?_|refine t_kLF ?_ ?_|refine t_region fun K=>?_|refine t_cond fun A B=>?_|refine t_dw (h:=fun K=>?_));(try (refine nh ?_;intro KL));simp only [go_sem,geff,kp95,hT])
    |simp only [thenQ,blockQ,scopeQ,Nat.reduceEqDiff,reduceIte]|(with_reducible first|refine And.intro ?_ ?_|intro vr))
   all_goals try exact nd
   all_goals ((first|refine end_retE ?_|refine end_normE ?_);simp only [fin,go_sem])
   exact LeA.refl _
  |some r=>
   refine pcR B2_ok (kp95) Tryz.func95 [.tmp 2] (h:=fun KF=>?_)
   unfold B2
   repeat' (first
    |(with_reducible first|refine t_seq fun K=>?_|refine nx ?_|refine t_br (fun hc=>?_) fun hc=>?_)|exact kpd
    |((with_reducible first|refine ny ?_|refine t_kLF ?_ ?_|refine t_region fun K=>?_|refine t_cond fun A B=>?_|refine t_dw (h:=fun K=>?_));(try (refine nh ?_;intro KL));simp only [go_sem,geff,kp95,hT])
    |simp only [thenQ,blockQ,scopeQ,Nat.reduceEqDiff,reduceIte]|(with_reducible first|refine And.intro ?_ ?_|intro vr))
   all_goals try exact nd
   all_goals ((first|refine end_retE ?_|refine end_normE ?_);simp only [fin,go_sem])
   exact LeA.refl _
noncomputable def con95:PCon Tryz.prog where
  f:=95
  c:=fun
   |[.lit (.string op)]=>some (True,.lit (.bool (El.typesS op).isSome))
   |_=>none
  ok:=by
   intro args p r hc hp
   split at hc
   ·cases hc;exact prim1_pc
   ·cases hc
  fk:=fk95
theorem con95_f:con95.f=95:=rfl
theorem con95_c {op:ByteArray}:con95.c [.lit (.string op)]=some (True,.lit (.bool (El.typesS op).isSome)):=rfl
attribute [go_sem] con95_f con95_c con74_f con74_c
def kindS (op:ByteArray):Option Kd:=
  if (El.typesS op).isSome=true then some .prim else if isS op=true then some .struc else if eqS op sFold=true then some .fold else if eqS op sScan=true then some .scan else if eqS op sConst=true then some .const else if eqS op sSize=true then some .size else none
def hasK (op:ByteArray):Kd→Bool
  |.prim=>(El.typesS op).isSome
  |.struc=>isS op
  |.fold=>eqS op sFold
  |.scan=>eqS op sScan
  |.const=>eqS op sConst
  |.size=>eqS op sSize
def findK (op:ByteArray):List Kd→Option Kd
  |[]=>none
  |k::t=>if hasK op k=true then some k else findK op t
theorem findK_kds {op:ByteArray}:findK op kds=kindS op:=rfl
def fdV (o:Option Kd):AV:=match o with
  |some k=> .tup [kdV k,.lit (.bool true)]
  |none=> .tup [.agg [.lit .nilFunc,.lit .nilFunc,.lit .nilFunc],.lit (.bool false)]
noncomputable def B3:Env:=envJ (P:=Tryz.prog) jkK zer (fun _=>false) (fun _=>false) [con73,con95,con74,con125] []
theorem B3_ok:EnvOk Tryz.prog B3:=envJOk zer_ok
attribute [go_sem] fun0 namV fixV
set_option maxHeartbeats 8000000 in
theorem kfind_pc {op:ByteArray}:PC Tryz.prog 51 [.lit (.string op)] (fdV (kindS op)):=by
  rw [←findK_kds]
  generalize hR:findK op kds=R
  refine pcR B3_ok (kp51) Tryz.func51 [.cell 2 92,.tmp 3] (h:=fun KF=>?_)
  unfold B3
  repeat' (first
   |(with_reducible first|refine t_seq fun K=>?_|refine nx ?_|refine t_br (fun hc=>?_) fun hc=>?_)|exact kpd
   |((with_reducible first|refine ny ?_|refine t_kLF ?_ ?_|refine t_region fun K=>?_|refine t_cond fun A B=>?_|refine t_dw (h:=fun K=>?_));(try (refine nh ?_;intro KL));simp only [go_sem,geff,kp51])
   |simp only [thenQ,blockQ,scopeQ,Nat.reduceEqDiff,reduceIte]|(with_reducible first|refine And.intro ?_ ?_|intro vr))
  all_goals try exact nd
  refine t_loopF (ι:={i:Nat // i≤6∧findK op (kds.drop i)=R}) (fun i=>[(8,.lit (.int .i64 i.1))]) (fun i=>[.box 92 [.lit .nilFunc,.lit .nilFunc,.lit .nilFunc]]) (fun i=>6 - i.1) ⟨0,by omega,hR⟩ ?_ ?_
  ·simp only [updL_nil,updL_cons,delF_top,delF_upd,Nat.reduceEqDiff,reduceIte]
   refine Le.frameS (by first|rfl|(simp only [go_sem];try rfl)) ?_
   repeat' (first|exact leF_top _|exact (fun _=>LeR.refl _)|(with_reducible refine leF_sl ?_ ?_)|(refine leF_upd ?_ ?_))
   all_goals (first|exact LeR.top _|exact LeR.refl _|(refine LeR.of_eq ?_;(try simp only [go_sem]);try rfl)|((try simp only [go_sem]);try rfl))
  rintro ⟨i,hi,hF⟩ K0
  have hk6:kds.length=6:=rfl
  rcases Nat.lt_or_ge i 6 with hc|hc
  ·rw [drop_getD Kd.prim (show i<kds.length from hc),findK] at hF
   have g3:decide ((i:Int)<(kds.length:Int))=true:=decide_eq_true (by omega)
   generalize hs:kds.getD i Kd.prim=k at hF
   cases k with
   |prim=>
    cases h4:hasK op .prim with
    |true=>
     rw [if_pos h4] at hF
     simp only [hasK] at h4
     repeat' (first
      |(with_reducible first|refine t_seq fun K=>?_|refine nx ?_|refine t_br (fun hc=>?_) fun hc=>?_)|exact kpd
      |((with_reducible first|refine ny ?_|refine t_kLF ?_ ?_|refine t_region fun K=>?_|refine t_cond fun A B=>?_|refine t_dw (h:=fun K=>?_));(try (refine nh ?_;intro KL));simp only [go_sem,geff,kp51,g3,hs,kdV,h4,Int.toNat_natCast,kdsV_length])
      |simp only [thenQ,blockQ,scopeQ,Nat.reduceEqDiff,reduceIte]|(with_reducible first|refine And.intro ?_ ?_|intro vr))
     all_goals try exact nd
     all_goals ((first|refine end_retE ?_|refine end_normE ?_);simp only [fin,go_sem])
     rw [←hF]
     exact LeA.refl _
    |false=>
     rw [if_neg (by rw [h4];decide)] at hF
     simp only [hasK] at h4
     repeat' (first
      |(with_reducible first|refine t_seq fun K=>?_|refine nx ?_|refine t_br (fun hc=>?_) fun hc=>?_)|exact kpd
      |((with_reducible first|refine ny ?_|refine t_kLF ?_ ?_|refine t_region fun K=>?_|refine t_cond fun A B=>?_|refine t_dw (h:=fun K=>?_));(try (refine nh ?_;intro KL));simp only [go_sem,geff,kp51,g3,hs,kdV,h4,Int.toNat_natCast,kdsV_length])
      |simp only [thenQ,blockQ,scopeQ,Nat.reduceEqDiff,reduceIte]|(with_reducible first|refine And.intro ?_ ?_|intro vr))
     all_goals try exact nd
     refine ⟨⟨i+1,by omega,hF⟩,by first|(simp only;omega)|omega,?_⟩
     simp only [updL_nil,updL_cons,delF_top,delF_upd,Nat.reduceEqDiff,reduceIte]
     refine le_backD (by first|rfl|(simp only [go_sem];try rfl)) (by first|exact Nat.zero_le _|simp) (by first|rfl|simp [lowO,low_lit,low_sl,low_ref,low_arr]) ?_ ?_
     ·repeat' (first|exact low_top|(refine low_upd rfl ?_))
     repeat' (first|exact leF_top _|exact (fun _=>LeR.refl _)|(with_reducible refine leF_sl ?_ ?_)|(refine leF_upd ?_ ?_))
     all_goals (first|exact LeR.top _|exact LeR.refl _|(refine LeR.of_eq ?_;(try simp only [go_sem]);try rfl)|((try simp only [go_sem]);try rfl))
   |struc=>
    cases h4:hasK op .struc with
    |true=>
     rw [if_pos h4] at hF
     simp only [hasK] at h4
     repeat' (first
      |(with_reducible first|refine t_seq fun K=>?_|refine nx ?_|refine t_br (fun hc=>?_) fun hc=>?_)|exact kpd
      |((with_reducible first|refine ny ?_|refine t_kLF ?_ ?_|refine t_region fun K=>?_|refine t_cond fun A B=>?_|refine t_dw (h:=fun K=>?_));(try (refine nh ?_;intro KL));simp only [go_sem,geff,kp51,g3,hs,kdV,h4,Int.toNat_natCast,kdsV_length])
      |simp only [thenQ,blockQ,scopeQ,Nat.reduceEqDiff,reduceIte]|(with_reducible first|refine And.intro ?_ ?_|intro vr))
     all_goals try exact nd
     all_goals ((first|refine end_retE ?_|refine end_normE ?_);simp only [fin,go_sem])
     rw [←hF]
     exact LeA.refl _
    |false=>
     rw [if_neg (by rw [h4];decide)] at hF
     simp only [hasK] at h4
     repeat' (first
      |(with_reducible first|refine t_seq fun K=>?_|refine nx ?_|refine t_br (fun hc=>?_) fun hc=>?_)|exact kpd
      |((with_reducible first|refine ny ?_|refine t_kLF ?_ ?_|refine t_region fun K=>?_|refine t_cond fun A B=>?_|refine t_dw (h:=fun K=>?_));(try (refine nh ?_;intro KL));simp only [go_sem,geff,kp51,g3,hs,kdV,h4,Int.toNat_natCast,kdsV_length])
      |simp only [thenQ,blockQ,scopeQ,Nat.reduceEqDiff,reduceIte]|(with_reducible first|refine And.intro ?_ ?_|intro vr))
     all_goals try exact nd
     refine ⟨⟨i+1,by omega,hF⟩,by first|(simp only;omega)|omega,?_⟩
     simp only [updL_nil,updL_cons,delF_top,delF_upd,Nat.reduceEqDiff,reduceIte]
     refine le_backD (by first|rfl|(simp only [go_sem];try rfl)) (by first|exact Nat.zero_le _|simp) (by first|rfl|simp [lowO,low_lit,low_sl,low_ref,low_arr]) ?_ ?_
     ·repeat' (first|exact low_top|(refine low_upd rfl ?_))
     repeat' (first|exact leF_top _|exact (fun _=>LeR.refl _)|(with_reducible refine leF_sl ?_ ?_)|(refine leF_upd ?_ ?_))
     all_goals (first|exact LeR.top _|exact LeR.refl _|(refine LeR.of_eq ?_;(try simp only [go_sem]);try rfl)|((try simp only [go_sem]);try rfl))
   |fold=>
    cases h4:hasK op .fold with
    |true=>
     rw [if_pos h4] at hF
     simp only [hasK] at h4
     repeat' (first
      |(with_reducible first|refine t_seq fun K=>?_|refine nx ?_|refine t_br (fun hc=>?_) fun hc=>?_)|exact kpd
      |((with_reducible first|refine ny ?_|refine t_kLF ?_ ?_|refine t_region fun K=>?_|refine t_cond fun A B=>?_|refine t_dw (h:=fun K=>?_));(try (refine nh ?_;intro KL));simp only [go_sem,geff,kp51,g3,hs,kdV,h4,Int.toNat_natCast,kdsV_length])
      |simp only [thenQ,blockQ,scopeQ,Nat.reduceEqDiff,reduceIte]|(with_reducible first|refine And.intro ?_ ?_|intro vr))
     all_goals try exact nd
     all_goals ((first|refine end_retE ?_|refine end_normE ?_);simp only [fin,go_sem])
     rw [←hF]
     exact LeA.refl _
    |false=>
     rw [if_neg (by rw [h4];decide)] at hF
     simp only [hasK] at h4
     repeat' (first
      |(with_reducible first|refine t_seq fun K=>?_|refine nx ?_|refine t_br (fun hc=>?_) fun hc=>?_)|exact kpd
      |((with_reducible first|refine ny ?_|refine t_kLF ?_ ?_|refine t_region fun K=>?_|refine t_cond fun A B=>?_|refine t_dw (h:=fun K=>?_));(try (refine nh ?_;intro KL));simp only [go_sem,geff,kp51,g3,hs,kdV,h4,Int.toNat_natCast,kdsV_length])
      |simp only [thenQ,blockQ,scopeQ,Nat.reduceEqDiff,reduceIte]|(with_reducible first|refine And.intro ?_ ?_|intro vr))
     all_goals try exact nd
     refine ⟨⟨i+1,by omega,hF⟩,by first|(simp only;omega)|omega,?_⟩
     simp only [updL_nil,updL_cons,delF_top,delF_upd,Nat.reduceEqDiff,reduceIte]
     refine le_backD (by first|rfl|(simp only [go_sem];try rfl)) (by first|exact Nat.zero_le _|simp) (by first|rfl|simp [lowO,low_lit,low_sl,low_ref,low_arr]) ?_ ?_
     ·repeat' (first|exact low_top|(refine low_upd rfl ?_))
     repeat' (first|exact leF_top _|exact (fun _=>LeR.refl _)|(with_reducible refine leF_sl ?_ ?_)|(refine leF_upd ?_ ?_))
     all_goals (first|exact LeR.top _|exact LeR.refl _|(refine LeR.of_eq ?_;(try simp only [go_sem]);try rfl)|((try simp only [go_sem]);try rfl))
   |scan=>
    cases h4:hasK op .scan with
    |true=>
     rw [if_pos h4] at hF
     simp only [hasK] at h4
     repeat' (first
      |(with_reducible first|refine t_seq fun K=>?_|refine nx ?_|refine t_br (fun hc=>?_) fun hc=>?_)|exact kpd
      |((with_reducible first|refine ny ?_|refine t_kLF ?_ ?_|refine t_region fun K=>?_|refine t_cond fun A B=>?_|refine t_dw (h:=fun K=>?_));(try (refine nh ?_;intro KL));simp only [go_sem,geff,kp51,g3,hs,kdV,h4,Int.toNat_natCast,kdsV_length])
      |simp only [thenQ,blockQ,scopeQ,Nat.reduceEqDiff,reduceIte]|(with_reducible first|refine And.intro ?_ ?_|intro vr))
     all_goals try exact nd
     all_goals ((first|refine end_retE ?_|refine end_normE ?_);simp only [fin,go_sem])
     rw [←hF]
     exact LeA.refl _
    |false=>
     rw [if_neg (by rw [h4];decide)] at hF
     simp only [hasK] at h4
     repeat' (first
      |(with_reducible first|refine t_seq fun K=>?_|refine nx ?_|refine t_br (fun hc=>?_) fun hc=>?_)|exact kpd
      |((with_reducible first|refine ny ?_|refine t_kLF ?_ ?_|refine t_region fun K=>?_|refine t_cond fun A B=>?_|refine t_dw (h:=fun K=>?_));(try (refine nh ?_;intro KL));simp only [go_sem,geff,kp51,g3,hs,kdV,h4,Int.toNat_natCast,kdsV_length])
      |simp only [thenQ,blockQ,scopeQ,Nat.reduceEqDiff,reduceIte]|(with_reducible first|refine And.intro ?_ ?_|intro vr))
     all_goals try exact nd
     refine ⟨⟨i+1,by omega,hF⟩,by first|(simp only;omega)|omega,?_⟩
     simp only [updL_nil,updL_cons,delF_top,delF_upd,Nat.reduceEqDiff,reduceIte]
     refine le_backD (by first|rfl|(simp only [go_sem];try rfl)) (by first|exact Nat.zero_le _|simp) (by first|rfl|simp [lowO,low_lit,low_sl,low_ref,low_arr]) ?_ ?_
     ·repeat' (first|exact low_top|(refine low_upd rfl ?_))
     repeat' (first|exact leF_top _|exact (fun _=>LeR.refl _)|(with_reducible refine leF_sl ?_ ?_)|(refine leF_upd ?_ ?_))
     all_goals (first|exact LeR.top _|exact LeR.refl _|(refine LeR.of_eq ?_;(try simp only [go_sem]);try rfl)|((try simp only [go_sem]);try rfl))
   |const=>
    cases h4:hasK op .const with
    |true=>
     rw [if_pos h4] at hF
     simp only [hasK] at h4
     repeat' (first
      |(with_reducible first|refine t_seq fun K=>?_|refine nx ?_|refine t_br (fun hc=>?_) fun hc=>?_)|exact kpd
      |((with_reducible first|refine ny ?_|refine t_kLF ?_ ?_|refine t_region fun K=>?_|refine t_cond fun A B=>?_|refine t_dw (h:=fun K=>?_));(try (refine nh ?_;intro KL));simp only [go_sem,geff,kp51,g3,hs,kdV,h4,Int.toNat_natCast,kdsV_length])
      |simp only [thenQ,blockQ,scopeQ,Nat.reduceEqDiff,reduceIte]|(with_reducible first|refine And.intro ?_ ?_|intro vr))
     all_goals try exact nd
     all_goals ((first|refine end_retE ?_|refine end_normE ?_);simp only [fin,go_sem])
     rw [←hF]
     exact LeA.refl _
    |false=>
     rw [if_neg (by rw [h4];decide)] at hF
     simp only [hasK] at h4
     repeat' (first
      |(with_reducible first|refine t_seq fun K=>?_|refine nx ?_|refine t_br (fun hc=>?_) fun hc=>?_)|exact kpd
      |((with_reducible first|refine ny ?_|refine t_kLF ?_ ?_|refine t_region fun K=>?_|refine t_cond fun A B=>?_|refine t_dw (h:=fun K=>?_));(try (refine nh ?_;intro KL));simp only [go_sem,geff,kp51,g3,hs,kdV,h4,Int.toNat_natCast,kdsV_length])
      |simp only [thenQ,blockQ,scopeQ,Nat.reduceEqDiff,reduceIte]|(with_reducible first|refine And.intro ?_ ?_|intro vr))
     all_goals try exact nd
     refine ⟨⟨i+1,by omega,hF⟩,by first|(simp only;omega)|omega,?_⟩
     simp only [updL_nil,updL_cons,delF_top,delF_upd,Nat.reduceEqDiff,reduceIte]
     refine le_backD (by first|rfl|(simp only [go_sem];try rfl)) (by first|exact Nat.zero_le _|simp) (by first|rfl|simp [lowO,low_lit,low_sl,low_ref,low_arr]) ?_ ?_
     ·repeat' (first|exact low_top|(refine low_upd rfl ?_))
     repeat' (first|exact leF_top _|exact (fun _=>LeR.refl _)|(with_reducible refine leF_sl ?_ ?_)|(refine leF_upd ?_ ?_))
     all_goals (first|exact LeR.top _|exact LeR.refl _|(refine LeR.of_eq ?_;(try simp only [go_sem]);try rfl)|((try simp only [go_sem]);try rfl))
   |size=>
    cases h4:hasK op .size with
    |true=>
     rw [if_pos h4] at hF
     simp only [hasK] at h4
     repeat' (first
      |(with_reducible first|refine t_seq fun K=>?_|refine nx ?_|refine t_br (fun hc=>?_) fun hc=>?_)|exact kpd
      |((with_reducible first|refine ny ?_|refine t_kLF ?_ ?_|refine t_region fun K=>?_|refine t_cond fun A B=>?_|refine t_dw (h:=fun K=>?_));(try (refine nh ?_;intro KL));simp only [go_sem,geff,kp51,g3,hs,kdV,h4,Int.toNat_natCast,kdsV_length])
      |simp only [thenQ,blockQ,scopeQ,Nat.reduceEqDiff,reduceIte]|(with_reducible first|refine And.intro ?_ ?_|intro vr))
     all_goals try exact nd
     all_goals ((first|refine end_retE ?_|refine end_normE ?_);simp only [fin,go_sem])
     rw [←hF]
     exact LeA.refl _
    |false=>
     rw [if_neg (by rw [h4];decide)] at hF
     simp only [hasK] at h4
     repeat' (first
      |(with_reducible first|refine t_seq fun K=>?_|refine nx ?_|refine t_br (fun hc=>?_) fun hc=>?_)|exact kpd
      |((with_reducible first|refine ny ?_|refine t_kLF ?_ ?_|refine t_region fun K=>?_|refine t_cond fun A B=>?_|refine t_dw (h:=fun K=>?_));(try (refine nh ?_;intro KL));simp only [go_sem,geff,kp51,g3,hs,kdV,h4,Int.toNat_natCast,kdsV_length])
      |simp only [thenQ,blockQ,scopeQ,Nat.reduceEqDiff,reduceIte]|(with_reducible first|refine And.intro ?_ ?_|intro vr))
     all_goals try exact nd
     refine ⟨⟨i+1,by omega,hF⟩,by first|(simp only;omega)|omega,?_⟩
     simp only [updL_nil,updL_cons,delF_top,delF_upd,Nat.reduceEqDiff,reduceIte]
     refine le_backD (by first|rfl|(simp only [go_sem];try rfl)) (by first|exact Nat.zero_le _|simp) (by first|rfl|simp [lowO,low_lit,low_sl,low_ref,low_arr]) ?_ ?_
     ·repeat' (first|exact low_top|(refine low_upd rfl ?_))
     repeat' (first|exact leF_top _|exact (fun _=>LeR.refl _)|(with_reducible refine leF_sl ?_ ?_)|(refine leF_upd ?_ ?_))
     all_goals (first|exact LeR.top _|exact LeR.refl _|(refine LeR.of_eq ?_;(try simp only [go_sem]);try rfl)|((try simp only [go_sem]);try rfl))
  ·have g3:decide ((i:Int)<(kds.length:Int))=false:=decide_eq_false (by omega)
   rw [List.drop_eq_nil_of_le (by omega),findK] at hF
   repeat' (first
    |(with_reducible first|refine t_seq fun K=>?_|refine nx ?_|refine t_br (fun hc=>?_) fun hc=>?_)|exact kpd
    |((with_reducible first|refine ny ?_|refine t_kLF ?_ ?_|refine t_region fun K=>?_|refine t_cond fun A B=>?_|refine t_dw (h:=fun K=>?_));(try (refine nh ?_;intro KL));simp only [go_sem,geff,kp51,g3,Int.toNat_natCast,kdsV_length])
    |simp only [thenQ,blockQ,scopeQ,Nat.reduceEqDiff,reduceIte]|(with_reducible first|refine And.intro ?_ ?_|intro vr))
   all_goals try exact nd
   all_goals ((first|refine end_retE ?_|refine end_normE ?_);simp only [fin,go_sem])
   rw [←hF]
   exact LeA.refl _
noncomputable def con51:PCon Tryz.prog where
  f:=51
  c:=fun
   |[.lit (.string op)]=>some (True,fdV (kindS op))
   |_=>none
  ok:=by
   intro args p r hc hp
   split at hc
   ·cases hc;exact kfind_pc
   ·cases hc
  fk:=fk51
theorem con51_f:con51.f=51:=rfl
theorem con51_c {op:ByteArray}:con51.c [.lit (.string op)]=some (True,fdV (kindS op)):=rfl
attribute [go_sem] con51_f con51_c
end Go.Proofs.YtcpjahmajkhchaaGreat

namespace Go.Proofs.YtcpjahmajkhchaaGreat
open Go Go.Fw
set_option maxRecDepth 20000
structure Ins where
  op:ByteArray
  a1:List AV
  a2:List AV
  ax:List (List Int)
  a4:List AV
  num:Int
  arr:Arr
  fn:List Stp
  ck:Int
  t1:ByteArray
  t2:ByteArray
  t3:List AV
def insV (i:Ins):AV:= .agg [.lit (.string i.op),.sl false 1 i.a1,.sl false 2 i.a2,.sl false 1 (ils i.ax),.sl false 2 i.a4,.lit (.int .i64 i.num),.lit (.string i.arr.e),.sl false 1 (ints .i64 i.arr.d),.sl false 1 (ints .i64 i.arr.x),.sl false 3 (stps i.fn),.lit (.int .i64 i.ck),.lit (.string i.t1),.lit (.string i.t2),.sl false 2 i.t3]
def insOf:AV→Option Ins
  |.agg [.lit (.string op),x1,x2,x3,x4,.lit (.int .i64 num),.lit (.string e),xd,xx,xf,.lit (.int .i64 ck),.lit (.string t1),.lit (.string t2),x13]=>
   match slA 1 x1,slA 2 x2,ilsOf x3,slA 2 x4,slK .i64 xd,slK .i64 xx,stpsOf xf,slA 2 x13 with
   |some a1,some a2,some ax,some a4,some d,some x,some f,some t3=>some ⟨op,a1,a2,ax,a4,num,⟨e,d,x⟩,f,ck,t1,t2,t3⟩
   |_,_,_,_,_,_,_,_=>none
  |_=>none
theorem insOf_agg {op e t1 t2:ByteArray} {x1 x2 x3 x4 xd xx xf x13:AV} {num ck:Int}:insOf (.agg [.lit (.string op),x1,x2,x3,x4,.lit (.int .i64 num),.lit (.string e),xd,xx,xf,.lit (.int .i64 ck),.lit (.string t1),.lit (.string t2),x13])=
    match slA 1 x1,slA 2 x2,ilsOf x3,slA 2 x4,slK .i64 xd,slK .i64 xx,stpsOf xf,slA 2 x13 with
    |some a1,some a2,some ax,some a4,some d,some x,some f,some t3=>some ⟨op,a1,a2,ax,a4,num,⟨e,d,x⟩,f,ck,t1,t2,t3⟩
    |_,_,_,_,_,_,_,_=>none:=rfl
theorem slA_sl {b:Bool} {n:Nat} {xs:List AV}:slA n (.sl b n xs)=some xs:=by simp [slA]
theorem insOf_le {x:AV} {i:Ins} (h:insOf x=some i):LeA x (insV i):=by
  unfold insOf at h
  split at h
  ·split at h
   ·rename_i h1 h2 h3 h4 h5 h6 h7 h8
    cases h
    exact LeA.agg ⟨LeA.refl _,slA_le h1,slA_le h2,ilsOf_le h3,slA_le h4,LeA.refl _,LeA.refl _,slK_le h5,slK_le h6,stpsOf_le h7,LeA.refl _,LeA.refl _,LeA.refl _,slA_le h8,trivial⟩
   ·cases h
  ·cases h
def formedS (i:Ins) (n:Int):Int:=
  if (n !=(if eqS i.op sSize=true then 1 else if (!isS i.op)=true then 0 else n)||(i.num !=0&& !eqS i.op n_chunk)||(eqS i.op sConst&& !(ofE i.arr==0)))=true then 1 else 0
noncomputable def B4:Env:=envJ (P:=Tryz.prog) jkK zer (fun _=>false) (fun _=>false) [con74,con45] []
theorem B4_ok:EnvOk Tryz.prog B4:=envJOk zer_ok
set_option maxHeartbeats 4000000 in
theorem formed_pc {i:Ins} {l:List Int} (ho:okA i.arr) (hl:l.length≤1000000):PC Tryz.prog 52 [insV i,.sl false 1 (ints .i64 l)] (.lit (.int .i64 (formedS i l.length))):=by
  obtain ⟨o1,o2⟩:=ho
  simp only [insV]
  refine pcR B4_ok (kp52) Tryz.func52 [.tmp 4] (h:=fun KF=>?_)
  unfold B4
  repeat' (first
   |(with_reducible first|refine t_seq fun K=>?_|refine nx ?_|refine t_br (fun hc=>?_) fun hc=>?_)|exact kpd
   |((with_reducible first|refine ny ?_|refine t_kLF ?_ ?_|refine t_region fun K=>?_|refine t_cond fun A B=>?_|refine t_dw (h:=fun K=>?_));(try (refine nh ?_;intro KL));simp only [go_sem,geff,kp52])
   |simp only [thenQ,blockQ,scopeQ,Nat.reduceEqDiff,reduceIte]|(with_reducible first|refine And.intro ?_ ?_|intro vr))
  all_goals try exact nd
  all_goals ((first|refine end_retE ?_|refine end_normE ?_);simp only [fin,go_sem])
  all_goals refine LeA.of_eq ?_
  all_goals (unfold formedS;simp_all [sSize,n_chunk,sConst])
noncomputable def con52:PCon Tryz.prog where
  f:=52
  c:=fun
   |[xi,xl]=>match insOf xi,slK .i64 xl with|some i,some l=>some (okA i.arr∧l.length≤1000000,.lit (.int .i64 (formedS i l.length)))|_,_=>none
   |_=>none
  ok:=by
   intro args p r hc hp
   split at hc
   ·split at hc
    ·rename_i hi hl
     cases hc
     exact PC.weak ((fun hp:_∧_=>formed_pc hp.1 hp.2) hp) ⟨insOf_le hi,slK_le hl,trivial⟩
    ·cases hc
   ·cases hc
  fk:=fk52
theorem con52_f:con52.f=52:=rfl
theorem con52_c {xi:AV} {xl:AV}:con52.c [xi,xl]=match insOf xi,slK .i64 xl with|some i,some l=>some (okA i.arr∧l.length≤1000000,.lit (.int .i64 (formedS i l.length)))|_,_=>none:=rfl
attribute [go_sem] con52_f con52_c
end Go.Proofs.YtcpjahmajkhchaaGreat

namespace Go.Proofs.YtcpjahmajkhchaaGreat
open Go Go.Fw
set_option maxRecDepth 20000
def nps (op:ByteArray):Nat:=match El.typesS op with
  |some r=>r.ps.length
  |none=>0
noncomputable def B5:Env:=envJ (P:=Tryz.prog) jkK zer (fun _=>false) (fun _=>false) [El.con65,con97,con117] []
theorem B5_ok:EnvOk Tryz.prog B5:=envJOk zer_ok
set_option maxHeartbeats 4000000 in
theorem zeros1_pc {op:ByteArray} {n:Int}:PC Tryz.prog 96 [.lit (.string op),.lit (.int .i64 n)] (rkV (fixS (List.replicate (nps op) 0) n)):=by
  unfold nps
  cases hT:El.typesS op with
  |none=>
   simp only
   refine pcR B5_ok (kp96) Tryz.func96 [.tmp 4,.tmp 5] (h:=fun KF=>?_)
   unfold B5
   repeat' (first
    |(with_reducible first|refine t_seq fun K=>?_|refine nx ?_|refine t_br (fun hc=>?_) fun hc=>?_)|exact kpd
    |((with_reducible first|refine ny ?_|refine t_kLF ?_ ?_|refine t_region fun K=>?_|refine t_cond fun A B=>?_|refine t_dw (h:=fun K=>?_));(try (refine nh ?_;intro KL));simp only [go_sem,geff,kp96,hT,rep_ints,kOf_ints,rkV])
    |simp only [thenQ,blockQ,scopeQ,Nat.reduceEqDiff,reduceIte]|(with_reducible first|refine And.intro ?_ ?_|intro vr))
   all_goals try exact nd
   all_goals ((first|refine end_retE ?_|refine end_normE ?_);simp only [fin,go_sem])
   exact LeA.refl _
  |some r=>
   have hr:=types_len hT
   simp only
   refine pcR B5_ok (kp96) Tryz.func96 [.tmp 4,.tmp 5] (h:=fun KF=>?_)
   unfold B5
   repeat' (first
    |(with_reducible first|refine t_seq fun K=>?_|refine nx ?_|refine t_br (fun hc=>?_) fun hc=>?_)|exact kpd
    |((with_reducible first|refine ny ?_|refine t_kLF ?_ ?_|refine t_region fun K=>?_|refine t_cond fun A B=>?_|refine t_dw (h:=fun K=>?_));(try (refine nh ?_;intro KL));simp only [go_sem,geff,kp96,hT,rep_ints,kOf_ints,rkV,strs_length,Int.toNat_natCast])
    |simp only [thenQ,blockQ,scopeQ,Nat.reduceEqDiff,reduceIte]|(with_reducible first|refine And.intro ?_ ?_|intro vr))
   all_goals try exact nd
   all_goals ((first|refine end_retE ?_|refine end_normE ?_);simp only [fin,go_sem])
   exact LeA.refl _
noncomputable def con96:PCon Tryz.prog where
  f:=96
  c:=fun
   |[.lit (.string op),.lit (.int .i64 n)]=>some (True,rkV (fixS (List.replicate (nps op) 0) n))
   |_=>none
  ok:=by
   intro args p r hc hp
   split at hc
   ·cases hc;exact zeros1_pc
   ·cases hc
  fk:=fk96
theorem con96_f:con96.f=96:=rfl
theorem con96_c {op:ByteArray} {n:Int}:con96.c [.lit (.string op),.lit (.int .i64 n)]=some (True,rkV (fixS (List.replicate (nps op) 0) n)):=rfl
attribute [go_sem] con96_f con96_c
end Go.Proofs.YtcpjahmajkhchaaGreat

namespace Go.Proofs.YtcpjahmajkhchaaGreat
open Go Go.Fw
set_option maxRecDepth 20000
def elT (L:List Arr) (i:Nat):List ByteArray:=(L.take i).map (·.e)
def x0T (L:List Arr) (i:Nat):List Int:=(L.take i).map fun a=>a.x.getD 0 0
theorem take_getD {cs:List Arr} {i:Nat} (h:i<cs.length):cs.take (i+1)=cs.take i++[cs.getD i nilA]:=by
  rw [List.take_add_one,List.getElem?_eq_getElem h,List.getD_eq_getElem?_getD,List.getElem?_eq_getElem h];rfl
theorem elT_succ {L:List Arr} {i:Nat} (h:i<L.length):elT L (i+1)=elT L i++[(L.getD i nilA).e]:=by simp only [elT,take_getD h,List.map_append,List.map_cons,List.map_nil]
theorem x0T_succ {L:List Arr} {i:Nat} (h:i<L.length):x0T L (i+1)=x0T L i++[(L.getD i nilA).x.getD 0 0]:=by simp only [x0T,take_getD h,List.map_append,List.map_cons,List.map_nil]
theorem elT_len {L:List Arr} {i:Nat} (h:i≤L.length):(elT L i).length=i:=by simp [elT];omega
theorem x0T_len {L:List Arr} {i:Nat} (h:i≤L.length):(x0T L i).length=i:=by simp [x0T];omega
def scalS (op:ByteArray) (L:List Arr):Arr×Int:=match El.resS op (L.map (·.e)) with
  |none=>(nilA,12)
  |some t=>ofS ⟨t,[],[(El.applyS op (L.map fun a=>a.x.getD 0 0)).getD 0]⟩
def a3V (p:Arr×Bool×Int):AV:= .tup [arrV p.1,.lit (.bool p.2.1),.lit (.int .i64 p.2.2)]
theorem a3_of {e:ByteArray} {x y:AV} {b:Bool} {n:Int} {d w:List Int} {r:Arr×Bool×Int} (hx:slK .i64 x=some d) (hy:slK .i64 y=some w) (h:r=(⟨e,d,w⟩,b,n)):LeA (.tup [.agg [.lit (.string e),x,y],.lit (.bool b),.lit (.int .i64 n)]) (a3V r):=by
  subst h
  exact LeA.tup ⟨LeA.agg ⟨LeA.refl _,slK_le hx,slK_le hy,trivial⟩,LeA.refl _,LeA.refl _,trivial⟩
attribute [go_sem] arrs_length
noncomputable def B6:Env:=envJ (P:=Tryz.prog) jkK zer (fun _=>false) (fun _=>false) [El.con63,El.con41,con47] []
theorem B6_ok:EnvOk Tryz.prog B6:=envJOk zer_ok
set_option maxHeartbeats 8000000 in
theorem scalar_pc {i:Ins} {l:List Int} {L:List Arr} (hL:L.length≤1000000) (hx:∀ a∈L,1≤a.x.length):PC Tryz.prog 98 [insV i,.sl false 1 (ints .i64 l),.sl false 3 (arrs L)] (a3V ((scalS i.op L).1,false,(scalS i.op L).2)):=by
  generalize hR:scalS i.op L=R
  obtain ⟨op,a1,a2,ax,a4,num,⟨ae,ad,aX⟩,fn,ck,t1,t2,t3⟩:=i
  unfold scalS at hR
  simp only [insV]
  simp only at hR
  refine pcR B6_ok (kp98) Tryz.func98 [.cell 6 31,.tmp 7,.tmp 8] (h:=fun KF=>?_)
  unfold B6
  repeat' (first
   |(with_reducible first|refine t_seq fun K=>?_|refine nx ?_|refine t_br (fun hc=>?_) fun hc=>?_)|exact kpd
   |((with_reducible first|refine ny ?_|refine t_kLF ?_ ?_|refine t_region fun K=>?_|refine t_cond fun A B=>?_|refine t_drawE (id:=6) (fun _=>true) [(0,1),(1,1),(2,1),(3,1),(5,1),(6,1),(7,1),(8,1),(9,1),(10,1),(4,0),(11,0),(12,1),(13,1)] (by kernel_rfl) fun K=>?_|refine t_dw (h:=fun K=>?_));(try (refine nh ?_;intro KL));simp only [go_sem,geff,kp98])
   |simp only [thenQ,blockQ,scopeQ,Nat.reduceEqDiff,reduceIte]|(with_reducible first|refine And.intro ?_ ?_|intro vr))
  all_goals try exact nd
  refine t_loopF (ι:={p:Nat×Nat×Nat // p.1≤L.length}) (fun i=>[(21,.lit (.int .i64 i.1.1)),(9,.arr 2 i.1.2.1),(10,.arr 3 i.1.2.2)]) (fun i=>[.box 56 [.lit (.string op),.sl false 1 a1,.sl false 2 a2,.sl false 1 (ils ax),.sl false 2 a4,.lit (.int .i64 num),.lit (.string ae),.sl false 1 (ints .i64 ad),.sl false 1 (ints .i64 aX),.sl false 3 (stps fn),.lit (.int .i64 ck),.lit (.string t1),.lit (.string t2),.sl false 2 t3],.box 31 [.lit (.string ByteArray.empty),.sl true 1 [],.sl true 1 []],.arr 9 1 (strs (elT L i.1.1)) i.1.2.1 false,.arr 3 1 (ints .i64 (x0T L i.1.1)) i.1.2.2 false]) (fun i=>L.length - i.1.1) ⟨(0,0,0),by simp⟩ ?_ ?_
  ·refine (le_nil 9 9 1 rfl).trans ?_
   refine (le_nil 10 3 1 rfl).trans ?_
   simp only [updL_nil,updL_cons,delF_top,delF_upd,Nat.reduceEqDiff,reduceIte]
   refine Le.frameS (by first|rfl|(simp only [go_sem];try rfl)) ?_
   repeat' (first|exact leF_top _|exact (fun _=>LeR.refl _)|(with_reducible refine leF_sl ?_ ?_)|(refine leF_upd ?_ ?_))
   all_goals (first|exact LeR.top _|exact LeR.refl _|(refine LeR.of_eq ?_;(try simp only [go_sem]);try rfl)|((try simp only [go_sem]);try rfl))
  rintro ⟨⟨j,v,w⟩,hj⟩ K0
  simp only at hj
  have h1:=elT_len hj
  have h2:=x0T_len hj
  rcases Nat.lt_or_ge j L.length with hc|hc
  ·have g3:decide ((j:Int)<(L.length:Int))=true:=decide_eq_true (by omega)
   have hx1:=hx _ (getD_mem nilA hc)
   repeat' (first
    |(with_reducible first|refine t_seq fun K=>?_|refine nx ?_|refine t_br (fun hc=>?_) fun hc=>?_)|exact kpd
    |((with_reducible first|refine ny ?_|refine t_kLF ?_ ?_|refine t_region fun K=>?_|refine t_cond fun A B=>?_|refine t_drawE (id:=6) (fun _=>true) [(0,1),(1,1),(2,1),(3,1),(5,1),(6,1),(7,1),(8,1),(9,1),(10,1),(4,0),(11,0),(12,1),(13,1)] (by kernel_rfl) fun K=>?_|refine t_dw (h:=fun K=>?_));(try (refine nh ?_;intro KL));simp only [go_sem,geff,kp98,g3,arrV,Int.toNat_natCast,←elT_succ hc,←x0T_succ hc])
    |simp only [thenQ,blockQ,scopeQ,Nat.reduceEqDiff,reduceIte]|(with_reducible first|refine And.intro ?_ ?_|intro vr))
   all_goals try exact nd
   refine ⟨⟨(j+1,v+1,w+1),by omega⟩,by first|(simp only;omega)|omega,?_⟩
   simp only [updL_nil,updL_cons,delF_top,delF_upd,Nat.reduceEqDiff,reduceIte]
   refine le_backD (by first|rfl|(simp only [go_sem];try rfl)) (by first|exact Nat.zero_le _|simp) (by first|rfl|simp [lowO,low_lit,low_sl,low_ref,low_arr]) ?_ ?_
   ·repeat' (first|exact low_top|(refine low_upd rfl ?_))
   repeat' (first|exact leF_top _|exact (fun _=>LeR.refl _)|(with_reducible refine leF_sl ?_ ?_)|(refine leF_upd ?_ ?_))
   all_goals (first|exact LeR.top _|exact LeR.refl _|(refine LeR.of_eq ?_;(try simp only [go_sem]);try rfl)|((try simp only [go_sem]);try rfl))
  ·have g3:decide ((j:Int)<(L.length:Int))=false:=decide_eq_false (by omega)
   have e1:elT L j=L.map (·.e):=by unfold elT;rw [List.take_of_length_le hc]
   have e2:x0T L j=L.map (fun a=>a.x.getD 0 0):=by unfold x0T;rw [List.take_of_length_le hc]
   have h3:(L.map (·.e)).length≤1000000:=by simpa using hL
   cases hA:El.resS op (L.map (·.e)) with
   |none=>
    rw [hA] at hR
    simp only at hR
    repeat' (first
     |(with_reducible first|refine t_seq fun K=>?_|refine nx ?_|refine t_br (fun hc=>?_) fun hc=>?_)|exact kpd
     |((with_reducible first|refine ny ?_|refine t_kLF ?_ ?_|refine t_region fun K=>?_|refine t_cond fun A B=>?_|refine t_drawE (id:=6) (fun _=>true) [(0,1),(1,1),(2,1),(3,1),(5,1),(6,1),(7,1),(8,1),(9,1),(10,1),(4,0),(11,0),(12,1),(13,1)] (by kernel_rfl) fun K=>?_|refine t_dw (h:=fun K=>?_));(try (refine nh ?_;intro KL));simp only [go_sem,geff,kp98,g3,e1,e2,hA,rsV_none,Int.toNat_natCast,Bool.not_false])
     |simp only [thenQ,blockQ,scopeQ,Nat.reduceEqDiff,reduceIte]|(with_reducible first|refine And.intro ?_ ?_|intro vr))
    all_goals try exact nd
    all_goals ((first|refine end_retE ?_|refine end_normE ?_);simp only [fin,go_sem])
    exact a3_of rfl rfl (by rw [←hR];rfl)
   |some t=>
    rw [hA] at hR
    simp only at hR
    generalize hB:El.applyS op (L.map fun a=>a.x.getD 0 0)=B at hR
    generalize hO:ofS ⟨t,[],[B.getD 0]⟩=O at hR
    obtain ⟨oa,oe⟩:=O
    cases B with
    |none=>
     have hO':ofS ⟨t,[],[0]⟩=(oa,oe):=hO
     repeat' (first
      |(with_reducible first|refine t_seq fun K=>?_|refine nx ?_|refine t_br (fun hc=>?_) fun hc=>?_)|exact kpd
      |((with_reducible first|refine ny ?_|refine t_kLF ?_ ?_|refine t_region fun K=>?_|refine t_cond fun A B=>?_|refine t_drawE (id:=6) (fun _=>true) [(0,1),(1,1),(2,1),(3,1),(5,1),(6,1),(7,1),(8,1),(9,1),(10,1),(4,0),(11,0),(12,1),(13,1)] (by kernel_rfl) fun K=>?_|refine t_dw (h:=fun K=>?_));(try (refine nh ?_;intro KL));simp only [go_sem,geff,kp98,g3,e1,e2,hA,hB,hO',rsV_some,applyV_none,arrV,Int.toNat_natCast,Bool.not_true])
      |simp only [thenQ,blockQ,scopeQ,Nat.reduceEqDiff,reduceIte]|(with_reducible first|refine And.intro ?_ ?_|intro vr))
     all_goals try exact nd
     all_goals ((first|refine end_retE ?_|refine end_normE ?_);simp only [fin,go_sem])
     exact a3_of slK_sl slK_sl (by rw [←hR])
    |some n=>
     have hO':ofS ⟨t,[],[n]⟩=(oa,oe):=hO
     repeat' (first
      |(with_reducible first|refine t_seq fun K=>?_|refine nx ?_|refine t_br (fun hc=>?_) fun hc=>?_)|exact kpd
      |((with_reducible first|refine ny ?_|refine t_kLF ?_ ?_|refine t_region fun K=>?_|refine t_cond fun A B=>?_|refine t_drawE (id:=6) (fun _=>true) [(0,1),(1,1),(2,1),(3,1),(5,1),(6,1),(7,1),(8,1),(9,1),(10,1),(4,0),(11,0),(12,1),(13,1)] (by kernel_rfl) fun K=>?_|refine t_dw (h:=fun K=>?_));(try (refine nh ?_;intro KL));simp only [go_sem,geff,kp98,g3,e1,e2,hA,hB,hO',rsV_some,applyV_some,arrV,Int.toNat_natCast,Bool.not_true])
      |simp only [thenQ,blockQ,scopeQ,Nat.reduceEqDiff,reduceIte]|(with_reducible first|refine And.intro ?_ ?_|intro vr))
     all_goals try exact nd
     all_goals ((first|refine end_retE ?_|refine end_normE ?_);simp only [fin,go_sem])
     exact a3_of slK_sl slK_sl (by rw [←hR])
end Go.Proofs.YtcpjahmajkhchaaGreat

namespace Go.Proofs.YtcpjahmajkhchaaGreat
open Go Go.Fw
set_option maxRecDepth 20000
attribute [go_sem] con20_f con20_c con26_f con26_c
noncomputable def C1:Env:=envJ (P:=Tryz.prog) jkR zer (fun _=>false) (fun _=>false) [con22,con20] []
theorem C1_ok:EnvOk Tryz.prog C1:=envJOk zer_ok
def listA (l:List Int):Arr:=⟨sInt,[(l.length:Int)],l⟩
def scA (n:Int):Arr:=⟨sInt,[],[n]⟩
theorem arr_of {e:ByteArray} {x y:AV} {a:Arr} {d w:List Int} (hx:slK .i64 x=some d) (hy:slK .i64 y=some w) (h:a=⟨e,d,w⟩):LeA (.agg [.lit (.string e),x,y]) (arrV a):=by
  subst h;exact LeA.agg ⟨LeA.refl _,slK_le hx,slK_le hy,trivial⟩
theorem list_pc {l:List Int}:PC Tryz.prog 23 [.sl false 1 (ints .i64 l)] (arrV (listA l)):=by
  refine pcR C1_ok (kp23) Tryz.func23 [.cell 2 31] (h:=fun KF=>?_)
  unfold C1
  repeat' (first
   |(with_reducible first|refine t_seq fun K=>?_|refine nx ?_|refine t_br (fun hc=>?_) fun hc=>?_)|exact kpd
   |((with_reducible first|refine ny ?_|refine t_kLF ?_ ?_|refine t_region fun K=>?_|refine t_cond fun A B=>?_|refine t_dw (h:=fun K=>?_));(try (refine nh ?_;intro KL));simp only [go_sem,geff,kp23])
   |simp only [thenQ,blockQ,scopeQ,Nat.reduceEqDiff,reduceIte]|(with_reducible first|refine And.intro ?_ ?_|intro vr))
  all_goals try exact nd
  all_goals ((first|refine end_retE ?_|refine end_normE ?_);simp only [fin,go_sem])
  exact arr_of slK_one slK_sl rfl
noncomputable def con23:PCon Tryz.prog where
  f:=23
  c:=fun
   |[xl]=>match slK .i64 xl with|some l=>some (True,arrV (listA l))|_=>none
   |_=>none
  ok:=by
   intro args p r hc hp
   split at hc
   ·split at hc
    ·rename_i hl
     cases hc
     exact PC.weak list_pc ⟨slK_le hl,trivial⟩
    ·cases hc
   ·cases hc
  fk:=fk23
theorem con23_f:con23.f=23:=rfl
theorem con23_c {xl:AV}:con23.c [xl]=match slK .i64 xl with|some l=>some (True,arrV (listA l))|_=>none:=rfl
theorem scal_pc {n:Int}:PC Tryz.prog 24 [.lit (.int .i64 n)] (arrV (scA n)):=by
  refine pcR C1_ok (kp24) Tryz.func24 [.cell 2 31] (h:=fun KF=>?_)
  unfold C1
  repeat' (first
   |(with_reducible first|refine t_seq fun K=>?_|refine nx ?_|refine t_br (fun hc=>?_) fun hc=>?_)|exact kpd
   |((with_reducible first|refine ny ?_|refine t_kLF ?_ ?_|refine t_region fun K=>?_|refine t_cond fun A B=>?_|refine t_dw (h:=fun K=>?_));(try (refine nh ?_;intro KL));simp only [go_sem,geff,kp24])
   |simp only [thenQ,blockQ,scopeQ,Nat.reduceEqDiff,reduceIte]|(with_reducible first|refine And.intro ?_ ?_|intro vr))
  all_goals try exact nd
  all_goals ((first|refine end_retE ?_|refine end_normE ?_);simp only [fin,go_sem])
  exact arr_of rfl slK_one rfl
noncomputable def con24:PCon Tryz.prog where
  f:=24
  c:=fun
   |[.lit (.int .i64 n)]=>some (True,arrV (scA n))
   |_=>none
  ok:=by
   intro args p r hc hp
   split at hc
   ·cases hc;exact scal_pc
   ·cases hc
  fk:=fk24
theorem con24_f:con24.f=24:=rfl
theorem con24_c {n:Int}:con24.c [.lit (.int .i64 n)]=some (True,arrV (scA n)):=rfl
theorem samev_pc {a b:Arr} (ha:okA a):PC Tryz.prog 25 [arrV a,arrV b] (.lit (.bool (ofE a==0&&eqA a b))):=by
  obtain ⟨a1,a2⟩:=ha
  simp only [arrV]
  refine pcR C1_ok (kp25) Tryz.func25 [.tmp 4] (h:=fun KF=>?_)
  unfold C1
  repeat' (first
   |(with_reducible first|refine t_seq fun K=>?_|refine nx ?_|refine t_br (fun hc=>?_) fun hc=>?_)|exact kpd
   |((with_reducible first|refine ny ?_|refine t_kLF ?_ ?_|refine t_region fun K=>?_|refine t_cond fun A B=>?_|refine t_dw (h:=fun K=>?_));(try (refine nh ?_;intro KL));simp only [go_sem,geff,kp25])
   |simp only [thenQ,blockQ,scopeQ,Nat.reduceEqDiff,reduceIte]|(with_reducible first|refine And.intro ?_ ?_|intro vr))
  all_goals try exact nd
  all_goals try exact ⟨a1,a2⟩
  all_goals ((first|refine end_retE ?_|refine end_normE ?_);simp only [fin,go_sem])
  exact LeA.refl _
noncomputable def con25:PCon Tryz.prog where
  f:=25
  c:=fun
   |[xa,xb]=>match arrOf xa,arrOf xb with|some a,some b=>some (okA a,.lit (.bool (ofE a==0&&eqA a b)))|_,_=>none
   |_=>none
  ok:=by
   intro args p r hc hp
   split at hc
   ·split at hc
    ·rename_i ha hb
     cases hc
     exact PC.weak (samev_pc hp) ⟨arrOf_le ha,arrOf_le hb,trivial⟩
    ·cases hc
   ·cases hc
  fk:=fk25
theorem con25_f:con25.f=25:=rfl
theorem con25_c {xa:AV} {xb:AV}:con25.c [xa,xb]=match arrOf xa,arrOf xb with|some a,some b=>some (okA a,.lit (.bool (ofE a==0&&eqA a b)))|_,_=>none:=rfl
def fewS (s:Stp):Bool:= !(decide ((s.args.length:Int)>4)||decide ((s.op.size:Int)>20))
def fewC (c:List Stp):Bool:=c.all fewS&&decide ((c.length:Int)≤10)
theorem few_pc' {c:List Stp} (hm:c.length≤9223372036854775807):PC Tryz.prog 10 [.sl false 3 (stps c)] (.lit (.bool (fewC c))):=by
  generalize hR:fewC c=R
  unfold fewC at hR
  refine pcR C1_ok (kp10) Tryz.func10 [.tmp 2] (h:=fun KF=>?_)
  unfold C1
  repeat' (first
   |(with_reducible first|refine t_seq fun K=>?_|refine nx ?_|refine t_br (fun hc=>?_) fun hc=>?_)|exact kpd
   |((with_reducible first|refine ny ?_|refine t_kLF ?_ ?_|refine t_region fun K=>?_|refine t_cond fun A B=>?_|refine t_dw (h:=fun K=>?_));(try (refine nh ?_;intro KL));simp only [go_sem,geff,kp10])
   |simp only [thenQ,blockQ,scopeQ,Nat.reduceEqDiff,reduceIte]|(with_reducible first|refine And.intro ?_ ?_|intro vr))
  all_goals try exact nd
  refine t_loopF (ι:={i:Nat // i≤c.length∧(c.drop i).all fewS=c.all fewS}) (fun i=>[(3,.lit (.int .i64 i.1))]) (fun i=>[]) (fun i=>c.length - i.1) ⟨0,by omega,rfl⟩ ?_ ?_
  ·simp only [updL_nil,updL_cons,delF_top,delF_upd,Nat.reduceEqDiff,reduceIte]
   refine Le.frameS (by first|rfl|(simp only [go_sem];try rfl)) ?_
   repeat' (first|exact leF_top _|exact (fun _=>LeR.refl _)|(with_reducible refine leF_sl ?_ ?_)|(refine leF_upd ?_ ?_))
   all_goals (first|exact LeR.top _|exact LeR.refl _|(refine LeR.of_eq ?_;(try simp only [go_sem]);try rfl)|((try simp only [go_sem]);try rfl))
  rintro ⟨i,hi,hF⟩ K0
  rcases Nat.lt_or_ge i c.length with hc|hc
  ·rw [drop_getD nilStp hc,List.all_cons] at hF
   have g3:decide ((i:Int)<(c.length:Int))=true:=decide_eq_true (by omega)
   generalize hs:c.getD i nilStp=s at hF
   cases h4:(decide ((s.args.length:Int)>4)||decide ((s.op.size:Int)>20)) with
   |true=>
    rw [show fewS s=false by unfold fewS;rw [h4];rfl,Bool.false_and] at hF
    repeat' (first
     |(with_reducible first|refine t_seq fun K=>?_|refine nx ?_|refine t_br (fun hc=>?_) fun hc=>?_)|exact kpd
     |((with_reducible first|refine ny ?_|refine t_kLF ?_ ?_|refine t_region fun K=>?_|refine t_cond fun A B=>?_|refine t_dw (h:=fun K=>?_));(try (refine nh ?_;intro KL));simp only [go_sem,geff,kp10,g3,hs,h4,stpV,Int.toNat_natCast,stps_length])
     |simp only [thenQ,blockQ,scopeQ,Nat.reduceEqDiff,reduceIte]|(with_reducible first|refine And.intro ?_ ?_|intro vr))
    all_goals try exact nd
    all_goals ((first|refine end_retE ?_|refine end_normE ?_);simp only [fin,go_sem])
    exact LeA.of_eq (by rw [←hR,←hF,Bool.false_and])
   |false=>
    rw [show fewS s=true by unfold fewS;rw [h4];rfl,Bool.true_and] at hF
    repeat' (first
     |(with_reducible first|refine t_seq fun K=>?_|refine nx ?_|refine t_br (fun hc=>?_) fun hc=>?_)|exact kpd
     |((with_reducible first|refine ny ?_|refine t_kLF ?_ ?_|refine t_region fun K=>?_|refine t_cond fun A B=>?_|refine t_dw (h:=fun K=>?_));(try (refine nh ?_;intro KL));simp only [go_sem,geff,kp10,g3,hs,h4,stpV,Int.toNat_natCast,stps_length])
     |simp only [thenQ,blockQ,scopeQ,Nat.reduceEqDiff,reduceIte]|(with_reducible first|refine And.intro ?_ ?_|intro vr))
    all_goals try exact nd
    refine ⟨⟨i+1,by omega,hF⟩,by first|(simp only;omega)|omega,?_⟩
    simp only [updL_nil,updL_cons,delF_top,delF_upd,Nat.reduceEqDiff,reduceIte]
    refine Le.frameS (by first|rfl|(simp only [go_sem];try rfl)) ?_
    repeat' (first|exact leF_top _|exact (fun _=>LeR.refl _)|(with_reducible refine leF_sl ?_ ?_)|(refine leF_upd ?_ ?_))
    all_goals (first|exact LeR.top _|exact LeR.refl _|(refine LeR.of_eq ?_;(try simp only [go_sem]);try rfl)|((try simp only [go_sem]);try rfl))
  ·have g3:decide ((i:Int)<(c.length:Int))=false:=decide_eq_false (by omega)
   rw [List.drop_eq_nil_of_le hc,List.all_nil] at hF
   repeat' (first
    |(with_reducible first|refine t_seq fun K=>?_|refine nx ?_|refine t_br (fun hc=>?_) fun hc=>?_)|exact kpd
    |((with_reducible first|refine ny ?_|refine t_kLF ?_ ?_|refine t_region fun K=>?_|refine t_cond fun A B=>?_|refine t_dw (h:=fun K=>?_));(try (refine nh ?_;intro KL));simp only [go_sem,geff,kp10,g3,Int.toNat_natCast,stps_length])
    |simp only [thenQ,blockQ,scopeQ,Nat.reduceEqDiff,reduceIte]|(with_reducible first|refine And.intro ?_ ?_|intro vr))
   all_goals try exact nd
   all_goals ((first|refine end_retE ?_|refine end_normE ?_);simp only [fin,go_sem])
   exact LeA.of_eq (by rw [←hR,←hF,Bool.true_and])
noncomputable def con10:PCon Tryz.prog where
  f:=10
  c:=fun
   |[xc]=>match stpsOf xc with|some c=>some (c.length≤9223372036854775807,.lit (.bool (fewC c)))|_=>none
   |_=>none
  ok:=by
   intro args p r hc hp
   split at hc
   ·split at hc
    ·rename_i hc
     cases hc
     exact PC.weak (few_pc' hp) ⟨stpsOf_le hc,trivial⟩
    ·cases hc
   ·cases hc
  fk:=fk10
theorem con10_f:con10.f=10:=rfl
theorem con10_c {xc:AV}:con10.c [xc]=match stpsOf xc with|some c=>some (c.length≤9223372036854775807,.lit (.bool (fewC c)))|_=>none:=rfl
attribute [go_sem] con10_f con10_c con23_f con23_c con24_f con24_c con25_f con25_c
end Go.Proofs.YtcpjahmajkhchaaGreat

namespace Go.Proofs.YtcpjahmajkhchaaGreat
open Go Go.Fw
set_option maxRecDepth 20000
theorem all_succ {n:Int} {axes:List Int} {i:Nat} (h:∀ j,j<i→axOk n axes j=true) (hi:axOk n axes i=true):∀ j,j<i+1→axOk n axes j=true:=fun j hj=>by
  rcases Nat.lt_or_ge j i with h'|h'
  ·exact h j h'
  ·rw [show j=i by omega];exact hi
set_option maxRecDepth 20000 in
set_option maxHeartbeats 4000000 in
theorem pick_pc {list axes:List Int} (hl:list.length≤1000000) (ha:axes.length≤1000000):PC Tryz.prog 55 [.sl false 1 (ints .i64 list),.sl false 1 (ints .i64 axes)] (optV (pickS list axes)):=by
  refine pcO E0_ok (fun _=>[0,1,4,5,6,7,8,9,10,11,12,36]) Tryz.func55 (h:=fun KF=>?_)
  unfold E0
  repeat' (first
   |(with_reducible first|refine t_seq fun K=>?_|refine nx ?_|refine t_br (fun hc=>?_) fun hc=>?_)|exact kpd
   |((with_reducible first|refine ny ?_|refine t_kLF ?_ ?_|refine t_region fun K=>?_|refine t_cond fun A B=>?_|refine t_dw (h:=fun K=>?_));simp only [go_sem,geff])
   |simp only [thenQ,blockQ,scopeQ,Nat.reduceEqDiff,reduceIte]|(with_reducible first|refine And.intro ?_ ?_|intro vr))
  refine t_loop (ι:={i:Nat // i≤axes.length∧∀ j,j<i→axOk list.length axes j=true}×Nat) (fun i=>⟨upd (upd (upd (upd (upd (upd topF 11 (.lit (.int .i64 i.1.1))) 10 (.lit (.int .i64 axes.length))) 9 (.sl false 1 (ints .i64 axes))) 6 (.arr 0 i.2)) 1 (.sl false 1 (ints .i64 axes))) 0 (.sl false 1 (ints .i64 list)),[.arr 3 1 (ints .i64 (pickM list (axes.take i.1.1))) i.2 false]⟩) (fun i=>axes.length - i.1.1) (⟨0,by omega,by intro j hj;omega⟩,0) ?_ ?_
  ·refine (le_nil 6 3 1 rfl).trans ?_
   (refine Le.frame ?_;repeat' (first|exact leF_top _|(with_reducible refine leF_sl ?_ ?_)|(refine leF_upd (LeR.of_eq ?_) ?_)))<;>(try (simp only [go_sem];try rfl))
  ·rintro ⟨⟨i,hi,hF⟩,ver⟩ K0
   rcases Nat.lt_or_ge i axes.length with hc|hc
   ·have g1:decide ((i:Int)<(axes.length:Int))=true:=decide_eq_true (by omega)
    have g2:=ints_getD .i64 axes i hc
    have hplen:=pickM_len list (axes.take i)
    rw [List.length_take] at hplen
    have hok:axOk list.length axes i=(!decide (axes.getD i 0<0)&&(!decide (axes.getD i 0≥list.length)&& !(decide ((i:Int)>0)&&decide (axes.getD (i - 1) 0≥axes.getD i 0)))):=rfl
    have g4:(ints .i64 axes).getD (i - 1) .top= .lit (.int .i64 (axes.getD (i - 1) 0)):=ints_getD .i64 axes (i - 1) (by omega)
    have hi1:((i:Int) - 1).toNat=i - 1:=by omega
    have hinw:∀ (m:Nat),m≤1000000→inI64 ((m:Int) - 1):=fun m hm=>by unfold inI64;omega
    by_cases c1:axes.getD i 0<0
    ·have c1':decide (axes.getD i 0<0)=true:=decide_eq_true c1
     have hno:=axP_no hc (by rw [hok,c1'];rfl)
     repeat' (first
      |(with_reducible first|refine t_seq fun K=>?_|refine nx ?_|refine t_br (fun hc=>?_) fun hc=>?_)|exact kpd
      |((with_reducible first|refine ny ?_|refine t_kLF ?_ ?_|refine t_region fun K=>?_|refine t_cond fun A B=>?_|refine t_dw (h:=fun K=>?_));simp only [go_sem,geff,g1,g2,c1',g4,hi1,Int.toNat_natCast])
      |simp only [thenQ,blockQ,scopeQ,Nat.reduceEqDiff,reduceIte]|(with_reducible first|refine And.intro ?_ ?_|intro vr))
     all_goals try exact om
     refine end_ret rfl ?_
     simp only [fin,go_sem,pickS,if_neg hno,optV]
     exact LeA.refl _
    ·have c1':decide (axes.getD i 0<0)=false:=decide_eq_false c1
     by_cases c2:axes.getD i 0≥list.length
     ·have c2':decide (axes.getD i 0≥list.length)=true:=decide_eq_true c2
      have hno:=axP_no hc (by rw [hok,c2',Bool.not_true,Bool.false_and,Bool.and_false])
      repeat' (first
       |(with_reducible first|refine t_seq fun K=>?_|refine nx ?_|refine t_br (fun hc=>?_) fun hc=>?_)|exact kpd
       |((with_reducible first|refine ny ?_|refine t_kLF ?_ ?_|refine t_region fun K=>?_|refine t_cond fun A B=>?_|refine t_dw (h:=fun K=>?_));simp only [go_sem,geff,g1,g2,c1',c2',g4,hi1,Int.toNat_natCast])
       |simp only [thenQ,blockQ,scopeQ,Nat.reduceEqDiff,reduceIte]|(with_reducible first|refine And.intro ?_ ?_|intro vr))
      all_goals try exact om
      refine end_ret rfl ?_
      simp only [fin,go_sem,pickS,if_neg hno,optV]
      exact LeA.refl _
     ·have c2':decide (axes.getD i 0≥list.length)=false:=decide_eq_false c2
      by_cases c3:i>0
      ·have c3':decide ((i:Int)>0)=true:=decide_eq_true (by omega)
       by_cases c4:axes.getD (i - 1) 0≥axes.getD i 0
       ·have c4':decide (axes.getD (i - 1) 0≥axes.getD i 0)=true:=decide_eq_true c4
        have hno:=axP_no hc (by rw [hok,c1',c2',c3',c4'];rfl)
        repeat' (first
         |(with_reducible first|refine t_seq fun K=>?_|refine nx ?_|refine t_br (fun hc=>?_) fun hc=>?_)|exact kpd
         |((with_reducible first|refine ny ?_|refine t_kLF ?_ ?_|refine t_region fun K=>?_|refine t_cond fun A B=>?_|refine t_dw (h:=fun K=>?_));simp only [go_sem,geff,g1,g2,c1',c2',c3',c4',g4,hi1,Int.toNat_natCast])
         |simp only [thenQ,blockQ,scopeQ,Nat.reduceEqDiff,reduceIte]|(with_reducible first|refine And.intro ?_ ?_|intro vr))
        all_goals try exact om
        refine end_ret rfl ?_
        simp only [fin,go_sem,pickS,if_neg hno,optV]
        exact LeA.refl _
       ·have c4':decide (axes.getD (i - 1) 0≥axes.getD i 0)=false:=decide_eq_false c4
        have hyes:axOk list.length axes i=true:=by rw [hok,c1',c2',c3',c4'];rfl
        have hin:=axOk_in hyes
        have g5:=ints_getD .i64 list (axes.getD i 0).toNat (by omega)
        have g6:=pickM_take (list:=list) hc
        repeat' (first
         |(with_reducible first|refine t_seq fun K=>?_|refine nx ?_|refine t_br (fun hc=>?_) fun hc=>?_)|exact kpd
         |((with_reducible first|refine ny ?_|refine t_kLF ?_ ?_|refine t_region fun K=>?_|refine t_cond fun A B=>?_|refine t_dw (h:=fun K=>?_));simp only [go_sem,geff,g1,g2,g5,g6,c1',c2',c3',c4',g4,hi1,Int.toNat_natCast])
         |simp only [thenQ,blockQ,scopeQ,Nat.reduceEqDiff,reduceIte]|(with_reducible first|refine And.intro ?_ ?_|intro vr))
        all_goals try exact om
        refine ⟨(⟨i+1,by omega,all_succ hF hyes⟩,ver+1),by simp only;omega,?_⟩
        (refine Le.frame ?_;repeat' (first|exact leF_top _|(with_reducible refine leF_sl ?_ ?_)|(refine leF_upd (LeR.of_eq ?_) ?_)))<;>(try (simp only [go_sem];try rfl))
      ·have c3':decide ((i:Int)>0)=false:=decide_eq_false (by omega)
       have hyes:axOk list.length axes i=true:=by rw [hok,c1',c2',c3'];rfl
       have hin:=axOk_in hyes
       have g5:=ints_getD .i64 list (axes.getD i 0).toNat (by omega)
       have g6:=pickM_take (list:=list) hc
       repeat' (first
        |(with_reducible first|refine t_seq fun K=>?_|refine nx ?_|refine t_br (fun hc=>?_) fun hc=>?_)|exact kpd
        |((with_reducible first|refine ny ?_|refine t_kLF ?_ ?_|refine t_region fun K=>?_|refine t_cond fun A B=>?_|refine t_dw (h:=fun K=>?_));simp only [go_sem,geff,g1,g2,g5,g6,c1',c2',c3',g4,hi1,Int.toNat_natCast])
        |simp only [thenQ,blockQ,scopeQ,Nat.reduceEqDiff,reduceIte]|(with_reducible first|refine And.intro ?_ ?_|intro vr))
       all_goals try exact om
       refine ⟨(⟨i+1,by omega,all_succ hF hyes⟩,ver+1),by simp only;omega,?_⟩
       (refine Le.frame ?_;repeat' (first|exact leF_top _|(with_reducible refine leF_sl ?_ ?_)|(refine leF_upd (LeR.of_eq ?_) ?_)))<;>(try (simp only [go_sem];try rfl))
   ·have g1:decide ((i:Int)<(axes.length:Int))=false:=decide_eq_false (by omega)
    have hp:axP list.length axes:=fun j hj=>hF j (by omega)
    have htk:axes.take i=axes:=List.take_of_length_le hc
    repeat' (first
     |(with_reducible first|refine t_seq fun K=>?_|refine nx ?_|refine t_br (fun hc=>?_) fun hc=>?_)|exact kpd
     |((with_reducible first|refine ny ?_|refine t_kLF ?_ ?_|refine t_region fun K=>?_|refine t_cond fun A B=>?_|refine t_dw (h:=fun K=>?_));simp only [go_sem,geff,g1])
     |simp only [thenQ,blockQ,scopeQ,Nat.reduceEqDiff,reduceIte]|(with_reducible first|refine And.intro ?_ ?_|intro vr))
    refine end_ret rfl ?_
    simp only [fin,go_sem,pickS,if_pos hp,optV,htk]
    exact LeA.refl _
noncomputable def con55:PCon Tryz.prog where
  f:=55
  c:=fun
   |[xlist,xaxes]=>match slK .i64 xlist,slK .i64 xaxes with|some list,some axes=>some (list.length≤1000000∧axes.length≤1000000,optV (pickS list axes))|_,_=>none
   |_=>none
  ok:=by
   intro args p r hc hp
   split at hc
   ·split at hc
    ·rename_i hlist haxes
     cases hc
     exact PC.weak ((fun hp:_∧_=>pick_pc hp.1 hp.2) hp) ⟨slK_le hlist,slK_le haxes,trivial⟩
    ·cases hc
   ·cases hc
  fk:=fk55
theorem con55_f:con55.f=55:=rfl
theorem con55_c {xlist:AV} {xaxes:AV}:con55.c [xlist,xaxes]=match slK .i64 xlist,slK .i64 xaxes with|some list,some axes=>some (list.length≤1000000∧axes.length≤1000000,optV (pickS list axes))|_,_=>none:=rfl
end Go.Proofs.YtcpjahmajkhchaaGreat

namespace Go.Proofs.YtcpjahmajkhchaaGreat
open Go Go.Fw
set_option maxRecDepth 20000
noncomputable def E24:Env:=envOf (P:=Tryz.prog) zer (fun t=>t==35) (fun _=>false) [con55,con81,con45] []
theorem E24_ok:EnvOk Tryz.prog E24:=envOk zer_ok
theorem ofE_rank {a:Arr} (h:ofE a=0):a.d.length≤6:=(sizeS_ok (ofE_inv h).2.1).1
set_option maxRecDepth 20000 in
set_option maxHeartbeats 2000000 in
theorem check_pc {frame axes:List Int} {r:Int} {a:Arr} (hl:frame.length≤1000000) (hx:axes.length≤1000000) (hr:inI64 r) (ha:okA a):
    PC Tryz.prog 75 [.sl false 1 (ints .i64 frame),.sl false 1 (ints .i64 axes),.lit (.int .i64 r),arrV a] (.lit (.int .i64 (checkS frame axes r a))):=by
  have ha1:=ha.1
  have ha2:=ha.2
  unfold checkS
  cases hP:pickS frame axes with
  |none=>
   simp only
   refine pcO E24_ok (fun _=>[0,1,2,7,8,9,10,17,25,38]) Tryz.func75 (h:=fun KF=>?_)
   unfold E24
   repeat' (first
    |(with_reducible first|refine t_seq fun K=>?_|refine nx ?_|refine t_br (fun hc=>?_) fun hc=>?_)|exact kpd
    |((with_reducible first|refine ny ?_|refine t_kLF ?_ ?_|refine t_region fun K=>?_|refine t_cond fun A B=>?_|refine t_dw (h:=fun K=>?_));simp only [go_sem,geff,con55_f,con55_c,con81_f,con45_f,con45_c,arrV_def,arrOf_agg,slK_sl,hP,optV,Bool.not_false,Bool.not_true])
    |simp only [thenQ,blockQ,scopeQ,Nat.reduceEqDiff,reduceIte]|(with_reducible first|refine And.intro ?_ ?_|intro vr))
   all_goals try exact om
   refine end_ret rfl ?_
   simp only [fin,go_sem]
   exact LeA.refl _
  |some own=>
   simp only
   by_cases h0:ofE a=0
   ·have e0:(ofE a==0)=true:=by rw [h0];rfl
    have hrk:=ofE_rank h0
    rw [if_neg (by simpa using h0)]
    by_cases h1:r<0
    ·have h1':decide (r<0)=true:=decide_eq_true h1
     rw [if_pos (.inl h1)]
     refine pcO E24_ok (fun _=>[0,1,2,7,8,9,10,17,25,38]) Tryz.func75 (h:=fun KF=>?_)
     unfold E24
     repeat' (first
      |(with_reducible first|refine t_seq fun K=>?_|refine nx ?_|refine t_br (fun hc=>?_) fun hc=>?_)|exact kpd
      |((with_reducible first|refine ny ?_|refine t_kLF ?_ ?_|refine t_region fun K=>?_|refine t_cond fun A B=>?_|refine t_dw (h:=fun K=>?_));simp only [go_sem,geff,con55_f,con55_c,con81_f,con45_f,con45_c,arrV_def,arrOf_agg,slK_sl,hP,optV,e0,h1',Bool.not_false,Bool.not_true])
      |simp only [thenQ,blockQ,scopeQ,Nat.reduceEqDiff,reduceIte]|(with_reducible first|refine And.intro ?_ ?_|intro vr))
     all_goals try exact om
     refine end_ret rfl ?_
     simp only [fin,go_sem]
     exact LeA.refl _
    ·have h1':decide (r<0)=false:=decide_eq_false h1
     have hw:((a.d.length:Int) !=IntKind.i64.wrap (r+(axes.length:Int)))=((a.d.length:Int) !=r+(axes.length:Int)):=by
       rw [wrap64_eq]
       by_cases e:(a.d.length:Int)=r+axes.length
       ·rw [bne_eq_false_iff_eq.2 e,bne_eq_false_iff_eq];unfold inI64 at hr;omega
       ·rw [bne_iff_ne.2 e,bne_iff_ne];unfold inI64 at hr;omega
     by_cases h2:(a.d.length:Int)=r+axes.length
     ·have h2':((a.d.length:Int) !=r+(axes.length:Int))=false:=bne_eq_false_iff_eq.2 h2
      rw [if_neg (by omega)]
      by_cases h3:a.d.take axes.length=own
      ·have h3':decide (a.d.take axes.length=own)=true:=decide_eq_true h3
       rw [if_neg (by simpa using h3)]
       refine pcO E24_ok (fun _=>[0,1,2,7,8,9,10,17,25,38]) Tryz.func75 (h:=fun KF=>?_)
       unfold E24
       repeat' (first
        |(with_reducible first|refine t_seq fun K=>?_|refine nx ?_|refine t_br (fun hc=>?_) fun hc=>?_)|exact kpd
        |((with_reducible first|refine ny ?_|refine t_kLF ?_ ?_|refine t_region fun K=>?_|refine t_cond fun A B=>?_|refine t_dw (h:=fun K=>?_));simp only [go_sem,geff,con55_f,con55_c,con81_f,con81_c,con45_f,con45_c,arrV_def,arrOf_agg,slK_sl,hP,optV,e0,h1',hw,h2',h3',Bool.not_false,Bool.not_true,Int.toNat_natCast,List.length_take])
        |simp only [thenQ,blockQ,scopeQ,Nat.reduceEqDiff,reduceIte]|(with_reducible first|refine And.intro ?_ ?_|intro vr))
       all_goals try exact om
       refine end_ret rfl ?_
       simp only [fin,go_sem]
       exact LeA.refl _
      ·have h3':decide (a.d.take axes.length=own)=false:=decide_eq_false h3
       rw [if_pos h3]
       refine pcO E24_ok (fun _=>[0,1,2,7,8,9,10,17,25,38]) Tryz.func75 (h:=fun KF=>?_)
       unfold E24
       repeat' (first
        |(with_reducible first|refine t_seq fun K=>?_|refine nx ?_|refine t_br (fun hc=>?_) fun hc=>?_)|exact kpd
        |((with_reducible first|refine ny ?_|refine t_kLF ?_ ?_|refine t_region fun K=>?_|refine t_cond fun A B=>?_|refine t_dw (h:=fun K=>?_));simp only [go_sem,geff,con55_f,con55_c,con81_f,con81_c,con45_f,con45_c,arrV_def,arrOf_agg,slK_sl,hP,optV,e0,h1',hw,h2',h3',Bool.not_false,Bool.not_true,Int.toNat_natCast,List.length_take])
        |simp only [thenQ,blockQ,scopeQ,Nat.reduceEqDiff,reduceIte]|(with_reducible first|refine And.intro ?_ ?_|intro vr))
       all_goals try exact om
       refine end_ret rfl ?_
       simp only [fin,go_sem]
       exact LeA.refl _
     ·have h2':((a.d.length:Int) !=r+(axes.length:Int))=true:=bne_iff_ne.2 h2
      rw [if_pos (.inr h2)]
      refine pcO E24_ok (fun _=>[0,1,2,7,8,9,10,17,25,38]) Tryz.func75 (h:=fun KF=>?_)
      unfold E24
      repeat' (first
       |(with_reducible first|refine t_seq fun K=>?_|refine nx ?_|refine t_br (fun hc=>?_) fun hc=>?_)|exact kpd
       |((with_reducible first|refine ny ?_|refine t_kLF ?_ ?_|refine t_region fun K=>?_|refine t_cond fun A B=>?_|refine t_dw (h:=fun K=>?_));simp only [go_sem,geff,con55_f,con55_c,con81_f,con45_f,con45_c,arrV_def,arrOf_agg,slK_sl,hP,optV,e0,h1',hw,h2',Bool.not_false,Bool.not_true])
       |simp only [thenQ,blockQ,scopeQ,Nat.reduceEqDiff,reduceIte]|(with_reducible first|refine And.intro ?_ ?_|intro vr))
      all_goals try exact om
      refine end_ret rfl ?_
      simp only [fin,go_sem]
      exact LeA.refl _
   ·have e0:(ofE a==0)=false:=bne0 h0
    rw [if_pos h0]
    refine pcO E24_ok (fun _=>[0,1,2,7,8,9,10,17,25,38]) Tryz.func75 (h:=fun KF=>?_)
    unfold E24
    repeat' (first
     |(with_reducible first|refine t_seq fun K=>?_|refine nx ?_|refine t_br (fun hc=>?_) fun hc=>?_)|exact kpd
     |((with_reducible first|refine ny ?_|refine t_kLF ?_ ?_|refine t_region fun K=>?_|refine t_cond fun A B=>?_|refine t_dw (h:=fun K=>?_));simp only [go_sem,geff,con55_f,con55_c,con81_f,con45_f,con45_c,arrV_def,arrOf_agg,slK_sl,hP,optV,e0,Bool.not_false,Bool.not_true])
     |simp only [thenQ,blockQ,scopeQ,Nat.reduceEqDiff,reduceIte]|(with_reducible first|refine And.intro ?_ ?_|intro vr))
    all_goals try exact om
    refine end_ret rfl ?_
    simp only [fin,go_sem]
    exact LeA.refl _
noncomputable def con75:PCon Tryz.prog where
  f:=75
  c:=fun
   |[xframe,xaxes,.lit (.int .i64 r),xa]=>match slK .i64 xframe,slK .i64 xaxes,arrOf xa with|some frame,some axes,some a=>some (frame.length≤1000000∧axes.length≤1000000∧inI64 r∧okA a,.lit (.int .i64 (checkS frame axes r a)))|_,_,_=>none
   |_=>none
  ok:=by
   intro args p r hc hp
   split at hc
   ·split at hc
    ·rename_i hframe haxes ha
     cases hc
     exact PC.weak ((fun hp:_∧_∧_∧_=>check_pc hp.1 hp.2.1 hp.2.2.1 hp.2.2.2) hp) ⟨slK_le hframe,slK_le haxes,LeA.refl _,arrOf_le ha,trivial⟩
    ·cases hc
   ·cases hc
  fk:=fk75
theorem con75_f:con75.f=75:=rfl
theorem con75_c {xframe:AV} {xaxes:AV} {r:Int} {xa:AV}:con75.c [xframe,xaxes,.lit (.int .i64 r),xa]=match slK .i64 xframe,slK .i64 xaxes,arrOf xa with|some frame,some axes,some a=>some (frame.length≤1000000∧axes.length≤1000000∧inI64 r∧okA a,.lit (.int .i64 (checkS frame axes r a)))|_,_,_=>none:=rfl
noncomputable def E25:Env:=envOf (P:=Tryz.prog) zer (fun _=>false) (fun _=>false) [con69,con75] []
theorem E25_ok:EnvOk Tryz.prog E25:=envOk zer_ok
structure Lk (frame:List Int) (axs:List (List Int)) (rs:List Int) (l:List Arr) (G:Int) where
  i:Nat
  g:List AObj
  hi:i≤l.length
  hF:chkG frame (axs.drop i) (rs.drop i) (l.drop i)=G
set_option maxRecDepth 20000 in
set_option maxHeartbeats 4000000 in
theorem chk_pc {frame:List Int} {axs:List (List Int)} {rs:List Int} {l:List Arr} (hf:frame.length≤1000000) (hx:∀ x∈axs,x.length≤1000000) (hm:l.length≤1000000) (hr:∀ r∈rs,inI64 r) (hl:∀ a∈l,okA a):
    PC Tryz.prog 53 [.sl false 1 (ints .i64 frame),.sl false 1 (ils axs),.sl false 1 (ints .i64 rs),.sl false 3 (arrs l)] (.lit (.int .i64 (chkS frame axs rs l))):=by
  unfold chkS
  generalize hS:sizeS frame=s
  obtain ⟨sn,se⟩:=s
  simp only
  by_cases h1:se≠0∧se≠3
  ·have e1:(se !=0)=true:=bne_iff_ne.2 h1.1
   have e2:(se !=3)=true:=bne_iff_ne.2 h1.2
   rw [if_pos (.inl h1)]
   refine pcO E25_ok (fun _=>[0,1,2,3,8,10,11,12,13,38,40,41,42,43,44,60]) Tryz.func53 (h:=fun KF=>?_)
   unfold E25
   repeat' (first
    |(with_reducible first|refine t_seq fun K=>?_|refine nx ?_|refine t_br (fun hc=>?_) fun hc=>?_)|exact kpd
    |((with_reducible first|refine ny ?_|refine t_kLF ?_ ?_|refine t_region fun K=>?_|refine t_cond fun A B=>?_|refine t_dw (h:=fun K=>?_));simp only [go_sem,geff,con69_f,con75_f,con69_c,arrs_length,ils_length,slK_sl,szV_def,hS,e1,e2])
    |simp only [thenQ,blockQ,scopeQ,Nat.reduceEqDiff,reduceIte]|(with_reducible first|refine And.intro ?_ ?_|intro vr))
   all_goals try exact om
   refine end_ret rfl ?_
   simp only [fin,go_sem]
   exact LeA.refl _
  ·have h1':se=0∨se=3:=by omega
   by_cases h2:axs.length=l.length
   ·have e3:((axs.length:Int) !=(l.length:Int))=false:=by rw [bne_eq_false_iff_eq];omega
    by_cases h3:rs.length=l.length
    ·have e4:((rs.length:Int) !=(l.length:Int))=false:=by rw [bne_eq_false_iff_eq];omega
     rw [if_neg (by omega)]
     rcases h1' with rfl|rfl
     ·rw [if_neg (by simp)]
      generalize hG:chkG frame axs rs l=G
      refine pcO E25_ok (fun _=>[0,1,2,3,8,10,11,12,13,38,40,41,42,43,44,60]) Tryz.func53 (h:=fun KF=>?_)
      unfold E25
      repeat' (first
       |(with_reducible first|refine t_seq fun K=>?_|refine nx ?_|refine t_br (fun hc=>?_) fun hc=>?_)|exact kpd
       |((with_reducible first|refine ny ?_|refine t_kLF ?_ ?_|refine t_region fun K=>?_|refine t_cond fun A B=>?_|refine t_dw (h:=fun K=>?_));simp only [go_sem,geff,con69_f,con75_f,con69_c,arrs_length,ils_length,slK_sl,szV_def,hS,e3,e4])
       |simp only [thenQ,blockQ,scopeQ,Nat.reduceEqDiff,reduceIte]|(with_reducible first|refine And.intro ?_ ?_|intro vr))
      all_goals try exact om
      refine t_loop (ι:=Lk frame axs rs l G) (fun i=>⟨upd (upd (upd (upd (upd (upd topF 43 (.lit (.int .i64 i.i))) 42 (.lit (.int .i64 l.length))) 41 (.sl false 3 (arrs l))) 2 (.sl false 1 (ints .i64 rs))) 1 (.sl false 1 (ils axs))) 0 (.sl false 1 (ints .i64 frame)),i.g⟩) (fun i=>l.length - i.i) ⟨0,[],by omega,hG⟩ ?_ ?_
      ·skip
       (refine Le.frame ?_;repeat' (first|exact leF_top _|(with_reducible refine leF_sl ?_ ?_)|(refine leF_upd (LeR.of_eq ?_) ?_)))<;>(try (simp only [go_sem];try rfl))
      ·rintro ⟨i,g,hi,hF⟩ K0
       have k1:∀ (X:AObj),(g++[X])[g.length]? =some X:=fun X=>getA0 rfl
       have k2:∀ (X Y:AObj),(g++[X]).set g.length Y=g++[Y]:=fun X Y=>setA0 rfl
       rcases Nat.lt_or_ge i l.length with hc|hc
       ·have g1:decide ((i:Int)<(l.length:Int))=true:=decide_eq_true (by omega)
        have g2:=arrs_getD l i hc
        have g3:=ints_getD .i64 rs i (by omega)
        have g4:=ils_getD axs i (by omega)
        have ha:=hl _ (getD_mem nilA hc)
        have hr':=hr _ (getD_mem 0 (show i<rs.length by omega))
        have hx':=hx _ (getD_mem [] (show i<axs.length by omega))
        rw [drop_getD nilA hc,drop_getD 0 (show i<rs.length by omega),drop_getD [] (show i<axs.length by omega),chkG] at hF
        generalize l.getD i nilA=a at g2 hF ha
        generalize rs.getD i 0=r at g3 hF hr'
        generalize axs.getD i []=ax at g4 hF hx'
        generalize hC:checkS frame ax r a=c at hF
        by_cases c0:c=0
        ·subst c0
         rw [if_neg (by simp)] at hF
         repeat' (first
          |(with_reducible first|refine t_seq fun K=>?_|refine nx ?_|refine t_br (fun hc=>?_) fun hc=>?_)|exact kpd
          |((with_reducible first|refine ny ?_|refine t_kLF ?_ ?_|refine t_region fun K=>?_|refine t_cond fun A B=>?_|refine t_dw (h:=fun K=>?_));simp only [go_sem,geff,con69_f,con75_f,con75_c,g1,g2,g3,g4,k1,k2,hC,arrs_length,ils_length,arrV_def,arrOf_agg,slK_sl,Int.toNat_natCast])
          |simp only [thenQ,blockQ,scopeQ,Nat.reduceEqDiff,reduceIte]|(with_reducible first|refine And.intro ?_ ?_|intro vr))
         all_goals try exact om
         all_goals try first|exact ha|exact hr'|exact hx'
         refine ⟨⟨i+1,g++[.box 31 [.lit (.string a.e),.sl false 1 (ints .i64 a.d),.sl false 1 (ints .i64 a.x)]],by omega,hF⟩,by simp only;omega,?_⟩
         (refine Le.frame ?_;repeat' (first|exact leF_top _|(with_reducible refine leF_sl ?_ ?_)|(refine leF_upd (LeR.of_eq ?_) ?_)))<;>(try (simp only [go_sem];try rfl))
        ·have c1:(c !=0)=true:=bne_iff_ne.2 c0
         rw [if_pos c0] at hF
         subst hF
         repeat' (first
          |(with_reducible first|refine t_seq fun K=>?_|refine nx ?_|refine t_br (fun hc=>?_) fun hc=>?_)|exact kpd
          |((with_reducible first|refine ny ?_|refine t_kLF ?_ ?_|refine t_region fun K=>?_|refine t_cond fun A B=>?_|refine t_dw (h:=fun K=>?_));simp only [go_sem,geff,con69_f,con75_f,con75_c,g1,g2,g3,g4,k1,k2,hC,c1,arrs_length,ils_length,arrV_def,arrOf_agg,slK_sl,Int.toNat_natCast])
          |simp only [thenQ,blockQ,scopeQ,Nat.reduceEqDiff,reduceIte]|(with_reducible first|refine And.intro ?_ ?_|intro vr))
         all_goals try exact om
         all_goals try first|exact ha|exact hr'|exact hx'
         refine end_ret rfl ?_
         simp only [fin,go_sem]
         exact LeA.refl _
       ·have g1:decide ((i:Int)<(l.length:Int))=false:=decide_eq_false (by omega)
        rw [List.drop_eq_nil_of_le hc,chkG] at hF
        ·subst hF
         repeat' (first
          |(with_reducible first|refine t_seq fun K=>?_|refine nx ?_|refine t_br (fun hc=>?_) fun hc=>?_)|exact kpd
          |((with_reducible first|refine ny ?_|refine t_kLF ?_ ?_|refine t_region fun K=>?_|refine t_cond fun A B=>?_|refine t_dw (h:=fun K=>?_));simp only [go_sem,geff,con69_f,con75_f,g1,arrs_length])
          |simp only [thenQ,blockQ,scopeQ,Nat.reduceEqDiff,reduceIte]|(with_reducible first|refine And.intro ?_ ?_|intro vr))
         all_goals try exact om
         refine end_ret rfl ?_
         simp only [fin,go_sem]
         exact LeA.refl _
        ·intro _ _ _ _ _ _ _ _ h;cases h
     ·rw [if_pos (by decide)]
      refine pcO E25_ok (fun _=>[0,1,2,3,8,10,11,12,13,38,40,41,42,43,44,60]) Tryz.func53 (h:=fun KF=>?_)
      unfold E25
      repeat' (first
       |(with_reducible first|refine t_seq fun K=>?_|refine nx ?_|refine t_br (fun hc=>?_) fun hc=>?_)|exact kpd
       |((with_reducible first|refine ny ?_|refine t_kLF ?_ ?_|refine t_region fun K=>?_|refine t_cond fun A B=>?_|refine t_dw (h:=fun K=>?_));simp only [go_sem,geff,con69_f,con75_f,con69_c,arrs_length,ils_length,slK_sl,szV_def,hS,e3,e4])
       |simp only [thenQ,blockQ,scopeQ,Nat.reduceEqDiff,reduceIte]|(with_reducible first|refine And.intro ?_ ?_|intro vr))
      all_goals try exact om
      refine end_ret rfl ?_
      simp only [fin,go_sem]
      exact LeA.refl _
    ·have e4:((rs.length:Int) !=(l.length:Int))=true:=bne_iff_ne.2 (by omega)
     rw [if_pos (.inr (.inr h3))]
     rcases h1' with rfl|rfl
     ·skip
      refine pcO E25_ok (fun _=>[0,1,2,3,8,10,11,12,13,38,40,41,42,43,44,60]) Tryz.func53 (h:=fun KF=>?_)
      unfold E25
      repeat' (first
       |(with_reducible first|refine t_seq fun K=>?_|refine nx ?_|refine t_br (fun hc=>?_) fun hc=>?_)|exact kpd
       |((with_reducible first|refine ny ?_|refine t_kLF ?_ ?_|refine t_region fun K=>?_|refine t_cond fun A B=>?_|refine t_dw (h:=fun K=>?_));simp only [go_sem,geff,con69_f,con75_f,con69_c,arrs_length,ils_length,slK_sl,szV_def,hS,e3,e4])
       |simp only [thenQ,blockQ,scopeQ,Nat.reduceEqDiff,reduceIte]|(with_reducible first|refine And.intro ?_ ?_|intro vr))
      all_goals try exact om
      refine end_ret rfl ?_
      simp only [fin,go_sem]
      exact LeA.refl _
     ·skip
      refine pcO E25_ok (fun _=>[0,1,2,3,8,10,11,12,13,38,40,41,42,43,44,60]) Tryz.func53 (h:=fun KF=>?_)
      unfold E25
      repeat' (first
       |(with_reducible first|refine t_seq fun K=>?_|refine nx ?_|refine t_br (fun hc=>?_) fun hc=>?_)|exact kpd
       |((with_reducible first|refine ny ?_|refine t_kLF ?_ ?_|refine t_region fun K=>?_|refine t_cond fun A B=>?_|refine t_dw (h:=fun K=>?_));simp only [go_sem,geff,con69_f,con75_f,con69_c,arrs_length,ils_length,slK_sl,szV_def,hS,e3,e4])
       |simp only [thenQ,blockQ,scopeQ,Nat.reduceEqDiff,reduceIte]|(with_reducible first|refine And.intro ?_ ?_|intro vr))
      all_goals try exact om
      refine end_ret rfl ?_
      simp only [fin,go_sem]
      exact LeA.refl _
   ·have e3:((axs.length:Int) !=(l.length:Int))=true:=bne_iff_ne.2 (by omega)
    rw [if_pos (.inr (.inl h2))]
    rcases h1' with rfl|rfl
    ·skip
     refine pcO E25_ok (fun _=>[0,1,2,3,8,10,11,12,13,38,40,41,42,43,44,60]) Tryz.func53 (h:=fun KF=>?_)
     unfold E25
     repeat' (first
      |(with_reducible first|refine t_seq fun K=>?_|refine nx ?_|refine t_br (fun hc=>?_) fun hc=>?_)|exact kpd
      |((with_reducible first|refine ny ?_|refine t_kLF ?_ ?_|refine t_region fun K=>?_|refine t_cond fun A B=>?_|refine t_dw (h:=fun K=>?_));simp only [go_sem,geff,con69_f,con75_f,con69_c,arrs_length,ils_length,slK_sl,szV_def,hS,e3])
      |simp only [thenQ,blockQ,scopeQ,Nat.reduceEqDiff,reduceIte]|(with_reducible first|refine And.intro ?_ ?_|intro vr))
     all_goals try exact om
     refine end_ret rfl ?_
     simp only [fin,go_sem]
     exact LeA.refl _
    ·skip
     refine pcO E25_ok (fun _=>[0,1,2,3,8,10,11,12,13,38,40,41,42,43,44,60]) Tryz.func53 (h:=fun KF=>?_)
     unfold E25
     repeat' (first
      |(with_reducible first|refine t_seq fun K=>?_|refine nx ?_|refine t_br (fun hc=>?_) fun hc=>?_)|exact kpd
      |((with_reducible first|refine ny ?_|refine t_kLF ?_ ?_|refine t_region fun K=>?_|refine t_cond fun A B=>?_|refine t_dw (h:=fun K=>?_));simp only [go_sem,geff,con69_f,con75_f,con69_c,arrs_length,ils_length,slK_sl,szV_def,hS,e3])
      |simp only [thenQ,blockQ,scopeQ,Nat.reduceEqDiff,reduceIte]|(with_reducible first|refine And.intro ?_ ?_|intro vr))
     all_goals try exact om
     refine end_ret rfl ?_
     simp only [fin,go_sem]
     exact LeA.refl _
noncomputable def con53:PCon Tryz.prog where
  f:=53
  c:=fun
   |[xframe,xaxs,xrs,xl]=>match slK .i64 xframe,ilsOf xaxs,slK .i64 xrs,arrsOf xl with|some frame,some axs,some rs,some l=>some (frame.length≤1000000∧(∀ x∈axs,x.length≤1000000)∧l.length≤1000000∧(∀ r∈rs,inI64 r)∧(∀ a∈l,okA a),.lit (.int .i64 (chkS frame axs rs l)))|_,_,_,_=>none
   |_=>none
  ok:=by
   intro args p r hc hp
   split at hc
   ·split at hc
    ·rename_i hframe haxs hrs hl
     cases hc
     exact PC.weak ((fun hp:_∧_∧_∧_∧_=>chk_pc hp.1 hp.2.1 hp.2.2.1 hp.2.2.2.1 hp.2.2.2.2) hp) ⟨slK_le hframe,ilsOf_le haxs,slK_le hrs,arrsOf_le hl,trivial⟩
    ·cases hc
   ·cases hc
  fk:=fk53
theorem con53_f:con53.f=53:=rfl
theorem con53_c {xframe:AV} {xaxs:AV} {xrs:AV} {xl:AV}:con53.c [xframe,xaxs,xrs,xl]=match slK .i64 xframe,ilsOf xaxs,slK .i64 xrs,arrsOf xl with|some frame,some axs,some rs,some l=>some (frame.length≤1000000∧(∀ x∈axs,x.length≤1000000)∧l.length≤1000000∧(∀ r∈rs,inI64 r)∧(∀ a∈l,okA a),.lit (.int .i64 (chkS frame axs rs l)))|_,_,_,_=>none:=rfl
end Go.Proofs.YtcpjahmajkhchaaGreat

namespace Go.Proofs.YtcpjahmajkhchaaGreat
open Go Go.Fw
set_option maxRecDepth 20000
noncomputable def con98:PCon Tryz.prog where
  f:=98
  c:=fun
   |[xi,xl,xL]=>match insOf xi,slK .i64 xl,arrsOf xL with|some i,some l,some L=>some (L.length≤1000000∧∀ a∈L,1≤a.x.length,a3V ((scalS i.op L).1,false,(scalS i.op L).2))|_,_,_=>none
   |_=>none
  ok:=by
   intro args p r hc hp
   split at hc
   ·split at hc
    ·rename_i hi hl hL
     cases hc
     exact PC.weak ((fun hp:_∧_=>scalar_pc hp.1 hp.2) hp) ⟨insOf_le hi,slK_le hl,arrsOf_le hL,trivial⟩
    ·cases hc
   ·cases hc
  fk:=fk98
theorem con98_f:con98.f=98:=rfl
theorem con98_c {xi:AV} {xl:AV} {xL:AV}:con98.c [xi,xl,xL]=match insOf xi,slK .i64 xl,arrsOf xL with|some i,some l,some L=>some (L.length≤1000000∧∀ a∈L,1≤a.x.length,a3V ((scalS i.op L).1,false,(scalS i.op L).2))|_,_,_=>none:=rfl
noncomputable def con54:PCon Tryz.prog where
  f:=54
  c:=fun
   |[xfr]=>match slK .i64 xfr with|some fr=>some (fr.length≤1000000,inV (indicesS fr))|_=>none
   |_=>none
  ok:=by
   intro args p r hc hp
   split at hc
   ·split at hc
    ·rename_i hfr
     cases hc
     exact PC.weak (indices_pc hp) ⟨slK_le hfr,trivial⟩
    ·cases hc
   ·cases hc
  fk:=fk54
theorem con54_f:con54.f=54:=rfl
theorem con54_c {xfr:AV}:con54.c [xfr]=match slK .i64 xfr with|some fr=>some (fr.length≤1000000,inV (indicesS fr))|_=>none:=rfl
def ownC (ax:List (List Int)) (rk:List Int) (L:List Arr) (ix:List Int) (i:Nat):Arr:=(cellS (L.getD i nilA) (rk.getD i 0) ((pickS ix (ax.getD i [])).getD [])).1
def ownS (ax:List (List Int)) (rk:List Int) (L:List Arr) (ix:List Int) (n:Nat):List Arr:=(List.range n).map (ownC ax rk L ix)
theorem ownS_succ {ax:List (List Int)} {rk:List Int} {L:List Arr} {ix:List Int} {n:Nat}:ownS ax rk L ix (n+1)=ownS ax rk L ix n++[ownC ax rk L ix n]:=by simp [ownS,List.range_succ]
theorem ownS_len {ax:List (List Int)} {rk:List Int} {L:List Arr} {ix:List Int} {n:Nat}:(ownS ax rk L ix n).length=n:=by simp [ownS]
def insG (op:ByteArray) (ax:List (List Int)) (rk:List Int) (L:List Arr):List (List Int)→List Arr→List Arr×Int
  |[],acc=>(acc,0)
  |ix::t,acc=>if (scalS op (ownS ax rk L ix L.length)).2≠0 then ([],(scalS op (ownS ax rk L ix L.length)).2) else insG op ax rk L t (acc++[(scalS op (ownS ax rk L ix L.length)).1])
attribute [go_sem] ilsOf_sl stpsOf_sl con98_f con98_c con54_f con54_c con53_f con53_c con55_f con55_c con56_f con56_c con57_f con57_c insOf_agg slA_sl rkV a3V arrsOf_sl kOf_ints
structure Io (op:ByteArray) (ax:List (List Int)) (rk:List Int) (L:List Arr) (ixs:List (List Int)) (G:List Arr) where
  k:Nat
  v:Nat
  acc:List Arr
  hk:k≤ixs.length
  ha:acc.length=k
  hF:insG op ax rk L (ixs.drop k) acc=(G,0)
theorem optV_some {l:List Int}:optV (some l)= .tup [.sl false 1 (ints .i64 l),.lit (.bool true)]:=rfl
theorem arrs_app {l:List Arr} {e:ByteArray} {d x:List Int}:arrs l++[.agg [.lit (.string e),.sl false 1 (ints .i64 d),.sl false 1 (ints .i64 x)]]=arrs (l++[⟨e,d,x⟩]):=by simp [arrs,arrV]
noncomputable def D1:Env:=envJ (P:=Tryz.prog) jkK zer (fun _=>false) (fun _=>false) [con51,con96,con52,con53,con54,con55,con56,con98,con57] []
theorem D1_ok:EnvOk Tryz.prog D1:=envJOk zer_ok
set_option maxHeartbeats 8000000 in
theorem instr_ok {op:ByteArray} {a1 a2 a4 t3:List AV} {ax:List (List Int)} {num:Int} {ar:Arr} {fn:List Stp} {ck:Int} {t1 t2:ByteArray} {fr sz:List Int} {L acc:List Arr} {out:Arr} {n:Int}
    (hk:kindS op=some .prim) (hr:fixS (List.replicate (nps op) 0) L.length=(List.replicate (nps op) 0,true)) (hf:formedS ⟨op,a1,a2,ax,a4,num,ar,fn,ck,t1,t2,t3⟩ sz.length=0)
    (hc:chkS fr ax (List.replicate (nps op) 0) L=0) (hS:sizeS fr=(n,0)) (h1:1≤n) (hg:insG op ax (List.replicate (nps op) 0) L (inds fr n.toNat) []=(acc,0)) (hj:joinS fr acc (acc.getD 0 nilA)=(out,0))
    (o1:okA ar) (o2:sz.length≤1000000) (o3:∀ a∈L,okA a) (o4:∀ x∈ax,x.length≤1000000) (o5:L.length=nps op) (o6:ax.length=L.length)
    (o7:∀ ix∈inds fr n.toNat,∀ a∈ownS ax (List.replicate (nps op) 0) L ix L.length,1≤a.x.length) (o8:∀ a∈acc,okA a) (o9:∀ ix∈inds fr n.toNat,∀ k,∃ y,pickS ix (ax.getD k [])=some y):
    PC Tryz.prog 28 [insV ⟨op,a1,a2,ax,a4,num,ar,fn,ck,t1,t2,t3⟩,.sl false 1 (ints .i64 fr),.sl false 1 (ints .i64 sz),.sl false 3 (arrs L)] (a3V (out,false,0)):=by
  have hfl:=(sizeS_ok hS).1
  have hX:indicesS fr=(inds fr n.toNat,0):=by unfold indicesS;rw [hS];simp
  obtain ⟨ae,ad,aX⟩:=ar
  have hnp:nps op≤3:=by
    unfold nps
    cases hT:El.typesS op with
    |none=>simp
    |some r=>exact types_len hT
  simp only [insV]
  refine pcR D1_ok (kp28) Tryz.func28 [.cell 8 31,.tmp 9,.tmp 10] (h:=fun KF=>?_)
  unfold D1
  generalize hI:inds fr n.toNat=ixs at hX hg o7 o9
  have hil:∀ x∈ixs,x.length≤1000000:=fun x hx=>by
    rw [←hI] at hx
    obtain ⟨k,_,rfl⟩:=List.mem_map.1 hx
    unfold idxS
    split
    ·simp
    ·split
     ·simp
     ·simp [digR_len];omega
  have hxn:ixs.length≤4096:=by rw [←hI,inds_len];have:=(sizeS_ok hS).2.2.2;omega
  repeat' (first
   |(with_reducible first|refine t_seq fun K=>?_|refine nx ?_|refine t_br (fun hc=>?_) fun hc=>?_)|exact kpd
   |((with_reducible first|refine ny ?_|refine t_kLF ?_ ?_|refine t_region fun K=>?_|refine t_cond fun A B=>?_|refine t_drawE (id:=20) (fun i=>i==5) [(0,1),(1,1),(2,1),(3,1),(4,1),(5,1),(6,1),(7,1),(8,1),(9,1),(10,0),(11,0),(12,1)] (by kernel_rfl) fun K=>?_|refine t_dw (h:=fun K=>?_));(try (refine nh ?_;intro KL));simp only [go_sem,geff,kp28,hk,fdV,kdV,fun0,hr,hf,hc,hX,arrs_length,inV,ilsl_len])
   |simp only [thenQ,blockQ,scopeQ,Nat.reduceEqDiff,reduceIte]|(with_reducible first|refine And.intro ?_ ?_|intro vr))
  all_goals try exact nd
  all_goals try exact o4 _ (by assumption)
  all_goals try exact o3 _ (by assumption)
  all_goals try (have q:=List.eq_of_mem_replicate (by assumption);unfold inI64;omega)
  refine t_loopF (ι:=Io op ax (List.replicate (nps op) 0) L ixs acc) (fun i=>[(79,.lit (.int .i64 i.k)),(17,.arr 3 i.v)]) (fun i=>[.box 56 [.lit (.string op),.sl false 1 a1,.sl false 2 a2,.sl false 1 (ils ax),.sl false 2 a4,.lit (.int .i64 num),.lit (.string ae),.sl false 1 (ints .i64 ad),.sl false 1 (ints .i64 aX),.sl false 3 (stps fn),.lit (.int .i64 ck),.lit (.string t1),.lit (.string t2),.sl false 2 t3],.box 31 [.lit (.string ByteArray.empty),.sl true 1 [],.sl true 1 []],.box 92 [.fn (.func 95) [] [],.fn (.func 96) [] [],.fn (.func 98) [] []],.arr 31 3 (arrs i.acc) i.v false]) (fun i=>ixs.length - i.k) ⟨0,0,[],by omega,rfl,hg⟩ ?_ ?_
  ·refine (le_nil 17 31 3 rfl).trans ?_
   simp only [updL_nil,updL_cons,delF_top,delF_upd,Nat.reduceEqDiff,reduceIte]
   refine Le.frameS (by first|rfl|(simp only [go_sem];try rfl)) ?_
   repeat' (first|exact leF_top _|exact (fun _=>LeR.refl _)|(with_reducible refine leF_sl ?_ ?_)|(refine leF_upd ?_ ?_))
   all_goals (first|exact LeR.top _|exact LeR.refl _|(refine LeR.of_eq ?_;(try simp only [go_sem]);try rfl)|((try simp only [go_sem]);try rfl))
  rintro ⟨k,v,ac,hkk,hac,hF⟩ K0
  rcases Nat.lt_or_ge k ixs.length with hc1|hc1
  ·rw [drop_getD [] hc1,insG] at hF
   have g3:decide ((k:Int)<(ixs.length:Int))=true:=decide_eq_true (by omega)
   have hq7:=o7 _ (getD_mem [] hc1)
   have hq9:=o9 _ (getD_mem [] hc1)
   have hq1:=hil _ (getD_mem [] hc1)
   generalize hix:ixs.getD k []=ix at hF hq7 hq9 hq1
   by_cases he:(scalS op (ownS ax (List.replicate (nps op) 0) L ix L.length)).2=0
   ·rw [if_neg (by simpa using he)] at hF
    repeat' (first
     |(with_reducible first|refine t_seq fun K=>?_|refine nx ?_|refine t_br (fun hc=>?_) fun hc=>?_)|exact kpd
     |((with_reducible first|refine ny ?_|refine t_kLF ?_ ?_|refine t_region fun K=>?_|refine t_cond fun A B=>?_|refine t_drawE (id:=20) (fun i=>i==5) [(0,1),(1,1),(2,1),(3,1),(4,1),(5,1),(6,1),(7,1),(8,1),(9,1),(10,0),(11,0),(12,1)] (by kernel_rfl) fun K=>?_|refine t_dw (h:=fun K=>?_));(try (refine nh ?_;intro KL));simp only [go_sem,geff,kp28,g3,hix,ilsl_len,Int.toNat_natCast,arrs_length])
     |simp only [thenQ,blockQ,scopeQ,Nat.reduceEqDiff,reduceIte]|(with_reducible first|refine And.intro ?_ ?_|intro vr))
    all_goals try exact nd
    refine t_loopF (ι:={p:Nat×Nat // p.1≤L.length}) (fun i=>[(85,.lit (.int .i64 i.1.1)),(20,.arr 4 i.1.2)]) (fun i=>[.box 56 [.lit (.string op),.sl false 1 a1,.sl false 2 a2,.sl false 1 (ils ax),.sl false 2 a4,.lit (.int .i64 num),.lit (.string ae),.sl false 1 (ints .i64 ad),.sl false 1 (ints .i64 aX),.sl false 3 (stps fn),.lit (.int .i64 ck),.lit (.string t1),.lit (.string t2),.sl false 2 t3],.box 31 [.lit (.string ByteArray.empty),.sl true 1 [],.sl true 1 []],.box 92 [.fn (.func 95) [] [],.fn (.func 96) [] [],.fn (.func 98) [] []],.arr 31 3 (arrs ac) v false,.arr 31 3 (arrs (ownS ax (List.replicate (nps op) 0) L ix i.1.1)) i.1.2 false]) (fun i=>L.length - i.1.1) ⟨(0,0),by simp⟩ ?_ ?_
    ·refine (le_nil 20 31 3 rfl).trans ?_
     simp only [updL_nil,updL_cons,delF_top,delF_upd,Nat.reduceEqDiff,reduceIte]
     refine Le.frameS (by first|rfl|(simp only [go_sem];try rfl)) ?_
     repeat' (first|exact leF_top _|exact (fun _=>LeR.refl _)|(with_reducible refine leF_sl ?_ ?_)|(refine leF_upd ?_ ?_))
     all_goals (first|exact LeR.top _|exact LeR.refl _|(refine LeR.of_eq ?_;(try simp only [go_sem]);try rfl)|((try simp only [go_sem]);try rfl))
    rintro ⟨⟨j,w⟩,hj⟩ K1
    simp only at hj
    have how:=ownS_len (ax:=ax) (rk:=List.replicate (nps op) 0) (L:=L) (ix:=ix) (n:=j)
    rcases Nat.lt_or_ge j L.length with hc2|hc2
    ·have g4:decide ((j:Int)<(L.length:Int))=true:=decide_eq_true (by omega)
     have hja:=o3 _ (getD_mem nilA hc2)
     have hjx:=o4 _ (getD_mem ([]:List Int) (show j<ax.length by omega))
     obtain ⟨y,hy⟩:=hq9 j
     have hyl:y.length≤1000000:=by
       unfold pickS at hy
       split at hy
       ·cases hy
        show (pickM ix (ax.getD j [])).length≤1000000
        unfold pickM
        rw [List.length_map];omega
       ·cases hy
     have hrk:(List.replicate (nps op) (0:Int)).getD j 0=0:=by
       rw [List.getD_eq_getElem?_getD,List.getElem?_replicate];split<;>rfl
     have hsu:=ownS_succ (ax:=ax) (rk:=List.replicate (nps op) 0) (L:=L) (ix:=ix) (n:=j)
     have hoc:ownC ax (List.replicate (nps op) 0) L ix j=(cellS (L.getD j nilA) 0 y).1:=by unfold ownC;rw [hrk,hy];rfl
     rw [hoc] at hsu
     generalize hCe:cellS (L.getD j nilA) 0 y=ce at hsu
     obtain ⟨⟨ce1,cd1,cx1⟩,cee⟩:=ce
     have hCe':cellS ⟨(L.getD j nilA).e,(L.getD j nilA).d,(L.getD j nilA).x⟩ 0 y=(⟨ce1,cd1,cx1⟩,cee):=hCe
     simp only at hsu
     have hja':okA ⟨(L.getD j nilA).e,(L.getD j nilA).d,(L.getD j nilA).x⟩:=hja
     have hrl:(List.replicate (nps op) (0:Int)).length=nps op:=List.length_replicate
     have hi0:inI64 0:=by unfold inI64;omega
     repeat' (first
      |(with_reducible first|refine t_seq fun K=>?_|refine nx ?_|refine t_br (fun hc=>?_) fun hc=>?_)|exact kpd
      |((with_reducible first|refine ny ?_|refine t_kLF ?_ ?_|refine t_region fun K=>?_|refine t_cond fun A B=>?_|refine t_drawE (id:=20) (fun i=>i==5) [(0,1),(1,1),(2,1),(3,1),(4,1),(5,1),(6,1),(7,1),(8,1),(9,1),(10,0),(11,0),(12,1)] (by kernel_rfl) fun K=>?_|refine t_dw (h:=fun K=>?_));(try (refine nh ?_;intro KL));simp only [go_sem,geff,kp28,g4,hy,optV_some,hrk,hCe',arrV,arrs_app,←hsu,Int.toNat_natCast,arrs_length,ilsl_len,aeV_def])
      |simp only [thenQ,blockQ,scopeQ,Nat.reduceEqDiff,reduceIte]|(with_reducible first|refine And.intro ?_ ?_|intro vr))
     all_goals try exact nd
     refine ⟨⟨(j+1,w+1),by omega⟩,by show L.length - (j+1)<L.length - j;omega,?_⟩
     simp only [updL_nil,updL_cons,delF_top,delF_upd,Nat.reduceEqDiff,reduceIte]
     refine le_two (σ:=[.box 56 [.lit (.string op),.sl false 1 a1,.sl false 2 a2,.sl false 1 (ils ax),.sl false 2 a4,.lit (.int .i64 num),.lit (.string ae),.sl false 1 (ints .i64 ad),.sl false 1 (ints .i64 aX),.sl false 3 (stps fn),.lit (.int .i64 ck),.lit (.string t1),.lit (.string t2),.sl false 2 t3],.box 31 [.lit (.string ByteArray.empty),.sl true 1 [],.sl true 1 []],.box 92 [.fn (.func 95) [] [],.fn (.func 96) [] [],.fn (.func 98) [] []],.arr 31 3 (arrs ac) v false,.arr 31 3 (arrs (ownS ax (List.replicate (nps op) 0) L ix (j+1))) (w+1) false,.box 31 [.lit (.string (L.getD j nilA).e),.sl false 1 (ints .i64 (L.getD j nilA).d),.sl false 1 (ints .i64 (L.getD j nilA).x)],.box 31 [.lit (.string ce1),.sl false 1 (ints .i64 cd1),.sl false 1 (ints .i64 cx1)]]) (l:=[.box 56 [.lit (.string op),.sl false 1 a1,.sl false 2 a2,.sl false 1 (ils ax),.sl false 2 a4,.lit (.int .i64 num),.lit (.string ae),.sl false 1 (ints .i64 ad),.sl false 1 (ints .i64 aX),.sl false 3 (stps fn),.lit (.int .i64 ck),.lit (.string t1),.lit (.string t2),.sl false 2 t3],.box 31 [.lit (.string ByteArray.empty),.sl true 1 [],.sl true 1 []],.box 92 [.fn (.func 95) [] [],.fn (.func 96) [] [],.fn (.func 98) [] []],.arr 31 3 (arrs ac) v false,.arr 31 3 (arrs (ownS ax (List.replicate (nps op) 0) L ix (j+1))) (w+1) false]) (a:= .box 31 [.lit (.string (L.getD j nilA).e),.sl false 1 (ints .i64 (L.getD j nilA).d),.sl false 1 (ints .i64 (L.getD j nilA).x)]) (b:= .box 31 [.lit (.string ce1),.sl false 1 (ints .i64 cd1),.sl false 1 (ints .i64 cx1)]) rfl (Nat.zero_le _) (fun m=>by simp [lowO,low1,low0]) (fun m=>rfl) ?_ ?_
     ·intro m hm
      repeat' (first|exact low_top|(refine low_upd ?_ ?_))
      all_goals (first|rfl|(simp only [low_arr,low_ref,decide_eq_true_eq];simp at hm;omega))
     repeat' (first|exact leF_top _|exact (fun _=>LeR.refl _)|(with_reducible refine leF_sl ?_ ?_)|(refine leF_upd ?_ ?_))
     all_goals (first|exact LeR.top _|exact LeR.refl _|(refine LeR.of_eq ?_;(try simp only [go_sem]);try rfl)|((try simp only [go_sem]);try rfl))
    ·have g4:decide ((j:Int)<(L.length:Int))=false:=decide_eq_false (by omega)
     have ej:j=L.length:=by omega
     subst ej
     generalize hSc:scalS op (ownS ax (List.replicate (nps op) 0) L ix L.length)=sc at he hF
     obtain ⟨⟨se,sd,sx⟩,see⟩:=sc
     simp only at he hF
     subst he
     have e00:((0:Int) !=0)=false:=rfl
     repeat' (first
      |(with_reducible first|refine t_seq fun K=>?_|refine nx ?_|refine t_br (fun hc=>?_) fun hc=>?_)|exact kpd
      |((with_reducible first|refine ny ?_|refine t_kLF ?_ ?_|refine t_region fun K=>?_|refine t_cond fun A B=>?_|refine t_drawE (id:=20) (fun i=>i==5) [(0,1),(1,1),(2,1),(3,1),(4,1),(5,1),(6,1),(7,1),(8,1),(9,1),(10,0),(11,0),(12,1)] (by kernel_rfl) fun K=>?_|refine t_dw (h:=fun K=>?_));(try (refine nh ?_;intro KL));simp only [go_sem,geff,kp28,g4,hSc,e00,arrs_app,arrV,fun0,Int.toNat_natCast,arrs_length])
      |simp only [thenQ,blockQ,scopeQ,Nat.reduceEqDiff,reduceIte]|(with_reducible first|refine And.intro ?_ ?_|intro vr))
     all_goals try exact nd
     all_goals try exact hq7 _ (by assumption)
     refine ⟨⟨k+1,v+1,ac++[⟨se,sd,sx⟩],by omega,by simp;omega,hF⟩,by show ixs.length - (k+1)<ixs.length - k;omega,?_⟩
     simp only [updL_nil,updL_cons,delF_top,delF_upd,Nat.reduceEqDiff,reduceIte]
     refine le_two (σ:=[.box 56 [.lit (.string op),.sl false 1 a1,.sl false 2 a2,.sl false 1 (ils ax),.sl false 2 a4,.lit (.int .i64 num),.lit (.string ae),.sl false 1 (ints .i64 ad),.sl false 1 (ints .i64 aX),.sl false 3 (stps fn),.lit (.int .i64 ck),.lit (.string t1),.lit (.string t2),.sl false 2 t3],.box 31 [.lit (.string ByteArray.empty),.sl true 1 [],.sl true 1 []],.box 92 [.fn (.func 95) [] [],.fn (.func 96) [] [],.fn (.func 98) [] []],.arr 31 3 (arrs (ac++[⟨se,sd,sx⟩])) (v+1) false,.arr 31 3 (arrs (ownS ax (List.replicate (nps op) 0) L ix L.length)) w true,.box 31 [.lit (.string se),.sl false 1 (ints .i64 sd),.sl false 1 (ints .i64 sx)]]) (l:=[.box 56 [.lit (.string op),.sl false 1 a1,.sl false 2 a2,.sl false 1 (ils ax),.sl false 2 a4,.lit (.int .i64 num),.lit (.string ae),.sl false 1 (ints .i64 ad),.sl false 1 (ints .i64 aX),.sl false 3 (stps fn),.lit (.int .i64 ck),.lit (.string t1),.lit (.string t2),.sl false 2 t3],.box 31 [.lit (.string ByteArray.empty),.sl true 1 [],.sl true 1 []],.box 92 [.fn (.func 95) [] [],.fn (.func 96) [] [],.fn (.func 98) [] []],.arr 31 3 (arrs (ac++[⟨se,sd,sx⟩])) (v+1) false]) (a:= .arr 31 3 (arrs (ownS ax (List.replicate (nps op) 0) L ix L.length)) w true) (b:= .box 31 [.lit (.string se),.sl false 1 (ints .i64 sd),.sl false 1 (ints .i64 sx)]) rfl (Nat.zero_le _) (fun m=>by simp [lowO,low1,low0]) (fun m=>rfl) ?_ ?_
     ·intro m hm
      repeat' (first|exact low_top|(refine low_upd ?_ ?_))
      all_goals (first|rfl|(simp only [low_arr,low_ref,decide_eq_true_eq];simp at hm;omega))
     repeat' (first|exact leF_top _|exact (fun _=>LeR.refl _)|(with_reducible refine leF_sl ?_ ?_)|(refine leF_upd ?_ ?_))
     all_goals (first|exact LeR.top _|exact LeR.refl _|(refine LeR.of_eq ?_;(try simp only [go_sem]);try rfl)|((try simp only [go_sem]);try rfl))
   ·rw [if_pos he] at hF
    exact absurd (congrArg Prod.snd hF) he
  ·have g3:decide ((k:Int)<(ixs.length:Int))=false:=decide_eq_false (by omega)
   rw [List.drop_eq_nil_of_le hc1,insG] at hF
   have eac:ac=acc:=congrArg Prod.fst hF
   subst eac
   have hal:1≤ac.length:=by rw [hac];have:ixs.length=n.toNat:=by rw [←hI,inds_len]
                            omega
   have g5:decide ((ac.length:Int)>0)=true:=decide_eq_true (by omega)
   have hj':joinS fr ac ⟨(ac.getD 0 nilA).e,(ac.getD 0 nilA).d,(ac.getD 0 nilA).x⟩=(out,0):=hj
   have e00:((0:Int) !=0)=false:=rfl
   have o80:okA ⟨(ac.getD 0 nilA).e,(ac.getD 0 nilA).d,(ac.getD 0 nilA).x⟩:=o8 _ (getD_mem nilA (by omega))
   repeat' (first
    |(with_reducible first|refine t_seq fun K=>?_|refine nx ?_|refine t_br (fun hc=>?_) fun hc=>?_)|exact kpd
    |((with_reducible first|refine ny ?_|refine t_kLF ?_ ?_|refine t_region fun K=>?_|refine t_cond fun A B=>?_|refine t_drawE (id:=20) (fun i=>i==5) [(0,1),(1,1),(2,1),(3,1),(4,1),(5,1),(6,1),(7,1),(8,1),(9,1),(10,0),(11,0),(12,1)] (by kernel_rfl) fun K=>?_|refine t_dw (h:=fun K=>?_));(try (refine nh ?_;intro KL));simp only [go_sem,geff,kp28,g3,g5,hj',e00,arrV,Int.toNat_natCast,arrs_length,yes])
    |simp only [thenQ,blockQ,scopeQ,Nat.reduceEqDiff,reduceIte]|(with_reducible first|refine And.intro ?_ ?_|intro vr))
   all_goals try exact nd
   all_goals try exact o8 _ (by assumption)
   all_goals ((first|refine end_retE ?_|refine end_normE ?_);simp only [fin,go_sem])
   exact a3_of slK_sl slK_sl rfl
end Go.Proofs.YtcpjahmajkhchaaGreat

namespace Go.Proofs.YtcpjahmajkhchaaGreat
open Go Go.Fw
set_option maxRecDepth 20000
def accI (i:Ins) (fr:List Int) (L:List Arr):List Arr:=(insG i.op i.ax (List.replicate (nps i.op) 0) L (inds fr (sizeS fr).1.toNat) []).1
def okI (i:Ins) (fr sz:List Int) (L:List Arr):Prop:=
  kindS i.op=some .prim∧nps i.op=L.length∧formedS i sz.length=0∧chkS fr i.ax (List.replicate (nps i.op) 0) L=0∧(sizeS fr).2=0∧1≤(sizeS fr).1∧
  (insG i.op i.ax (List.replicate (nps i.op) 0) L (inds fr (sizeS fr).1.toNat) []).2=0∧(joinS fr (accI i fr L) ((accI i fr L).getD 0 nilA)).2=0∧okA i.arr∧sz.length≤1000000∧(∀ a∈L,okA a)∧(∀ x∈i.ax,x.length≤1000000)∧i.ax.length=L.length∧
  (∀ ix∈inds fr (sizeS fr).1.toNat,∀ a∈ownS i.ax (List.replicate (nps i.op) 0) L ix L.length,1≤a.x.length)∧(∀ a∈accI i fr L,okA a)∧(∀ ix∈inds fr (sizeS fr).1.toNat,∀ k,∃ y,pickS ix (i.ax.getD k [])=some y)
theorem instrI_pc {i:Ins} {fr sz:List Int} {L:List Arr} (h:okI i fr sz L):PC Tryz.prog 28 [insV i,.sl false 1 (ints .i64 fr),.sl false 1 (ints .i64 sz),.sl false 3 (arrs L)] (a3V ((joinS fr (accI i fr L) ((accI i fr L).getD 0 nilA)).1,false,0)):=by
  obtain ⟨h1,h2,h3,h4,h5,h6,h7,h8,h9,h10,h11,h12,h13,h14,h15,h16⟩:=h
  obtain ⟨op,a1,a2,ax,a4,num,ar,fn,ck,t1,t2,t3⟩:=i
  exact instr_ok (n:=(sizeS fr).1) h1 (by unfold fixS;rw [if_pos (by first|(simp [h2] at*;done)|(simp [h2] at*;omega))]) h3 h4 (Prod.ext rfl h5) h6 (Prod.ext rfl h7) (Prod.ext rfl h8) h9 h10 h11 h12 h2.symm h13 h14 h15 h16
noncomputable def con28:PCon Tryz.prog where
  f:=28
  c:=fun
   |[xi,xfr,xsz,xL]=>match insOf xi,slK .i64 xfr,slK .i64 xsz,arrsOf xL with|some i,some fr,some sz,some L=>some (okI i fr sz L,a3V ((joinS fr (accI i fr L) ((accI i fr L).getD 0 nilA)).1,false,0))|_,_,_,_=>none
   |_=>none
  ok:=by
   intro args p r hc hp
   split at hc
   ·split at hc
    ·rename_i hi hfr hsz hL
     cases hc
     exact PC.weak (instrI_pc hp) ⟨insOf_le hi,slK_le hfr,slK_le hsz,arrsOf_le hL,trivial⟩
    ·cases hc
   ·cases hc
  fk:=fk28
theorem con28_f:con28.f=28:=rfl
theorem con28_c {xi:AV} {xfr:AV} {xsz:AV} {xL:AV}:con28.c [xi,xfr,xsz,xL]=match insOf xi,slK .i64 xfr,slK .i64 xsz,arrsOf xL with|some i,some fr,some sz,some L=>some (okI i fr sz L,a3V ((joinS fr (accI i fr L) ((accI i fr L).getD 0 nilA)).1,false,0))|_,_,_,_=>none:=rfl
attribute [go_sem] con28_f con28_c
end Go.Proofs.YtcpjahmajkhchaaGreat

namespace Go.Proofs.YtcpjahmajkhchaaGreat
open Go Go.Fw
set_option maxRecDepth 20000
def cSub:List Stp:=[⟨⟨#[115,117,98]⟩,0,[0,1]⟩]
def cAdd:List Stp:=[⟨⟨#[97,100,100]⟩,0,[0,1]⟩]
def iAdd:Ins:=⟨⟨#[97,100,100]⟩,[],[],[[0],[1]],[],0,nilA,[],0,⟨#[]⟩,⟨#[]⟩,[]⟩
theorem aw1:primS ⟨#[115,117,98]⟩=(cSub,true):=by kernel_rfl
theorem aw2:primS ⟨#[97,100,100]⟩=(cAdd,true):=by kernel_rfl
theorem aw3:foldS cSub (scA 10) (listA [1,2,3])=(scA 4,0):=by kernel_rfl
theorem aw4:scanP cAdd (listA [1,2,3])=(listA [1,3,6],0):=by kernel_rfl
theorem aw5:joinS [2,3] (accI iAdd [2,3] [listA [10,20],listA [1,2,3]]) ((accI iAdd [2,3] [listA [10,20],listA [1,2,3]]).getD 0 nilA)=(⟨sInt,[2,3],[11,12,13,21,22,23]⟩,0):=by kernel_rfl
theorem aw6:validC cAdd 2=true:=by kernel_rfl
theorem aw9:(ofE (scA 4)==0&&eqA (scA 4) (scA 4))=true:=by kernel_rfl
theorem aw10:(ofE (listA [1,3,6])==0&&eqA (listA [1,3,6]) (listA [1,3,6]))=true:=by kernel_rfl
theorem arr_eta (a:Arr):(⟨a.e,a.d,a.x⟩:Arr)=a:=rfl
theorem okl (l:List Int) (h:l.length≤1000000):okA (listA l):=⟨by simp [listA],h⟩
theorem oks (n:Int):okA (scA n):=⟨by simp [scA],by simp [scA]⟩
theorem arrV_def' {a:Arr}:arrV a= .agg [.lit (.string a.e),.sl false 1 (ints .i64 a.d),.sl false 1 (ints .i64 a.x)]:=rfl
theorem ilsO2 {b b1 b2:Bool} {x y:Int}:ilsOf (.sl b 1 [.sl b1 1 [.lit (.int .i64 x)],.sl b2 1 [.lit (.int .i64 y)]])=some [[x],[y]]:=rfl
theorem stpsO0 {b:Bool}:stpsOf (.sl b 3 [])=some []:=rfl
theorem iA:(⟨⟨#[97,100,100]⟩,[],[],[[0],[1]],[],0,⟨ByteArray.empty,[],[]⟩,[],0,ByteArray.empty,ByteArray.empty,[]⟩:Ins)=iAdd:=rfl
theorem o1:kindS iAdd.op=some .prim:=by kernel_rfl
theorem o2:nps iAdd.op=2:=by kernel_rfl
theorem o3:formedS iAdd 0=0:=by kernel_rfl
theorem o4:chkS [2,3] iAdd.ax (List.replicate (nps iAdd.op) 0) [listA [10,20],listA [1,2,3]]=0:=by kernel_rfl
theorem o5:sizeS [2,3]=(6,0):=by kernel_rfl
def xs6:List (List Int):=[[0,0],[0,1],[0,2],[1,0],[1,1],[1,2]]
theorem o6:inds [2,3] (sizeS [2,3]).1.toNat=xs6:=by kernel_rfl
def G6:List Arr:=[scA 11,scA 12,scA 13,scA 21,scA 22,scA 23]
theorem o7:insG iAdd.op iAdd.ax (List.replicate (nps iAdd.op) 0) [listA [10,20],listA [1,2,3]] (inds [2,3] (sizeS [2,3]).1.toNat) []=(G6,0):=by kernel_rfl
def own6 (ix:List Int):List Arr:=ownS iAdd.ax (List.replicate (nps iAdd.op) 0) [listA [10,20],listA [1,2,3]] ix 2
theorem o8:(xs6.all fun ix=>(own6 ix).all fun a=>decide (1≤a.x.length))=true:=by kernel_rfl
theorem o9:(xs6.all fun ix=>(pickS ix [0]).isSome&&(pickS ix [1]).isSome&&(pickS ix []).isSome)=true:=by kernel_rfl
theorem ok1:okI iAdd [2,3] [] [listA [10,20],listA [1,2,3]]:=by
  have hac:accI iAdd [2,3] [listA [10,20],listA [1,2,3]]=G6:=by unfold accI;rw [o7]
  refine ⟨o1,o2,o3,o4,by rw [o5],by rw [o5];decide,by rw [o7],by rw [hac];kernel_rfl,⟨by decide,by decide⟩,by decide,?_,by decide,by decide,?_,?_,?_⟩
  ·intro a ha
   rcases List.mem_cons.1 ha with rfl|ha
   ·exact okl _ (by decide)
   ·rcases List.mem_cons.1 ha with rfl|ha
    ·exact okl _ (by decide)
    ·cases ha
  ·rw [o6]
   intro ix hx a ha
   exact of_decide_eq_true (List.all_eq_true.1 (List.all_eq_true.1 o8 ix hx) a ha)
  ·rw [hac]
   intro a ha
   simp only [G6,List.mem_cons,List.not_mem_nil,or_false] at ha
   rcases ha with rfl|rfl|rfl|rfl|rfl|rfl<;>exact oks _
  ·rw [o6]
   intro ix hx k
   have h:=List.all_eq_true.1 o9 ix hx
   simp only [Bool.and_eq_true,Option.isSome_iff_exists] at h
   match k with
   |0=>exact h.1.1
   |1=>exact h.1.2
   |k+2=>exact h.2
noncomputable def N1:Env:=envJ (P:=Tryz.prog) jkK zer (fun _=>false) (fun _=>false) [con34,con16,con18,con23,con24,con28,con25,con26,con13] []
theorem N1_ok:EnvOk Tryz.prog N1:=envJOk zer_ok
set_option maxHeartbeats 8000000 in
theorem awake_pc:PC Tryz.prog 9 [] (.lit (.bool true)):=by
  have k1:=okl [1,2,3] (by simp)
  have k2:=oks 10
  have k3:=oks 4
  have k4:=okl [1,3,6] (by simp)
  have k5:okC cAdd:=⟨by decide,by decide⟩
  have k6:okC cSub:=⟨by decide,by decide⟩
  have h5:=ok1
  refine pcR N1_ok (kp9) Tryz.func9 [.tmp 0] (h:=fun KF=>?_)
  unfold N1
  repeat' (first
   |(with_reducible first|refine t_seq fun K=>?_|refine nx ?_|refine t_br (fun hc=>?_) fun hc=>?_)|exact kpd
   |((with_reducible first|refine ny ?_|refine t_kLF ?_ ?_|refine t_region fun K=>?_|refine t_cond fun A B=>?_|refine t_drawE (id:=6) (fun _=>true) [(0,1),(1,1),(2,1),(3,1),(4,1),(5,1),(6,1),(7,1),(8,1),(9,1),(10,1),(11,1),(12,1),(13,1),(14,1),(15,1),(16,1),(17,1),(18,1),(19,1),(20,1),(21,1),(22,1),(23,1),(24,1),(25,1),(26,1),(27,1),(28,1),(29,1),(30,1),(31,1),(32,1),(33,1),(34,1),(35,1),(36,1),(37,1),(38,1),(39,1),(40,1),(41,1)] (by kernel_rfl) fun K=>?_|refine t_dw (h:=fun K=>?_));(try (refine nh ?_;intro KL));simp only [go_sem,geff,kp9,con34_f,con16_f,con18_f,con23_f,con24_f,con28_f,con25_f,con26_f,con13_f,con34_c,con16_c,con18_c,con23_c,con24_c,con28_c,con25_c,con26_c,con13_c,slK_sl,slK_cons,slK_emp,slK_nil,arrsOf_x,arrL_cons,arrL_nil,arrOf_agg,arrV_def',ilsO2,stpsO0,iA,aw1,aw2,aw3,aw4,aw5,aw6,aw9,aw10,Option.map_some,arr_eta,prV,yes])
   |simp only [thenQ,blockQ,scopeQ,Nat.reduceEqDiff,reduceIte]|(with_reducible first|refine And.intro ?_ ?_|intro vr))
  all_goals try (first|exact h5|exact k1|exact k2|exact k3|exact k4|exact k5|exact k6|exact k1.1|exact k1.2|exact k2.1|exact k2.2)
  all_goals try exact nd
  all_goals ((first|refine end_retE ?_|refine end_normE ?_);simp only [fin,go_sem])
  exact LeA.refl _
noncomputable def con9:PCon Tryz.prog where
  f:=9
  c:=fun
   |[]=>some (True,.lit (.bool true))
   |_=>none
  ok:=by
   intro args p r hc hp
   split at hc
   ·cases hc;exact awake_pc
   ·cases hc
  fk:=fk9
theorem con9_f:con9.f=9:=rfl
theorem con9_c:con9.c []=some (True,.lit (.bool true)):=rfl
attribute [go_sem] con9_f con9_c
end Go.Proofs.YtcpjahmajkhchaaGreat

namespace Go.Proofs.YtcpjahmajkhchaaGreat
open Go Go.Fw
set_option maxRecDepth 20000
theorem ft78:fieldTs Tryz.prog 78=[9,3,23]:=by kernel_rfl
theorem shv_stp {x:AV} (h:ShV Tryz.prog 78 x):∃ a:Stp,x=stpV a:=by
  obtain ⟨c,rfl,hc⟩:=shv_agg ag78 h
  obtain ⟨p,q,r,rfl,hp,hq,hr⟩:=sh_three ft78 hc
  obtain ⟨s,rfl,hs⟩:=sh_str u9 hp
  obtain ⟨n,rfl,hn⟩:=sh_int u3 hq
  obtain ⟨w,rfl,hw,hw'⟩:=sh_ints u23 u3 sz3 hr
  exact ⟨⟨s,n,w⟩,rfl⟩
theorem list_stps:∀ {ys:List AV},(∀ y∈ys,∃ a,y=stpV a)→∃ l:List Stp,ys=stps l
  |[],_=>⟨[],rfl⟩
  |y::ys,h=>by
   obtain ⟨n,rfl⟩:=h y (by simp)
   obtain ⟨l,rfl⟩:=list_stps (ys:=ys) fun z hz=>h z (by simp [hz])
   exact ⟨n::l,rfl⟩
theorem shv_stps {x:AV} (h:ShV Tryz.prog 22 x):∃ l:List Stp,x= .sl false 3 (stps l)∧l.length≤maxLen:=by
  obtain ⟨ys,rfl,hl,hy⟩:=shv_slice u22 h
  obtain ⟨l,rfl⟩:=list_stps fun y hm=>shv_stp (hy y hm)
  exact ⟨l,by rw [sz78],by simpa [stps_length] using hl⟩
theorem fewC_ok {c:List Stp} (h:fewC c=true):okC c∧c.length≤10:=by
  simp only [fewC,Bool.and_eq_true,List.all_eq_true,decide_eq_true_eq] at h
  refine ⟨⟨by omega,fun s hs=>?_⟩,by omega⟩
  have:=h.1 s hs
  simp only [fewS,Bool.not_eq_true',Bool.or_eq_false_iff,decide_eq_false_iff_not] at this
  omega
noncomputable def L3:Env:=envJ (P:=Tryz.prog) jkR zer (fun _=>false) (fun _=>false) [con9,con10,con11,con12,con13,con14] []
theorem L3_ok:EnvOk Tryz.prog L3:=envJOk zer_ok
set_option maxHeartbeats 4000000 in
theorem code_law_pc {c:List Stp} {n:Int} {av:List Int} (hl:c.length≤9223372036854775807) (hn:inI64 n):PC Tryz.prog 3 [.sl false 3 (stps c),.lit (.int .i64 n),.sl false 1 (ints .i64 av)] (.lit (.bool true)):=by
  cases hg:(!fewC c||decide ((av.length:Int)>5)) with
  |true=>
   refine pcR L3_ok (kp3) Tryz.func3 [.tmp 6] (h:=fun KF=>?_)
   unfold L3
   repeat' (first
    |(with_reducible first|refine t_seq fun K=>?_|refine nx ?_|refine t_br (fun hc=>?_) fun hc=>?_)|exact kpd
    |((with_reducible first|refine ny ?_|refine t_kLF ?_ ?_|refine t_region fun K=>?_|refine t_cond fun A B=>?_|refine t_dw (h:=fun K=>?_));(try (refine nh ?_;intro KL));simp only [go_sem,geff,kp3,hg])
    |simp only [thenQ,blockQ,scopeQ,Nat.reduceEqDiff,reduceIte]|(with_reducible first|refine And.intro ?_ ?_|intro vr))
   all_goals try exact nd
   all_goals ((first|refine end_retE ?_|refine end_normE ?_);simp only [fin,go_sem])
   all_goals exact LeA.refl _
  |false=>
   simp only [Bool.or_eq_false_iff,Bool.not_eq_false',decide_eq_false_iff_not] at hg
   obtain ⟨g1,g2⟩:=hg
   have g3:decide ((av.length:Int)>5)=false:=decide_eq_false g2
   have k1:=(fewC_ok g1).1
   have k2:inI64 (av.length:Int):=by unfold inI64;omega
   have k3:av.length≤1000000:=by omega
   refine pcR L3_ok (kp3) Tryz.func3 [.tmp 6] (h:=fun KF=>?_)
   unfold L3
   repeat' (first
    |(with_reducible first|refine t_seq fun K=>?_|refine nx ?_|refine t_br (fun hc=>?_) fun hc=>?_)|exact kpd
    |((with_reducible first|refine ny ?_|refine t_kLF ?_ ?_|refine t_region fun K=>?_|refine t_cond fun A B=>?_|refine t_dw (h:=fun K=>?_));(try (refine nh ?_;intro KL));simp only [go_sem,geff,kp3,con11_f,con12_f,con13_f,con14_f,con11_c,con12_c,con13_c,con14_c,runV,g1,g3,beq_self_eq_true,Bool.not_true,Bool.or_false])
    |simp only [thenQ,blockQ,scopeQ,Nat.reduceEqDiff,reduceIte]|(with_reducible first|refine And.intro ?_ ?_|intro vr))
   all_goals try (first|exact k1|exact k2|exact k3|exact hn)
   all_goals try exact nd
   all_goals ((first|refine end_retE ?_|refine end_normE ?_);simp only [fin,go_sem])
   all_goals exact LeA.refl _
theorem code_law:∀ xs,ShL Tryz.prog Tryz.f3.params.toList xs→PC Tryz.prog 3 xs (.lit (.bool true))
  |[x,y,z],h=>by
   obtain ⟨c,rfl,hc⟩:=shv_stps h.1
   obtain ⟨n,rfl,hn⟩:=shv_int u3 h.2.1
   obtain ⟨l,rfl,_⟩:=shv_ints u23 u3 sz3 h.2.2.1
   exact code_law_pc hc (wf_i64 hn)
  |[],h=>h.elim
  |[_],h=>h.2.elim
  |[_,_],h=>h.2.2.elim
  |_::_::_::_::_,h=>h.2.2.2.elim
end Go.Proofs.YtcpjahmajkhchaaGreat

namespace Go.Proofs.YtcpjahmajkhchaaGreat.El
open Go.Proofs.YtcpjahmajkhchaaGreat
open Go Go.Fw
set_option maxRecDepth 20000
theorem minel' {a b:Int} (ha:el a) (hb:el b):el (minI a b):=by unfold minI;split<;>assumption
theorem maxel' {a b:Int} (ha:el a) (hb:el b):el (maxI a b):=by unfold maxI;split<;>assumption
theorem truel (b:Bool):el (tru b):=by unfold tru el;split<;>omega
theorem tru01 (b:Bool):tru b=0∨tru b=1:=by unfold tru;split<;>omega
theorem el01 {a:Int} (h:a=0∨a=1):el a:=by unfold el;omega
theorem min01 {a b:Int} (ha:a=0∨a=1) (hb:b=0∨b=1):minI a b=0∨minI a b=1:=by unfold minI;split<;>assumption
theorem max01 {a b:Int} (ha:a=0∨a=1) (hb:b=0∨b=1):maxI a b=0∨maxI a b=1:=by unfold maxI;split<;>assumption
theorem model {a b:Int} (_:el a) (hb:el b):el (if b=0 then 0 else a - b*flo a b):=by
  split
  ·unfold el;omega
  ·rename_i h
   have:=flo_spec (a:=a) h
   unfold el at*
   omega
theorem vS_el {i:Nat} {xs:List Int} (hi:i<22) (h:okL i xs):el (vS i xs)∧(eqS (rowsL.getD i default).rs sBool=true→vS i xs=0∨vS i xs=1):=by
  have:i=0∨i=1∨i=2∨i=3∨i=4∨i=5∨i=6∨i=7∨i=8∨i=9∨i=10∨i=11∨i=12∨i=13∨i=14∨i=15∨i=16∨i=17∨i=18∨i=19∨i=20∨i=21:=by omega
  rcases this with rfl|rfl|rfl|rfl|rfl|rfl|rfl|rfl|rfl|rfl|rfl|rfl|rfl|rfl|rfl|rfl|rfl|rfl|rfl|rfl|rfl|rfl
  ·obtain ⟨a,b,rfl,h0,h1⟩:=okL_0.1 h;exact ⟨w32_el _,fun e=>by cases e⟩
  ·obtain ⟨a,b,rfl,h0,h1⟩:=okL_1.1 h;exact ⟨w32_el _,fun e=>by cases e⟩
  ·obtain ⟨a,b,rfl,h0,h1⟩:=okL_2.1 h;exact ⟨w32_el _,fun e=>by cases e⟩
  ·obtain ⟨a,b,rfl,h0,h1⟩:=okL_3.1 h;exact ⟨w32_el _,fun e=>by cases e⟩
  ·obtain ⟨a,b,rfl,h0,h1⟩:=okL_4.1 h;exact ⟨model h0 h1,fun e=>by cases e⟩
  ·obtain ⟨a,b,rfl,h0,h1⟩:=okL_5.1 h;exact ⟨minel' h0 h1,fun e=>by cases e⟩
  ·obtain ⟨a,b,rfl,h0,h1⟩:=okL_6.1 h;exact ⟨maxel' h0 h1,fun e=>by cases e⟩
  ·obtain ⟨a,rfl,h0⟩:=okL_7.1 h;exact ⟨w32_el _,fun e=>by cases e⟩
  ·obtain ⟨a,rfl,h0⟩:=okL_8.1 h;exact ⟨w32_el _,fun e=>by cases e⟩
  ·obtain ⟨a,rfl,h0⟩:=okL_9.1 h;exact ⟨by show el (sgn a);unfold sgn el;split<;>(try split)<;>omega,fun e=>by cases e⟩
  ·obtain ⟨a,b,rfl,h0,h1⟩:=okL_10.1 h;exact ⟨truel _,fun _=>tru01 _⟩
  ·obtain ⟨a,b,rfl,h0,h1⟩:=okL_11.1 h;exact ⟨truel _,fun _=>tru01 _⟩
  ·obtain ⟨a,b,rfl,h0,h1⟩:=okL_12.1 h;exact ⟨truel _,fun _=>tru01 _⟩
  ·obtain ⟨a,b,rfl,h0,h1⟩:=okL_13.1 h;exact ⟨truel _,fun _=>tru01 _⟩
  ·obtain ⟨a,b,rfl,h0,h1⟩:=okL_14.1 h;exact ⟨truel _,fun _=>tru01 _⟩
  ·obtain ⟨a,b,rfl,h0,h1⟩:=okL_15.1 h;exact ⟨truel _,fun _=>tru01 _⟩
  ·obtain ⟨a,b,rfl,h0,h1⟩:=okL_16.1 h;exact ⟨el01 (min01 h0 h1),fun _=>min01 h0 h1⟩
  ·obtain ⟨a,b,rfl,h0,h1⟩:=okL_17.1 h;exact ⟨el01 (max01 h0 h1),fun _=>max01 h0 h1⟩
  ·obtain ⟨a,b,rfl,h0,h1⟩:=okL_18.1 h
   have:vS 18 [a,b]=0∨vS 18 [a,b]=1:=by simp only [vS];split<;>omega
   exact ⟨el01 this,fun _=>this⟩
  ·obtain ⟨a,rfl,h0⟩:=okL_19.1 h
   have:vS 19 [a]=0∨vS 19 [a]=1:=by simp only [vS];omega
   exact ⟨el01 this,fun _=>this⟩
  ·obtain ⟨a,b,c,rfl,h0,h1,h2⟩:=okL_20.1 h
   refine ⟨?_,fun e=>by cases e⟩
   simp only [vS]
   split<;>assumption
  ·obtain ⟨a,rfl,h0⟩:=okL_21.1 h;exact ⟨el01 h0,fun e=>by cases e⟩
theorem vld_el {t:ByteArray} {n:Int} (h:vld t n=true):(eqS t sInt=true∨eqS t sBool=true)∧el n:=by
  unfold vld at h
  split at h
  ·rename_i h1
   exact ⟨.inl h1,of_decide_eq_true (p:= -2147483648≤n∧n≤2147483647) h⟩
  ·split at h
   ·rename_i h1
    exact ⟨.inr h1,el01 (of_decide_eq_true (p:=n=0∨n=1) h)⟩
   ·cases h
theorem vld_int' {n:Int} (h:el n):vld sInt n=true:=vld_int.2 h
theorem go_ok:∀ (ps ts:List ByteArray) (xs:List Int) (a b:ByteArray),goS ps ts a=some b→ts.length=ps.length→xs.length=ts.length→
    (∀ i,i<ts.length→vld (ts.getD i ⟨#[]⟩) (xs.getD i 0)=true)→okA ps xs=true
  |[],_,xs,_,_,_,_,_,_=>by cases xs<;>rfl
  |_::_,[],_,_,_,_,h,_,_=>by simp at h
  |_::_,_::_,[],_,_,_,_,h,_=>by simp at h
  |p::ps,t::ts,x::xs,a,b,h,hl,hx,hv=>by
   have hv0:=hv 0 (by simp)
   have hv1:∀ i,i<ts.length→vld (ts.getD i ⟨#[]⟩) (xs.getD i 0)=true:=fun i hi=>by
     have:=hv (i+1) (by simpa using hi)
     simpa using this
   simp only [List.getD_cons_zero] at hv0
   have rec1:∀ a',goS ps ts a'=some b→okA ps xs=true:=fun a' h'=>go_ok ps ts xs a' b h' (by simpa using hl) (by simpa using hx) hv1
   show (vld (elT p) x&&okA ps xs)=true
   rw [Bool.and_eq_true]
   unfold goS at h
   split at h
   ·cases h
   ·split at h
    ·rename_i hp
     have:elT p=sInt:=by unfold elT;exact if_pos hp
     refine ⟨by rw [this];exact vld_int' (vld_el hv0).2,?_⟩
     split at h
     ·exact rec1 _ h
     ·split at h
      ·exact rec1 _ h
      ·cases h
    ·rename_i hp
     split at h
     ·rename_i ht
      have e:=eqS_iff.1 ht
      have:elT p=p:=by unfold elT;exact if_neg hp
      exact ⟨by rw [this,←e];exact hv0,rec1 _ h⟩
     ·cases h
theorem rows_rs:∀ i,i<22→i≠20→(rowsL.getD i default).rs=sInt∨(rowsL.getD i default).rs=sBool:=by
  intro i hi h
  have:i=0∨i=1∨i=2∨i=3∨i=4∨i=5∨i=6∨i=7∨i=8∨i=9∨i=10∨i=11∨i=12∨i=13∨i=14∨i=15∨i=16∨i=17∨i=18∨i=19∨i=21:=by omega
  rcases this with rfl|rfl|rfl|rfl|rfl|rfl|rfl|rfl|rfl|rfl|rfl|rfl|rfl|rfl|rfl|rfl|rfl|rfl|rfl|rfl|rfl
  all_goals first|exact .inl rfl|exact .inr rfl
theorem go_A {ps ts:List ByteArray} {t a:ByteArray}:goS (sA::ps) (t::ts) a=if eqS t ⟨#[105,110,116]⟩=false∧eqS t ⟨#[98,111,111,108]⟩=false then none else if eqS a ⟨#[]⟩=true then goS ps ts t else if eqS t a=true then goS ps ts a else none:=by
  rw [goS,if_pos (show eqS sA ⟨#[65]⟩=true from rfl)]
theorem go_sel {t0 t1 t2 b:ByteArray} (h:goS [sBool,sA,sA] [t0,t1,t2] ⟨#[]⟩=some b):t1=b∧t2=b:=by
  rw [goS] at h
  split at h
  ·cases h
  rw [if_neg (show ¬ eqS sBool ⟨#[65]⟩=true by decide)] at h
  split at h
  rotate_left
  ·cases h
  rw [go_A] at h
  split at h
  ·cases h
  rename_i hn
  rw [if_pos (show eqS (⟨#[]⟩:ByteArray) ⟨#[]⟩=true from rfl),go_A] at h
  split at h
  ·cases h
  split at h
  ·rename_i he
   have:=eqS_iff.1 he
   subst this
   exact absurd ⟨rfl,rfl⟩ hn
  ·split at h
   ·rename_i h2
    have h3:=eqS_iff.1 h2
    have h4:t1=b:=by simpa [goS] using h
    exact ⟨h4,h3.trans h4⟩
   ·cases h
theorem res_apply {op t:ByteArray} {ts:List ByteArray} {xs:List Int} (h:resS op ts=some t) (hx:xs.length=ts.length) (hv:∀ i,i<ts.length→vld (ts.getD i ⟨#[]⟩) (xs.getD i 0)=true):∃ n,applyS op xs=some n∧vld t n=true:=by
  rcases ix_cases op with ⟨i,hi, -,hix,ht⟩|⟨-,ht⟩
  rotate_left
  ·unfold resS at h;rw [ht] at h;cases h
  unfold resS at h
  rw [ht] at h
  simp only at h
  split at h
  rotate_left
  ·cases h
  rename_i hl
  cases hg:goS (rowsL.getD i default).ps ts ⟨#[]⟩ with
  |none=>rw [hg] at h;cases h
  |some b=>
   rw [hg] at h
   simp only [Option.map_some,Option.some.injEq] at h
   have hok:okL i xs:=⟨by rw [hx,hl];rfl,go_ok _ _ _ _ _ hg hl hx hv⟩
   refine ⟨vS i xs,by unfold applyS;rw [hix];exact if_pos (okB_iff.2 hok),?_⟩
   by_cases h20:i=20
   ·subst h20
    obtain ⟨x,y,z,rfl,h0,h1,h2⟩:=okL_20.1 hok
    have e1:(rowsL.getD 20 default).ps=[sBool,sA,sA]:=rfl
    rw [e1] at hg hl
    match ts,hl with
    |[t0,t1,t2],_=>
     obtain ⟨k1,k2⟩:=go_sel hg
     have e2:(if eqS (rowsL.getD 20 default).rs ⟨#[65]⟩=true then b else (rowsL.getD 20 default).rs)=b:=if_pos rfl
     rw [e2] at h
     have v1:=hv 1 (by simp)
     have v2:=hv 2 (by simp)
     simp only [List.getD_cons_succ,List.getD_cons_zero] at v1 v2
     rw [k1,h] at v1
     rw [k2,h] at v2
     simp only [vS]
     split<;>assumption
   ·obtain ⟨m1,m2⟩:=vS_el hi hok
    have hr:t=(rowsL.getD i default).rs:=by
      rw [←h]
      refine if_neg ?_
      rcases rows_rs i hi h20 with e|e<;>(rw [e];decide)
    rw [hr]
    rcases rows_rs i hi h20 with e|e
    ·rw [e];exact vld_int' m1
    ·rw [e];exact vld_bool.2 (m2 (by rw [e];rfl))
end Go.Proofs.YtcpjahmajkhchaaGreat.El
namespace Go.Proofs.YtcpjahmajkhchaaGreat
open Go Go.Fw
def okTV (ts:List ByteArray) (vs:List Int):Prop:=vs.length=ts.length∧∀ i,i<ts.length→vld (ts.getD i ⟨#[]⟩) (vs.getD i 0)=true
theorem getD_app {α:Type} (l:List α) (x d:α) (i:Nat):(l++[x]).getD i d=if i<l.length then l.getD i d else if i=l.length then x else d:=by
  simp only [List.getD_eq_getElem?_getD]
  split
  ·rename_i h;rw [List.getElem?_append_left h]
  ·rename_i h
   rw [List.getElem?_append_right (by omega)]
   split
   ·rename_i e;subst e;simp
   ·rw [List.getElem?_eq_none (by simp;omega)];rfl
theorem okTV_app {ts:List ByteArray} {vs:List Int} {t:ByteArray} {n:Int} (h:okTV ts vs) (hv:vld t n=true):okTV (ts++[t]) (vs++[n]):=by
  obtain ⟨h1,h2⟩:=h
  refine ⟨by simp [h1],fun i hi=>?_⟩
  rw [getD_app,getD_app,h1]
  split
  ·exact h2 i (by assumption)
  ·have:i=ts.length:=by simp at hi;omega
   rw [if_pos this,if_pos this];exact hv
theorem okTV_pick {ts:List ByteArray} {vs:List Int} {ats:List Int} (h:okTV ts vs) (ha:ats.all (inR ts.length)=true):okTV (pickB ts ats) (pickI vs ats):=by
  refine ⟨by simp [pickB,pickI],fun i hi=>?_⟩
  have hi':i<ats.length:=by simpa [pickB] using hi
  have e1:(pickB ts ats).getD i ⟨#[]⟩=ts.getD (ats.getD i 0).toNat ⟨#[]⟩:=by simp [pickB,List.getD,hi']
  have e2:(pickI vs ats).getD i 0=vs.getD (ats.getD i 0).toNat 0:=by simp [pickI,List.getD,hi']
  rw [e1,e2]
  have:=List.all_eq_true.1 ha (ats.getD i 0) (by rw [List.getD_eq_getElem?_getD,List.getElem?_eq_getElem hi'];exact List.getElem_mem hi')
  simp only [inR,Bool.and_eq_true,decide_eq_true_eq] at this
  exact h.2 _ (by omega)
theorem step_val {s:Stp} {ts:List ByteArray} {vs:List Int} {t:ByteArray} (h:okTV ts vs) (hs:validS s ts.length=true) (ht:stepT s ts=some t):∃ n,stepS s vs=some n∧vld t n=true:=by
  unfold validS at hs
  unfold stepT at ht
  unfold stepS isNum
  by_cases h1:eqS s.op sConst=true
  ·rw [if_pos h1] at hs ht
   cases ht
   simp only [Bool.and_eq_true] at hs
   exact ⟨s.num,by rw [h1];rfl,hs.2⟩
  ·rw [if_neg h1] at hs ht
   by_cases h2:eqS s.op sTruth=true
   ·rw [if_pos h2] at hs ht
    cases ht
    simp only [Bool.and_eq_true] at hs
    exact ⟨s.num,by rw [h2,Bool.or_true];rfl,hs.2⟩
   ·rw [if_neg h2] at hs ht
    have h3:(eqS s.op sConst||eqS s.op sTruth)=false:=by rw [Bool.eq_false_iff.2 h1,Bool.eq_false_iff.2 h2];rfl
    rw [if_neg (by rw [h3];decide)]
    cases hT:El.typesS s.op with
    |none=>rw [hT] at hs;cases hs
    |some r=>
     rw [hT] at hs
     simp only [Bool.and_eq_true] at hs
     obtain ⟨k1,k2⟩:=okTV_pick h hs.1.1
     exact El.res_apply ht k1 k2
theorem run_val:∀ (c:List Stp) (ts ts':List ByteArray) (vs:List Int),okTV ts vs→allV c ts.length=true→typG c ts=some ts'→∃ vs',runG c vs=some vs'∧okTV ts' vs'∧ts'.length=ts.length+c.length
  |[],ts,ts',vs,h,_,ht=>by cases ht;exact ⟨vs,rfl,h,rfl⟩
  |s::c,ts,ts',vs,h,ha,ht=>by
   simp only [allV,Bool.and_eq_true] at ha
   unfold typG at ht
   cases hs:stepT s ts with
   |none=>rw [hs] at ht;cases ht
   |some t=>
    rw [hs] at ht
    simp only at ht
    obtain ⟨n,hn,hv⟩:=step_val h ha.1 hs
    obtain ⟨vs',k1,k2,k3⟩:=run_val c (ts++[t]) ts' (vs++[n]) (okTV_app h hv) (by have:=ha.2;rw [List.length_append,List.length_singleton];exact this) ht
    exact ⟨vs',by unfold runG;rw [hn];exact k1,k2,by simp at k3 ⊢;omega⟩
theorem badN_pos {c:List Stp} {n:Int} (h:badN c n=false) (h0:0≤n):0<n+c.length:=by
  simp only [badN,Bool.or_eq_false_iff,beq_eq_false_iff_ne] at h
  omega
theorem typ_run {c:List Stp} {ts:List ByteArray} {vs:List Int} (h:okTV ts vs) (ht:(typS c ts).2=true):(runS c vs).2=true∧vld (typS c ts).1 (runS c vs).1=true:=by
  unfold typS at ht ⊢
  cases hv:validC c ts.length with
  |false=>rw [if_pos hv] at ht;cases ht
  |true=>
   rw [if_neg (by rw [hv];decide)] at ht
   rw [if_neg (by decide)]
   have hb:badN c ts.length=false:=by
     cases hb:badN c ts.length with
     |false=>rfl
     |true=>unfold validC at hv;rw [if_pos hb] at hv;cases hv
   have hall:allV c ts.length=true:=by
     unfold validC at hv;rw [if_neg (by rw [hb];decide)] at hv;exact hv
   have hp:=badN_pos hb (by omega)
   split at ht
   ·cases ht
   ·rename_i hty
    rw [if_neg hty]
    cases hG:typG c ts with
    |none=>rw [hG] at ht;cases ht
    |some l=>
     obtain ⟨vs',k1,k2,k3⟩:=run_val c ts l vs h hall hG
     have e:runS c vs=(lastI vs',true):=by
       unfold runS
       rw [h.1,if_neg (by rw [hv];decide),if_neg,k1]
       intro hany
       obtain ⟨n,hn,hn'⟩:=List.any_eq_true.1 hany
       obtain ⟨i,hi,rfl⟩:=List.mem_iff_getElem.1 hn
       have:=h.2 i (by rw [←h.1];exact hi)
       rw [List.getD_eq_getElem?_getD,List.getD_eq_getElem?_getD,List.getElem?_eq_getElem hi] at this
       have:=El.vld_int' (El.vld_el this).2
       rw [show vs[i]=(some vs[i]).getD 0 from rfl] at hn'
       rw [show vld sInt ((some vs[i]).getD 0)=true from this] at hn'
       cases hn'
     rw [e]
     refine ⟨rfl,?_⟩
     show vld (lastB l) (lastI vs')=true
     unfold lastB lastI
     rw [k2.1]
     exact k2.2 _ (by omega)
end Go.Proofs.YtcpjahmajkhchaaGreat

namespace Go.Proofs.YtcpjahmajkhchaaGreat
open Go Go.Fw
set_option maxRecDepth 20000
theorem ofE_inv' {a:Arr} (h:ofE a=0):(eqS a.e sInt||eqS a.e sBool)=true∧∀ n∈a.x,vld a.e n=true:=by
  unfold ofE at h
  split at h
  ·cases h
  ·rename_i h1
   split at h
   ·rename_i h2;exact absurd h h2
   ·split at h
    ·cases h
    ·split at h
     ·cases h
     ·rename_i h2
      refine ⟨by cases hb:(eqS a.e sInt||eqS a.e sBool) with|true=>rfl|false=>exact absurd hb h1,fun n hn=>?_⟩
      cases hv:vld a.e n with
      |true=>rfl
      |false=>exact absurd (List.any_eq_true.2 ⟨n,hn,by rw [hv];rfl⟩) h2
theorem ofE_of {e:ByteArray} {d x y:List Int} (h:ofE ⟨e,d,x⟩=0) (hl:y.length=x.length) (hy:∀ n∈y,vld e n=true):ofE ⟨e,d,y⟩=0:=by
  obtain ⟨h1, -⟩:=ofE_inv' h
  have h2:=(ofE_inv h).2.1
  unfold ofE at h ⊢
  simp only at h h1 ⊢
  rw [if_neg (by rw [h1];decide)] at h ⊢
  split at h
  ·rename_i h3;exact absurd h h3
  ·rename_i h3
   rw [if_neg h3]
   split at h
   ·cases h
   ·rename_i h4
    rw [if_neg (by rw [hl];exact h4),if_neg]
    intro ha
    obtain ⟨n,hn,hn'⟩:=List.any_eq_true.1 ha
    rw [hy n hn] at hn';cases hn'
theorem okTV_two {e:ByteArray} {a b:Int} (ha:vld e a=true) (hb:vld e b=true):okTV [e,e] [a,b]:=by
  refine ⟨rfl,fun i hi=>?_⟩
  match i,hi with
  |0,_=>exact ha
  |1,_=>exact hb
def Fit (c:List Stp) (e:ByteArray):Prop:=∀ a b,vld e a=true→vld e b=true→(runS c [a,b]).2=true∧vld e (runS c [a,b]).1=true
theorem fit_of {c:List Stp} {e:ByteArray} (h1:(typS c [e,e]).2=true) (h2:eqS (typS c [e,e]).1 e=true):Fit c e:=fun a b ha hb=>by
  obtain ⟨k1,k2⟩:=typ_run (okTV_two ha hb) h1
  rw [eqS_iff.1 h2] at k2
  exact ⟨k1,k2⟩
theorem lastI_mem {l:List Int} (h:l≠[]):lastI l∈l:=by
  unfold lastI
  have:l.length - 1<l.length:=by have:=List.length_pos_iff.2 h;omega
  rw [List.getD_eq_getElem?_getD,List.getElem?_eq_getElem this]
  exact List.getElem_mem this
theorem scan_vld {c:List Stp} {e:ByteArray} (h:Fit c e):∀ (l acc:List Int),(∀ n∈l,vld e n=true)→(∀ n∈acc,vld e n=true)→∀ n∈scanG c l acc,vld e n=true
  |[],acc,_,ha=>ha
  |n::t,acc,hl,ha=>by
   rw [scanG]
   refine scan_vld h t _ (fun m hm=>hl m (by simp [hm])) fun m hm=>?_
   rcases List.mem_append.1 hm with hm|hm
   ·exact ha m hm
   ·have hn:=hl n (by simp)
    split at hm
    ·rw [List.mem_singleton.1 hm];exact hn
    ·rename_i h0
     rw [List.mem_singleton.1 hm]
     exact (h _ _ (ha _ (lastI_mem h0)) hn).2
theorem fold_vld {c:List Stp} {e:ByteArray} (h:Fit c e):∀ (l:List Int) (n:Int),(∀ n∈l,vld e n=true)→vld e n=true→vld e (foldG c l n)=true
  |[],n,_,hn=>hn
  |k::t,n,hl,hn=>by
   rw [foldG]
   exact fold_vld h t _ (fun m hm=>hl m (by simp [hm])) (h _ _ hn (hl k (by simp))).2
theorem scan_eq (c:List Stp) (x:Arr):scanP c x=scanR c x:=by
  unfold scanP scanR
  split
  ·rfl
  ·rename_i h1
   split
   ·rfl
   ·rename_i h2
    have h0:ofE x=0:=by
      simp only [Bool.or_eq_true,not_or,Bool.not_eq_true',beq_eq_false_iff_ne,ne_eq,Decidable.not_not] at h1;exact h1.1
    have hf:fitsS c x.e x true=0:=by simpa using h2
    obtain ⟨-, -,f3,f4⟩:=fits_zero hf
    have hF:=fit_of f3 f4
    obtain ⟨-,hv⟩:=ofE_inv' h0
    have:=ofE_of (y:=scanG c x.x []) h0 (by rw [scanG_len];simp) (scan_vld hF _ _ hv (by simp))
    rw [ofS_ok this]
theorem okA_ofS {a:Arr} (h:okA a):okA (ofS a).1:=by
  unfold ofS;split
  ·exact h
  ·exact okA_nil
theorem okA_fold {c:List Stp} {a x:Arr}:okA (foldS c a x).1:=by
  unfold foldS
  split
  ·exact okA_nil
  ·split
   ·exact okA_nil
   ·exact okA_ofS ⟨by simp,by simp⟩
theorem okA_scan {c:List Stp} {x:Arr} (h:okA x):okA (scanR c x).1:=by
  unfold scanR
  split
  ·exact okA_nil
  ·split
   ·exact okA_nil
   ·exact okA_ofS ⟨h.1,by simp only [scanG_len,List.length_nil,Nat.zero_add];exact h.2⟩
theorem okA_few {a:Arr} {n:Int} (h:fewA a n=true) (hn:n≤1000000):okA a:=by
  simp only [fewA,Bool.and_eq_true,decide_eq_true_eq] at h
  exact ⟨by omega,by omega⟩
end Go.Proofs.YtcpjahmajkhchaaGreat

namespace Go.Proofs.YtcpjahmajkhchaaGreat
open Go Go.Fw
set_option maxRecDepth 20000
attribute [go_sem] con15_f con15_c
noncomputable def L4:Env:=envJ (P:=Tryz.prog) jkR zer (fun _=>false) (fun _=>false) [con9,con10,con15,con16,con17,con18,con19,con20] []
theorem L4_ok:EnvOk Tryz.prog L4:=envJOk zer_ok
set_option maxHeartbeats 4000000 in
theorem fold_law_pc {c:List Stp} {a x:Arr} (hl:c.length≤9223372036854775807):PC Tryz.prog 4 [.sl false 3 (stps c),arrV a,arrV x] (.lit (.bool true)):=by
  simp only [arrV]
  cases hg:(!fewC c|| !fewA a 60|| !fewA x 60) with
  |true=>
   have hg':(!fewC c|| !fewA ⟨a.e,a.d,a.x⟩ 60|| !fewA ⟨x.e,x.d,x.x⟩ 60)=true:=hg
   refine pcR L4_ok (kp4) Tryz.func4 [.tmp 6] (h:=fun KF=>?_)
   unfold L4
   repeat' (first
    |(with_reducible first|refine t_seq fun K=>?_|refine nx ?_|refine t_br (fun hc=>?_) fun hc=>?_)|exact kpd
    |((with_reducible first|refine ny ?_|refine t_kLF ?_ ?_|refine t_region fun K=>?_|refine t_cond fun A B=>?_|refine t_dw (h:=fun K=>?_));(try (refine nh ?_;intro KL));simp only [go_sem,geff,kp4,hg',Bool.not_true])
    |simp only [thenQ,blockQ,scopeQ,Nat.reduceEqDiff,reduceIte]|(with_reducible first|refine And.intro ?_ ?_|intro vr))
   all_goals try exact nd
   all_goals ((first|refine end_retE ?_|refine end_normE ?_);simp only [fin,go_sem])
   all_goals exact LeA.refl _
  |false=>
   have hg':(!fewC c|| !fewA ⟨a.e,a.d,a.x⟩ 60|| !fewA ⟨x.e,x.d,x.x⟩ 60)=false:=hg
   simp only [Bool.or_eq_false_iff,Bool.not_eq_false'] at hg
   obtain ⟨⟨g1,g2⟩,g3⟩:=hg
   have k1:=(fewC_ok g1).1
   have k2:okA ⟨a.e,a.d,a.x⟩:=okA_few g2 (by decide)
   have k3:okA ⟨x.e,x.d,x.x⟩:=okA_few g3 (by decide)
   have q1:=okA_fold (c:=c) (a:=⟨a.e,a.d,a.x⟩) (x:=⟨x.e,x.d,x.x⟩)
   have q2:=okA_scan (c:=c) k3
   have hs:=scan_eq c ⟨x.e,x.d,x.x⟩
   generalize hF:foldS c ⟨a.e,a.d,a.x⟩ ⟨x.e,x.d,x.x⟩=F at q1
   generalize hS:scanR c ⟨x.e,x.d,x.x⟩=S at q2 hs
   obtain ⟨⟨f1,f2,f3⟩,fe⟩:=F
   obtain ⟨⟨s1,s2,s3⟩,se⟩:=S
   have r1:=eqA_refl ⟨f1,f2,f3⟩
   have r2:=eqA_refl ⟨s1,s2,s3⟩
   refine pcR L4_ok (kp4) Tryz.func4 [.tmp 6] (h:=fun KF=>?_)
   unfold L4
   repeat' (first
    |(with_reducible first|refine t_seq fun K=>?_|refine nx ?_|refine t_br (fun hc=>?_) fun hc=>?_)|exact kpd
    |((with_reducible first|refine ny ?_|refine t_kLF ?_ ?_|refine t_region fun K=>?_|refine t_cond fun A B=>?_|refine t_dw (h:=fun K=>?_));(try (refine nh ?_;intro KL));simp only [go_sem,geff,kp4,hg',hF,hS,hs,r1,r2,arrV,aeV_def,beq_self_eq_true,Bool.not_true,Bool.not_false])
    |simp only [thenQ,blockQ,scopeQ,Nat.reduceEqDiff,reduceIte]|(with_reducible first|refine And.intro ?_ ?_|intro vr))
   all_goals try (first|exact ⟨k1,k2,k3⟩|exact ⟨k1,k3⟩|exact q1|exact q2)
   all_goals try exact nd
   all_goals ((first|refine end_retE ?_|refine end_normE ?_);simp only [fin,go_sem])
   all_goals exact LeA.refl _
theorem fold_law:∀ xs,ShL Tryz.prog Tryz.f4.params.toList xs→PC Tryz.prog 4 xs (.lit (.bool true))
  |[x,y,z],h=>by
   obtain ⟨c,rfl,hc⟩:=shv_stps h.1
   obtain ⟨a,rfl, -⟩:=shv_arr h.2.1
   obtain ⟨b,rfl, -⟩:=shv_arr h.2.2.1
   exact fold_law_pc hc
  |[],h=>h.elim
  |[_],h=>h.2.elim
  |[_,_],h=>h.2.2.elim
  |_::_::_::_::_,h=>h.2.2.2.elim
end Go.Proofs.YtcpjahmajkhchaaGreat

namespace Go.Proofs.YtcpjahmajkhchaaGreat
open Go Go.Fw
set_option maxRecDepth 20000
theorem sizeS_one {k:Nat} (h:k≤4096):sizeS [(k:Int)]=((k:Int),0):=by
  unfold sizeS
  rw [if_neg (by simp)]
  have h1:badD (k:Int)=false:=by unfold badD;simp;omega
  rw [if_neg (by simp [h1])]
  by_cases h0:k=0
  ·subst h0;rfl
  ·rw [if_neg (by simp;omega)]
   simp only [prodS,Int.one_mul]
   rw [if_neg (by omega)]
theorem ofE_list {l:List Int} (h:l.length≤4096) (hv:∀ n∈l,vld sInt n=true):ofE (listA l)=0:=by
  unfold ofE listA
  simp only
  rw [if_neg (by decide),sizeS_one h,if_neg (by simp),if_neg (by simp),if_neg]
  intro ha
  obtain ⟨n,hn,hn'⟩:=List.any_eq_true.1 ha
  rw [hv n hn] at hn';cases hn'
theorem ofE_scal {n:Int} (hv:vld sInt n=true):ofE (scA n)=0:=by
  unfold ofE scA
  simp only
  rw [if_neg (by decide),show sizeS []=(1,0) by decide,if_neg (by simp),if_neg (by simp),if_neg]
  intro ha
  obtain ⟨m,hn,hn'⟩:=List.any_eq_true.1 ha
  rw [List.mem_singleton.1 hn,hv] at hn';cases hn'
theorem fold_ok {c:List Stp} {n:Int} {l:List Int} (h1:(typS c [sInt,sInt]).2=true) (h2:eqS (typS c [sInt,sInt]).1 sInt=true) (hl:l.length≤4096) (hv:∀ n∈l,vld sInt n=true) (hn:vld sInt n=true):
    foldS c (scA n) (listA l)=(scA (foldG c l n),0)∧vld sInt (foldG c l n)=true:=by
  have hF:=fold_vld (fit_of h1 h2) l n hv hn
  refine ⟨?_,hF⟩
  have hvc:validC c 2=true:=by
    cases h:validC c 2 with
    |true=>rfl
    |false=>unfold typS at h1;rw [if_pos (by simpa using h)] at h1;cases h1
  unfold foldS
  rw [ofE_scal hn,ofE_list hl hv,hvc,if_neg (by decide)]
  have hf:fitsS c (scA n).e (listA l) (((scA n).d.length:Int)==0)=0:=by
    unfold fitsS
    show (if (!((0:Int)==0)||((1:Int) !=1))=true then (13:Int) else if (!(typS c [sInt,sInt]).2|| !eqS (typS c [sInt,sInt]).1 sInt)=true then 12 else 0)=0
    rw [h1,h2];rfl
  rw [hf,if_neg (by decide)]
  exact ofS_ok (ofE_scal hF)
theorem foldG_app (c:List Stp):∀ (a b:List Int) (n:Int),foldG c (a++b) n=foldG c b (foldG c a n)
  |[],_,_=>rfl
  |k::t,b,n=>by rw [List.cons_append,foldG,foldG,foldG_app c t b]
theorem scanG_pre (c:List Stp):∀ (l acc:List Int) (j:Nat),j<acc.length→(scanG c l acc).getD j 0=acc.getD j 0
  |[],_,_,_=>rfl
  |n::t,acc,j,h=>by
   rw [scanG,scanG_pre c t _ j (by simp;omega)]
   rw [List.getD_eq_getElem?_getD,List.getD_eq_getElem?_getD,List.getElem?_append_left h]
theorem lastI_app (l:List Int) (n:Int):lastI (l++[n])=n:=by unfold lastI;simp
theorem scanG_fold (c:List Stp):∀ (l acc:List Int) (i:Nat),acc≠[]→i≤l.length→(scanG c l acc).getD (acc.length - 1+i) 0=foldG c (l.take i) (lastI acc)
  |l,acc,0,h,_=>by
   have:=List.length_pos_iff.2 h
   rw [scanG_pre c l acc _ (by omega),List.take_zero];rfl
  |[],_,i+1,_,hi=>by simp at hi
  |n::t,acc,i+1,h,hi=>by
   have:=List.length_pos_iff.2 h
   rw [scanG,if_neg h,List.take_succ_cons,foldG]
   have:=scanG_fold c t (acc++[(runS c [lastI acc,n]).1]) i (by simp) (by simpa using hi)
   rw [lastI_app] at this
   rw [←this]
   congr 1
   simp;omega
theorem scan_fold (c:List Stp) (x:List Int) (i:Nat) (h:i<x.length):(scanG c x []).getD i 0=foldG c ((x.drop 1).take i) (x.getD 0 0):=by
  rcases x with _|⟨n,t⟩
  ·simp at h
  ·rw [scanG,if_pos rfl]
   have:=scanG_fold c t [n] i (by simp) (by simp at h;omega)
   rw [show lastI [n]=n from rfl] at this
   simpa using this
theorem scan_ok {c:List Stp} {l:List Int} (h1:(typS c [sInt,sInt]).2=true) (h2:eqS (typS c [sInt,sInt]).1 sInt=true) (hl:l.length≤4096) (hv:∀ n∈l,vld sInt n=true):
    scanP c (listA l)=(⟨sInt,[(l.length:Int)],scanG c l []⟩,0):=by
  have hvc:validC c 2=true:=by
    cases h:validC c 2 with
    |true=>rfl
    |false=>unfold typS at h1;rw [if_pos (by simpa using h)] at h1;cases h1
  unfold scanP
  rw [ofE_list hl hv,hvc,if_neg (by decide)]
  have hf:fitsS c (listA l).e (listA l) true=0:=by
    unfold fitsS
    show (if (!true||((1:Int) !=1))=true then (13:Int) else if (!(typS c [sInt,sInt]).2|| !eqS (typS c [sInt,sInt]).1 sInt)=true then 12 else 0)=0
    rw [h1,h2];rfl
  rw [hf,if_neg (by decide)]
  rfl
theorem same_self {a:Arr} (h:ofE a=0):(ofE a==0&&eqA a a)=true:=by rw [h,eqA_refl];rfl
theorem list_vld {l:List Int} (h:ofE (listA l)=0):∀ n∈l,vld sInt n=true:=(ofE_inv' h).2
theorem vld32 {n:Int} (h: -2147483648≤n∧n≤2147483647):vld sInt n=true:=by unfold vld;rw [if_pos (by decide)];exact decide_eq_true h
end Go.Proofs.YtcpjahmajkhchaaGreat

namespace Go.Proofs.YtcpjahmajkhchaaGreat
open Go Go.Fw
set_option maxRecDepth 20000
noncomputable def L6:Env:=envJ (P:=Tryz.prog) jkR zer (fun _=>false) (fun _=>false) [con9,con10,con21,con22,con23,con24,con16,con18,con25,con26] []
theorem L6_ok:EnvOk Tryz.prog L6:=envJOk zer_ok
set_option maxHeartbeats 8000000 in
theorem scan_law_pc {c:List Stp} {x:List Int} (hl:c.length≤9223372036854775807):PC Tryz.prog 6 [.sl false 3 (stps c),.sl false 1 (ints .i64 x)] (.lit (.bool true)):=by
  cases hg:(!fewC c||decide ((x.length:Int)>30)) with
  |true=>
   refine pcR L6_ok (kp6) Tryz.func6 [.tmp 4] (h:=fun KF=>?_)
   unfold L6
   repeat' (first
    |(with_reducible first|refine t_seq fun K=>?_|refine nx ?_|refine t_br (fun hc=>?_) fun hc=>?_)|exact kpd
    |((with_reducible first|refine ny ?_|refine t_kLF ?_ ?_|refine t_region fun K=>?_|refine t_cond fun A B=>?_|refine t_drawE (id:=14) (fun i=>i==0) [(0,1),(1,1),(2,1),(3,1),(4,1),(5,1),(6,1),(7,1),(8,1),(9,1),(10,1),(11,1),(12,1),(13,1),(14,0),(15,0),(16,1)] (by kernel_rfl) fun K=>?_|refine t_dw (h:=fun K=>?_));(try (refine nh ?_;intro KL));simp only [go_sem,geff,kp6,hg])
    |simp only [thenQ,blockQ,scopeQ,Nat.reduceEqDiff,reduceIte]|(with_reducible first|refine And.intro ?_ ?_|intro vr))
   all_goals try exact nd
   all_goals ((first|refine end_retE ?_|refine end_normE ?_);simp only [fin,go_sem])
   all_goals exact LeA.refl _
  |false=>
   have hg':=hg
   simp only [Bool.or_eq_false_iff,Bool.not_eq_false',decide_eq_false_iff_not] at hg'
   obtain ⟨g1,g2⟩:=hg'
   have k1:=(fewC_ok g1).1
   have lx:okA (listA x):=okl x (by omega)
   cases hu:(!(typS c [⟨#[105,110,116]⟩,⟨#[105,110,116]⟩]).2|| !eqS (typS c [⟨#[105,110,116]⟩,⟨#[105,110,116]⟩]).1 ⟨#[105,110,116]⟩|| !(ofE (listA x)==0)) with
   |true=>
    refine pcR L6_ok (kp6) Tryz.func6 [.tmp 4] (h:=fun KF=>?_)
    unfold L6
    repeat' (first
     |(with_reducible first|refine t_seq fun K=>?_|refine nx ?_|refine t_br (fun hc=>?_) fun hc=>?_)|exact kpd
     |((with_reducible first|refine ny ?_|refine t_kLF ?_ ?_|refine t_region fun K=>?_|refine t_cond fun A B=>?_|refine t_drawE (id:=14) (fun i=>i==0) [(0,1),(1,1),(2,1),(3,1),(4,1),(5,1),(6,1),(7,1),(8,1),(9,1),(10,1),(11,1),(12,1),(13,1),(14,0),(15,0),(16,1)] (by kernel_rfl) fun K=>?_|refine t_dw (h:=fun K=>?_));(try (refine nh ?_;intro KL));simp only [go_sem,geff,kp6,hg,hu,arrV_def',arr_eta,arrOf_agg,slK_sl,Option.map_some])
     |simp only [thenQ,blockQ,scopeQ,Nat.reduceEqDiff,reduceIte]|(with_reducible first|refine And.intro ?_ ?_|intro vr))
    all_goals try (first|exact k1|exact k1.1|exact k1.2|exact lx.1|exact lx.2)
    all_goals try exact nd
    all_goals ((first|refine end_retE ?_|refine end_normE ?_);simp only [fin,go_sem])
    all_goals exact LeA.refl _
   |false=>
    have hu':=hu
    simp only [Bool.or_eq_false_iff,Bool.not_eq_false',beq_iff_eq] at hu'
    obtain ⟨⟨t1,t2⟩,vx⟩:=hu'
    have f1:=scan_ok t1 t2 (by omega) (list_vld vx)
    have hsl:(scanG c x []).length=x.length:=by rw [scanG_len];simp
    have hd:=dself [(x.length:Int)]
    generalize hG:scanG c x []=G at f1 hsl
    refine pcR L6_ok (kp6) Tryz.func6 [.tmp 4] (h:=fun KF=>?_)
    unfold L6
    repeat' (first
     |(with_reducible first|refine t_seq fun K=>?_|refine nx ?_|refine t_br (fun hc=>?_) fun hc=>?_)|exact kpd
     |((with_reducible first|refine ny ?_|refine t_kLF ?_ ?_|refine t_region fun K=>?_|refine t_cond fun A B=>?_|refine t_drawE (id:=14) (fun i=>i==0) [(0,1),(1,1),(2,1),(3,1),(4,1),(5,1),(6,1),(7,1),(8,1),(9,1),(10,1),(11,1),(12,1),(13,1),(14,0),(15,0),(16,1)] (by kernel_rfl) fun K=>?_|refine t_dw (h:=fun K=>?_));(try (refine nh ?_;intro KL));simp only [go_sem,geff,kp6,hg,hu,f1,hsl,hd,arrV_def',arr_eta,arrOf_agg,slK_sl,Option.map_some,aeV_def,bne_self_eq_false,Bool.not_true])
     |simp only [thenQ,blockQ,scopeQ,Nat.reduceEqDiff,reduceIte]|(with_reducible first|refine And.intro ?_ ?_|intro vr))
    all_goals try (first|exact k1|exact k1.1|exact k1.2|exact lx.1|exact lx.2)
    all_goals try exact nd
    refine t_loopF (ι:={i:Nat // i≤x.length}) (fun i=>[(68,.lit (.int .i64 i.1))]) (fun i=>[.box 31 [.lit (.string sInt),.sl false 1 (ints .i64 [(x.length:Int)]),.sl false 1 (ints .i64 G)]]) (fun i=>x.length - i.1) ⟨0,by omega⟩ ?_ ?_
    ·simp only [updL_nil,updL_cons,delF_top,delF_upd,Nat.reduceEqDiff,reduceIte]
     refine Le.frameS (by first|rfl|(simp only [go_sem];try rfl)) ?_
     repeat' (first|exact leF_top _|exact (fun _=>LeR.refl _)|(with_reducible refine leF_sl ?_ ?_)|(refine leF_upd ?_ ?_))
     all_goals (first|exact LeR.top _|exact LeR.refl _|(refine LeR.of_eq ?_;(try simp only [go_sem]);try rfl)|((try simp only [go_sem]);try rfl))
    rintro ⟨i,hi⟩ K0
    rcases Nat.lt_or_ge i x.length with hc|hc
    ·have g3:decide ((i:Int)<(x.length:Int))=true:=decide_eq_true (by omega)
     have hsf:=scan_fold c x i hc
     rw [hG] at hsf
     have hx0:vld sInt (x.getD 0 0)=true:=list_vld vx _ (getD_mem 0 (by omega))
     have hxt:∀ n∈(x.drop 1).take i,vld sInt n=true:=fun n hn=>list_vld vx n (List.mem_of_mem_drop (List.mem_of_mem_take hn))
     obtain ⟨f2,m2⟩:=fold_ok t1 t2 (by simp;omega) hxt hx0
     rw [←hsf] at f2 m2
     have e2:=same_self (ofE_scal m2)
     have lt:okA (listA ((x.drop 1).take i)):=okl _ (by simp;omega)
     have hdt:List.drop 1 (List.take ((i:Int)+1).toNat x)=List.take i (List.drop 1 x):=by
       rw [show ((i:Int)+1).toNat=i+1 by omega,List.drop_take];rfl
     have s1:=oks (x.getD 0 0)
     have s2:=oks (G.getD i 0)
     repeat' (first
      |(with_reducible first|refine t_seq fun K=>?_|refine nx ?_|refine t_br (fun hc=>?_) fun hc=>?_)|exact kpd
      |((with_reducible first|refine ny ?_|refine t_kLF ?_ ?_|refine t_region fun K=>?_|refine t_cond fun A B=>?_|refine t_drawE (id:=14) (fun i=>i==0) [(0,1),(1,1),(2,1),(3,1),(4,1),(5,1),(6,1),(7,1),(8,1),(9,1),(10,1),(11,1),(12,1),(13,1),(14,0),(15,0),(16,1)] (by kernel_rfl) fun K=>?_|refine t_dw (h:=fun K=>?_));(try (refine nh ?_;intro KL));simp only [go_sem,geff,kp6,g3,hdt,f2,e2,arrV_def',arr_eta,arrOf_agg,slK_sl,Option.map_some,aeV_def,bne_self_eq_false,Bool.not_true,Int.toNat_natCast])
      |simp only [thenQ,blockQ,scopeQ,Nat.reduceEqDiff,reduceIte]|(with_reducible first|refine And.intro ?_ ?_|intro vr))
     all_goals try (first|exact k1.1|exact k1.2|exact s1.1|exact s1.2|exact lt.1|exact lt.2|exact s2.1|exact s2.2)
     all_goals try exact nd
     refine ⟨⟨i+1,by omega⟩,by first|(simp only;omega)|omega,?_⟩
     simp only [updL_nil,updL_cons,delF_top,delF_upd,Nat.reduceEqDiff,reduceIte]
     refine le_backD (by first|rfl|(simp only [go_sem];try rfl)) (by first|exact Nat.zero_le _|simp) (by first|rfl|simp [lowO,low_lit,low_sl,low_ref,low_arr]) ?_ ?_
     ·repeat' (first|exact low_top|(refine low_upd rfl ?_))
     repeat' (first|exact leF_top _|exact (fun _=>LeR.refl _)|(with_reducible refine leF_sl ?_ ?_)|(refine leF_upd ?_ ?_))
     all_goals (first|exact LeR.top _|exact LeR.refl _|(refine LeR.of_eq ?_;(try simp only [go_sem]);try rfl)|((try simp only [go_sem]);try rfl))
    ·have g3:decide ((i:Int)<(x.length:Int))=false:=decide_eq_false (by omega)
     repeat' (first
      |(with_reducible first|refine t_seq fun K=>?_|refine nx ?_|refine t_br (fun hc=>?_) fun hc=>?_)|exact kpd
      |((with_reducible first|refine ny ?_|refine t_kLF ?_ ?_|refine t_region fun K=>?_|refine t_cond fun A B=>?_|refine t_drawE (id:=14) (fun i=>i==0) [(0,1),(1,1),(2,1),(3,1),(4,1),(5,1),(6,1),(7,1),(8,1),(9,1),(10,1),(11,1),(12,1),(13,1),(14,0),(15,0),(16,1)] (by kernel_rfl) fun K=>?_|refine t_dw (h:=fun K=>?_));(try (refine nh ?_;intro KL));simp only [go_sem,geff,kp6,g3])
      |simp only [thenQ,blockQ,scopeQ,Nat.reduceEqDiff,reduceIte]|(with_reducible first|refine And.intro ?_ ?_|intro vr))
     all_goals try exact nd
     all_goals ((first|refine end_retE ?_|refine end_normE ?_);simp only [fin,go_sem])
     exact LeA.refl _
theorem scan_law:∀ xs,ShL Tryz.prog Tryz.f6.params.toList xs→PC Tryz.prog 6 xs (.lit (.bool true))
  |[x,y],h=>by
   obtain ⟨c,rfl,hc⟩:=shv_stps h.1
   obtain ⟨l,rfl,_⟩:=shv_ints u23 u3 sz3 h.2.1
   exact scan_law_pc hc
  |[],h=>h.elim
  |[_],h=>h.2.elim
  |_::_::_::_,h=>h.2.2.elim
end Go.Proofs.YtcpjahmajkhchaaGreat
