import Derived.Test.YtcpjahmajkhchaaGreatSA
import Derived.RangeFuncBox
import Derived.RangeFuncLeaves
import Derived.RangeFuncCalls
import Derived.Shelf.Abstract
import Derived.OwnWalkIn
import Derived.TacticsInMore
import Derived.LoopNIn
import Derived.LoopIn
import Derived.Maps.AppendAt
import Derived.Maps.OwnIn
import Derived.Test.YtcpjahmajkhchaaGreatFwB

set_option linter.all false

namespace Go.Proofs.YtcpjahmajkhchaaGreat
open Go Go.Fw Go.RowKit Go.Shelf
attribute [local go_sem] Oper.semAt_some
def CW (n0 n:Nat) (C:Nat→Nat→Option Value) (W:World):Nat→Nat→Option Value:=fun k o=>if k<n0 then C k o else if k<n then none else W.cell? ⟨k,o,none⟩
def KpX (n0 B:Nat) (W W':World):Prop:=Below n0 W W'∧∀ v,W.cell? ⟨B,0,none⟩=some v→W'.cell? ⟨B,0,none⟩=some v
theorem rc_tup2 {C:Nat→Nat→Option Value} {x y:AV} {v:Value} (h:RC C (.tup [x,y]) v):∃ a b,v= .tuple #[a,b]∧RC C x a∧RC C y b:=by
  cases h with
  |tup _ vs hl h=>
   match vs,hl with
   |[a,b],_=>exact ⟨a,b,rfl,h 0 (by simp),h 1 (by simp)⟩
theorem rc_lit {C:Nat→Nat→Option Value} {u v:Value} (h:RC C (.lit u) v):v=u:=by cases h;rfl
theorem more_grown {w w':World} (h:More w w'):w.grownBy w' none:=⟨h.os,h.tape,h.output,h.size,fun k hk _=>h.block k hk⟩
theorem RL_two {C:Nat→Nat→Option Value} {x y:AV} {a b:Value} (h:RC C x a) (h':RC C y b):RL C [x,y] [a,b]:=⟨rfl,fun i hi=>match i,hi with
  |0,_=>h
  |1,_=>h'⟩
theorem RL_one {C:Nat→Nat→Option Value} {x:AV} {a:Value} (h:RC C x a):RL C [x] [a]:=⟨rfl,fun i hi=>match i,hi with
  |0,_=>h⟩
theorem rc_CW {n0:Nat} {C C2:Nat→Nat→Option Value} {w wr w2:World} {x:AV} {v:Value} (h:RC C2 x v) (hC:∀ k o u,C k o=some u→k<n0∧w.cell? ⟨k,o,none⟩=some u)
    (hold:∀ k,k<wr.heap.size→∀ j,C2 k j=C k j) (hin:inW C2 w2) (hn:n0≤wr.heap.size):RC (CW n0 wr.heap.size C w2) x v:=by
  refine h.mono fun k o u hu=>?_
  unfold CW
  split
  ·rename_i hk
   rw [←hold k (by omega) o];exact hu
  ·split
   ·rename_i hk hk'
    rw [hold k hk' o] at hu
    exact absurd (hC k o u hu).1 hk
   ·exact hin k o u hu
theorem rc_slice {C:Nat→Nat→Option Value} {fl:Bool} {sz:Nat} {xs:List AV} {v:Value} (h:RC C (.sl fl sz xs) v):∃ a len cap,v= .slice a len cap:=by
  cases h with
  |nil=>exact ⟨_,_,_,rfl⟩
  |sl=>exact ⟨_,_,_,rfl⟩
def AX (n0:Nat) (C:Nat→Nat→Option Value) (fr:List Int) (m:Nat) (pre:List Value) (x:Value) (W0 W1:World):Prop:=
  pre.length<m∧RC (CW n0 W0.heap.size C W1) (.sl false 1 (ints .i64 (idxS fr pre.length).1)) x
set_option maxRecDepth 100000 in
set_option maxHeartbeats 2000000 in
theorem all1_seq {n n0 B m:Nat} {C:Nat→Nat→Option Value} {fr:List Int} {fv:Value} {w:World} (h1:1≤n) (hfr:fr.length≤1000000) (hS:sizeS fr=((m:Int),0)) (hm:m≤1000000) (hB:B<w.heap.size) (hn0:n0≤w.heap.size)
    (hb:w.cell? ⟨B,0,none⟩=some fv) (hf:RC C (.sl false 1 (ints .i64 fr)) fv) (hC:∀ k o u,C k o=some u→k<n0∧w.cell? ⟨k,o,none⟩=some u):
    SeqW Fence.wide n Tryz.prog 109 #[.pointer (some ⟨B,0,none⟩)] (fun x:Value=> #[x]) (KpX n0 B) (AX n0 C fr m) (fun xs=>xs.length=m) w:=by
  intro l J W hW hJ hY h0
  have hbW:W.cell? ⟨B,0,none⟩=some fv:=(hW.cell (p:=⟨B,0,none⟩) hB).trans hb
  have hCW:∀ W',Below n0 W W'→inW C W':=fun W' hb' k o u hu=>by
    obtain ⟨q1,q2⟩:=hC k o u hu
    exact (hb'.cell (p:=⟨k,o,none⟩) q1).trans ((hW.cell (p:=⟨k,o,none⟩) (show k<w.heap.size by omega)).trans q2)
  refine callsIn_of_wp Tryz.func109 rfl trivial ?_ rfl
  simp only [Tryz.ntmps109,List.size_toArray,List.length_cons,List.length_nil,Nat.reduceAdd,Nat.reduceSub,Array.replicate_succ,Array.replicate_zero,List.push_toArray,List.append_toArray,List.nil_append,List.cons_append]
  have c65:=(callsIn_wide (n:=n - 1)).2 (size_pc hfr C W [fv] (RL_one hf) (hCW W (Below.refl _ _)))
  rw [hS] at c65
  gi_wp2_with (refine ⟨trivial,?_⟩;gi_at_call 69;refine c65.mono ?_;rintro e w1 ⟨v,C',rfl,hle,hrc,hin,hmore,hold⟩;obtain ⟨a,b,rfl,ha,hb2⟩:=rc_tup2 hrc;obtain rfl:=rc_lit ha;obtain rfl:=rc_lit hb2)
  have hJ1:J [] w1:=hJ [] W w1 none h0 (more_grown hmore) (fun r e=>by cases e)
  have hb1:Below n0 W w1:=hmore.below.mono (Nat.le_trans hn0 hW.size)
  have hbox:w1.cell? ⟨B,0,none⟩=some fv:=hmore.cell hbW
  gi_loopw [14] (fun i wr=>∃ xs:List Value,i= .int .i64 xs.length∧xs.length≤m∧J xs wr∧wr.cell? ⟨B,0,none⟩=some fv∧Below n0 W wr) (fun i _=>m - (intOf i).toNat)
  case atStart=>exact ⟨[],rfl,Nat.zero_le _,hJ1,hbox,hb1⟩
  case round=>
    obtain ⟨xs,rfl,hk,hJs,hbx,hbl⟩:=hrel
    have hnr:n0≤wr.heap.size:=Nat.le_trans (Nat.le_trans hn0 hW.size) hbl.size
    by_cases hlt:xs.length<m
    ·have c95:=(callsIn_wide (n:=n - 1)).2 (idx_pc (o:=xs.length) hfr C wr [fv,.int .i64 xs.length] (RL_two hf (.lit _)) (hCW wr hbl))
     gi_wp2_with (refine ⟨trivial,?_⟩;gi_at_call 110;refine c95.mono ?_;rintro e w2 ⟨v,C2,rfl,hle2,hrc2,hin2,hmore2,hold2⟩;obtain ⟨x,e2,rfl,hx,he2⟩:=rc_tup2 hrc2;obtain rfl:=rc_lit he2;obtain ⟨fn,tmps,assign,body,hy,hR⟩:=hY xs x wr w2 hJs (more_grown hmore2) ⟨hlt,rc_CW hx hC hold2 hin2 hnr⟩)
     refine hR.mono ?_
     rintro e W3 ⟨rfl,hJ3,hk3⟩
     gi_wp2
     go_roundw
     case rel=>exact ⟨xs++[x],by simp,by simp;omega,hJ3,hk3.2 _ (hmore2.cell hbx),(hbl.trans (hmore2.below.mono hnr)).trans hk3.1⟩
     case measure=>simp [intOf];omega
    ·obtain rfl:xs.length=m:=by omega
     gi_wp2
     go_end0
     exact ⟨⟨_,rfl⟩,xs,rfl,hJs⟩
set_option maxHeartbeats 1000000 in
theorem all_in (n:Nat) (a:Option Addr) (len cap:Nat) (w:World):
    CallsIn Fence.wide n Tryz.prog 76 #[.slice a len cap] w fun e w'=>e= .returned (.func (.func 109) #[] #[.pointer (some ⟨w.heap.size,0,none⟩)])∧w'=w.alloc (.cells #[.slice a len cap] 23):=by
  refine callsIn_of_wp Tryz.func76 rfl trivial ?_ rfl
  simp only [Tryz.ntmps76,List.size_toArray,List.length_cons,List.length_nil,Nat.reduceAdd,Nat.reduceSub,Array.replicate_succ,Array.replicate_zero,List.push_toArray,List.append_toArray,List.nil_append,List.cons_append]
  gi_wp2
  go_ret
  exact ⟨rfl,rfl⟩
def IX (C:Nat→Nat→Option Value) (fr:List Int) (w1:World) (pre:List Value) (W:World):Prop:=
  Below w1.heap.size w1 W∧∃ v C',Boxed W w1.heap.size 50 v∧W.ownsRow w1.heap.size 23 1 v pre.length pre∧(v= .slice none 0 0 ↔ pre=[])∧v.ownBlock≠some (w1.heap.size+1)∧inW C' W∧(∀ k,k<w1.heap.size→∀ j,C' k j=C k j)∧(∀ j,C' w1.heap.size j=none)∧
    (∀ g,v.ownBlock=some g→∀ j,C' g j=none)∧∀ i,i<pre.length→RC C' (.sl false 1 (ints .i64 (idxS fr i).1)) (pre.getD i undef)
theorem ix_own {C:Nat→Nat→Option Value} {fr:List Int} {w1:World} {B:Nat} (hB:w1.heap.size≤B):OwnFrom B (IX C fr w1):=by
  rintro s W W' row ⟨hb,v,C',h1,h2,h3,h3',h4,h5⟩ hg hr
  refine ⟨hb.grown hg (by have:=h1.lt;omega) (fun k e=>Nat.le_trans hB (hr k e).1),v,C',h1.kept hg (fun e'=>?_),h2.kept hg ?_,h3,h3',fun k o u hu=>cell_kept (h4 k o u hu) hg (fun r e=>(hr r e).2),h5⟩
  ·obtain ⟨_,o,ho,hc⟩:=hr _ e'.symm
   rw [show W.heap[w1.heap.size]? =_ from h1] at ho;cases ho;cases hc
  ·rcases h2.2 with ⟨rfl,_⟩|⟨g,cap,cur,rfl,_,hgb,_⟩
   ·exact .inl rfl
   ·refine .inr fun e'=>?_
    obtain ⟨_,o,ho,hc⟩:=hr g (by simpa [Value.ownBlock] using e'.symm)
    rw [hgb] at ho;cases ho;cases hc
theorem ax_own {n0 B m:Nat} {C:Nat→Nat→Option Value} {fr:List Int} (pre:List Value) (x:Value) (W0:World):OwnFrom B (fun (_:Unit)=>AX n0 C fr m pre x W0):=by
  rintro s W W' row ⟨h1,h2⟩ hg hr
  refine ⟨h1,h2.mono fun k o u hu=>?_⟩
  unfold CW at hu ⊢
  split
  ·rename_i hk
   rwa [if_pos hk] at hu
  ·rename_i hk
   rw [if_neg hk] at hu
   split
   ·rename_i hk2
    rwa [if_pos hk2] at hu
   ·rename_i hk2
    rw [if_neg hk2] at hu
    exact cell_kept hu hg (fun r e=>(hr r e).2)
theorem info23:(Tryz.prog.info? 23).map (fun i=>(i.zero,i.size,i.bytes))=some (some (.slice none 0 0),1,24):=by kernel_rfl
theorem flat_ils:∀ (L:List (List Int)),flat (ils L)=ils L
  |[]=>rfl
  |l::L=>by
   show AV.cells (ilA l)++flat (ils L)=ilA l::ils L
   rw [flat_ils L];rfl
theorem getD_left {α:Type} {l:List α} {x d:α} {i:Nat} (h:i<l.length):(l++[x]).getD i d=l.getD i d:=by
  rw [List.getD_eq_getElem?_getD,List.getD_eq_getElem?_getD,List.getElem?_append_left h]
theorem getD_end {α:Type} {l:List α} {x d:α}:(l++[x]).getD l.length d=x:=by simp
set_option maxRecDepth 100000 in
set_option maxHeartbeats 2000000 in
theorem indices_pc {fr:List Int} (hfr:fr.length≤1000000):PC Tryz.prog 54 [.sl false 1 (ints .i64 fr)] (inV (indicesS fr)):=by
  intro C w vs hr hin
  obtain ⟨hl,hr⟩:=hr
  match vs,hl with
  |[fv],_=>
  have hf:RC C (.sl false 1 (ints .i64 fr)) fv:=hr 0 (by simp)
  have ⟨a,len,cap,hfv⟩:∃ a len cap,fv= .slice a len cap:=by
    exact rc_slice hf
  subst hfv
  obtain ⟨i0,hi,hz0,hz1,hz2⟩:=info_parts info23
  refine (callsIn_wide (n:=4)).1 ?_
  unfold indicesS
  generalize hS:sizeS fr=s
  obtain ⟨m,er⟩:=s
  simp only
  have c65:=(callsIn_wide (n:=4 - 1)).2 (size_pc hfr C w [.slice a len cap] (RL_one hf) hin)
  rw [hS] at c65
  by_cases e0:er=0
  ·subst e0
   obtain ⟨_,hdk,hpr,hm⟩:=sizeS_ok hS
   obtain ⟨m,rfl⟩:∃ k:Nat,m=k:=⟨m.toNat,by have:=prI_nonneg hdk;omega⟩
   clear hpr hdk
   rw [if_neg (by simp),Int.toNat_natCast]
   refine callsIn_of_wp_marks Tryz.func54 rfl trivial ?_ rfl
   simp only [Tryz.ntmps54,List.size_toArray,List.length_cons,List.length_nil,Nat.reduceAdd,Nat.reduceSub,Array.replicate_succ,Array.replicate_zero,List.push_toArray,List.append_toArray,List.nil_append,List.cons_append]
   gi_wp2_with (first|(refine ⟨trivial,?_⟩;gi_at_call 69;refine c65.mono ?_;clear c65;rintro e w1 ⟨v,C',rfl,_,hrc,_,hmore,_⟩;obtain ⟨a,b,rfl,ha,hb2⟩:=rc_tup2 hrc;obtain rfl:=rc_lit ha;obtain rfl:=rc_lit hb2;clear hrc ha hb2)|(refine ⟨trivial,?_⟩;gi_at_call 76;refine (all_in _ _ _ _ _).mono ?_;rintro e w2 ⟨rfl,rfl⟩))
   have hs:=hmore.size
   have hCd:∀ k o u,C k o=some u→k<w1.heap.size∧w1.cell? ⟨k,o,none⟩=some u:=fun k o u hu=>by
     have hc:=hmore.cell (hin k o u hu)
     exact ⟨World.block_lt_of_cell? w1 _ hc,hc⟩
   have bO:=Boxed.new w1 50 (.slice none 0 0)
   have bN:=Boxed.new (w1.alloc (.cells #[.slice none 0 0] 50)) 23 (.slice a len cap)
   rw [World.size_alloc] at bN
   have hB0:Below w1.heap.size w1 ((w1.alloc (.cells #[.slice none 0 0] 50)).alloc (.cells #[.slice a len cap] 23)):=((Below.refl _ w1).alloc (Nat.le_refl _) _).alloc (by simp) _
   refine wpIn_rangeW (n:=4) rfl (by omega) (gf:=109) (lb:= #[.pointer (some ⟨w1.heap.size+1,0,none⟩)]) rfl trivial (enters_of Tryz.func109 (by kernel_rfl) rfl)
     (all1_seq (by omega) hfr hS (by omega) (B:=w1.heap.size+1) (n0:=w1.heap.size) (by simp) (by simp;omega) bN.cell hf (fun k o u hu=>⟨(hCd k o u hu).1,(hB0.cell (p:=⟨k,o,none⟩) (hCd k o u hu).1).trans (hCd k o u hu).2⟩))
     ?hkp (fun _=>rfl) (IX C fr w1) (ix_own (by simp;omega)) (fun pre x W0=>ax_own pre x W0) ?h0
     (fun x=>{tmps:= #[.slice a len cap,undef,.slice none 0 0,.int .i64 0,.int .i64 m,.int .i64 0,.pointer (some ⟨w1.heap.size,0,none⟩),x,.tuple #[.int .i64 m,.int .i64 0],.slice a len cap,.tuple #[.int .i64 m,.int .i64 0],.int .i64 m,.int .i64 0,.int .i64 0,.bool false,undef,.slice a len cap,.func (.func 109) #[] #[.pointer (some ⟨w1.heap.size+1,0,none⟩)],x,undef,undef,undef,undef,undef],defers:=[]}) ?assign ?body ?done
   case hkp=>
     intro W W' o o' hs1 hl hc hw _ o2 o3 hl2 hc2 hw2 hk
     have q1:=belowK_b (n₀:=w1.heap.size) (w:=(w1.alloc (.cells #[.slice none 0 0] 50)).alloc (.cells #[.slice a len cap] 23)) (by simp;omega) W _ o o' (Nat.le_succ _) hl hc hw
     have q2:=belowK_b (n₀:=w1.heap.size) (w:=(w1.alloc (.cells #[.slice none 0 0] 50)).alloc (.cells #[.slice a len cap] 23)) (by simp;omega) W' _ o2 o3 (Nat.le_succ _) hl2 hc2 hw2
     refine ⟨(q1.trans hk.1).trans q2,fun v hv=>?_⟩
     exact cell_kept (hk.2 v (cell_kept hv (grownBy_putObj' W _ o') (fun r e=>by cases e;exact ⟨_,hl,hc⟩))) (grownBy_putObj' W' _ o3) (fun r e=>by cases e;exact ⟨_,hl2,hc2⟩)
   case h0=>
     refine ⟨hB0,.slice none 0 0,C,bO.alloc _,World.ownsRow_nil _ _ _ _,by simp,by simp [Value.ownBlock],fun k o u hu=>(hB0.cell (p:=⟨k,o,none⟩) (hCd k o u hu).1).trans (hCd k o u hu).2,fun _ _ _=>rfl,fun j=>?_,by simp [Value.ownBlock],by simp⟩
     cases h:C w1.heap.size j with
     |none=>rfl
     |some u=>exact absurd (hCd _ _ u h).1 (by omega)
   case assign=>
     intro l x W K hK
     gi_wp2
     exact hK
   case body=>
     rintro l pre x W0 W hl ⟨hb0,v0,C0,g1,g2,g3,g3',g4,g5,g6,g7,g8⟩ ⟨hb,v,C1,h1,h2,h3,_⟩ hsz hcell ⟨hlt,hx⟩
     obtain ⟨ax,nx,cx,rfl⟩:=rc_slice hx
     have ev:v0=v:=by
       have q1:=hcell _ _ g1.cell
       rw [h1.cell] at q1
       exact (Option.some.inj q1).symm
     subst ev
     have hc:=h1.cell
     have hwb:=hb.size
     gi_wp2_with (gi_at_builtin;refine wpListIn_append_own_at _ rfl _ _ 50 rfl w1.heap.size 23 i0 (.slice none 0 0) 1 24 u50 hi hz0 hz1 hz2 rfl (by decide) _ _ _ rfl (h2.alloc _) ⟨W.heap.size,0,none⟩ 1 1 [.slice ax nx cx] rfl rfl (cell_one_new _ _ _) (by simp [Value.oneCell']) (by unfold maxLen;omega) (by omega) (by simp;omega) ?_;intro v' w3 hown' hgrow _ hob;obtain ⟨g',cap',rfl⟩:=ownsRow_succ hown';obtain ⟨hv1,hv2,hr2,hk2,hb2⟩:=h1.appended (by decide) h2 hb.size (Nat.le_refl _) hown' hgrow;have hc1:=hv1.cell;have hf1:=hv1.frozen)
     have hgb:∀ g,v0.ownBlock=some g→g<W0.heap.size:=fun g e=>by
       rcases g2.2 with ⟨rfl,_⟩|⟨g',cap,cur,rfl,_,hgb,_⟩
       ·cases e
       ·obtain rfl:g'=g:=by simpa [Value.ownBlock] using e
        exact (Array.getElem?_eq_some_iff.1 hgb).1
     have hB0l:=g1.lt
     have hst:∀ k o u,k≠w1.heap.size→v0.ownBlock≠some k→W.cell? ⟨k,o,none⟩=some u→(w3.setCell ⟨w1.heap.size,0,none⟩ (.slice (some ⟨g',0,none⟩) (pre.length+1) cap')).cell? ⟨k,o,none⟩=some u:=fun k o u e1 e2 hu=>by
       have hk:=World.block_lt_of_cell? W _ hu
       have a1:(W.alloc (.cells #[.slice ax nx cx] 23)).cell? ⟨k,o,none⟩=some u:=(World.cell?_of_block (Below.heap_alloc W _ k hk)).trans hu
       have a2:w3.cell? ⟨k,o,none⟩=some u:=(World.cell?_of_block (hgrow.block k (by simp at hk ⊢;omega) (fun e=>e2 e.symm))).trans a1
       exact (World.cell?_of_block (Below.heap_setCell _ _ _ k e1)).trans a2
     have hkp:KpX w1.heap.size (w1.heap.size+1) W (w3.setCell ⟨w1.heap.size,0,none⟩ (.slice (some ⟨g',0,none⟩) (pre.length+1) cap')):=by
       exact ⟨hb2,fun u hu=>hst _ _ u (by omega) g3' hu⟩
     refine ⟨hkp,hb.trans hb2,_,fun k o=>if k<W0.heap.size then C0 k o else W.cell? ⟨k,o,none⟩,hv2,by simpa using hr2,by simp,?_,?_,?_,?_,?_,?_⟩
     ·rcases hob with e'|e'
      ·rw [e'];exact g3'
      ·rw [e'];simp;omega
     ·intro k o u hu
      simp only at hu
      split at hu
      ·refine hst k o u (fun e=>?_) (fun e=>?_) (hcell _ _ (g4 k o u hu))
       ·rw [e,g6] at hu;cases hu
       ·rw [g7 k e] at hu;cases hu
      ·rename_i hk
       refine hst k o u (by omega) (fun e=>?_) hu
       exact hk (hgb k e)
     ·intro k hk j
      simp only
      rw [if_pos (by omega)];exact g5 k hk j
     ·intro j
      simp only
      rw [if_pos hB0l];exact g6 j
     ·intro g e j
      simp only
      rcases hob with e'|e'
      ·rw [e'] at e
       rw [if_pos (hgb g e)];exact g7 g e j
      ·rw [e'] at e
       obtain rfl:=Option.some.inj e
       rw [if_neg (by simp;omega)]
       cases h:W.cell? ⟨(W.alloc (.cells #[.slice ax nx cx] 23)).heap.size,j,none⟩ with
       |none=>rfl
       |some u=>have:=World.block_lt_of_cell? W _ h;simp at this;omega
     ·intro i hi
      rw [List.length_append] at hi
      rcases Nat.lt_or_ge i pre.length with hc2|hc2
      ·rw [getD_left hc2]
       refine (g8 i hc2).mono fun k o u hu=>?_
       show (if k<W0.heap.size then C0 k o else W.cell? ⟨k,o,none⟩)=some u
       rw [if_pos (World.block_lt_of_cell? W0 _ (g4 k o u hu))];exact hu
      ·obtain rfl:i=pre.length:=by simp at hi;omega
       rw [getD_end]
       refine hx.mono fun k o u hu=>?_
       unfold CW at hu
       show (if k<W0.heap.size then C0 k o else W.cell? ⟨k,o,none⟩)=some u
       split at hu
       ·rw [if_pos (by omega),g5 k (by assumption) o];exact hu
       ·split at hu
        ·cases hu
        ·rename_i hk
         rw [if_neg hk];exact hu
   case done=>
     rintro D ys W hD hy ⟨hb,v,C',h1,h2,h3,h3',h4,h5,h6,h7,h8⟩ hK
     have hc:=h1.cell
     gi_wp2
     refine ⟨by simp,.inl ⟨_,_,rfl,run_takeDeferred hK,?_⟩⟩
     have hck:∀ p u,W.cell? p=some u→(W.putObj D (.deferred none)).cell? p=some u:=fun p u hu=>cell_kept hu (grownBy_putObj' W D _) (fun r e=>by cases e;exact ⟨_,hK,rfl⟩)
     have hbD:Below w1.heap.size w1 (W.putObj D (.deferred none)):=hb.trans (belowK_b (w:=w1) (Nat.le_refl _) W D _ _ (by simp at hD;omega) hK rfl rfl)
     refine ⟨_,results_tmp2 rfl _ _ _,.tuple #[v,.int .i64 0],fun k o=>if v.ownBlock=some k then W.cell? ⟨k,o,none⟩ else C' k o,rfl,?_,?_,?_,?_,?_⟩
     ·intro k o u hu
      have hk:=(hCd k o u hu).1
      have e:=h5 k hk o
      show (if v.ownBlock=some k then W.cell? ⟨k,o,none⟩ else C' k o)=some u
      rw [if_neg (fun e'=>by rw [h7 k e' o,hu] at e;cases e),e];exact hu
     ·have hCC:CLe C' (fun k o=>if v.ownBlock=some k then W.cell? ⟨k,o,none⟩ else C' k o):=fun k o u hu=>by
        show (if v.ownBlock=some k then W.cell? ⟨k,o,none⟩ else C' k o)=some u
        rw [if_neg (fun e'=>by rw [h7 k e' o] at hu;cases hu)];exact hu
      unfold inV
      refine RC.tup _ [v,.int .i64 0] rfl fun i hi=>?_
      match i,hi with
      |1,_=>exact .lit _
      |0,_=>
       show RC _ (.sl false 1 (ils (inds fr m))) v
       rcases h2.2 with ⟨rfl,h0⟩|⟨g,cap,cur,rfl,hg1,hg2,hg3,hg4,hg5,hg6⟩
       ·rw [hy] at h0
        subst h0
        exact .nil _ _ _
       ·have hlen:ys.length=(ils (inds fr m)).length:=by rw [ils_length,inds_len,hy]
        have hget:∀ j,j<ys.length→cur[j]? =some (ys.getD j undef):=fun j hj=>by
          have:cur.toList[j]? =some (ys.getD j undef):=by
            rw [←hg6] at hj ⊢
            rw [List.length_take] at hj
            rw [List.getD_eq_getElem?_getD,List.getElem?_take_of_lt (by omega),List.getElem?_eq_getElem (by omega)];rfl
          simpa using this
        rw [hlen]
        refine .sl false 1 _ g 0 cap (fun j=>ys.getD j undef) (by omega) hg4 (by simp) ?_ ?_ ?_ ?_
        ·intro x hx
         obtain ⟨l,_,rfl⟩:=List.mem_map.1 hx;rfl
        all_goals (intro j hj;rw [flat_ils,←hlen] at hj)
        ·show (if (Value.slice (some ⟨g,0,none⟩) ys.length cap).ownBlock=some g then W.cell? ⟨g,0+j,none⟩ else C' g (0+j))=_
         rw [if_pos (show (Value.slice (some ⟨g,0,none⟩) ys.length cap).ownBlock=some g from rfl),Nat.zero_add]
         simp [World.cell?,hg2,hget j hj]
        ·obtain ⟨a,b,c,e⟩:=rc_slice (h8 j hj)
         rw [e];rfl
        ·rw [flat_ils,ils_getD _ _ (by rw [inds_len];omega)]
         have e:(inds fr m).getD j []=(idxS fr j).1:=by simp [inds,List.getD,show j<m by omega]
         rw [e]
         exact (h8 j hj).mono hCC
     ·intro k o u hu
      simp only at hu
      split at hu
      ·exact hck _ _ hu
      ·exact hck _ _ (h4 k o u hu)
     ·exact hmore.trans (More.of_below hbD)
     ·intro k hk j
      show (if v.ownBlock=some k then W.cell? ⟨k,j,none⟩ else C' k j)=C k j
      rw [if_neg,h5 k (by omega)]
      intro e
      rcases h2.2 with ⟨rfl,_⟩|⟨g,cap,cur,rfl,hg1,_⟩
      ·cases e
      ·obtain rfl:g=k:=by simpa [Value.ownBlock] using e
       omega
  ·have e1:er≠0:=e0
   rw [if_pos e0]
   refine callsIn_of_wp_marks Tryz.func54 rfl trivial ?_ rfl
   simp only [Tryz.ntmps54,List.size_toArray,List.length_cons,List.length_nil,Nat.reduceAdd,Nat.reduceSub,Array.replicate_succ,Array.replicate_zero,List.push_toArray,List.append_toArray,List.nil_append,List.cons_append]
   gi_wp2_with (refine ⟨trivial,?_⟩;gi_at_call 69;refine c65.mono ?_;clear c65;rintro e w1 ⟨v,C',rfl,_,hrc,_,hmore,_⟩;obtain ⟨a,b,rfl,ha,hb2⟩:=rc_tup2 hrc;obtain rfl:=rc_lit ha;obtain rfl:=rc_lit hb2;clear hrc ha hb2)
   refine ⟨_,results_tmp2 rfl _ _ _,.tuple #[.slice none 0 0,.int .i64 er],C,rfl,CLe.refl _,?_,fun k o u hu=>hmore.cell (hin k o u hu),hmore,fun _ _ _=>rfl⟩
   unfold inV
   refine RC.tup _ [.slice none 0 0,.int .i64 er] rfl fun i hi=>?_
   match i,hi with
   |1,_=>exact .lit _
   |0,_=>exact .nil _ _ _
end Go.Proofs.YtcpjahmajkhchaaGreat

namespace Go.Proofs.YtcpjahmajkhchaaGreat
open Go Go.Fw
set_option maxRecDepth 20000
set_option maxRecDepth 20000
theorem ilsOf_two {b:Bool} {x y:List Int}:ilsOf (.sl b 1 [.sl false 1 (ints .i64 x),.sl false 1 (ints .i64 y)])=some [x,y]:=ilsOf_sl (b:=b) (l:=[x,y])
theorem flat_two {x y:List Int}:[x,y].flatten=x++y:=by simp
noncomputable def con80:PCon Tryz.prog where
  f:=80
  c:=fun
   |[xL]=>match ilsOf xL with|some L=>some (L.flatten.length≤1000000∧L.length≤1000000,.sl false 1 (ints .i64 L.flatten))|_=>none
   |_=>none
  ok:=by
   intro args p r hc hp
   split at hc
   ·split at hc
    ·rename_i hL
     cases hc
     exact PC.weak ((fun hp:_∧_=>concat_pc hp.1 hp.2) hp) ⟨ilsOf_le hL,trivial⟩
    ·cases hc
   ·cases hc
  fk:=fk80
theorem con80_f:con80.f=80:=rfl
theorem con80_c {xL:AV}:con80.c [xL]=match ilsOf xL with|some L=>some (L.flatten.length≤1000000∧L.length≤1000000,.sl false 1 (ints .i64 L.flatten))|_=>none:=rfl
theorem ae_of {e:ByteArray} {x y:AV} {n:Int} {d w:List Int} {r:Arr×Int} (hx:slK .i64 x=some d) (hy:slK .i64 y=some w) (h:r=(⟨e,d,w⟩,n)):LeA (.tup [.agg [.lit (.string e),x,y],.lit (.int .i64 n)]) (aeV r):=by
  subst h
  exact LeA.tup ⟨LeA.agg ⟨LeA.refl _,slK_le hx,slK_le hy,trivial⟩,LeA.refl _,trivial⟩
def jnG (sm:Arr):List Arr→List Int→List Int×Int
  |[],acc=>(acc,0)
  |c::t,acc=>if (!(eqS c.e sm.e))=true then ([],12) else if decide (c.d=sm.d)=false then ([],14) else jnG sm t (acc++c.x)
def joinS (fr:List Int) (L:List Arr) (sm:Arr):Arr×Int:=
  if (!(ofE sm==0)||L.any invA)=true then (nilA,1) else if (sizeS fr).2≠0 then (nilA,(sizeS fr).2) else if (L.length:Int)≠(sizeS fr).1 then (nilA,1) else
   if (jnG sm L []).2≠0 then (nilA,(jnG sm L []).2) else if (sizeS (fr++sm.d)).2≠0 then (nilA,(sizeS (fr++sm.d)).2) else (⟨sm.e,fr++sm.d,(jnG sm L []).1⟩,0)
structure Jl (sm:Arr) (L:List Arr) (G:List Int×Int) where
  i:Nat
  v:Nat
  acc:List Int
  hi:i≤L.length
  ha:acc.length≤i*4096
  hF:jnG sm (L.drop i) acc=G
attribute [go_sem] con45_f con45_c con69_f con69_c con80_f con80_c con81_f con81_c arrOf_agg slK_sl ilsOf_two flat_two szV_def
noncomputable def E79:Env:=envJ (P:=Tryz.prog) jk zer (fun _=>false) (fun _=>false) [con45,con69,con78,con80,con81] []
theorem E79_ok:EnvOk Tryz.prog E79:=envJOk zer_ok
set_option maxHeartbeats 4000000 in
theorem join_pc {fr:List Int} {L:List Arr} {sm:Arr} (hfr:fr.length≤1000000) (hL:L.length≤1000000) (ho:∀ a∈L,okA a) (hs:okA sm):PC Tryz.prog 57 [.sl false 1 (ints .i64 fr),.sl false 3 (arrs L),arrV sm] (aeV (joinS fr L sm)):=by
  generalize hR:joinS fr L sm=R
  unfold joinS at hR
  obtain ⟨s1,s2⟩:=hs
  cases h1:(ofE sm==0) with
  |false=>
   rw [if_pos (by simp [h1])] at hR
   simp only [arrV]
   refine pcR E79_ok (kp57) Tryz.func57 [.cell 6 31,.tmp 7] (h:=fun KF=>?_)
   unfold E79
   repeat' (first
    |(with_reducible first|refine nx ?_|refine t_seq fun K=>?_|refine t_br (fun hc=>?_) fun hc=>?_|refine t_bx ?_|apply And.intro|intro vr)|exact kpd
    |((with_reducible first|refine ny ?_|refine t_kLF ?_ ?_|refine t_drawE (id:=8) (fun i=>i==0) [(0,1),(1,1),(2,1),(3,1),(4,1),(5,1),(6,1),(7,1),(8,0),(9,0)] (by kernel_rfl) fun K=>?_|refine t_dwh (h:=fun K KL=>?_));intros;simp only [go_sem,kp57,geff,h1,Bool.not_false]))
   all_goals try exact nd
   all_goals (refine nl ?_;simp only [go_sem])
   exact ae_of rfl rfl hR.symm
  |true=>
   simp only [h1,Bool.not_true,Bool.false_or] at hR
   cases h2:L.any invA with
   |true=>
    rw [if_pos h2] at hR
    simp only [arrV]
    refine pcR E79_ok (kp57) Tryz.func57 [.cell 6 31,.tmp 7] (h:=fun KF=>?_)
    unfold E79
    repeat' (first
     |(with_reducible first|refine nx ?_|refine t_seq fun K=>?_|refine t_br (fun hc=>?_) fun hc=>?_|refine t_bx ?_|apply And.intro|intro vr)|exact kpd
     |((with_reducible first|refine ny ?_|refine t_kLF ?_ ?_|refine t_drawE (id:=8) (fun i=>i==0) [(0,1),(1,1),(2,1),(3,1),(4,1),(5,1),(6,1),(7,1),(8,0),(9,0)] (by kernel_rfl) fun K=>?_|refine t_dwh (h:=fun K KL=>?_));intros;simp only [go_sem,kp57,geff,h1,h2,Bool.not_true,arrsOf_sl]))
    all_goals try exact nd
    all_goals try exact ho _ (by assumption)
    all_goals (refine nl ?_;simp only [go_sem])
    exact ae_of rfl rfl hR.symm
   |false=>
    rw [if_neg (by rw [h2];decide)] at hR
    generalize hS:sizeS fr=q at hR
    obtain ⟨n,er⟩:=q
    simp only at hR
    by_cases e0:er=0
    ·subst e0
     rw [if_neg (by simp)] at hR
     obtain ⟨p1,p2,p3,p4⟩:=sizeS_ok hS
     by_cases h3:(L.length:Int)=n
     ·rw [if_neg (by simp [h3])] at hR
      have h3':((L.length:Int) !=n)=false:=by rw [bne_eq_false_iff_eq];exact h3
      have hsd:=(ofE_inv (beq_iff_eq.1 h1)).2.1
      have hrow:∀ i,i<L.length→(L.getD i nilA).x.length≤4096:=fun i hi=>by
        have hv:invA (L.getD i nilA)=false:=by
          cases h:invA (L.getD i nilA) with
          |false=>rfl
          |true=>exact absurd (List.any_eq_true.2 ⟨_,getD_mem nilA hi,h⟩) (by rw [h2];decide)
        have h0:ofE (L.getD i nilA)=0:=by simpa [invA] using hv
        have:=(sizeS_ok (ofE_inv h0).2.1).2.2.2
        omega
      have hd6:=(sizeS_ok hsd).1
      generalize hG:jnG sm L []=G at hR
      obtain ⟨w,e2⟩:=G
      simp only at hR
      have hfl:([fr,sm.d]:List (List Int)).flatten.length≤1000000:=by rw [flat_two,List.length_append];omega
      simp only [arrV]
      refine pcR E79_ok (kp57) Tryz.func57 [.cell 6 31,.tmp 7] (h:=fun KF=>?_)
      unfold E79
      repeat' (first
       |(with_reducible first|refine nx ?_|refine t_seq fun K=>?_|refine t_br (fun hc=>?_) fun hc=>?_|refine t_bx ?_|apply And.intro|intro vr)|exact kpd
       |((with_reducible first|refine ny ?_|refine t_kLF ?_ ?_|refine t_drawE (id:=8) (fun i=>i==0) [(0,1),(1,1),(2,1),(3,1),(4,1),(5,1),(6,1),(7,1),(8,0),(9,0)] (by kernel_rfl) fun K=>?_|refine t_dwh (h:=fun K KL=>?_));intros;simp only [go_sem,kp57,geff,h1,h2,Bool.not_true,arrsOf_sl,hS,h3',arrs_length]))
      all_goals try exact nd
      all_goals try exact ho _ (by assumption)
      all_goals try (simp only [List.length_append];omega)
      refine t_loopF (ι:=Jl sm L (w,e2)) (fun i=>[(49,.lit (.int .i64 i.i))]) (fun i=>[.box 31 [.lit (.string sm.e),.sl false 1 (ints .i64 sm.d),.sl false 1 (ints .i64 sm.x)],.box 31 [.lit (.string ByteArray.empty),.sl true 1 [],.sl true 1 []],.box 31 [.lit (.string sm.e),.sl false 1 (ints .i64 (fr++sm.d)),.arr 3 i.v],.arr 3 1 (ints .i64 i.acc) i.v false]) (fun i=>L.length - i.i) ⟨0,0,[],by omega,by simp,hG⟩ ?_ ?_
      ·refine (le_nilB 2 2 3 1 (cs:=[.lit (.string sm.e),.sl false 1 (ints .i64 (fr++sm.d)),.sl true 1 []]) rfl (by simp) nil_sl).trans ?_
       simp only [updL_nil,updL_cons,delF_top,delF_upd,Nat.reduceEqDiff,reduceIte]
       simp only [ints_nil]
       refine Le.frameS (by first|rfl|(simp only [go_sem];try rfl)) ?_
       repeat' (first|exact leF_top _|exact (fun _=>LeR.refl _)|(with_reducible refine leF_sl ?_ ?_)|(refine leF_upd ?_ ?_))
       all_goals (first|exact LeR.top _|exact LeR.refl _|(refine LeR.of_eq ?_;(try simp only [go_sem]);try rfl)|((try simp only [go_sem]);try rfl))
      rintro ⟨i,v,acc,hi,ha,hF⟩ K0
      rcases Nat.lt_or_ge i L.length with hc|hc
      ·rw [drop_getD nilA hc,jnG] at hF
       have g3:decide ((i:Int)<(L.length:Int))=true:=decide_eq_true (by omega)
       have hx:=hrow i hc
       have o1:=ho _ (getD_mem nilA hc)
       have o1':=o1.1
       cases h5:eqS (L.getD i nilA).e sm.e with
       |false=>
        rw [if_pos (by rw [h5];rfl)] at hF
        cases hF
        rw [if_pos (by decide)] at hR
        repeat' (first
         |(with_reducible first|refine nx ?_|refine t_seq fun K=>?_|refine t_br (fun hc=>?_) fun hc=>?_|refine t_bx ?_|apply And.intro|intro vr)|exact kpd
         |((with_reducible first|refine ny ?_|refine t_kLF ?_ ?_|refine t_drawE (id:=8) (fun i=>i==0) [(0,1),(1,1),(2,1),(3,1),(4,1),(5,1),(6,1),(7,1),(8,0),(9,0)] (by kernel_rfl) fun K=>?_|refine t_dwh (h:=fun K KL=>?_));intros;simp only [go_sem,kp57,geff,g3,h5,Int.toNat_natCast,arrs_length,arrV,Bool.not_false]))
        all_goals try exact nd
        all_goals (refine nl ?_;simp only [go_sem])
        exact ae_of rfl rfl hR.symm
       |true=>
        rw [if_neg (by rw [h5];decide)] at hF
        cases h6:decide ((L.getD i nilA).d=sm.d) with
        |false=>
         rw [if_pos h6] at hF
         cases hF
         rw [if_pos (by decide)] at hR
         repeat' (first
          |(with_reducible first|refine nx ?_|refine t_seq fun K=>?_|refine t_br (fun hc=>?_) fun hc=>?_|refine t_bx ?_|apply And.intro|intro vr)|exact kpd
          |((with_reducible first|refine ny ?_|refine t_kLF ?_ ?_|refine t_drawE (id:=8) (fun i=>i==0) [(0,1),(1,1),(2,1),(3,1),(4,1),(5,1),(6,1),(7,1),(8,0),(9,0)] (by kernel_rfl) fun K=>?_|refine t_dwh (h:=fun K KL=>?_));intros;simp only [go_sem,kp57,geff,g3,h5,h6,Int.toNat_natCast,arrs_length,arrV,Bool.not_false,Bool.not_true]))
         all_goals try exact nd
         all_goals (refine nl ?_;simp only [go_sem])
         exact ae_of rfl rfl hR.symm
        |true=>
         rw [if_neg (by rw [h6];decide)] at hF
         repeat' (first
          |(with_reducible first|refine nx ?_|refine t_seq fun K=>?_|refine t_br (fun hc=>?_) fun hc=>?_|refine t_bx ?_|apply And.intro|intro vr)|exact kpd
          |((with_reducible first|refine ny ?_|refine t_kLF ?_ ?_|refine t_drawE (id:=8) (fun i=>i==0) [(0,1),(1,1),(2,1),(3,1),(4,1),(5,1),(6,1),(7,1),(8,0),(9,0)] (by kernel_rfl) fun K=>?_|refine t_dwh (h:=fun K KL=>?_));intros;simp only [go_sem,kp57,geff,g3,h5,h6,Int.toNat_natCast,arrs_length,arrV,Bool.not_false,Bool.not_true,ints_append]))
         all_goals try exact nd
         refine ⟨⟨i+1,v+1,acc++(L.getD i nilA).x,by omega,by rw [List.length_append];omega,hF⟩,by first|(simp only;omega)|omega,?_⟩
         simp only [updL_nil,updL_cons,delF_top,delF_upd,Nat.reduceEqDiff,reduceIte]
         refine le_backD (by first|rfl|(simp only [go_sem];try rfl)) (by first|exact Nat.zero_le _|simp) (by first|rfl|simp [lowO,low_lit,low_sl,low_ref,low_arr]) ?_ ?_
         ·repeat' (first|exact low_top|(refine low_upd rfl ?_))
         repeat' (first|exact leF_top _|exact (fun _=>LeR.refl _)|(with_reducible refine leF_sl ?_ ?_)|(refine leF_upd ?_ ?_))
         all_goals (first|exact LeR.top _|exact LeR.refl _|(refine LeR.of_eq ?_;(try simp only [go_sem]);try rfl)|((try simp only [go_sem]);try rfl))
      ·have g3:decide ((i:Int)<(L.length:Int))=false:=decide_eq_false (by omega)
       rw [List.drop_eq_nil_of_le hc,jnG] at hF
       cases hF
       rw [if_neg (by simp)] at hR
       have hl2:(fr++sm.d).length≤1000000:=by rw [List.length_append];omega
       generalize hS2:sizeS (fr++sm.d)=q2 at hR
       obtain ⟨n2,er2⟩:=q2
       simp only at hR
       by_cases e3:er2=0
       ·subst e3
        rw [if_neg (by simp)] at hR
        repeat' (first
         |(with_reducible first|refine nx ?_|refine t_seq fun K=>?_|refine t_br (fun hc=>?_) fun hc=>?_|refine t_bx ?_|apply And.intro|intro vr)|exact kpd
         |((with_reducible first|refine ny ?_|refine t_kLF ?_ ?_|refine t_drawE (id:=8) (fun i=>i==0) [(0,1),(1,1),(2,1),(3,1),(4,1),(5,1),(6,1),(7,1),(8,0),(9,0)] (by kernel_rfl) fun K=>?_|refine t_dwh (h:=fun K KL=>?_));intros;simp only [go_sem,kp57,geff,g3,hS2,Int.toNat_natCast,arrs_length]))
        all_goals try exact nd
        all_goals (refine nl ?_;simp only [go_sem])
        exact ae_of slK_sl slK_sl hR.symm
       ·rw [if_pos e3] at hR
        have e4:(er2 !=0)=true:=bne_iff_ne.2 e3
        repeat' (first
         |(with_reducible first|refine nx ?_|refine t_seq fun K=>?_|refine t_br (fun hc=>?_) fun hc=>?_|refine t_bx ?_|apply And.intro|intro vr)|exact kpd
         |((with_reducible first|refine ny ?_|refine t_kLF ?_ ?_|refine t_drawE (id:=8) (fun i=>i==0) [(0,1),(1,1),(2,1),(3,1),(4,1),(5,1),(6,1),(7,1),(8,0),(9,0)] (by kernel_rfl) fun K=>?_|refine t_dwh (h:=fun K KL=>?_));intros;simp only [go_sem,kp57,geff,g3,hS2,e4,Int.toNat_natCast,arrs_length]))
        all_goals try exact nd
        all_goals (refine nl ?_;simp only [go_sem])
        exact ae_of rfl rfl hR.symm
     ·rw [if_pos h3] at hR
      have h3':((L.length:Int) !=n)=true:=bne_iff_ne.2 h3
      simp only [arrV]
      refine pcR E79_ok (kp57) Tryz.func57 [.cell 6 31,.tmp 7] (h:=fun KF=>?_)
      unfold E79
      repeat' (first
       |(with_reducible first|refine nx ?_|refine t_seq fun K=>?_|refine t_br (fun hc=>?_) fun hc=>?_|refine t_bx ?_|apply And.intro|intro vr)|exact kpd
       |((with_reducible first|refine ny ?_|refine t_kLF ?_ ?_|refine t_drawE (id:=8) (fun i=>i==0) [(0,1),(1,1),(2,1),(3,1),(4,1),(5,1),(6,1),(7,1),(8,0),(9,0)] (by kernel_rfl) fun K=>?_|refine t_dwh (h:=fun K KL=>?_));intros;simp only [go_sem,kp57,geff,h1,h2,Bool.not_true,arrsOf_sl,hS,h3',arrs_length]))
      all_goals try exact nd
      all_goals try exact ho _ (by assumption)
      all_goals (refine nl ?_;simp only [go_sem])
      exact ae_of rfl rfl hR.symm
    ·rw [if_pos e0] at hR
     have e1:(er !=0)=true:=bne_iff_ne.2 e0
     simp only [arrV]
     refine pcR E79_ok (kp57) Tryz.func57 [.cell 6 31,.tmp 7] (h:=fun KF=>?_)
     unfold E79
     repeat' (first
      |(with_reducible first|refine nx ?_|refine t_seq fun K=>?_|refine t_br (fun hc=>?_) fun hc=>?_|refine t_bx ?_|apply And.intro|intro vr)|exact kpd
      |((with_reducible first|refine ny ?_|refine t_kLF ?_ ?_|refine t_drawE (id:=8) (fun i=>i==0) [(0,1),(1,1),(2,1),(3,1),(4,1),(5,1),(6,1),(7,1),(8,0),(9,0)] (by kernel_rfl) fun K=>?_|refine t_dwh (h:=fun K KL=>?_));intros;simp only [go_sem,kp57,geff,h1,h2,Bool.not_true,arrsOf_sl,hS,e1]))
     all_goals try exact nd
     all_goals try exact ho _ (by assumption)
     all_goals (refine nl ?_;simp only [go_sem])
     exact ae_of rfl rfl hR.symm
noncomputable def con57:PCon Tryz.prog where
  f:=57
  c:=fun
   |[xfr,xL,xsm]=>match slK .i64 xfr,arrsOf xL,arrOf xsm with|some fr,some L,some sm=>some (fr.length≤1000000∧L.length≤1000000∧(∀ a∈L,okA a)∧okA sm,aeV (joinS fr L sm))|_,_,_=>none
   |_=>none
  ok:=by
   intro args p r hc hp
   split at hc
   ·split at hc
    ·rename_i hfr hL hsm
     cases hc
     exact PC.weak ((fun hp:_∧_∧_∧_=>join_pc hp.1 hp.2.1 hp.2.2.1 hp.2.2.2) hp) ⟨slK_le hfr,arrsOf_le hL,arrOf_le hsm,trivial⟩
    ·cases hc
   ·cases hc
  fk:=fk57
theorem con57_f:con57.f=57:=rfl
theorem con57_c {xfr:AV} {xL:AV} {xsm:AV}:con57.c [xfr,xL,xsm]=match slK .i64 xfr,arrsOf xL,arrOf xsm with|some fr,some L,some sm=>some (fr.length≤1000000∧L.length≤1000000∧(∀ a∈L,okA a)∧okA sm,aeV (joinS fr L sm))|_,_,_=>none:=rfl
end Go.Proofs.YtcpjahmajkhchaaGreat

namespace Go.Proofs.YtcpjahmajkhchaaGreat.El
open Go.Proofs.YtcpjahmajkhchaaGreat
open Go Go.Fw
set_option maxRecDepth 20000
noncomputable def E0:Env:=envOf (P:=Tryz.prog) zer (fun _=>false) (fun _=>false) [] []
theorem E0_ok:EnvOk Tryz.prog E0:=envOk zer_ok
def el (n:Int):Prop:= -2147483648≤n∧n≤2147483647
def w32 (n:Int):Int:=IntKind.i32.wrap n
theorem w32_eq (n:Int):w32 n=(n+2147483648) % 4294967296 - 2147483648:=by
  unfold w32 IntKind.wrap
  have e1:IntKind.i32.bits=32:=rfl
  have e2:IntKind.i32.signed=true:=rfl
  simp only [e1,e2]
  simp
  try omega
theorem w32_el (n:Int):el (w32 n):=by rw [w32_eq];unfold el;omega
theorem el_i64 {n:Int} (h:el n):inI64 n:=by unfold el at h;unfold inI64;omega
theorem wrap_w32 (n:Int):IntKind.i64.wrap (IntKind.i32.wrap n)=w32 n:=wrap_i64 (el_i64 (w32_el n))
theorem wrap_pc {f:FuncId} {n:Int} (hf:f=88∨f=37):PC Tryz.prog f [.lit (.int .i64 n)] (.lit (.int .i64 (w32 n))):=by
  rcases hf with rfl|rfl
  ·skip
   refine pcO E0_ok (fun _=>[0,2]) Tryz.func88 (h:=fun KF=>?_)
   unfold E0
   repeat' (first
    |(with_reducible first|refine nx ?_|refine t_seq fun K=>?_|refine t_br (fun hc=>?_) fun hc=>?_|refine t_bx ?_|apply And.intro|intro vr)
    |((with_reducible first|refine ny ?_|refine t_dwh (h:=fun K KL=>?_));intros;simp only [go_sem,geff]))
   refine end_ret rfl ?_
   simp only [fin,go_sem,wrap_w32]
   exact LeA.refl _
  ·skip
   refine pcO E0_ok (fun _=>[0,2]) Tryz.func37 (h:=fun KF=>?_)
   unfold E0
   repeat' (first
    |(with_reducible first|refine nx ?_|refine t_seq fun K=>?_|refine t_br (fun hc=>?_) fun hc=>?_|refine t_bx ?_|apply And.intro|intro vr)
    |((with_reducible first|refine ny ?_|refine t_dwh (h:=fun K KL=>?_));intros;simp only [go_sem,geff]))
   refine end_ret rfl ?_
   simp only [fin,go_sem,wrap_w32]
   exact LeA.refl _
noncomputable def wrapCon (f:FuncId) (h:f=88∨f=37):PCon Tryz.prog where
  f:=f
  c:=fun
   |[.lit (.int .i64 n)]=>some (True,.lit (.int .i64 (w32 n)))
   |_=>none
  ok:=by
   intro args p r hc hp
   split at hc
   ·cases hc;exact wrap_pc h
   ·cases hc
  fk:=by
   rcases h with rfl|rfl
   ·exact fk88
   ·exact fk37
noncomputable def con88:=wrapCon 88 (.inl rfl)
theorem con88_f:con88.f=88:=rfl
theorem con88_c {n:Int}:con88.c [.lit (.int .i64 n)]=some (True,.lit (.int .i64 (w32 n))):=rfl
def tru (b:Bool):Int:=if b=true then 1 else 0
theorem tru_pc {f:FuncId} {b:Bool} (hf:f=86∨f=114):PC Tryz.prog f [.lit (.bool b)] (.lit (.int .i64 (tru b))):=by
  rcases hf with rfl|rfl<;>cases b
  ·skip
   refine pcO E0_ok (fun _=>[0,2,3]) Tryz.func86 (h:=fun KF=>?_)
   unfold E0
   repeat' (first
    |(with_reducible first|refine nx ?_|refine t_seq fun K=>?_|refine t_br (fun hc=>?_) fun hc=>?_|refine t_bx ?_|apply And.intro|intro vr)
    |((with_reducible first|refine ny ?_|refine t_dwh (h:=fun K KL=>?_));intros;simp only [go_sem,geff]))
   refine end_ret rfl ?_
   simp only [fin,go_sem]
   exact LeA.refl _
  ·skip
   refine pcO E0_ok (fun _=>[0,2,3]) Tryz.func86 (h:=fun KF=>?_)
   unfold E0
   repeat' (first
    |(with_reducible first|refine nx ?_|refine t_seq fun K=>?_|refine t_br (fun hc=>?_) fun hc=>?_|refine t_bx ?_|apply And.intro|intro vr)
    |((with_reducible first|refine ny ?_|refine t_dwh (h:=fun K KL=>?_));intros;simp only [go_sem,geff]))
   refine end_ret rfl ?_
   simp only [fin,go_sem]
   exact LeA.refl _
  ·skip
   refine pcO E0_ok (fun _=>[0,2,3]) Tryz.func114 (h:=fun KF=>?_)
   unfold E0
   repeat' (first
    |(with_reducible first|refine nx ?_|refine t_seq fun K=>?_|refine t_br (fun hc=>?_) fun hc=>?_|refine t_bx ?_|apply And.intro|intro vr)
    |((with_reducible first|refine ny ?_|refine t_dwh (h:=fun K KL=>?_));intros;simp only [go_sem,geff]))
   refine end_ret rfl ?_
   simp only [fin,go_sem]
   exact LeA.refl _
  ·skip
   refine pcO E0_ok (fun _=>[0,2,3]) Tryz.func114 (h:=fun KF=>?_)
   unfold E0
   repeat' (first
    |(with_reducible first|refine nx ?_|refine t_seq fun K=>?_|refine t_br (fun hc=>?_) fun hc=>?_|refine t_bx ?_|apply And.intro|intro vr)
    |((with_reducible first|refine ny ?_|refine t_dwh (h:=fun K KL=>?_));intros;simp only [go_sem,geff]))
   refine end_ret rfl ?_
   simp only [fin,go_sem]
   exact LeA.refl _
noncomputable def truCon (f:FuncId) (h:f=86∨f=114):PCon Tryz.prog where
  f:=f
  c:=fun
   |[.lit (.bool b)]=>some (True,.lit (.int .i64 (tru b)))
   |_=>none
  ok:=by
   intro args p r hc hp
   split at hc
   ·cases hc;exact tru_pc h
   ·cases hc
  fk:=by
   rcases h with rfl|rfl
   ·exact fk86
   ·exact fk114
noncomputable def con114:=truCon 114 (.inr rfl)
theorem con114_f:con114.f=114:=rfl
theorem con114_c {b:Bool}:con114.c [.lit (.bool b)]=some (True,.lit (.int .i64 (tru b))):=rfl
theorem tdiv_bd {a b:Int} (ha:el a) (hb:b≠0): -2147483648≤a.tdiv b∧a.tdiv b≤2147483648:=by
  unfold el at ha
  have:=Int.natAbs_tdiv_le_natAbs a b
  omega
def flo (a b:Int):Int:=if b=0 then 0 else if a.tmod b≠0∧decide (a<0)≠decide (b<0) then a.tdiv b - 1 else a.tdiv b
theorem flo_pc {f:FuncId} {a b:Int} (hf:f=89∨f=87) (ha:el a):PC Tryz.prog f [.lit (.int .i64 a),.lit (.int .i64 b)] (.lit (.int .i64 (flo a b))):=by
  unfold flo
  by_cases hb:b=0
  ·subst hb
   rcases hf with rfl|rfl
   ·skip
    refine pcO E0_ok (fun _=>[0,1,4,5,7,21]) Tryz.func89 (h:=fun KF=>?_)
    unfold E0
    repeat' (first
     |(with_reducible first|refine nx ?_|refine t_seq fun K=>?_|refine t_br (fun hc=>?_) fun hc=>?_|refine t_bx ?_|apply And.intro|intro vr)
     |((with_reducible first|refine ny ?_|refine t_dwh (h:=fun K KL=>?_));intros;simp only [go_sem,geff]))
    refine end_ret rfl ?_
    simp only [fin,go_sem]
    exact LeA.refl _
   ·skip
    refine pcO E0_ok (fun _=>[0,1,4,5,7,21]) Tryz.func87 (h:=fun KF=>?_)
    unfold E0
    repeat' (first
     |(with_reducible first|refine nx ?_|refine t_seq fun K=>?_|refine t_br (fun hc=>?_) fun hc=>?_|refine t_bx ?_|apply And.intro|intro vr)
     |((with_reducible first|refine ny ?_|refine t_dwh (h:=fun K KL=>?_));intros;simp only [go_sem,geff]))
    refine end_ret rfl ?_
    simp only [fin,go_sem]
    exact LeA.refl _
  have hd:=tdiv_bd ha hb
  have z:(b==0)=false:=by rw [beq_eq_false_iff_ne];exact hb
  rw [if_neg hb]
  by_cases h0:a.tmod b=0
  ·have z0:(a.tmod b !=0)=false:=by rw [bne_eq_false_iff_eq];exact h0
   rw [if_neg (fun h=>h.1 h0)]
   rcases hf with rfl|rfl
   ·skip
    refine pcO E0_ok (fun _=>[0,1,4,5,7,21]) Tryz.func89 (h:=fun KF=>?_)
    unfold E0
    repeat' (first
     |(with_reducible first|refine nx ?_|refine t_seq fun K=>?_|refine t_br (fun hc=>?_) fun hc=>?_|refine t_bx ?_|apply And.intro|intro vr)
     |((with_reducible first|refine ny ?_|refine t_dwh (h:=fun K KL=>?_));intros;simp only [go_sem,geff,z,z0]))
    all_goals try exact om
    refine end_ret rfl ?_
    simp only [fin,go_sem]
    exact LeA.refl _
   ·skip
    refine pcO E0_ok (fun _=>[0,1,4,5,7,21]) Tryz.func87 (h:=fun KF=>?_)
    unfold E0
    repeat' (first
     |(with_reducible first|refine nx ?_|refine t_seq fun K=>?_|refine t_br (fun hc=>?_) fun hc=>?_|refine t_bx ?_|apply And.intro|intro vr)
     |((with_reducible first|refine ny ?_|refine t_dwh (h:=fun K KL=>?_));intros;simp only [go_sem,geff,z,z0]))
    all_goals try exact om
    refine end_ret rfl ?_
    simp only [fin,go_sem]
    exact LeA.refl _
  have z0:(a.tmod b !=0)=true:=by rw [bne_iff_ne];exact h0
  by_cases h1:decide (a<0)=decide (b<0)
  ·have z1:(decide (a<0)==decide (b<0))=true:=by rw [beq_iff_eq];exact h1
   rw [if_neg (fun h=>h.2 h1)]
   rcases hf with rfl|rfl
   ·skip
    refine pcO E0_ok (fun _=>[0,1,4,5,7,21]) Tryz.func89 (h:=fun KF=>?_)
    unfold E0
    repeat' (first
     |(with_reducible first|refine nx ?_|refine t_seq fun K=>?_|refine t_br (fun hc=>?_) fun hc=>?_|refine t_bx ?_|apply And.intro|intro vr)
     |((with_reducible first|refine ny ?_|refine t_dwh (h:=fun K KL=>?_));intros;simp only [go_sem,geff,z,z0,z1]))
    all_goals try exact om
    refine end_ret rfl ?_
    simp only [fin,go_sem]
    exact LeA.refl _
   ·skip
    refine pcO E0_ok (fun _=>[0,1,4,5,7,21]) Tryz.func87 (h:=fun KF=>?_)
    unfold E0
    repeat' (first
     |(with_reducible first|refine nx ?_|refine t_seq fun K=>?_|refine t_br (fun hc=>?_) fun hc=>?_|refine t_bx ?_|apply And.intro|intro vr)
     |((with_reducible first|refine ny ?_|refine t_dwh (h:=fun K KL=>?_));intros;simp only [go_sem,geff,z,z0,z1]))
    all_goals try exact om
    refine end_ret rfl ?_
    simp only [fin,go_sem]
    exact LeA.refl _
  ·have z1:(decide (a<0)==decide (b<0))=false:=by rw [beq_eq_false_iff_ne];exact h1
   rw [if_pos ⟨h0,h1⟩]
   rcases hf with rfl|rfl
   ·skip
    refine pcO E0_ok (fun _=>[0,1,4,5,7,21]) Tryz.func89 (h:=fun KF=>?_)
    unfold E0
    repeat' (first
     |(with_reducible first|refine nx ?_|refine t_seq fun K=>?_|refine t_br (fun hc=>?_) fun hc=>?_|refine t_bx ?_|apply And.intro|intro vr)
     |((with_reducible first|refine ny ?_|refine t_dwh (h:=fun K KL=>?_));intros;simp only [go_sem,geff,z,z0,z1]))
    all_goals try exact om
    refine end_ret rfl ?_
    simp only [fin,go_sem]
    exact LeA.refl _
   ·skip
    refine pcO E0_ok (fun _=>[0,1,4,5,7,21]) Tryz.func87 (h:=fun KF=>?_)
    unfold E0
    repeat' (first
     |(with_reducible first|refine nx ?_|refine t_seq fun K=>?_|refine t_br (fun hc=>?_) fun hc=>?_|refine t_bx ?_|apply And.intro|intro vr)
     |((with_reducible first|refine ny ?_|refine t_dwh (h:=fun K KL=>?_));intros;simp only [go_sem,geff,z,z0,z1]))
    all_goals try exact om
    refine end_ret rfl ?_
    simp only [fin,go_sem]
    exact LeA.refl _
noncomputable def floCon (f:FuncId) (h:f=89∨f=87):PCon Tryz.prog where
  f:=f
  c:=fun
   |[.lit (.int .i64 a),.lit (.int .i64 b)]=>some (el a,.lit (.int .i64 (flo a b)))
   |_=>none
  ok:=by
   intro args p r hc hp
   split at hc
   ·cases hc;exact flo_pc h hp
   ·cases hc
  fk:=by
   rcases h with rfl|rfl
   ·exact fk89
   ·exact fk87
noncomputable def con89:=floCon 89 (.inl rfl)
theorem con89_f:con89.f=89:=rfl
theorem con89_c {a b:Int}:con89.c [.lit (.int .i64 a),.lit (.int .i64 b)]=some (el a,.lit (.int .i64 (flo a b))):=rfl
def sgn (a:Int):Int:=if a<0 then -1 else if a>0 then 1 else 0
theorem nan_pc {a:Int}:PC Tryz.prog 113 [.lit (.int .i64 a)] (.lit (.bool false)):=by
  refine pcO E0_ok (fun _=>[0,2]) Tryz.func113 (h:=fun KF=>?_)
  unfold E0
  repeat' (first
   |(with_reducible first|refine nx ?_|refine t_seq fun K=>?_|refine t_br (fun hc=>?_) fun hc=>?_|refine t_bx ?_|apply And.intro|intro vr)
   |((with_reducible first|refine ny ?_|refine t_dwh (h:=fun K KL=>?_));intros;simp only [go_sem,geff,bne_self_eq_false]))
  refine end_ret rfl ?_
  simp only [fin,go_sem,bne_self_eq_false]
  exact LeA.refl _
noncomputable def con113:PCon Tryz.prog where
  f:=113
  c:=fun
   |[.lit (.int .i64 _)]=>some (True,.lit (.bool false))
   |_=>none
  ok:=by
   intro args p r hc hp
   split at hc
   ·cases hc;exact nan_pc
   ·cases hc
  fk:=fk113
theorem con113_f:con113.f=113:=rfl
theorem con113_c {a:Int}:con113.c [.lit (.int .i64 a)]=some (True,.lit (.bool false)):=rfl
noncomputable def E1:Env:=envOf (P:=Tryz.prog) zer (fun _=>false) (fun _=>false) [con113] []
theorem E1_ok:EnvOk Tryz.prog E1:=envOk zer_ok
theorem cmp_pc {a:Int}:PC Tryz.prog 90 [.lit (.int .i64 a),.lit (.int .i64 0)] (.lit (.int .i64 (sgn a))):=by
  unfold sgn
  by_cases h1:a<0
  ·have z:decide (a<0)=true:=decide_eq_true h1
   rw [if_pos h1]
   refine pcO E1_ok (fun _=>[0,1,4,5,6,11,12,13,16,19]) Tryz.func90 (h:=fun KF=>?_)
   unfold E1
   repeat' (first
    |(with_reducible first|refine nx ?_|refine t_seq fun K=>?_|refine t_br (fun hc=>?_) fun hc=>?_|refine t_bx ?_|apply And.intro|intro vr)
    |((with_reducible first|refine ny ?_|refine t_dwh (h:=fun K KL=>?_));intros;simp only [go_sem,geff,con113_f,con113_c,z]))
   refine end_ret rfl ?_
   simp only [fin,go_sem]
   exact LeA.refl _
  have z:decide (a<0)=false:=decide_eq_false h1
  rw [if_neg h1]
  by_cases h2:a>0
  ·have z2:decide (a>0)=true:=decide_eq_true h2
   rw [if_pos h2]
   refine pcO E1_ok (fun _=>[0,1,4,5,6,11,12,13,16,19]) Tryz.func90 (h:=fun KF=>?_)
   unfold E1
   repeat' (first
    |(with_reducible first|refine nx ?_|refine t_seq fun K=>?_|refine t_br (fun hc=>?_) fun hc=>?_|refine t_bx ?_|apply And.intro|intro vr)
    |((with_reducible first|refine ny ?_|refine t_dwh (h:=fun K KL=>?_));intros;simp only [go_sem,geff,con113_f,con113_c,z,z2]))
   refine end_ret rfl ?_
   simp only [fin,go_sem]
   exact LeA.refl _
  ·have z2:decide (a>0)=false:=decide_eq_false h2
   rw [if_neg h2]
   refine pcO E1_ok (fun _=>[0,1,4,5,6,11,12,13,16,19]) Tryz.func90 (h:=fun KF=>?_)
   unfold E1
   repeat' (first
    |(with_reducible first|refine nx ?_|refine t_seq fun K=>?_|refine t_br (fun hc=>?_) fun hc=>?_|refine t_bx ?_|apply And.intro|intro vr)
    |((with_reducible first|refine ny ?_|refine t_dwh (h:=fun K KL=>?_));intros;simp only [go_sem,geff,con113_f,con113_c,z,z2]))
   refine end_ret rfl ?_
   simp only [fin,go_sem]
   exact LeA.refl _
noncomputable def con90:PCon Tryz.prog where
  f:=90
  c:=fun
   |[.lit (.int .i64 a),.lit (.int .i64 0)]=>some (True,.lit (.int .i64 (sgn a)))
   |_=>none
  ok:=by
   intro args p r hc hp
   split at hc
   ·cases hc;exact cmp_pc
   ·cases hc
  fk:=fk90
theorem con90_f:con90.f=90:=rfl
theorem con90_c {a:Int}:con90.c [.lit (.int .i64 a),.lit (.int .i64 0)]=some (True,.lit (.int .i64 (sgn a))):=rfl
def sInt:ByteArray:=⟨#[105,110,116]⟩
def sBool:ByteArray:=⟨#[98,111,111,108]⟩
def sA:ByteArray:=⟨#[65]⟩
def vld (s:ByteArray) (n:Int):Bool:=if eqS s sInt=true then decide (-2147483648≤n∧n≤2147483647) else if eqS s sBool=true then decide (n=0∨n=1) else false
theorem eqS_iff {a b:ByteArray}:eqS a b=true ↔ a=b:=by
  unfold eqS
  rw [beq_iff_eq]
  constructor
  ·intro h
   apply ByteArray.ext
   apply Array.ext'
   simpa using h
  ·intro h;rw [h]
theorem eqS_refl (b:ByteArray):eqS b b=true:=eqS_iff.2 rfl
theorem vld_pc {f:FuncId} {s:ByteArray} {n:Int} (hf:f=40∨f=38):PC Tryz.prog f [.lit (.string s),.lit (.int .i64 n)] (.lit (.bool (vld s n))):=by
  unfold vld sInt sBool
  by_cases h1:eqS s ⟨#[105,110,116]⟩=true
  ·have hs:s=⟨#[105,110,116]⟩:=eqS_iff.1 h1
   have h2:eqS s ⟨#[98,111,111,108]⟩=false:=by rw [hs];rfl
   rw [if_pos h1]
   by_cases h3:n≥ -2147483648
   ·have z3:decide (n≥ -2147483648)=true:=decide_eq_true h3
    have e:decide (-2147483648≤n∧n≤2147483647)=decide (n≤2147483647):=by simp;omega
    rw [e]
    rcases hf with rfl|rfl
    ·skip
     refine pcO E0_ok (fun _=>[0,1,4,5,6,14]) Tryz.func40 (h:=fun KF=>?_)
     unfold E0
     repeat' (first
      |(with_reducible first|refine nx ?_|refine t_seq fun K=>?_|refine t_br (fun hc=>?_) fun hc=>?_|refine t_bx ?_|apply And.intro|intro vr)
      |((with_reducible first|refine ny ?_|refine t_dwh (h:=fun K KL=>?_));intros;simp only [go_sem,geff,h1,h2,z3]))
     refine end_ret rfl ?_
     simp only [fin,go_sem]
     exact LeA.refl _
    ·skip
     refine pcO E0_ok (fun _=>[0,1,4,6]) Tryz.func38 (h:=fun KF=>?_)
     unfold E0
     repeat' (first
      |(with_reducible first|refine nx ?_|refine t_seq fun K=>?_|refine t_br (fun hc=>?_) fun hc=>?_|refine t_bx ?_|apply And.intro|intro vr)
      |((with_reducible first|refine ny ?_|refine t_dwh (h:=fun K KL=>?_));intros;simp only [go_sem,geff,h1,h2,z3]))
     refine end_ret rfl ?_
     simp only [fin,go_sem]
     exact LeA.refl _
   ·have z3:decide (n≥ -2147483648)=false:=decide_eq_false h3
    have e:decide (-2147483648≤n∧n≤2147483647)=false:=by simp;omega
    rw [e]
    rcases hf with rfl|rfl
    ·skip
     refine pcO E0_ok (fun _=>[0,1,4,5,6,14]) Tryz.func40 (h:=fun KF=>?_)
     unfold E0
     repeat' (first
      |(with_reducible first|refine nx ?_|refine t_seq fun K=>?_|refine t_br (fun hc=>?_) fun hc=>?_|refine t_bx ?_|apply And.intro|intro vr)
      |((with_reducible first|refine ny ?_|refine t_dwh (h:=fun K KL=>?_));intros;simp only [go_sem,geff,h1,h2,z3]))
     refine end_ret rfl ?_
     simp only [fin,go_sem]
     exact LeA.refl _
    ·skip
     refine pcO E0_ok (fun _=>[0,1,4,6]) Tryz.func38 (h:=fun KF=>?_)
     unfold E0
     repeat' (first
      |(with_reducible first|refine nx ?_|refine t_seq fun K=>?_|refine t_br (fun hc=>?_) fun hc=>?_|refine t_bx ?_|apply And.intro|intro vr)
      |((with_reducible first|refine ny ?_|refine t_dwh (h:=fun K KL=>?_));intros;simp only [go_sem,geff,h1,h2,z3]))
     refine end_ret rfl ?_
     simp only [fin,go_sem]
     exact LeA.refl _
  ·have h1':eqS s ⟨#[105,110,116]⟩=false:=by simpa using h1
   rw [if_neg h1]
   by_cases h2:eqS s ⟨#[98,111,111,108]⟩=true
   ·rw [if_pos h2]
    by_cases h3:n=0
    ·have z3:(n==0)=true:=by rw [beq_iff_eq];exact h3
     have e:decide (n=0∨n=1)=true:=decide_eq_true (.inl h3)
     rw [e]
     rcases hf with rfl|rfl
     ·skip
      refine pcO E0_ok (fun _=>[0,1,4,5,6,14]) Tryz.func40 (h:=fun KF=>?_)
      unfold E0
      repeat' (first
       |(with_reducible first|refine nx ?_|refine t_seq fun K=>?_|refine t_br (fun hc=>?_) fun hc=>?_|refine t_bx ?_|apply And.intro|intro vr)
       |((with_reducible first|refine ny ?_|refine t_dwh (h:=fun K KL=>?_));intros;simp only [go_sem,geff,h1',h2,z3]))
      refine end_ret rfl ?_
      simp only [fin,go_sem]
      exact LeA.refl _
     ·skip
      refine pcO E0_ok (fun _=>[0,1,4,6]) Tryz.func38 (h:=fun KF=>?_)
      unfold E0
      repeat' (first
       |(with_reducible first|refine nx ?_|refine t_seq fun K=>?_|refine t_br (fun hc=>?_) fun hc=>?_|refine t_bx ?_|apply And.intro|intro vr)
       |((with_reducible first|refine ny ?_|refine t_dwh (h:=fun K KL=>?_));intros;simp only [go_sem,geff,h1',h2,z3]))
      refine end_ret rfl ?_
      simp only [fin,go_sem]
      exact LeA.refl _
    ·have z3:(n==0)=false:=by rw [beq_eq_false_iff_ne];exact h3
     have e:decide (n=0∨n=1)=(n==1):=by
       by_cases h4:n=1
       ·subst h4;rfl
       ·rw [decide_eq_false (by omega)];symm;rw [beq_eq_false_iff_ne];exact h4
     rw [e]
     rcases hf with rfl|rfl
     ·skip
      refine pcO E0_ok (fun _=>[0,1,4,5,6,14]) Tryz.func40 (h:=fun KF=>?_)
      unfold E0
      repeat' (first
       |(with_reducible first|refine nx ?_|refine t_seq fun K=>?_|refine t_br (fun hc=>?_) fun hc=>?_|refine t_bx ?_|apply And.intro|intro vr)
       |((with_reducible first|refine ny ?_|refine t_dwh (h:=fun K KL=>?_));intros;simp only [go_sem,geff,h1',h2,z3]))
      refine end_ret rfl ?_
      simp only [fin,go_sem]
      exact LeA.refl _
     ·skip
      refine pcO E0_ok (fun _=>[0,1,4,6]) Tryz.func38 (h:=fun KF=>?_)
      unfold E0
      repeat' (first
       |(with_reducible first|refine nx ?_|refine t_seq fun K=>?_|refine t_br (fun hc=>?_) fun hc=>?_|refine t_bx ?_|apply And.intro|intro vr)
       |((with_reducible first|refine ny ?_|refine t_dwh (h:=fun K KL=>?_));intros;simp only [go_sem,geff,h1',h2,z3]))
      refine end_ret rfl ?_
      simp only [fin,go_sem]
      exact LeA.refl _
   ·have h2':eqS s ⟨#[98,111,111,108]⟩=false:=by simpa using h2
    rw [if_neg h2]
    rcases hf with rfl|rfl
    ·skip
     refine pcO E0_ok (fun _=>[0,1,4,5,6,14]) Tryz.func40 (h:=fun KF=>?_)
     unfold E0
     repeat' (first
      |(with_reducible first|refine nx ?_|refine t_seq fun K=>?_|refine t_br (fun hc=>?_) fun hc=>?_|refine t_bx ?_|apply And.intro|intro vr)
      |((with_reducible first|refine ny ?_|refine t_dwh (h:=fun K KL=>?_));intros;simp only [go_sem,geff,h1',h2']))
     refine end_ret rfl ?_
     simp only [fin,go_sem]
     exact LeA.refl _
    ·skip
     refine pcO E0_ok (fun _=>[0,1,4,6]) Tryz.func38 (h:=fun KF=>?_)
     unfold E0
     repeat' (first
      |(with_reducible first|refine nx ?_|refine t_seq fun K=>?_|refine t_br (fun hc=>?_) fun hc=>?_|refine t_bx ?_|apply And.intro|intro vr)
      |((with_reducible first|refine ny ?_|refine t_dwh (h:=fun K KL=>?_));intros;simp only [go_sem,geff,h1',h2']))
     refine end_ret rfl ?_
     simp only [fin,go_sem]
     exact LeA.refl _
noncomputable def vldCon (f:FuncId) (h:f=40∨f=38):PCon Tryz.prog where
  f:=f
  c:=fun
   |[.lit (.string s),.lit (.int .i64 n)]=>some (True,.lit (.bool (vld s n)))
   |_=>none
  ok:=by
   intro args p r hc hp
   split at hc
   ·cases hc;exact vld_pc h
   ·cases hc
  fk:=by
   rcases h with rfl|rfl
   ·exact fk40
   ·exact fk38
noncomputable def con40:=vldCon 40 (.inl rfl)
noncomputable def con38:=vldCon 38 (.inr rfl)
theorem con40_f:con40.f=40:=rfl
theorem con38_f:con38.f=38:=rfl
theorem con40_c {s:ByteArray} {n:Int}:con40.c [.lit (.string s),.lit (.int .i64 n)]=some (True,.lit (.bool (vld s n))):=rfl
theorem con38_c {s:ByteArray} {n:Int}:con38.c [.lit (.string s),.lit (.int .i64 n)]=some (True,.lit (.bool (vld s n))):=rfl
end Go.Proofs.YtcpjahmajkhchaaGreat.El

namespace Go.Proofs.YtcpjahmajkhchaaGreat.El
open Go.Proofs.YtcpjahmajkhchaaGreat
open Go Go.Fw
set_option maxRecDepth 20000
abbrev w0:ByteArray:=⟨#[97,100,100]⟩
abbrev w1:ByteArray:=⟨#[115,117,98]⟩
abbrev w2:ByteArray:=⟨#[109,117,108]⟩
abbrev w3:ByteArray:=⟨#[100,105,118]⟩
abbrev w4:ByteArray:=⟨#[109,111,100]⟩
abbrev w5:ByteArray:=⟨#[109,105,110]⟩
abbrev w6:ByteArray:=⟨#[109,97,120]⟩
abbrev w7:ByteArray:=⟨#[110,101,103]⟩
abbrev w8:ByteArray:=⟨#[97,98,115]⟩
abbrev w9:ByteArray:=⟨#[115,105,103,110]⟩
abbrev w10:ByteArray:=⟨#[108,116]⟩
abbrev w11:ByteArray:=⟨#[108,101]⟩
abbrev w12:ByteArray:=⟨#[103,116]⟩
abbrev w13:ByteArray:=⟨#[103,101]⟩
abbrev w14:ByteArray:=⟨#[101,113]⟩
abbrev w15:ByteArray:=⟨#[110,101]⟩
abbrev w16:ByteArray:=⟨#[97,110,100]⟩
abbrev w17:ByteArray:=⟨#[111,114]⟩
abbrev w18:ByteArray:=⟨#[120,111,114]⟩
abbrev w19:ByteArray:=⟨#[110,111,116]⟩
abbrev w20:ByteArray:=⟨#[115,101,108,101,99,116]⟩
abbrev w21:ByteArray:=⟨#[116,111,105,110,116]⟩
abbrev w22:ByteArray:=⟨#[105,110,116]⟩
abbrev w23:ByteArray:=⟨#[98,111,111,108]⟩
abbrev w24:ByteArray:=⟨#[65]⟩
abbrev w25:ByteArray:=⟨#[]⟩
theorem qr0:eqS w0 w0=true∧eqS w0 w1=false∧eqS w0 w2=false∧eqS w0 w3=false∧eqS w0 w4=false∧eqS w0 w5=false∧eqS w0 w6=false∧eqS w0 w7=false∧eqS w0 w8=false∧eqS w0 w9=false∧eqS w0 w10=false∧eqS w0 w11=false∧eqS w0 w12=false∧eqS w0 w13=false∧eqS w0 w14=false∧eqS w0 w15=false∧eqS w0 w16=false∧eqS w0 w17=false∧eqS w0 w18=false∧eqS w0 w19=false∧eqS w0 w20=false∧eqS w0 w21=false∧eqS w0 w22=false∧eqS w0 w23=false∧eqS w0 w24=false∧eqS w0 w25=false:=by and_intros<;>rfl
theorem qr1:eqS w1 w0=false∧eqS w1 w1=true∧eqS w1 w2=false∧eqS w1 w3=false∧eqS w1 w4=false∧eqS w1 w5=false∧eqS w1 w6=false∧eqS w1 w7=false∧eqS w1 w8=false∧eqS w1 w9=false∧eqS w1 w10=false∧eqS w1 w11=false∧eqS w1 w12=false∧eqS w1 w13=false∧eqS w1 w14=false∧eqS w1 w15=false∧eqS w1 w16=false∧eqS w1 w17=false∧eqS w1 w18=false∧eqS w1 w19=false∧eqS w1 w20=false∧eqS w1 w21=false∧eqS w1 w22=false∧eqS w1 w23=false∧eqS w1 w24=false∧eqS w1 w25=false:=by and_intros<;>rfl
theorem qr2:eqS w2 w0=false∧eqS w2 w1=false∧eqS w2 w2=true∧eqS w2 w3=false∧eqS w2 w4=false∧eqS w2 w5=false∧eqS w2 w6=false∧eqS w2 w7=false∧eqS w2 w8=false∧eqS w2 w9=false∧eqS w2 w10=false∧eqS w2 w11=false∧eqS w2 w12=false∧eqS w2 w13=false∧eqS w2 w14=false∧eqS w2 w15=false∧eqS w2 w16=false∧eqS w2 w17=false∧eqS w2 w18=false∧eqS w2 w19=false∧eqS w2 w20=false∧eqS w2 w21=false∧eqS w2 w22=false∧eqS w2 w23=false∧eqS w2 w24=false∧eqS w2 w25=false:=by and_intros<;>rfl
theorem qr3:eqS w3 w0=false∧eqS w3 w1=false∧eqS w3 w2=false∧eqS w3 w3=true∧eqS w3 w4=false∧eqS w3 w5=false∧eqS w3 w6=false∧eqS w3 w7=false∧eqS w3 w8=false∧eqS w3 w9=false∧eqS w3 w10=false∧eqS w3 w11=false∧eqS w3 w12=false∧eqS w3 w13=false∧eqS w3 w14=false∧eqS w3 w15=false∧eqS w3 w16=false∧eqS w3 w17=false∧eqS w3 w18=false∧eqS w3 w19=false∧eqS w3 w20=false∧eqS w3 w21=false∧eqS w3 w22=false∧eqS w3 w23=false∧eqS w3 w24=false∧eqS w3 w25=false:=by and_intros<;>rfl
theorem qr4:eqS w4 w0=false∧eqS w4 w1=false∧eqS w4 w2=false∧eqS w4 w3=false∧eqS w4 w4=true∧eqS w4 w5=false∧eqS w4 w6=false∧eqS w4 w7=false∧eqS w4 w8=false∧eqS w4 w9=false∧eqS w4 w10=false∧eqS w4 w11=false∧eqS w4 w12=false∧eqS w4 w13=false∧eqS w4 w14=false∧eqS w4 w15=false∧eqS w4 w16=false∧eqS w4 w17=false∧eqS w4 w18=false∧eqS w4 w19=false∧eqS w4 w20=false∧eqS w4 w21=false∧eqS w4 w22=false∧eqS w4 w23=false∧eqS w4 w24=false∧eqS w4 w25=false:=by and_intros<;>rfl
theorem qr5:eqS w5 w0=false∧eqS w5 w1=false∧eqS w5 w2=false∧eqS w5 w3=false∧eqS w5 w4=false∧eqS w5 w5=true∧eqS w5 w6=false∧eqS w5 w7=false∧eqS w5 w8=false∧eqS w5 w9=false∧eqS w5 w10=false∧eqS w5 w11=false∧eqS w5 w12=false∧eqS w5 w13=false∧eqS w5 w14=false∧eqS w5 w15=false∧eqS w5 w16=false∧eqS w5 w17=false∧eqS w5 w18=false∧eqS w5 w19=false∧eqS w5 w20=false∧eqS w5 w21=false∧eqS w5 w22=false∧eqS w5 w23=false∧eqS w5 w24=false∧eqS w5 w25=false:=by and_intros<;>rfl
theorem qr6:eqS w6 w0=false∧eqS w6 w1=false∧eqS w6 w2=false∧eqS w6 w3=false∧eqS w6 w4=false∧eqS w6 w5=false∧eqS w6 w6=true∧eqS w6 w7=false∧eqS w6 w8=false∧eqS w6 w9=false∧eqS w6 w10=false∧eqS w6 w11=false∧eqS w6 w12=false∧eqS w6 w13=false∧eqS w6 w14=false∧eqS w6 w15=false∧eqS w6 w16=false∧eqS w6 w17=false∧eqS w6 w18=false∧eqS w6 w19=false∧eqS w6 w20=false∧eqS w6 w21=false∧eqS w6 w22=false∧eqS w6 w23=false∧eqS w6 w24=false∧eqS w6 w25=false:=by and_intros<;>rfl
theorem qr7:eqS w7 w0=false∧eqS w7 w1=false∧eqS w7 w2=false∧eqS w7 w3=false∧eqS w7 w4=false∧eqS w7 w5=false∧eqS w7 w6=false∧eqS w7 w7=true∧eqS w7 w8=false∧eqS w7 w9=false∧eqS w7 w10=false∧eqS w7 w11=false∧eqS w7 w12=false∧eqS w7 w13=false∧eqS w7 w14=false∧eqS w7 w15=false∧eqS w7 w16=false∧eqS w7 w17=false∧eqS w7 w18=false∧eqS w7 w19=false∧eqS w7 w20=false∧eqS w7 w21=false∧eqS w7 w22=false∧eqS w7 w23=false∧eqS w7 w24=false∧eqS w7 w25=false:=by and_intros<;>rfl
theorem qr8:eqS w8 w0=false∧eqS w8 w1=false∧eqS w8 w2=false∧eqS w8 w3=false∧eqS w8 w4=false∧eqS w8 w5=false∧eqS w8 w6=false∧eqS w8 w7=false∧eqS w8 w8=true∧eqS w8 w9=false∧eqS w8 w10=false∧eqS w8 w11=false∧eqS w8 w12=false∧eqS w8 w13=false∧eqS w8 w14=false∧eqS w8 w15=false∧eqS w8 w16=false∧eqS w8 w17=false∧eqS w8 w18=false∧eqS w8 w19=false∧eqS w8 w20=false∧eqS w8 w21=false∧eqS w8 w22=false∧eqS w8 w23=false∧eqS w8 w24=false∧eqS w8 w25=false:=by and_intros<;>rfl
theorem qr9:eqS w9 w0=false∧eqS w9 w1=false∧eqS w9 w2=false∧eqS w9 w3=false∧eqS w9 w4=false∧eqS w9 w5=false∧eqS w9 w6=false∧eqS w9 w7=false∧eqS w9 w8=false∧eqS w9 w9=true∧eqS w9 w10=false∧eqS w9 w11=false∧eqS w9 w12=false∧eqS w9 w13=false∧eqS w9 w14=false∧eqS w9 w15=false∧eqS w9 w16=false∧eqS w9 w17=false∧eqS w9 w18=false∧eqS w9 w19=false∧eqS w9 w20=false∧eqS w9 w21=false∧eqS w9 w22=false∧eqS w9 w23=false∧eqS w9 w24=false∧eqS w9 w25=false:=by and_intros<;>rfl
theorem qr10:eqS w10 w0=false∧eqS w10 w1=false∧eqS w10 w2=false∧eqS w10 w3=false∧eqS w10 w4=false∧eqS w10 w5=false∧eqS w10 w6=false∧eqS w10 w7=false∧eqS w10 w8=false∧eqS w10 w9=false∧eqS w10 w10=true∧eqS w10 w11=false∧eqS w10 w12=false∧eqS w10 w13=false∧eqS w10 w14=false∧eqS w10 w15=false∧eqS w10 w16=false∧eqS w10 w17=false∧eqS w10 w18=false∧eqS w10 w19=false∧eqS w10 w20=false∧eqS w10 w21=false∧eqS w10 w22=false∧eqS w10 w23=false∧eqS w10 w24=false∧eqS w10 w25=false:=by and_intros<;>rfl
theorem qr11:eqS w11 w0=false∧eqS w11 w1=false∧eqS w11 w2=false∧eqS w11 w3=false∧eqS w11 w4=false∧eqS w11 w5=false∧eqS w11 w6=false∧eqS w11 w7=false∧eqS w11 w8=false∧eqS w11 w9=false∧eqS w11 w10=false∧eqS w11 w11=true∧eqS w11 w12=false∧eqS w11 w13=false∧eqS w11 w14=false∧eqS w11 w15=false∧eqS w11 w16=false∧eqS w11 w17=false∧eqS w11 w18=false∧eqS w11 w19=false∧eqS w11 w20=false∧eqS w11 w21=false∧eqS w11 w22=false∧eqS w11 w23=false∧eqS w11 w24=false∧eqS w11 w25=false:=by and_intros<;>rfl
theorem qr12:eqS w12 w0=false∧eqS w12 w1=false∧eqS w12 w2=false∧eqS w12 w3=false∧eqS w12 w4=false∧eqS w12 w5=false∧eqS w12 w6=false∧eqS w12 w7=false∧eqS w12 w8=false∧eqS w12 w9=false∧eqS w12 w10=false∧eqS w12 w11=false∧eqS w12 w12=true∧eqS w12 w13=false∧eqS w12 w14=false∧eqS w12 w15=false∧eqS w12 w16=false∧eqS w12 w17=false∧eqS w12 w18=false∧eqS w12 w19=false∧eqS w12 w20=false∧eqS w12 w21=false∧eqS w12 w22=false∧eqS w12 w23=false∧eqS w12 w24=false∧eqS w12 w25=false:=by and_intros<;>rfl
theorem qr13:eqS w13 w0=false∧eqS w13 w1=false∧eqS w13 w2=false∧eqS w13 w3=false∧eqS w13 w4=false∧eqS w13 w5=false∧eqS w13 w6=false∧eqS w13 w7=false∧eqS w13 w8=false∧eqS w13 w9=false∧eqS w13 w10=false∧eqS w13 w11=false∧eqS w13 w12=false∧eqS w13 w13=true∧eqS w13 w14=false∧eqS w13 w15=false∧eqS w13 w16=false∧eqS w13 w17=false∧eqS w13 w18=false∧eqS w13 w19=false∧eqS w13 w20=false∧eqS w13 w21=false∧eqS w13 w22=false∧eqS w13 w23=false∧eqS w13 w24=false∧eqS w13 w25=false:=by and_intros<;>rfl
theorem qr14:eqS w14 w0=false∧eqS w14 w1=false∧eqS w14 w2=false∧eqS w14 w3=false∧eqS w14 w4=false∧eqS w14 w5=false∧eqS w14 w6=false∧eqS w14 w7=false∧eqS w14 w8=false∧eqS w14 w9=false∧eqS w14 w10=false∧eqS w14 w11=false∧eqS w14 w12=false∧eqS w14 w13=false∧eqS w14 w14=true∧eqS w14 w15=false∧eqS w14 w16=false∧eqS w14 w17=false∧eqS w14 w18=false∧eqS w14 w19=false∧eqS w14 w20=false∧eqS w14 w21=false∧eqS w14 w22=false∧eqS w14 w23=false∧eqS w14 w24=false∧eqS w14 w25=false:=by and_intros<;>rfl
theorem qr15:eqS w15 w0=false∧eqS w15 w1=false∧eqS w15 w2=false∧eqS w15 w3=false∧eqS w15 w4=false∧eqS w15 w5=false∧eqS w15 w6=false∧eqS w15 w7=false∧eqS w15 w8=false∧eqS w15 w9=false∧eqS w15 w10=false∧eqS w15 w11=false∧eqS w15 w12=false∧eqS w15 w13=false∧eqS w15 w14=false∧eqS w15 w15=true∧eqS w15 w16=false∧eqS w15 w17=false∧eqS w15 w18=false∧eqS w15 w19=false∧eqS w15 w20=false∧eqS w15 w21=false∧eqS w15 w22=false∧eqS w15 w23=false∧eqS w15 w24=false∧eqS w15 w25=false:=by and_intros<;>rfl
theorem qr16:eqS w16 w0=false∧eqS w16 w1=false∧eqS w16 w2=false∧eqS w16 w3=false∧eqS w16 w4=false∧eqS w16 w5=false∧eqS w16 w6=false∧eqS w16 w7=false∧eqS w16 w8=false∧eqS w16 w9=false∧eqS w16 w10=false∧eqS w16 w11=false∧eqS w16 w12=false∧eqS w16 w13=false∧eqS w16 w14=false∧eqS w16 w15=false∧eqS w16 w16=true∧eqS w16 w17=false∧eqS w16 w18=false∧eqS w16 w19=false∧eqS w16 w20=false∧eqS w16 w21=false∧eqS w16 w22=false∧eqS w16 w23=false∧eqS w16 w24=false∧eqS w16 w25=false:=by and_intros<;>rfl
theorem qr17:eqS w17 w0=false∧eqS w17 w1=false∧eqS w17 w2=false∧eqS w17 w3=false∧eqS w17 w4=false∧eqS w17 w5=false∧eqS w17 w6=false∧eqS w17 w7=false∧eqS w17 w8=false∧eqS w17 w9=false∧eqS w17 w10=false∧eqS w17 w11=false∧eqS w17 w12=false∧eqS w17 w13=false∧eqS w17 w14=false∧eqS w17 w15=false∧eqS w17 w16=false∧eqS w17 w17=true∧eqS w17 w18=false∧eqS w17 w19=false∧eqS w17 w20=false∧eqS w17 w21=false∧eqS w17 w22=false∧eqS w17 w23=false∧eqS w17 w24=false∧eqS w17 w25=false:=by and_intros<;>rfl
theorem qr18:eqS w18 w0=false∧eqS w18 w1=false∧eqS w18 w2=false∧eqS w18 w3=false∧eqS w18 w4=false∧eqS w18 w5=false∧eqS w18 w6=false∧eqS w18 w7=false∧eqS w18 w8=false∧eqS w18 w9=false∧eqS w18 w10=false∧eqS w18 w11=false∧eqS w18 w12=false∧eqS w18 w13=false∧eqS w18 w14=false∧eqS w18 w15=false∧eqS w18 w16=false∧eqS w18 w17=false∧eqS w18 w18=true∧eqS w18 w19=false∧eqS w18 w20=false∧eqS w18 w21=false∧eqS w18 w22=false∧eqS w18 w23=false∧eqS w18 w24=false∧eqS w18 w25=false:=by and_intros<;>rfl
theorem qr19:eqS w19 w0=false∧eqS w19 w1=false∧eqS w19 w2=false∧eqS w19 w3=false∧eqS w19 w4=false∧eqS w19 w5=false∧eqS w19 w6=false∧eqS w19 w7=false∧eqS w19 w8=false∧eqS w19 w9=false∧eqS w19 w10=false∧eqS w19 w11=false∧eqS w19 w12=false∧eqS w19 w13=false∧eqS w19 w14=false∧eqS w19 w15=false∧eqS w19 w16=false∧eqS w19 w17=false∧eqS w19 w18=false∧eqS w19 w19=true∧eqS w19 w20=false∧eqS w19 w21=false∧eqS w19 w22=false∧eqS w19 w23=false∧eqS w19 w24=false∧eqS w19 w25=false:=by and_intros<;>rfl
theorem qr20:eqS w20 w0=false∧eqS w20 w1=false∧eqS w20 w2=false∧eqS w20 w3=false∧eqS w20 w4=false∧eqS w20 w5=false∧eqS w20 w6=false∧eqS w20 w7=false∧eqS w20 w8=false∧eqS w20 w9=false∧eqS w20 w10=false∧eqS w20 w11=false∧eqS w20 w12=false∧eqS w20 w13=false∧eqS w20 w14=false∧eqS w20 w15=false∧eqS w20 w16=false∧eqS w20 w17=false∧eqS w20 w18=false∧eqS w20 w19=false∧eqS w20 w20=true∧eqS w20 w21=false∧eqS w20 w22=false∧eqS w20 w23=false∧eqS w20 w24=false∧eqS w20 w25=false:=by and_intros<;>rfl
theorem qr21:eqS w21 w0=false∧eqS w21 w1=false∧eqS w21 w2=false∧eqS w21 w3=false∧eqS w21 w4=false∧eqS w21 w5=false∧eqS w21 w6=false∧eqS w21 w7=false∧eqS w21 w8=false∧eqS w21 w9=false∧eqS w21 w10=false∧eqS w21 w11=false∧eqS w21 w12=false∧eqS w21 w13=false∧eqS w21 w14=false∧eqS w21 w15=false∧eqS w21 w16=false∧eqS w21 w17=false∧eqS w21 w18=false∧eqS w21 w19=false∧eqS w21 w20=false∧eqS w21 w21=true∧eqS w21 w22=false∧eqS w21 w23=false∧eqS w21 w24=false∧eqS w21 w25=false:=by and_intros<;>rfl
theorem qr22:eqS w22 w0=false∧eqS w22 w1=false∧eqS w22 w2=false∧eqS w22 w3=false∧eqS w22 w4=false∧eqS w22 w5=false∧eqS w22 w6=false∧eqS w22 w7=false∧eqS w22 w8=false∧eqS w22 w9=false∧eqS w22 w10=false∧eqS w22 w11=false∧eqS w22 w12=false∧eqS w22 w13=false∧eqS w22 w14=false∧eqS w22 w15=false∧eqS w22 w16=false∧eqS w22 w17=false∧eqS w22 w18=false∧eqS w22 w19=false∧eqS w22 w20=false∧eqS w22 w21=false∧eqS w22 w22=true∧eqS w22 w23=false∧eqS w22 w24=false∧eqS w22 w25=false:=by and_intros<;>rfl
theorem qr23:eqS w23 w0=false∧eqS w23 w1=false∧eqS w23 w2=false∧eqS w23 w3=false∧eqS w23 w4=false∧eqS w23 w5=false∧eqS w23 w6=false∧eqS w23 w7=false∧eqS w23 w8=false∧eqS w23 w9=false∧eqS w23 w10=false∧eqS w23 w11=false∧eqS w23 w12=false∧eqS w23 w13=false∧eqS w23 w14=false∧eqS w23 w15=false∧eqS w23 w16=false∧eqS w23 w17=false∧eqS w23 w18=false∧eqS w23 w19=false∧eqS w23 w20=false∧eqS w23 w21=false∧eqS w23 w22=false∧eqS w23 w23=true∧eqS w23 w24=false∧eqS w23 w25=false:=by and_intros<;>rfl
theorem qr24:eqS w24 w0=false∧eqS w24 w1=false∧eqS w24 w2=false∧eqS w24 w3=false∧eqS w24 w4=false∧eqS w24 w5=false∧eqS w24 w6=false∧eqS w24 w7=false∧eqS w24 w8=false∧eqS w24 w9=false∧eqS w24 w10=false∧eqS w24 w11=false∧eqS w24 w12=false∧eqS w24 w13=false∧eqS w24 w14=false∧eqS w24 w15=false∧eqS w24 w16=false∧eqS w24 w17=false∧eqS w24 w18=false∧eqS w24 w19=false∧eqS w24 w20=false∧eqS w24 w21=false∧eqS w24 w22=false∧eqS w24 w23=false∧eqS w24 w24=true∧eqS w24 w25=false:=by and_intros<;>rfl
theorem qr25:eqS w25 w0=false∧eqS w25 w1=false∧eqS w25 w2=false∧eqS w25 w3=false∧eqS w25 w4=false∧eqS w25 w5=false∧eqS w25 w6=false∧eqS w25 w7=false∧eqS w25 w8=false∧eqS w25 w9=false∧eqS w25 w10=false∧eqS w25 w11=false∧eqS w25 w12=false∧eqS w25 w13=false∧eqS w25 w14=false∧eqS w25 w15=false∧eqS w25 w16=false∧eqS w25 w17=false∧eqS w25 w18=false∧eqS w25 w19=false∧eqS w25 w20=false∧eqS w25 w21=false∧eqS w25 w22=false∧eqS w25 w23=false∧eqS w25 w24=false∧eqS w25 w25=true:=by and_intros<;>rfl
attribute [go_sem] qr0 qr1 qr2 qr3 qr4 qr5 qr6 qr7 qr8 qr9 qr10 qr11 qr12 qr13 qr14 qr15 qr16 qr17 qr18 qr19 qr20 qr21 qr22 qr23 qr24 qr25
structure Rw where
  op:ByteArray
  ps:List ByteArray
  rs:ByteArray
instance:Inhabited Rw:=⟨⟨⟨#[]⟩,[],⟨#[]⟩⟩⟩
def rowsL:List Rw:=[⟨(⟨#[97,100,100]⟩:ByteArray),[(⟨#[105,110,116]⟩:ByteArray),(⟨#[105,110,116]⟩:ByteArray)],(⟨#[105,110,116]⟩:ByteArray)⟩,⟨(⟨#[115,117,98]⟩:ByteArray),[(⟨#[105,110,116]⟩:ByteArray),(⟨#[105,110,116]⟩:ByteArray)],(⟨#[105,110,116]⟩:ByteArray)⟩,⟨(⟨#[109,117,108]⟩:ByteArray),[(⟨#[105,110,116]⟩:ByteArray),(⟨#[105,110,116]⟩:ByteArray)],(⟨#[105,110,116]⟩:ByteArray)⟩,⟨(⟨#[100,105,118]⟩:ByteArray),[(⟨#[105,110,116]⟩:ByteArray),(⟨#[105,110,116]⟩:ByteArray)],(⟨#[105,110,116]⟩:ByteArray)⟩,⟨(⟨#[109,111,100]⟩:ByteArray),[(⟨#[105,110,116]⟩:ByteArray),(⟨#[105,110,116]⟩:ByteArray)],(⟨#[105,110,116]⟩:ByteArray)⟩,⟨(⟨#[109,105,110]⟩:ByteArray),[(⟨#[105,110,116]⟩:ByteArray),(⟨#[105,110,116]⟩:ByteArray)],(⟨#[105,110,116]⟩:ByteArray)⟩,⟨(⟨#[109,97,120]⟩:ByteArray),[(⟨#[105,110,116]⟩:ByteArray),(⟨#[105,110,116]⟩:ByteArray)],(⟨#[105,110,116]⟩:ByteArray)⟩,⟨(⟨#[110,101,103]⟩:ByteArray),[(⟨#[105,110,116]⟩:ByteArray)],(⟨#[105,110,116]⟩:ByteArray)⟩,⟨(⟨#[97,98,115]⟩:ByteArray),[(⟨#[105,110,116]⟩:ByteArray)],(⟨#[105,110,116]⟩:ByteArray)⟩,⟨(⟨#[115,105,103,110]⟩:ByteArray),[(⟨#[105,110,116]⟩:ByteArray)],(⟨#[105,110,116]⟩:ByteArray)⟩,⟨(⟨#[108,116]⟩:ByteArray),[(⟨#[105,110,116]⟩:ByteArray),(⟨#[105,110,116]⟩:ByteArray)],(⟨#[98,111,111,108]⟩:ByteArray)⟩,⟨(⟨#[108,101]⟩:ByteArray),[(⟨#[105,110,116]⟩:ByteArray),(⟨#[105,110,116]⟩:ByteArray)],(⟨#[98,111,111,108]⟩:ByteArray)⟩,⟨(⟨#[103,116]⟩:ByteArray),[(⟨#[105,110,116]⟩:ByteArray),(⟨#[105,110,116]⟩:ByteArray)],(⟨#[98,111,111,108]⟩:ByteArray)⟩,⟨(⟨#[103,101]⟩:ByteArray),[(⟨#[105,110,116]⟩:ByteArray),(⟨#[105,110,116]⟩:ByteArray)],(⟨#[98,111,111,108]⟩:ByteArray)⟩,⟨(⟨#[101,113]⟩:ByteArray),[(⟨#[65]⟩:ByteArray),(⟨#[65]⟩:ByteArray)],(⟨#[98,111,111,108]⟩:ByteArray)⟩,⟨(⟨#[110,101]⟩:ByteArray),[(⟨#[65]⟩:ByteArray),(⟨#[65]⟩:ByteArray)],(⟨#[98,111,111,108]⟩:ByteArray)⟩,⟨(⟨#[97,110,100]⟩:ByteArray),[(⟨#[98,111,111,108]⟩:ByteArray),(⟨#[98,111,111,108]⟩:ByteArray)],(⟨#[98,111,111,108]⟩:ByteArray)⟩,⟨(⟨#[111,114]⟩:ByteArray),[(⟨#[98,111,111,108]⟩:ByteArray),(⟨#[98,111,111,108]⟩:ByteArray)],(⟨#[98,111,111,108]⟩:ByteArray)⟩,⟨(⟨#[120,111,114]⟩:ByteArray),[(⟨#[98,111,111,108]⟩:ByteArray),(⟨#[98,111,111,108]⟩:ByteArray)],(⟨#[98,111,111,108]⟩:ByteArray)⟩,⟨(⟨#[110,111,116]⟩:ByteArray),[(⟨#[98,111,111,108]⟩:ByteArray)],(⟨#[98,111,111,108]⟩:ByteArray)⟩,⟨(⟨#[115,101,108,101,99,116]⟩:ByteArray),[(⟨#[98,111,111,108]⟩:ByteArray),(⟨#[65]⟩:ByteArray),(⟨#[65]⟩:ByteArray)],(⟨#[65]⟩:ByteArray)⟩,⟨(⟨#[116,111,105,110,116]⟩:ByteArray),[(⟨#[98,111,111,108]⟩:ByteArray)],(⟨#[105,110,116]⟩:ByteArray)⟩]
def rowC (r:Rw):List AV:=[.lit (.string r.op),.sl true 1 (strs r.ps),.lit (.string r.rs)]
def rowCells:List AV:=rowsL.flatMap rowC
theorem rowCells_len:rowCells.length=66:=rfl
set_option maxHeartbeats 4000000 in
theorem rows_pc:PC Tryz.prog 84 [] (.agg rowCells):=by
  refine pcO E0_ok (fun _=>[0,1,2,3,4]) Tryz.func84 (h:=fun KF=>?_)
  unfold E0
  repeat' (first
   |(with_reducible first|refine nx ?_|refine t_seq fun K=>?_|refine t_br (fun hc=>?_) fun hc=>?_|refine t_bx ?_|apply And.intro|intro vr)
   |((with_reducible first|refine ny ?_|refine t_dwh (h:=fun K KL=>?_));intros;simp only [go_sem,geff]))
  all_goals try exact om
  refine end_ret rfl ?_
  simp only [fin,go_sem]
  exact LeA.refl _
end Go.Proofs.YtcpjahmajkhchaaGreat.El

namespace Go.Proofs.YtcpjahmajkhchaaGreat.El
open Go.Proofs.YtcpjahmajkhchaaGreat
open Go Go.Fw
set_option maxRecDepth 20000
noncomputable def con84:PCon Tryz.prog where
  f:=84
  c:=fun
   |[]=>some (True,.agg rowCells)
   |_=>none
  ok:=by
   intro args p r hc hp
   split at hc
   ·cases hc;exact rows_pc
   ·cases hc
  fk:=fk84
theorem con84_f:con84.f=84:=rfl
theorem con84_c:con84.c []=some (True,.agg rowCells):=rfl
theorem clone_pc {l:List ByteArray} (hl:l.length≤1000000):PC Tryz.prog 85 [.sl false 1 (strs l)] (.sl false 1 (strs l)):=by
  refine pcO E0_ok (fun _=>[0,2,4]) Tryz.func85 (h:=fun KF=>?_)
  unfold E0
  repeat' (first
   |(with_reducible first|refine nx ?_|refine t_seq fun K=>?_|refine t_br (fun hc=>?_) fun hc=>?_|refine t_bx ?_|apply And.intro|intro vr)
   |((with_reducible first|refine ny ?_|refine t_dwh (h:=fun K KL=>?_));intros;simp only [go_sem,geff]))
  all_goals try exact om
  ·skip
   refine end_ret rfl ?_
   simp only [fin,go_sem]
   rw [show strs l=[] from by assumption]
   exact LeA.nil false 1
  ·skip
   refine end_ret rfl ?_
   simp only [fin,go_sem]
   exact LeA.refl _
noncomputable def con85:PCon Tryz.prog where
  f:=85
  c:=fun
   |[x]=>(slS x).map fun l=>(l.length≤1000000,.sl false 1 (strs l))
   |_=>none
  ok:=by
   intro args p r hc hp
   split at hc
   ·rename_i x
    cases hx:slS x with
    |none=>rw [hx] at hc;cases hc
    |some l=>
     rw [hx] at hc
     cases hc
     exact PC.weak (clone_pc hp) ⟨slS_le hx,trivial⟩
   ·cases hc
  fk:=fk85
theorem con85_f:con85.f=85:=rfl
theorem con85_c {x:AV}:con85.c [x]=(slS x).map fun l=>(l.length≤1000000,.sl false 1 (strs l)):=rfl
theorem yes_def {x:AV}:yes x=some (True,x):=rfl
theorem need_def {p:Prop} {x:AV}:need p x=some (p,x):=rfl
def typesS (op:ByteArray):Option Rw:=rowsL.find? fun r=>eqS r.op op
def typesV (o:Option Rw):AV:=match o with
  |some r=> .tup [.sl false 1 (strs r.ps),.lit (.string r.rs),.lit (.bool true)]
  |none=> .tup [.lit (.slice none 0 0),.lit (.string ⟨#[]⟩),.lit (.bool false)]
theorem rows_len:rowsL.length=22:=rfl
theorem rows_ps:∀ r∈rowsL,r.ps.length≤3:=by decide
theorem row_cells:∀ i,i<22→(rowCells.drop (i*3)).take 3=rowC (rowsL.getD i default):=by
  intro i hi
  have:i=0∨i=1∨i=2∨i=3∨i=4∨i=5∨i=6∨i=7∨i=8∨i=9∨i=10∨i=11∨i=12∨i=13∨i=14∨i=15∨i=16∨i=17∨i=18∨i=19∨i=20∨i=21:=by omega
  rcases this with rfl|rfl|rfl|rfl|rfl|rfl|rfl|rfl|rfl|rfl|rfl|rfl|rfl|rfl|rfl|rfl|rfl|rfl|rfl|rfl|rfl|rfl<;>rfl
theorem rowCells_all:rowCells.all scal0=false:=rfl
noncomputable def E2:Env:=envOf (P:=Tryz.prog) zer (fun _=>false) (fun _=>false) [con84,con85] []
theorem E2_ok:EnvOk Tryz.prog E2:=envOk zer_ok
set_option maxHeartbeats 1000000 in
theorem types_pc {op:ByteArray}:PC Tryz.prog 65 [.lit (.string op)] (typesV (typesS op)):=by
  unfold typesS
  generalize hR:rowsL.find? (fun r=>eqS r.op op)=R
  refine pcO E2_ok (fun _=>[0,2,3,4,6,7,8,9,14]) Tryz.func65 (h:=fun KF=>?_)
  unfold E2
  repeat' (first
   |(with_reducible first|refine nx ?_|refine t_seq fun K=>?_|refine t_br (fun hc=>?_) fun hc=>?_|refine t_bx ?_|apply And.intro|intro vr)
   |((with_reducible first|refine ny ?_|refine t_dwh (h:=fun K KL=>?_));intros;simp only [go_sem,geff,con84_f,con84_c,rowCells_all,Bool.false_eq_true]))
  refine t_loop (ι:={i:Nat // i≤22∧(rowsL.drop i).find? (fun r=>eqS r.op op)=R}×List AObj) (fun i=>⟨upd (upd (upd topF 8 (.lit (.int .i64 i.1.1))) 7 (.agg rowCells)) 0 (.lit (.string op)),i.2⟩) (fun i=>22 - i.1.1) (⟨0,by omega,hR⟩,[]) ?_ ?_
  ·skip
   (refine Le.frame ?_;repeat' (first|exact leF_top _|(with_reducible refine leF_sl ?_ ?_)|(refine leF_upd (LeR.of_eq ?_) ?_)))<;>(try (simp only [go_sem];try rfl))
  ·rintro ⟨⟨i,hi,hF⟩,g⟩ K0
   rcases Nat.lt_or_ge i 22 with hc|hc
   ·have g1:decide ((i:Int)<22)=true:=decide_eq_true (by omega)
    have g2:=row_cells i hc
    have g3:(i*3+3≤66)=True:=eq_true (by omega)
    have hd:rowsL.drop i=rowsL.getD i default::rowsL.drop (i+1):=by
      rw [List.drop_eq_getElem_cons (by rw [rows_len];exact hc),getD_elem _ _ (by rw [rows_len];exact hc)]
    have hps:=rows_ps (rowsL.getD i default) (by rw [getD_elem _ _ (by rw [rows_len];exact hc)];exact List.getElem_mem _)
    generalize rowsL.getD i default=r at g2 hd hps
    obtain ⟨nm,ps,rs⟩:=r
    simp only at hps
    rw [hd,List.find?_cons] at hF
    have k1:∀ (A:AObj),(g++[A])[g.length]? =some A:=fun A=>getA0 rfl
    have k2:∀ (A B:AObj),(g++[A]).set g.length B=g++[B]:=fun A B=>setA0 rfl
    by_cases he:eqS nm op=true
    ·have:R=some ⟨nm,ps,rs⟩:=by rw [←hF];simp only [he]
     subst this
     repeat' (first
      |(with_reducible first|refine nx ?_|refine t_seq fun K=>?_|refine t_br (fun hc=>?_) fun hc=>?_|refine t_bx ?_|apply And.intro|intro vr)
      |((with_reducible first|refine ny ?_|refine t_dwh (h:=fun K KL=>?_));intros;simp only [go_sem,geff,g1,Int.toNat_natCast,g3,rowCells_len,g2,rowC,yes_def,need_def,k1,k2,he,con84_f,con85_f,con85_c,slS_sl,typesV]))
     all_goals try exact om
     refine end_ret rfl ?_
     simp only [fin,go_sem]
     exact LeA.refl _
    ·have he':eqS nm op=false:=by simpa using he
     have hF':(rowsL.drop (i+1)).find? (fun r=>eqS r.op op)=R:=by rw [←hF];simp only [he']
     repeat' (first
      |(with_reducible first|refine nx ?_|refine t_seq fun K=>?_|refine t_br (fun hc=>?_) fun hc=>?_|refine t_bx ?_|apply And.intro|intro vr)
      |((with_reducible first|refine ny ?_|refine t_dwh (h:=fun K KL=>?_));intros;simp only [go_sem,geff,g1,Int.toNat_natCast,g3,rowCells_len,g2,rowC,yes_def,need_def,k1,k2,he',con84_f,con85_f,con85_c,slS_sl]))
     all_goals try exact om
     refine ⟨(⟨i+1,by omega,hF'⟩,g++[.box 122 [.lit (.string nm),.sl true 1 (strs ps),.lit (.string rs)]]),by simp only;omega,?_⟩
     (refine Le.frame ?_;repeat' (first|exact leF_top _|(with_reducible refine leF_sl ?_ ?_)|(refine leF_upd (LeR.of_eq ?_) ?_)))<;>(try (simp only [go_sem];try rfl))
   ·have g1:decide ((i:Int)<22)=false:=decide_eq_false (by omega)
    have:i=22:=by omega
    subst this
    have:R=none:=by rw [←hF];rfl
    subst this
    repeat' (first
     |(with_reducible first|refine nx ?_|refine t_seq fun K=>?_|refine t_br (fun hc=>?_) fun hc=>?_|refine t_bx ?_|apply And.intro|intro vr)
     |((with_reducible first|refine ny ?_|refine t_dwh (h:=fun K KL=>?_));intros;simp only [go_sem,geff,g1,typesV]))
    refine end_ret rfl ?_
    simp only [fin,go_sem]
    exact LeA.refl _
theorem eqS_comm (a b:ByteArray):eqS a b=eqS b a:=by
  by_cases h:eqS a b=true
  ·rw [h,eqS_iff.1 h];exact (eqS_refl b).symm
  ·have: ¬ eqS b a=true:=fun e=>h (by rw [eqS_iff.1 e];exact eqS_refl a)
   simp only [Bool.not_eq_true] at h this
   rw [h,this]
set_option maxHeartbeats 4000000 in
theorem rtypes_pc {op:ByteArray}:PC Tryz.prog 44 [.lit (.string op)] (typesV (typesS op)):=by
  by_cases h0:op=(⟨#[97,100,100]⟩:ByteArray)
  ·subst h0
   refine pcO E0_ok (fun _=>[0,2,3,4,5,6,15,20,26,30,35,38,41]) Tryz.func44 (h:=fun KF=>?_)
   unfold E0
   repeat' (first
    |(with_reducible first|refine nx ?_|refine t_seq fun K=>?_|refine t_br (fun hc=>?_) fun hc=>?_|refine t_bx ?_|apply And.intro|intro vr)
    |((with_reducible first|refine ny ?_|refine t_dwh (h:=fun K KL=>?_));intros;simp only [go_sem,geff]))
   all_goals try exact om
   refine end_ret rfl ?_
   simp only [fin,go_sem]
   exact LeA.tup ⟨LeA.full true 1 _,LeA.refl _,LeA.refl _,trivial⟩
  have z0:eqS op (⟨#[97,100,100]⟩:ByteArray)=false:=Bool.eq_false_iff.2 fun e=>h0 (eqS_iff.1 e)
  by_cases h1:op=(⟨#[115,117,98]⟩:ByteArray)
  ·subst h1
   refine pcO E0_ok (fun _=>[0,2,3,4,5,6,15,20,26,30,35,38,41]) Tryz.func44 (h:=fun KF=>?_)
   unfold E0
   repeat' (first
    |(with_reducible first|refine nx ?_|refine t_seq fun K=>?_|refine t_br (fun hc=>?_) fun hc=>?_|refine t_bx ?_|apply And.intro|intro vr)
    |((with_reducible first|refine ny ?_|refine t_dwh (h:=fun K KL=>?_));intros;simp only [go_sem,geff]))
   all_goals try exact om
   refine end_ret rfl ?_
   simp only [fin,go_sem]
   exact LeA.tup ⟨LeA.full true 1 _,LeA.refl _,LeA.refl _,trivial⟩
  have z1:eqS op (⟨#[115,117,98]⟩:ByteArray)=false:=Bool.eq_false_iff.2 fun e=>h1 (eqS_iff.1 e)
  by_cases h2:op=(⟨#[109,117,108]⟩:ByteArray)
  ·subst h2
   refine pcO E0_ok (fun _=>[0,2,3,4,5,6,15,20,26,30,35,38,41]) Tryz.func44 (h:=fun KF=>?_)
   unfold E0
   repeat' (first
    |(with_reducible first|refine nx ?_|refine t_seq fun K=>?_|refine t_br (fun hc=>?_) fun hc=>?_|refine t_bx ?_|apply And.intro|intro vr)
    |((with_reducible first|refine ny ?_|refine t_dwh (h:=fun K KL=>?_));intros;simp only [go_sem,geff]))
   all_goals try exact om
   refine end_ret rfl ?_
   simp only [fin,go_sem]
   exact LeA.tup ⟨LeA.full true 1 _,LeA.refl _,LeA.refl _,trivial⟩
  have z2:eqS op (⟨#[109,117,108]⟩:ByteArray)=false:=Bool.eq_false_iff.2 fun e=>h2 (eqS_iff.1 e)
  by_cases h3:op=(⟨#[100,105,118]⟩:ByteArray)
  ·subst h3
   refine pcO E0_ok (fun _=>[0,2,3,4,5,6,15,20,26,30,35,38,41]) Tryz.func44 (h:=fun KF=>?_)
   unfold E0
   repeat' (first
    |(with_reducible first|refine nx ?_|refine t_seq fun K=>?_|refine t_br (fun hc=>?_) fun hc=>?_|refine t_bx ?_|apply And.intro|intro vr)
    |((with_reducible first|refine ny ?_|refine t_dwh (h:=fun K KL=>?_));intros;simp only [go_sem,geff]))
   all_goals try exact om
   refine end_ret rfl ?_
   simp only [fin,go_sem]
   exact LeA.tup ⟨LeA.full true 1 _,LeA.refl _,LeA.refl _,trivial⟩
  have z3:eqS op (⟨#[100,105,118]⟩:ByteArray)=false:=Bool.eq_false_iff.2 fun e=>h3 (eqS_iff.1 e)
  by_cases h4:op=(⟨#[109,111,100]⟩:ByteArray)
  ·subst h4
   refine pcO E0_ok (fun _=>[0,2,3,4,5,6,15,20,26,30,35,38,41]) Tryz.func44 (h:=fun KF=>?_)
   unfold E0
   repeat' (first
    |(with_reducible first|refine nx ?_|refine t_seq fun K=>?_|refine t_br (fun hc=>?_) fun hc=>?_|refine t_bx ?_|apply And.intro|intro vr)
    |((with_reducible first|refine ny ?_|refine t_dwh (h:=fun K KL=>?_));intros;simp only [go_sem,geff]))
   all_goals try exact om
   refine end_ret rfl ?_
   simp only [fin,go_sem]
   exact LeA.tup ⟨LeA.full true 1 _,LeA.refl _,LeA.refl _,trivial⟩
  have z4:eqS op (⟨#[109,111,100]⟩:ByteArray)=false:=Bool.eq_false_iff.2 fun e=>h4 (eqS_iff.1 e)
  by_cases h5:op=(⟨#[109,105,110]⟩:ByteArray)
  ·subst h5
   refine pcO E0_ok (fun _=>[0,2,3,4,5,6,15,20,26,30,35,38,41]) Tryz.func44 (h:=fun KF=>?_)
   unfold E0
   repeat' (first
    |(with_reducible first|refine nx ?_|refine t_seq fun K=>?_|refine t_br (fun hc=>?_) fun hc=>?_|refine t_bx ?_|apply And.intro|intro vr)
    |((with_reducible first|refine ny ?_|refine t_dwh (h:=fun K KL=>?_));intros;simp only [go_sem,geff]))
   all_goals try exact om
   refine end_ret rfl ?_
   simp only [fin,go_sem]
   exact LeA.tup ⟨LeA.full true 1 _,LeA.refl _,LeA.refl _,trivial⟩
  have z5:eqS op (⟨#[109,105,110]⟩:ByteArray)=false:=Bool.eq_false_iff.2 fun e=>h5 (eqS_iff.1 e)
  by_cases h6:op=(⟨#[109,97,120]⟩:ByteArray)
  ·subst h6
   refine pcO E0_ok (fun _=>[0,2,3,4,5,6,15,20,26,30,35,38,41]) Tryz.func44 (h:=fun KF=>?_)
   unfold E0
   repeat' (first
    |(with_reducible first|refine nx ?_|refine t_seq fun K=>?_|refine t_br (fun hc=>?_) fun hc=>?_|refine t_bx ?_|apply And.intro|intro vr)
    |((with_reducible first|refine ny ?_|refine t_dwh (h:=fun K KL=>?_));intros;simp only [go_sem,geff]))
   all_goals try exact om
   refine end_ret rfl ?_
   simp only [fin,go_sem]
   exact LeA.tup ⟨LeA.full true 1 _,LeA.refl _,LeA.refl _,trivial⟩
  have z6:eqS op (⟨#[109,97,120]⟩:ByteArray)=false:=Bool.eq_false_iff.2 fun e=>h6 (eqS_iff.1 e)
  by_cases h7:op=(⟨#[110,101,103]⟩:ByteArray)
  ·subst h7
   refine pcO E0_ok (fun _=>[0,2,3,4,5,6,15,20,26,30,35,38,41]) Tryz.func44 (h:=fun KF=>?_)
   unfold E0
   repeat' (first
    |(with_reducible first|refine nx ?_|refine t_seq fun K=>?_|refine t_br (fun hc=>?_) fun hc=>?_|refine t_bx ?_|apply And.intro|intro vr)
    |((with_reducible first|refine ny ?_|refine t_dwh (h:=fun K KL=>?_));intros;simp only [go_sem,geff]))
   all_goals try exact om
   refine end_ret rfl ?_
   simp only [fin,go_sem]
   exact LeA.tup ⟨LeA.full true 1 _,LeA.refl _,LeA.refl _,trivial⟩
  have z7:eqS op (⟨#[110,101,103]⟩:ByteArray)=false:=Bool.eq_false_iff.2 fun e=>h7 (eqS_iff.1 e)
  by_cases h8:op=(⟨#[97,98,115]⟩:ByteArray)
  ·subst h8
   refine pcO E0_ok (fun _=>[0,2,3,4,5,6,15,20,26,30,35,38,41]) Tryz.func44 (h:=fun KF=>?_)
   unfold E0
   repeat' (first
    |(with_reducible first|refine nx ?_|refine t_seq fun K=>?_|refine t_br (fun hc=>?_) fun hc=>?_|refine t_bx ?_|apply And.intro|intro vr)
    |((with_reducible first|refine ny ?_|refine t_dwh (h:=fun K KL=>?_));intros;simp only [go_sem,geff]))
   all_goals try exact om
   refine end_ret rfl ?_
   simp only [fin,go_sem]
   exact LeA.tup ⟨LeA.full true 1 _,LeA.refl _,LeA.refl _,trivial⟩
  have z8:eqS op (⟨#[97,98,115]⟩:ByteArray)=false:=Bool.eq_false_iff.2 fun e=>h8 (eqS_iff.1 e)
  by_cases h9:op=(⟨#[115,105,103,110]⟩:ByteArray)
  ·subst h9
   refine pcO E0_ok (fun _=>[0,2,3,4,5,6,15,20,26,30,35,38,41]) Tryz.func44 (h:=fun KF=>?_)
   unfold E0
   repeat' (first
    |(with_reducible first|refine nx ?_|refine t_seq fun K=>?_|refine t_br (fun hc=>?_) fun hc=>?_|refine t_bx ?_|apply And.intro|intro vr)
    |((with_reducible first|refine ny ?_|refine t_dwh (h:=fun K KL=>?_));intros;simp only [go_sem,geff]))
   all_goals try exact om
   refine end_ret rfl ?_
   simp only [fin,go_sem]
   exact LeA.tup ⟨LeA.full true 1 _,LeA.refl _,LeA.refl _,trivial⟩
  have z9:eqS op (⟨#[115,105,103,110]⟩:ByteArray)=false:=Bool.eq_false_iff.2 fun e=>h9 (eqS_iff.1 e)
  by_cases h10:op=(⟨#[108,116]⟩:ByteArray)
  ·subst h10
   refine pcO E0_ok (fun _=>[0,2,3,4,5,6,15,20,26,30,35,38,41]) Tryz.func44 (h:=fun KF=>?_)
   unfold E0
   repeat' (first
    |(with_reducible first|refine nx ?_|refine t_seq fun K=>?_|refine t_br (fun hc=>?_) fun hc=>?_|refine t_bx ?_|apply And.intro|intro vr)
    |((with_reducible first|refine ny ?_|refine t_dwh (h:=fun K KL=>?_));intros;simp only [go_sem,geff]))
   all_goals try exact om
   refine end_ret rfl ?_
   simp only [fin,go_sem]
   exact LeA.tup ⟨LeA.full true 1 _,LeA.refl _,LeA.refl _,trivial⟩
  have z10:eqS op (⟨#[108,116]⟩:ByteArray)=false:=Bool.eq_false_iff.2 fun e=>h10 (eqS_iff.1 e)
  by_cases h11:op=(⟨#[108,101]⟩:ByteArray)
  ·subst h11
   refine pcO E0_ok (fun _=>[0,2,3,4,5,6,15,20,26,30,35,38,41]) Tryz.func44 (h:=fun KF=>?_)
   unfold E0
   repeat' (first
    |(with_reducible first|refine nx ?_|refine t_seq fun K=>?_|refine t_br (fun hc=>?_) fun hc=>?_|refine t_bx ?_|apply And.intro|intro vr)
    |((with_reducible first|refine ny ?_|refine t_dwh (h:=fun K KL=>?_));intros;simp only [go_sem,geff]))
   all_goals try exact om
   refine end_ret rfl ?_
   simp only [fin,go_sem]
   exact LeA.tup ⟨LeA.full true 1 _,LeA.refl _,LeA.refl _,trivial⟩
  have z11:eqS op (⟨#[108,101]⟩:ByteArray)=false:=Bool.eq_false_iff.2 fun e=>h11 (eqS_iff.1 e)
  by_cases h12:op=(⟨#[103,116]⟩:ByteArray)
  ·subst h12
   refine pcO E0_ok (fun _=>[0,2,3,4,5,6,15,20,26,30,35,38,41]) Tryz.func44 (h:=fun KF=>?_)
   unfold E0
   repeat' (first
    |(with_reducible first|refine nx ?_|refine t_seq fun K=>?_|refine t_br (fun hc=>?_) fun hc=>?_|refine t_bx ?_|apply And.intro|intro vr)
    |((with_reducible first|refine ny ?_|refine t_dwh (h:=fun K KL=>?_));intros;simp only [go_sem,geff]))
   all_goals try exact om
   refine end_ret rfl ?_
   simp only [fin,go_sem]
   exact LeA.tup ⟨LeA.full true 1 _,LeA.refl _,LeA.refl _,trivial⟩
  have z12:eqS op (⟨#[103,116]⟩:ByteArray)=false:=Bool.eq_false_iff.2 fun e=>h12 (eqS_iff.1 e)
  by_cases h13:op=(⟨#[103,101]⟩:ByteArray)
  ·subst h13
   refine pcO E0_ok (fun _=>[0,2,3,4,5,6,15,20,26,30,35,38,41]) Tryz.func44 (h:=fun KF=>?_)
   unfold E0
   repeat' (first
    |(with_reducible first|refine nx ?_|refine t_seq fun K=>?_|refine t_br (fun hc=>?_) fun hc=>?_|refine t_bx ?_|apply And.intro|intro vr)
    |((with_reducible first|refine ny ?_|refine t_dwh (h:=fun K KL=>?_));intros;simp only [go_sem,geff]))
   all_goals try exact om
   refine end_ret rfl ?_
   simp only [fin,go_sem]
   exact LeA.tup ⟨LeA.full true 1 _,LeA.refl _,LeA.refl _,trivial⟩
  have z13:eqS op (⟨#[103,101]⟩:ByteArray)=false:=Bool.eq_false_iff.2 fun e=>h13 (eqS_iff.1 e)
  by_cases h14:op=(⟨#[101,113]⟩:ByteArray)
  ·subst h14
   refine pcO E0_ok (fun _=>[0,2,3,4,5,6,15,20,26,30,35,38,41]) Tryz.func44 (h:=fun KF=>?_)
   unfold E0
   repeat' (first
    |(with_reducible first|refine nx ?_|refine t_seq fun K=>?_|refine t_br (fun hc=>?_) fun hc=>?_|refine t_bx ?_|apply And.intro|intro vr)
    |((with_reducible first|refine ny ?_|refine t_dwh (h:=fun K KL=>?_));intros;simp only [go_sem,geff]))
   all_goals try exact om
   refine end_ret rfl ?_
   simp only [fin,go_sem]
   exact LeA.tup ⟨LeA.full true 1 _,LeA.refl _,LeA.refl _,trivial⟩
  have z14:eqS op (⟨#[101,113]⟩:ByteArray)=false:=Bool.eq_false_iff.2 fun e=>h14 (eqS_iff.1 e)
  by_cases h15:op=(⟨#[110,101]⟩:ByteArray)
  ·subst h15
   refine pcO E0_ok (fun _=>[0,2,3,4,5,6,15,20,26,30,35,38,41]) Tryz.func44 (h:=fun KF=>?_)
   unfold E0
   repeat' (first
    |(with_reducible first|refine nx ?_|refine t_seq fun K=>?_|refine t_br (fun hc=>?_) fun hc=>?_|refine t_bx ?_|apply And.intro|intro vr)
    |((with_reducible first|refine ny ?_|refine t_dwh (h:=fun K KL=>?_));intros;simp only [go_sem,geff]))
   all_goals try exact om
   refine end_ret rfl ?_
   simp only [fin,go_sem]
   exact LeA.tup ⟨LeA.full true 1 _,LeA.refl _,LeA.refl _,trivial⟩
  have z15:eqS op (⟨#[110,101]⟩:ByteArray)=false:=Bool.eq_false_iff.2 fun e=>h15 (eqS_iff.1 e)
  by_cases h16:op=(⟨#[97,110,100]⟩:ByteArray)
  ·subst h16
   refine pcO E0_ok (fun _=>[0,2,3,4,5,6,15,20,26,30,35,38,41]) Tryz.func44 (h:=fun KF=>?_)
   unfold E0
   repeat' (first
    |(with_reducible first|refine nx ?_|refine t_seq fun K=>?_|refine t_br (fun hc=>?_) fun hc=>?_|refine t_bx ?_|apply And.intro|intro vr)
    |((with_reducible first|refine ny ?_|refine t_dwh (h:=fun K KL=>?_));intros;simp only [go_sem,geff]))
   all_goals try exact om
   refine end_ret rfl ?_
   simp only [fin,go_sem]
   exact LeA.tup ⟨LeA.full true 1 _,LeA.refl _,LeA.refl _,trivial⟩
  have z16:eqS op (⟨#[97,110,100]⟩:ByteArray)=false:=Bool.eq_false_iff.2 fun e=>h16 (eqS_iff.1 e)
  by_cases h17:op=(⟨#[111,114]⟩:ByteArray)
  ·subst h17
   refine pcO E0_ok (fun _=>[0,2,3,4,5,6,15,20,26,30,35,38,41]) Tryz.func44 (h:=fun KF=>?_)
   unfold E0
   repeat' (first
    |(with_reducible first|refine nx ?_|refine t_seq fun K=>?_|refine t_br (fun hc=>?_) fun hc=>?_|refine t_bx ?_|apply And.intro|intro vr)
    |((with_reducible first|refine ny ?_|refine t_dwh (h:=fun K KL=>?_));intros;simp only [go_sem,geff]))
   all_goals try exact om
   refine end_ret rfl ?_
   simp only [fin,go_sem]
   exact LeA.tup ⟨LeA.full true 1 _,LeA.refl _,LeA.refl _,trivial⟩
  have z17:eqS op (⟨#[111,114]⟩:ByteArray)=false:=Bool.eq_false_iff.2 fun e=>h17 (eqS_iff.1 e)
  by_cases h18:op=(⟨#[120,111,114]⟩:ByteArray)
  ·subst h18
   refine pcO E0_ok (fun _=>[0,2,3,4,5,6,15,20,26,30,35,38,41]) Tryz.func44 (h:=fun KF=>?_)
   unfold E0
   repeat' (first
    |(with_reducible first|refine nx ?_|refine t_seq fun K=>?_|refine t_br (fun hc=>?_) fun hc=>?_|refine t_bx ?_|apply And.intro|intro vr)
    |((with_reducible first|refine ny ?_|refine t_dwh (h:=fun K KL=>?_));intros;simp only [go_sem,geff]))
   all_goals try exact om
   refine end_ret rfl ?_
   simp only [fin,go_sem]
   exact LeA.tup ⟨LeA.full true 1 _,LeA.refl _,LeA.refl _,trivial⟩
  have z18:eqS op (⟨#[120,111,114]⟩:ByteArray)=false:=Bool.eq_false_iff.2 fun e=>h18 (eqS_iff.1 e)
  by_cases h19:op=(⟨#[110,111,116]⟩:ByteArray)
  ·subst h19
   refine pcO E0_ok (fun _=>[0,2,3,4,5,6,15,20,26,30,35,38,41]) Tryz.func44 (h:=fun KF=>?_)
   unfold E0
   repeat' (first
    |(with_reducible first|refine nx ?_|refine t_seq fun K=>?_|refine t_br (fun hc=>?_) fun hc=>?_|refine t_bx ?_|apply And.intro|intro vr)
    |((with_reducible first|refine ny ?_|refine t_dwh (h:=fun K KL=>?_));intros;simp only [go_sem,geff]))
   all_goals try exact om
   refine end_ret rfl ?_
   simp only [fin,go_sem]
   exact LeA.tup ⟨LeA.full true 1 _,LeA.refl _,LeA.refl _,trivial⟩
  have z19:eqS op (⟨#[110,111,116]⟩:ByteArray)=false:=Bool.eq_false_iff.2 fun e=>h19 (eqS_iff.1 e)
  by_cases h20:op=(⟨#[115,101,108,101,99,116]⟩:ByteArray)
  ·subst h20
   refine pcO E0_ok (fun _=>[0,2,3,4,5,6,15,20,26,30,35,38,41]) Tryz.func44 (h:=fun KF=>?_)
   unfold E0
   repeat' (first
    |(with_reducible first|refine nx ?_|refine t_seq fun K=>?_|refine t_br (fun hc=>?_) fun hc=>?_|refine t_bx ?_|apply And.intro|intro vr)
    |((with_reducible first|refine ny ?_|refine t_dwh (h:=fun K KL=>?_));intros;simp only [go_sem,geff]))
   all_goals try exact om
   refine end_ret rfl ?_
   simp only [fin,go_sem]
   exact LeA.tup ⟨LeA.full true 1 _,LeA.refl _,LeA.refl _,trivial⟩
  have z20:eqS op (⟨#[115,101,108,101,99,116]⟩:ByteArray)=false:=Bool.eq_false_iff.2 fun e=>h20 (eqS_iff.1 e)
  by_cases h21:op=(⟨#[116,111,105,110,116]⟩:ByteArray)
  ·subst h21
   refine pcO E0_ok (fun _=>[0,2,3,4,5,6,15,20,26,30,35,38,41]) Tryz.func44 (h:=fun KF=>?_)
   unfold E0
   repeat' (first
    |(with_reducible first|refine nx ?_|refine t_seq fun K=>?_|refine t_br (fun hc=>?_) fun hc=>?_|refine t_bx ?_|apply And.intro|intro vr)
    |((with_reducible first|refine ny ?_|refine t_dwh (h:=fun K KL=>?_));intros;simp only [go_sem,geff]))
   all_goals try exact om
   refine end_ret rfl ?_
   simp only [fin,go_sem]
   exact LeA.tup ⟨LeA.full true 1 _,LeA.refl _,LeA.refl _,trivial⟩
  have z21:eqS op (⟨#[116,111,105,110,116]⟩:ByteArray)=false:=Bool.eq_false_iff.2 fun e=>h21 (eqS_iff.1 e)
  have hN:typesS op=none:=by
    unfold typesS
    rw [List.find?_eq_none]
    intro r hr
    rw [eqS_comm]
    have:r=rowsL.getD 0 default∨r=rowsL.getD 1 default∨r=rowsL.getD 2 default∨r=rowsL.getD 3 default∨r=rowsL.getD 4 default∨r=rowsL.getD 5 default∨r=rowsL.getD 6 default∨r=rowsL.getD 7 default∨r=rowsL.getD 8 default∨r=rowsL.getD 9 default∨r=rowsL.getD 10 default∨r=rowsL.getD 11 default∨r=rowsL.getD 12 default∨r=rowsL.getD 13 default∨r=rowsL.getD 14 default∨r=rowsL.getD 15 default∨r=rowsL.getD 16 default∨r=rowsL.getD 17 default∨r=rowsL.getD 18 default∨r=rowsL.getD 19 default∨r=rowsL.getD 20 default∨r=rowsL.getD 21 default:=by
      simp only [rowsL,List.mem_cons,List.mem_nil_iff,or_false] at hr
      exact hr
    rcases this with rfl|rfl|rfl|rfl|rfl|rfl|rfl|rfl|rfl|rfl|rfl|rfl|rfl|rfl|rfl|rfl|rfl|rfl|rfl|rfl|rfl|rfl<;>simp only [Bool.not_eq_true]
    all_goals first|exact z0|exact z1|exact z2|exact z3|exact z4|exact z5|exact z6|exact z7|exact z8|exact z9|exact z10|exact z11|exact z12|exact z13|exact z14|exact z15|exact z16|exact z17|exact z18|exact z19|exact z20|exact z21
  rw [hN]
  refine pcO E0_ok (fun _=>[0,2,3,4,5,6,15,20,26,30,35,38,41]) Tryz.func44 (h:=fun KF=>?_)
  unfold E0
  repeat' (first
   |(with_reducible first|refine nx ?_|refine t_seq fun K=>?_|refine t_br (fun hc=>?_) fun hc=>?_|refine t_bx ?_|apply And.intro|intro vr)
   |((with_reducible first|refine ny ?_|refine t_dwh (h:=fun K KL=>?_));intros;simp only [go_sem,geff,z0,z1,z2,z3,z4,z5,z6,z7,z8,z9,z10,z11,z12,z13,z14,z15,z16,z17,z18,z19,z20,z21]))
  refine end_ret rfl ?_
  simp only [fin,go_sem]
  exact LeA.refl _
end Go.Proofs.YtcpjahmajkhchaaGreat.El

namespace Go.Proofs.YtcpjahmajkhchaaGreat.El
open Go.Proofs.YtcpjahmajkhchaaGreat
open Go Go.Fw
set_option maxRecDepth 20000
theorem vld_int {n:Int}:vld sInt n=true ↔ el n:=by
  unfold vld el
  rw [if_pos (eqS_refl _)]
  simp
theorem vld_bool {n:Int}:vld sBool n=true ↔ n=0∨n=1:=by
  unfold vld
  rw [if_neg (show ¬ eqS sBool sInt=true by decide),if_pos (eqS_refl _)]
  simp
theorem flo_spec {a b:Int} (hb:b≠0):(0<b→0≤a - b*flo a b∧a - b*flo a b<b)∧(b<0→a - b*flo a b≤0∧b<a - b*flo a b):=by
  have e:=Int.mul_tdiv_add_tmod a b
  have p1:0≤a→0≤a.tmod b:=Int.tmod_nonneg b
  have p2:a≤0→a.tmod b≤0:=fun h=>by
    have:=Int.tmod_nonneg b (show 0≤ -a by omega)
    rw [Int.neg_tmod] at this
    omega
  have p3:(a.tmod b).natAbs<b.natAbs:=by
    rw [Int.natAbs_tmod]
    exact Nat.mod_lt _ (by omega)
  unfold flo
  rw [if_neg hb]
  have e2:b*(a.tdiv b - 1)=b*a.tdiv b - b:=by rw [Int.mul_sub,Int.mul_one]
  by_cases h0:a.tmod b=0
  ·rw [if_neg (fun h=>h.1 h0)]
   constructor<;>intro h<;>omega
  ·by_cases h1:decide (a<0)=decide (b<0)
   ·rw [if_neg (fun h=>h.2 h1)]
    have h2:a<0 ↔ b<0:=decide_eq_decide.1 h1
    constructor<;>intro h<;>omega
   ·rw [if_pos ⟨h0,h1⟩,e2]
    have h2: ¬ (a<0 ↔ b<0):=fun h=>h1 (by rw [decide_eq_decide];exact h)
    constructor<;>intro h<;>omega
def vS:Nat→List Int→Int
  |0,[a,b]=>w32 (a+b)
  |1,[a,b]=>w32 (a - b)
  |2,[a,b]=>w32 (a*b)
  |3,[a,b]=>w32 (flo a b)
  |4,[a,b]=>if b=0 then 0 else a - b*flo a b
  |5,[a,b]=>minI a b
  |6,[a,b]=>maxI a b
  |7,[a]=>w32 (0 - a)
  |8,[a]=>w32 (maxI a (0 - a))
  |9,[a]=>sgn a
  |10,[a,b]=>tru (decide (a<b))
  |11,[a,b]=>tru (decide (a≤b))
  |12,[a,b]=>tru (decide (a>b))
  |13,[a,b]=>tru (decide (a≥b))
  |14,[a,b]=>tru (a==b)
  |15,[a,b]=>tru (a !=b)
  |16,[a,b]=>minI a b
  |17,[a,b]=>maxI a b
  |18,[a,b]=>if a=b then 0 else 1
  |19,[a]=>1 - a
  |20,[a,b,c]=>if a=1 then b else c
  |21,[a]=>a
  |_,_=>0
def elT (s:ByteArray):ByteArray:=if eqS s sA=true then sInt else s
def okA (ps:List ByteArray) (xs:List Int):Bool:=(ps.zip xs).all fun p=>vld (elT p.1) p.2
def psN (i:Nat):List ByteArray:=(rowsL.getD i default).ps
def okL (i:Nat) (xs:List Int):Prop:=xs.length=(psN i).length∧okA (psN i) xs=true
def rowIx (op:ByteArray):Option Nat:=(List.range 22).find? fun i=>eqS (rowsL.getD i default).op op
theorem ix_cases (op:ByteArray):(∃ i,i<22∧op=(rowsL.getD i default).op∧rowIx op=some i∧typesS op=some (rowsL.getD i default))∨(rowIx op=none∧typesS op=none):=by
  by_cases h:∃ i,i<22∧op=(rowsL.getD i default).op
  ·left
   obtain ⟨i,hi,rfl⟩:=h
   refine ⟨i,hi,rfl,?_⟩
   have:i=0∨i=1∨i=2∨i=3∨i=4∨i=5∨i=6∨i=7∨i=8∨i=9∨i=10∨i=11∨i=12∨i=13∨i=14∨i=15∨i=16∨i=17∨i=18∨i=19∨i=20∨i=21:=by omega
   rcases this with rfl|rfl|rfl|rfl|rfl|rfl|rfl|rfl|rfl|rfl|rfl|rfl|rfl|rfl|rfl|rfl|rfl|rfl|rfl|rfl|rfl|rfl
   all_goals exact ⟨rfl,rfl⟩
  ·right
   constructor
   ·unfold rowIx
    rw [List.find?_eq_none]
    intro i hi he
    exact h ⟨i,by simpa using hi,(eqS_iff.1 he).symm⟩
   ·unfold typesS
    rw [List.find?_eq_none]
    intro r hr he
    obtain ⟨i,hi,rfl⟩:=List.mem_iff_getElem.1 hr
    rw [rows_len] at hi
    exact h ⟨i,hi,by rw [getD_elem _ _ (by rw [rows_len];exact hi)];exact (eqS_iff.1 he).symm⟩
theorem okL_0 {xs:List Int}:okL 0 xs ↔ ∃ a b,xs=[a,b]∧el a∧el b:=by
  constructor
  ·rintro ⟨h1,h2⟩
   match xs,h1,h2 with
   |[a,b],_,h2=>
    refine ⟨a,b,rfl,?_⟩
    simp only [okA,psN,rowsL,List.getD_cons_zero,List.getD_cons_succ,List.zip_cons_cons,List.zip_nil_right,List.zip_nil_left,List.all_cons,List.all_nil,Bool.and_true,Bool.and_eq_true] at h2
    exact ⟨vld_int.1 h2.1,vld_int.1 h2.2⟩
  ·rintro ⟨a,b,rfl,h0,h1⟩
   refine ⟨rfl,?_⟩
   simp only [okA,psN,rowsL,List.getD_cons_zero,List.getD_cons_succ,List.zip_cons_cons,List.zip_nil_right,List.zip_nil_left,List.all_cons,List.all_nil,Bool.and_true,Bool.and_eq_true]
   exact ⟨vld_int.2 h0,vld_int.2 h1⟩
theorem okL_1 {xs:List Int}:okL 1 xs ↔ ∃ a b,xs=[a,b]∧el a∧el b:=by
  constructor
  ·rintro ⟨h1,h2⟩
   match xs,h1,h2 with
   |[a,b],_,h2=>
    refine ⟨a,b,rfl,?_⟩
    simp only [okA,psN,rowsL,List.getD_cons_zero,List.getD_cons_succ,List.zip_cons_cons,List.zip_nil_right,List.zip_nil_left,List.all_cons,List.all_nil,Bool.and_true,Bool.and_eq_true] at h2
    exact ⟨vld_int.1 h2.1,vld_int.1 h2.2⟩
  ·rintro ⟨a,b,rfl,h0,h1⟩
   refine ⟨rfl,?_⟩
   simp only [okA,psN,rowsL,List.getD_cons_zero,List.getD_cons_succ,List.zip_cons_cons,List.zip_nil_right,List.zip_nil_left,List.all_cons,List.all_nil,Bool.and_true,Bool.and_eq_true]
   exact ⟨vld_int.2 h0,vld_int.2 h1⟩
theorem okL_2 {xs:List Int}:okL 2 xs ↔ ∃ a b,xs=[a,b]∧el a∧el b:=by
  constructor
  ·rintro ⟨h1,h2⟩
   match xs,h1,h2 with
   |[a,b],_,h2=>
    refine ⟨a,b,rfl,?_⟩
    simp only [okA,psN,rowsL,List.getD_cons_zero,List.getD_cons_succ,List.zip_cons_cons,List.zip_nil_right,List.zip_nil_left,List.all_cons,List.all_nil,Bool.and_true,Bool.and_eq_true] at h2
    exact ⟨vld_int.1 h2.1,vld_int.1 h2.2⟩
  ·rintro ⟨a,b,rfl,h0,h1⟩
   refine ⟨rfl,?_⟩
   simp only [okA,psN,rowsL,List.getD_cons_zero,List.getD_cons_succ,List.zip_cons_cons,List.zip_nil_right,List.zip_nil_left,List.all_cons,List.all_nil,Bool.and_true,Bool.and_eq_true]
   exact ⟨vld_int.2 h0,vld_int.2 h1⟩
theorem okL_3 {xs:List Int}:okL 3 xs ↔ ∃ a b,xs=[a,b]∧el a∧el b:=by
  constructor
  ·rintro ⟨h1,h2⟩
   match xs,h1,h2 with
   |[a,b],_,h2=>
    refine ⟨a,b,rfl,?_⟩
    simp only [okA,psN,rowsL,List.getD_cons_zero,List.getD_cons_succ,List.zip_cons_cons,List.zip_nil_right,List.zip_nil_left,List.all_cons,List.all_nil,Bool.and_true,Bool.and_eq_true] at h2
    exact ⟨vld_int.1 h2.1,vld_int.1 h2.2⟩
  ·rintro ⟨a,b,rfl,h0,h1⟩
   refine ⟨rfl,?_⟩
   simp only [okA,psN,rowsL,List.getD_cons_zero,List.getD_cons_succ,List.zip_cons_cons,List.zip_nil_right,List.zip_nil_left,List.all_cons,List.all_nil,Bool.and_true,Bool.and_eq_true]
   exact ⟨vld_int.2 h0,vld_int.2 h1⟩
theorem okL_4 {xs:List Int}:okL 4 xs ↔ ∃ a b,xs=[a,b]∧el a∧el b:=by
  constructor
  ·rintro ⟨h1,h2⟩
   match xs,h1,h2 with
   |[a,b],_,h2=>
    refine ⟨a,b,rfl,?_⟩
    simp only [okA,psN,rowsL,List.getD_cons_zero,List.getD_cons_succ,List.zip_cons_cons,List.zip_nil_right,List.zip_nil_left,List.all_cons,List.all_nil,Bool.and_true,Bool.and_eq_true] at h2
    exact ⟨vld_int.1 h2.1,vld_int.1 h2.2⟩
  ·rintro ⟨a,b,rfl,h0,h1⟩
   refine ⟨rfl,?_⟩
   simp only [okA,psN,rowsL,List.getD_cons_zero,List.getD_cons_succ,List.zip_cons_cons,List.zip_nil_right,List.zip_nil_left,List.all_cons,List.all_nil,Bool.and_true,Bool.and_eq_true]
   exact ⟨vld_int.2 h0,vld_int.2 h1⟩
theorem okL_5 {xs:List Int}:okL 5 xs ↔ ∃ a b,xs=[a,b]∧el a∧el b:=by
  constructor
  ·rintro ⟨h1,h2⟩
   match xs,h1,h2 with
   |[a,b],_,h2=>
    refine ⟨a,b,rfl,?_⟩
    simp only [okA,psN,rowsL,List.getD_cons_zero,List.getD_cons_succ,List.zip_cons_cons,List.zip_nil_right,List.zip_nil_left,List.all_cons,List.all_nil,Bool.and_true,Bool.and_eq_true] at h2
    exact ⟨vld_int.1 h2.1,vld_int.1 h2.2⟩
  ·rintro ⟨a,b,rfl,h0,h1⟩
   refine ⟨rfl,?_⟩
   simp only [okA,psN,rowsL,List.getD_cons_zero,List.getD_cons_succ,List.zip_cons_cons,List.zip_nil_right,List.zip_nil_left,List.all_cons,List.all_nil,Bool.and_true,Bool.and_eq_true]
   exact ⟨vld_int.2 h0,vld_int.2 h1⟩
theorem okL_6 {xs:List Int}:okL 6 xs ↔ ∃ a b,xs=[a,b]∧el a∧el b:=by
  constructor
  ·rintro ⟨h1,h2⟩
   match xs,h1,h2 with
   |[a,b],_,h2=>
    refine ⟨a,b,rfl,?_⟩
    simp only [okA,psN,rowsL,List.getD_cons_zero,List.getD_cons_succ,List.zip_cons_cons,List.zip_nil_right,List.zip_nil_left,List.all_cons,List.all_nil,Bool.and_true,Bool.and_eq_true] at h2
    exact ⟨vld_int.1 h2.1,vld_int.1 h2.2⟩
  ·rintro ⟨a,b,rfl,h0,h1⟩
   refine ⟨rfl,?_⟩
   simp only [okA,psN,rowsL,List.getD_cons_zero,List.getD_cons_succ,List.zip_cons_cons,List.zip_nil_right,List.zip_nil_left,List.all_cons,List.all_nil,Bool.and_true,Bool.and_eq_true]
   exact ⟨vld_int.2 h0,vld_int.2 h1⟩
theorem okL_7 {xs:List Int}:okL 7 xs ↔ ∃ a,xs=[a]∧el a:=by
  constructor
  ·rintro ⟨h1,h2⟩
   match xs,h1,h2 with
   |[a],_,h2=>
    refine ⟨a,rfl,?_⟩
    simp only [okA,psN,rowsL,List.getD_cons_zero,List.getD_cons_succ,List.zip_cons_cons,List.zip_nil_right,List.zip_nil_left,List.all_cons,List.all_nil,Bool.and_true,Bool.and_eq_true] at h2
    exact vld_int.1 h2
  ·rintro ⟨a,rfl,h0⟩
   refine ⟨rfl,?_⟩
   simp only [okA,psN,rowsL,List.getD_cons_zero,List.getD_cons_succ,List.zip_cons_cons,List.zip_nil_right,List.zip_nil_left,List.all_cons,List.all_nil,Bool.and_true,Bool.and_eq_true]
   exact vld_int.2 h0
theorem okL_8 {xs:List Int}:okL 8 xs ↔ ∃ a,xs=[a]∧el a:=by
  constructor
  ·rintro ⟨h1,h2⟩
   match xs,h1,h2 with
   |[a],_,h2=>
    refine ⟨a,rfl,?_⟩
    simp only [okA,psN,rowsL,List.getD_cons_zero,List.getD_cons_succ,List.zip_cons_cons,List.zip_nil_right,List.zip_nil_left,List.all_cons,List.all_nil,Bool.and_true,Bool.and_eq_true] at h2
    exact vld_int.1 h2
  ·rintro ⟨a,rfl,h0⟩
   refine ⟨rfl,?_⟩
   simp only [okA,psN,rowsL,List.getD_cons_zero,List.getD_cons_succ,List.zip_cons_cons,List.zip_nil_right,List.zip_nil_left,List.all_cons,List.all_nil,Bool.and_true,Bool.and_eq_true]
   exact vld_int.2 h0
theorem okL_9 {xs:List Int}:okL 9 xs ↔ ∃ a,xs=[a]∧el a:=by
  constructor
  ·rintro ⟨h1,h2⟩
   match xs,h1,h2 with
   |[a],_,h2=>
    refine ⟨a,rfl,?_⟩
    simp only [okA,psN,rowsL,List.getD_cons_zero,List.getD_cons_succ,List.zip_cons_cons,List.zip_nil_right,List.zip_nil_left,List.all_cons,List.all_nil,Bool.and_true,Bool.and_eq_true] at h2
    exact vld_int.1 h2
  ·rintro ⟨a,rfl,h0⟩
   refine ⟨rfl,?_⟩
   simp only [okA,psN,rowsL,List.getD_cons_zero,List.getD_cons_succ,List.zip_cons_cons,List.zip_nil_right,List.zip_nil_left,List.all_cons,List.all_nil,Bool.and_true,Bool.and_eq_true]
   exact vld_int.2 h0
theorem okL_10 {xs:List Int}:okL 10 xs ↔ ∃ a b,xs=[a,b]∧el a∧el b:=by
  constructor
  ·rintro ⟨h1,h2⟩
   match xs,h1,h2 with
   |[a,b],_,h2=>
    refine ⟨a,b,rfl,?_⟩
    simp only [okA,psN,rowsL,List.getD_cons_zero,List.getD_cons_succ,List.zip_cons_cons,List.zip_nil_right,List.zip_nil_left,List.all_cons,List.all_nil,Bool.and_true,Bool.and_eq_true] at h2
    exact ⟨vld_int.1 h2.1,vld_int.1 h2.2⟩
  ·rintro ⟨a,b,rfl,h0,h1⟩
   refine ⟨rfl,?_⟩
   simp only [okA,psN,rowsL,List.getD_cons_zero,List.getD_cons_succ,List.zip_cons_cons,List.zip_nil_right,List.zip_nil_left,List.all_cons,List.all_nil,Bool.and_true,Bool.and_eq_true]
   exact ⟨vld_int.2 h0,vld_int.2 h1⟩
theorem okL_11 {xs:List Int}:okL 11 xs ↔ ∃ a b,xs=[a,b]∧el a∧el b:=by
  constructor
  ·rintro ⟨h1,h2⟩
   match xs,h1,h2 with
   |[a,b],_,h2=>
    refine ⟨a,b,rfl,?_⟩
    simp only [okA,psN,rowsL,List.getD_cons_zero,List.getD_cons_succ,List.zip_cons_cons,List.zip_nil_right,List.zip_nil_left,List.all_cons,List.all_nil,Bool.and_true,Bool.and_eq_true] at h2
    exact ⟨vld_int.1 h2.1,vld_int.1 h2.2⟩
  ·rintro ⟨a,b,rfl,h0,h1⟩
   refine ⟨rfl,?_⟩
   simp only [okA,psN,rowsL,List.getD_cons_zero,List.getD_cons_succ,List.zip_cons_cons,List.zip_nil_right,List.zip_nil_left,List.all_cons,List.all_nil,Bool.and_true,Bool.and_eq_true]
   exact ⟨vld_int.2 h0,vld_int.2 h1⟩
theorem okL_12 {xs:List Int}:okL 12 xs ↔ ∃ a b,xs=[a,b]∧el a∧el b:=by
  constructor
  ·rintro ⟨h1,h2⟩
   match xs,h1,h2 with
   |[a,b],_,h2=>
    refine ⟨a,b,rfl,?_⟩
    simp only [okA,psN,rowsL,List.getD_cons_zero,List.getD_cons_succ,List.zip_cons_cons,List.zip_nil_right,List.zip_nil_left,List.all_cons,List.all_nil,Bool.and_true,Bool.and_eq_true] at h2
    exact ⟨vld_int.1 h2.1,vld_int.1 h2.2⟩
  ·rintro ⟨a,b,rfl,h0,h1⟩
   refine ⟨rfl,?_⟩
   simp only [okA,psN,rowsL,List.getD_cons_zero,List.getD_cons_succ,List.zip_cons_cons,List.zip_nil_right,List.zip_nil_left,List.all_cons,List.all_nil,Bool.and_true,Bool.and_eq_true]
   exact ⟨vld_int.2 h0,vld_int.2 h1⟩
theorem okL_13 {xs:List Int}:okL 13 xs ↔ ∃ a b,xs=[a,b]∧el a∧el b:=by
  constructor
  ·rintro ⟨h1,h2⟩
   match xs,h1,h2 with
   |[a,b],_,h2=>
    refine ⟨a,b,rfl,?_⟩
    simp only [okA,psN,rowsL,List.getD_cons_zero,List.getD_cons_succ,List.zip_cons_cons,List.zip_nil_right,List.zip_nil_left,List.all_cons,List.all_nil,Bool.and_true,Bool.and_eq_true] at h2
    exact ⟨vld_int.1 h2.1,vld_int.1 h2.2⟩
  ·rintro ⟨a,b,rfl,h0,h1⟩
   refine ⟨rfl,?_⟩
   simp only [okA,psN,rowsL,List.getD_cons_zero,List.getD_cons_succ,List.zip_cons_cons,List.zip_nil_right,List.zip_nil_left,List.all_cons,List.all_nil,Bool.and_true,Bool.and_eq_true]
   exact ⟨vld_int.2 h0,vld_int.2 h1⟩
theorem okL_14 {xs:List Int}:okL 14 xs ↔ ∃ a b,xs=[a,b]∧el a∧el b:=by
  constructor
  ·rintro ⟨h1,h2⟩
   match xs,h1,h2 with
   |[a,b],_,h2=>
    refine ⟨a,b,rfl,?_⟩
    simp only [okA,psN,rowsL,List.getD_cons_zero,List.getD_cons_succ,List.zip_cons_cons,List.zip_nil_right,List.zip_nil_left,List.all_cons,List.all_nil,Bool.and_true,Bool.and_eq_true] at h2
    exact ⟨vld_int.1 h2.1,vld_int.1 h2.2⟩
  ·rintro ⟨a,b,rfl,h0,h1⟩
   refine ⟨rfl,?_⟩
   simp only [okA,psN,rowsL,List.getD_cons_zero,List.getD_cons_succ,List.zip_cons_cons,List.zip_nil_right,List.zip_nil_left,List.all_cons,List.all_nil,Bool.and_true,Bool.and_eq_true]
   exact ⟨vld_int.2 h0,vld_int.2 h1⟩
theorem okL_15 {xs:List Int}:okL 15 xs ↔ ∃ a b,xs=[a,b]∧el a∧el b:=by
  constructor
  ·rintro ⟨h1,h2⟩
   match xs,h1,h2 with
   |[a,b],_,h2=>
    refine ⟨a,b,rfl,?_⟩
    simp only [okA,psN,rowsL,List.getD_cons_zero,List.getD_cons_succ,List.zip_cons_cons,List.zip_nil_right,List.zip_nil_left,List.all_cons,List.all_nil,Bool.and_true,Bool.and_eq_true] at h2
    exact ⟨vld_int.1 h2.1,vld_int.1 h2.2⟩
  ·rintro ⟨a,b,rfl,h0,h1⟩
   refine ⟨rfl,?_⟩
   simp only [okA,psN,rowsL,List.getD_cons_zero,List.getD_cons_succ,List.zip_cons_cons,List.zip_nil_right,List.zip_nil_left,List.all_cons,List.all_nil,Bool.and_true,Bool.and_eq_true]
   exact ⟨vld_int.2 h0,vld_int.2 h1⟩
theorem okL_16 {xs:List Int}:okL 16 xs ↔ ∃ a b,xs=[a,b]∧(a=0∨a=1)∧(b=0∨b=1):=by
  constructor
  ·rintro ⟨h1,h2⟩
   match xs,h1,h2 with
   |[a,b],_,h2=>
    refine ⟨a,b,rfl,?_⟩
    simp only [okA,psN,rowsL,List.getD_cons_zero,List.getD_cons_succ,List.zip_cons_cons,List.zip_nil_right,List.zip_nil_left,List.all_cons,List.all_nil,Bool.and_true,Bool.and_eq_true] at h2
    exact ⟨vld_bool.1 h2.1,vld_bool.1 h2.2⟩
  ·rintro ⟨a,b,rfl,h0,h1⟩
   refine ⟨rfl,?_⟩
   simp only [okA,psN,rowsL,List.getD_cons_zero,List.getD_cons_succ,List.zip_cons_cons,List.zip_nil_right,List.zip_nil_left,List.all_cons,List.all_nil,Bool.and_true,Bool.and_eq_true]
   exact ⟨vld_bool.2 h0,vld_bool.2 h1⟩
theorem okL_17 {xs:List Int}:okL 17 xs ↔ ∃ a b,xs=[a,b]∧(a=0∨a=1)∧(b=0∨b=1):=by
  constructor
  ·rintro ⟨h1,h2⟩
   match xs,h1,h2 with
   |[a,b],_,h2=>
    refine ⟨a,b,rfl,?_⟩
    simp only [okA,psN,rowsL,List.getD_cons_zero,List.getD_cons_succ,List.zip_cons_cons,List.zip_nil_right,List.zip_nil_left,List.all_cons,List.all_nil,Bool.and_true,Bool.and_eq_true] at h2
    exact ⟨vld_bool.1 h2.1,vld_bool.1 h2.2⟩
  ·rintro ⟨a,b,rfl,h0,h1⟩
   refine ⟨rfl,?_⟩
   simp only [okA,psN,rowsL,List.getD_cons_zero,List.getD_cons_succ,List.zip_cons_cons,List.zip_nil_right,List.zip_nil_left,List.all_cons,List.all_nil,Bool.and_true,Bool.and_eq_true]
   exact ⟨vld_bool.2 h0,vld_bool.2 h1⟩
theorem okL_18 {xs:List Int}:okL 18 xs ↔ ∃ a b,xs=[a,b]∧(a=0∨a=1)∧(b=0∨b=1):=by
  constructor
  ·rintro ⟨h1,h2⟩
   match xs,h1,h2 with
   |[a,b],_,h2=>
    refine ⟨a,b,rfl,?_⟩
    simp only [okA,psN,rowsL,List.getD_cons_zero,List.getD_cons_succ,List.zip_cons_cons,List.zip_nil_right,List.zip_nil_left,List.all_cons,List.all_nil,Bool.and_true,Bool.and_eq_true] at h2
    exact ⟨vld_bool.1 h2.1,vld_bool.1 h2.2⟩
  ·rintro ⟨a,b,rfl,h0,h1⟩
   refine ⟨rfl,?_⟩
   simp only [okA,psN,rowsL,List.getD_cons_zero,List.getD_cons_succ,List.zip_cons_cons,List.zip_nil_right,List.zip_nil_left,List.all_cons,List.all_nil,Bool.and_true,Bool.and_eq_true]
   exact ⟨vld_bool.2 h0,vld_bool.2 h1⟩
theorem okL_19 {xs:List Int}:okL 19 xs ↔ ∃ a,xs=[a]∧(a=0∨a=1):=by
  constructor
  ·rintro ⟨h1,h2⟩
   match xs,h1,h2 with
   |[a],_,h2=>
    refine ⟨a,rfl,?_⟩
    simp only [okA,psN,rowsL,List.getD_cons_zero,List.getD_cons_succ,List.zip_cons_cons,List.zip_nil_right,List.zip_nil_left,List.all_cons,List.all_nil,Bool.and_true,Bool.and_eq_true] at h2
    exact vld_bool.1 h2
  ·rintro ⟨a,rfl,h0⟩
   refine ⟨rfl,?_⟩
   simp only [okA,psN,rowsL,List.getD_cons_zero,List.getD_cons_succ,List.zip_cons_cons,List.zip_nil_right,List.zip_nil_left,List.all_cons,List.all_nil,Bool.and_true,Bool.and_eq_true]
   exact vld_bool.2 h0
theorem okL_20 {xs:List Int}:okL 20 xs ↔ ∃ a b c,xs=[a,b,c]∧(a=0∨a=1)∧el b∧el c:=by
  constructor
  ·rintro ⟨h1,h2⟩
   match xs,h1,h2 with
   |[a,b,c],_,h2=>
    refine ⟨a,b,c,rfl,?_⟩
    simp only [okA,psN,rowsL,List.getD_cons_zero,List.getD_cons_succ,List.zip_cons_cons,List.zip_nil_right,List.zip_nil_left,List.all_cons,List.all_nil,Bool.and_true,Bool.and_eq_true] at h2
    exact ⟨vld_bool.1 h2.1,vld_int.1 h2.2.1,vld_int.1 h2.2.2⟩
  ·rintro ⟨a,b,c,rfl,h0,h1,h2⟩
   refine ⟨rfl,?_⟩
   simp only [okA,psN,rowsL,List.getD_cons_zero,List.getD_cons_succ,List.zip_cons_cons,List.zip_nil_right,List.zip_nil_left,List.all_cons,List.all_nil,Bool.and_true,Bool.and_eq_true]
   exact ⟨vld_bool.2 h0,vld_int.2 h1,vld_int.2 h2⟩
theorem okL_21 {xs:List Int}:okL 21 xs ↔ ∃ a,xs=[a]∧(a=0∨a=1):=by
  constructor
  ·rintro ⟨h1,h2⟩
   match xs,h1,h2 with
   |[a],_,h2=>
    refine ⟨a,rfl,?_⟩
    simp only [okA,psN,rowsL,List.getD_cons_zero,List.getD_cons_succ,List.zip_cons_cons,List.zip_nil_right,List.zip_nil_left,List.all_cons,List.all_nil,Bool.and_true,Bool.and_eq_true] at h2
    exact vld_bool.1 h2
  ·rintro ⟨a,rfl,h0⟩
   refine ⟨rfl,?_⟩
   simp only [okA,psN,rowsL,List.getD_cons_zero,List.getD_cons_succ,List.zip_cons_cons,List.zip_nil_right,List.zip_nil_left,List.all_cons,List.all_nil,Bool.and_true,Bool.and_eq_true]
   exact vld_bool.2 h0
noncomputable def E4:Env:=envOf (P:=Tryz.prog) zer (fun _=>false) (fun _=>false) [con114] []
theorem E4_ok:EnvOk Tryz.prog E4:=envOk zer_ok
theorem compare_10 {a b:Int}:PC Tryz.prog 91 [.lit (.string (⟨#[108,116]⟩:ByteArray)),.lit (.int .i64 a),.lit (.int .i64 b)] (.lit (.int .i64 (tru (decide (a<b))))):=by
  refine pcO E4_ok (fun _=>[0,1,2,6,7,8,14,20,26,32]) Tryz.func91 (h:=fun KF=>?_)
  unfold E4
  repeat' (first
   |(with_reducible first|refine nx ?_|refine t_seq fun K=>?_|refine t_br (fun hc=>?_) fun hc=>?_|refine t_bx ?_|apply And.intro|intro vr)
   |((with_reducible first|refine ny ?_|refine t_dwh (h:=fun K KL=>?_));intros;simp only [go_sem,geff,con114_f,con114_c]))
  refine end_ret rfl ?_
  simp only [fin,go_sem]
  exact LeA.refl _
theorem compare_11 {a b:Int}:PC Tryz.prog 91 [.lit (.string (⟨#[108,101]⟩:ByteArray)),.lit (.int .i64 a),.lit (.int .i64 b)] (.lit (.int .i64 (tru (decide (a≤b))))):=by
  refine pcO E4_ok (fun _=>[0,1,2,6,7,8,14,20,26,32]) Tryz.func91 (h:=fun KF=>?_)
  unfold E4
  repeat' (first
   |(with_reducible first|refine nx ?_|refine t_seq fun K=>?_|refine t_br (fun hc=>?_) fun hc=>?_|refine t_bx ?_|apply And.intro|intro vr)
   |((with_reducible first|refine ny ?_|refine t_dwh (h:=fun K KL=>?_));intros;simp only [go_sem,geff,con114_f,con114_c]))
  refine end_ret rfl ?_
  simp only [fin,go_sem]
  exact LeA.refl _
theorem compare_12 {a b:Int}:PC Tryz.prog 91 [.lit (.string (⟨#[103,116]⟩:ByteArray)),.lit (.int .i64 a),.lit (.int .i64 b)] (.lit (.int .i64 (tru (decide (a>b))))):=by
  refine pcO E4_ok (fun _=>[0,1,2,6,7,8,14,20,26,32]) Tryz.func91 (h:=fun KF=>?_)
  unfold E4
  repeat' (first
   |(with_reducible first|refine nx ?_|refine t_seq fun K=>?_|refine t_br (fun hc=>?_) fun hc=>?_|refine t_bx ?_|apply And.intro|intro vr)
   |((with_reducible first|refine ny ?_|refine t_dwh (h:=fun K KL=>?_));intros;simp only [go_sem,geff,con114_f,con114_c]))
  refine end_ret rfl ?_
  simp only [fin,go_sem]
  exact LeA.refl _
theorem compare_13 {a b:Int}:PC Tryz.prog 91 [.lit (.string (⟨#[103,101]⟩:ByteArray)),.lit (.int .i64 a),.lit (.int .i64 b)] (.lit (.int .i64 (tru (decide (a≥b))))):=by
  refine pcO E4_ok (fun _=>[0,1,2,6,7,8,14,20,26,32]) Tryz.func91 (h:=fun KF=>?_)
  unfold E4
  repeat' (first
   |(with_reducible first|refine nx ?_|refine t_seq fun K=>?_|refine t_br (fun hc=>?_) fun hc=>?_|refine t_bx ?_|apply And.intro|intro vr)
   |((with_reducible first|refine ny ?_|refine t_dwh (h:=fun K KL=>?_));intros;simp only [go_sem,geff,con114_f,con114_c]))
  refine end_ret rfl ?_
  simp only [fin,go_sem]
  exact LeA.refl _
theorem compare_14 {a b:Int}:PC Tryz.prog 91 [.lit (.string (⟨#[101,113]⟩:ByteArray)),.lit (.int .i64 a),.lit (.int .i64 b)] (.lit (.int .i64 (tru (a==b)))):=by
  refine pcO E4_ok (fun _=>[0,1,2,6,7,8,14,20,26,32]) Tryz.func91 (h:=fun KF=>?_)
  unfold E4
  repeat' (first
   |(with_reducible first|refine nx ?_|refine t_seq fun K=>?_|refine t_br (fun hc=>?_) fun hc=>?_|refine t_bx ?_|apply And.intro|intro vr)
   |((with_reducible first|refine ny ?_|refine t_dwh (h:=fun K KL=>?_));intros;simp only [go_sem,geff,con114_f,con114_c]))
  refine end_ret rfl ?_
  simp only [fin,go_sem]
  exact LeA.refl _
theorem compare_15 {a b:Int}:PC Tryz.prog 91 [.lit (.string (⟨#[110,101]⟩:ByteArray)),.lit (.int .i64 a),.lit (.int .i64 b)] (.lit (.int .i64 (tru (a !=b)))):=by
  refine pcO E4_ok (fun _=>[0,1,2,6,7,8,14,20,26,32]) Tryz.func91 (h:=fun KF=>?_)
  unfold E4
  repeat' (first
   |(with_reducible first|refine nx ?_|refine t_seq fun K=>?_|refine t_br (fun hc=>?_) fun hc=>?_|refine t_bx ?_|apply And.intro|intro vr)
   |((with_reducible first|refine ny ?_|refine t_dwh (h:=fun K KL=>?_));intros;simp only [go_sem,geff,con114_f,con114_c]))
  refine end_ret rfl ?_
  simp only [fin,go_sem]
  exact LeA.refl _
noncomputable def con91:PCon Tryz.prog where
  f:=91
  c:=fun
   |[.lit (.string op),.lit (.int .i64 a),.lit (.int .i64 b)]=>match rowIx op with
    |some 10=>some (True,.lit (.int .i64 (tru (decide (a<b)))))
    |some 11=>some (True,.lit (.int .i64 (tru (decide (a≤b)))))
    |some 12=>some (True,.lit (.int .i64 (tru (decide (a>b)))))
    |some 13=>some (True,.lit (.int .i64 (tru (decide (a≥b)))))
    |some 14=>some (True,.lit (.int .i64 (tru (a==b))))
    |some 15=>some (True,.lit (.int .i64 (tru (a !=b))))
    |_=>none
   |_=>none
  ok:=by
   intro args p r hc hp
   split at hc
   ·rename_i op a b
    rcases ix_cases op with ⟨i,hi,he,hx,_⟩|⟨hx,_⟩
    ·rw [hx] at hc
     split at hc
     ·rename_i e;cases e;cases hc;subst he;exact compare_10
     ·rename_i e;cases e;cases hc;subst he;exact compare_11
     ·rename_i e;cases e;cases hc;subst he;exact compare_12
     ·rename_i e;cases e;cases hc;subst he;exact compare_13
     ·rename_i e;cases e;cases hc;subst he;exact compare_14
     ·rename_i e;cases e;cases hc;subst he;exact compare_15
     ·cases hc
    ·rw [hx] at hc;cases hc
   ·cases hc
  fk:=fk91
theorem con91_f:con91.f=91:=rfl
theorem con91_10 {a b:Int}:con91.c [.lit (.string (⟨#[108,116]⟩:ByteArray)),.lit (.int .i64 a),.lit (.int .i64 b)]=some (True,.lit (.int .i64 (tru (decide (a<b))))):=rfl
theorem con91_11 {a b:Int}:con91.c [.lit (.string (⟨#[108,101]⟩:ByteArray)),.lit (.int .i64 a),.lit (.int .i64 b)]=some (True,.lit (.int .i64 (tru (decide (a≤b))))):=rfl
theorem con91_12 {a b:Int}:con91.c [.lit (.string (⟨#[103,116]⟩:ByteArray)),.lit (.int .i64 a),.lit (.int .i64 b)]=some (True,.lit (.int .i64 (tru (decide (a>b))))):=rfl
theorem con91_13 {a b:Int}:con91.c [.lit (.string (⟨#[103,101]⟩:ByteArray)),.lit (.int .i64 a),.lit (.int .i64 b)]=some (True,.lit (.int .i64 (tru (decide (a≥b))))):=rfl
theorem con91_14 {a b:Int}:con91.c [.lit (.string (⟨#[101,113]⟩:ByteArray)),.lit (.int .i64 a),.lit (.int .i64 b)]=some (True,.lit (.int .i64 (tru (a==b)))):=rfl
theorem con91_15 {a b:Int}:con91.c [.lit (.string (⟨#[110,101]⟩:ByteArray)),.lit (.int .i64 a),.lit (.int .i64 b)]=some (True,.lit (.int .i64 (tru (a !=b)))):=rfl
theorem flo_bd {a b:Int} (ha:el a): -2147483649≤flo a b∧flo a b≤2147483648:=by
  unfold flo
  split
  ·omega
  ·rename_i hb
   have:=tdiv_bd ha hb
   split<;>omega
theorem mul_bd {a b:Int} (ha:el a) (hb:el b): -4611686018427387904≤a*b∧a*b≤4611686018427387904:=by
  unfold el at*
  have h:(a*b).natAbs≤2147483648*2147483648:=by
    rw [Int.natAbs_mul]
    exact Nat.mul_le_mul (by omega) (by omega)
  omega
theorem bflo_bd {a b:Int} (ha:el a) (hb:el b) (h:b≠0): -4294967296≤b*flo a b∧b*flo a b≤4294967296:=by
  have:=flo_spec (a:=a) h
  unfold el at*
  omega
theorem max_el {a b:Int} (ha:el a):a≤maxI a b∧maxI a b≤max a b:=by
  unfold maxI
  split<;>omega
end Go.Proofs.YtcpjahmajkhchaaGreat.El

namespace Go.Proofs.YtcpjahmajkhchaaGreat.El
open Go.Proofs.YtcpjahmajkhchaaGreat
open Go Go.Fw
set_option maxRecDepth 20000
noncomputable def E5:Env:=envOf (P:=Tryz.prog) zer (fun _=>false) (fun _=>false) [con88,con89,con90,con91] []
theorem E5_ok:EnvOk Tryz.prog E5:=envOk zer_ok
set_option maxHeartbeats 1000000 in
theorem v26_0 {a b:Int} (h0:el a) (h1:el b):PC Tryz.prog 68 [.lit (.string (⟨#[97,100,100]⟩:ByteArray)),.sl false 1 [.lit (.int .i64 a),.lit (.int .i64 b)]] (.lit (.int .i64 (vS 0 [a,b]))):=by
  unfold el at h0 h1
  refine pcO E5_ok (fun _=>[0,1,4,5,6,16,26,36,46,51,67,77,87,94,105,111,120,126,135]) Tryz.func68 (h:=fun KF=>?_)
  unfold E5
  repeat' (first
   |(with_reducible first|refine nx ?_|refine t_seq fun K=>?_|refine t_br (fun hc=>?_) fun hc=>?_|refine t_bx ?_|apply And.intro|intro vr)
   |((with_reducible first|refine ny ?_|refine t_dwh (h:=fun K KL=>?_));intros;simp only [go_sem,geff,con88_f,con89_f,con90_f,con91_f,con88_c,con89_c,con90_c,con91_10,con91_11,con91_12,con91_13,con91_14,con91_15]))
  all_goals try exact om
  refine end_ret rfl ?_
  simp only [fin,go_sem,vS]
  exact LeA.refl _
set_option maxHeartbeats 1000000 in
theorem v26_1 {a b:Int} (h0:el a) (h1:el b):PC Tryz.prog 68 [.lit (.string (⟨#[115,117,98]⟩:ByteArray)),.sl false 1 [.lit (.int .i64 a),.lit (.int .i64 b)]] (.lit (.int .i64 (vS 1 [a,b]))):=by
  unfold el at h0 h1
  refine pcO E5_ok (fun _=>[0,1,4,5,6,16,26,36,46,51,67,77,87,94,105,111,120,126,135]) Tryz.func68 (h:=fun KF=>?_)
  unfold E5
  repeat' (first
   |(with_reducible first|refine nx ?_|refine t_seq fun K=>?_|refine t_br (fun hc=>?_) fun hc=>?_|refine t_bx ?_|apply And.intro|intro vr)
   |((with_reducible first|refine ny ?_|refine t_dwh (h:=fun K KL=>?_));intros;simp only [go_sem,geff,con88_f,con89_f,con90_f,con91_f,con88_c,con89_c,con90_c,con91_10,con91_11,con91_12,con91_13,con91_14,con91_15]))
  all_goals try exact om
  refine end_ret rfl ?_
  simp only [fin,go_sem,vS]
  exact LeA.refl _
set_option maxHeartbeats 1000000 in
theorem v26_2 {a b:Int} (h0:el a) (h1:el b):PC Tryz.prog 68 [.lit (.string (⟨#[109,117,108]⟩:ByteArray)),.sl false 1 [.lit (.int .i64 a),.lit (.int .i64 b)]] (.lit (.int .i64 (vS 2 [a,b]))):=by
  have hm:=mul_bd h0 h1
  refine pcO E5_ok (fun _=>[0,1,4,5,6,16,26,36,46,51,67,77,87,94,105,111,120,126,135]) Tryz.func68 (h:=fun KF=>?_)
  unfold E5
  repeat' (first
   |(with_reducible first|refine nx ?_|refine t_seq fun K=>?_|refine t_br (fun hc=>?_) fun hc=>?_|refine t_bx ?_|apply And.intro|intro vr)
   |((with_reducible first|refine ny ?_|refine t_dwh (h:=fun K KL=>?_));intros;simp only [go_sem,geff,con88_f,con89_f,con90_f,con91_f,con88_c,con89_c,con90_c,con91_10,con91_11,con91_12,con91_13,con91_14,con91_15]))
  all_goals try exact om
  refine end_ret rfl ?_
  simp only [fin,go_sem,vS]
  exact LeA.refl _
set_option maxHeartbeats 1000000 in
theorem v26_3 {a b:Int} (h0:el a) (h1:el b):PC Tryz.prog 68 [.lit (.string (⟨#[100,105,118]⟩:ByteArray)),.sl false 1 [.lit (.int .i64 a),.lit (.int .i64 b)]] (.lit (.int .i64 (vS 3 [a,b]))):=by
  refine pcO E5_ok (fun _=>[0,1,4,5,6,16,26,36,46,51,67,77,87,94,105,111,120,126,135]) Tryz.func68 (h:=fun KF=>?_)
  unfold E5
  repeat' (first
   |(with_reducible first|refine nx ?_|refine t_seq fun K=>?_|refine t_br (fun hc=>?_) fun hc=>?_|refine t_bx ?_|apply And.intro|intro vr)
   |((with_reducible first|refine ny ?_|refine t_dwh (h:=fun K KL=>?_));intros;simp only [go_sem,geff,con88_f,con89_f,con90_f,con91_f,con88_c,con89_c,con90_c,con91_10,con91_11,con91_12,con91_13,con91_14,con91_15,eq_true h0]))
  all_goals try exact om
  refine end_ret rfl ?_
  simp only [fin,go_sem,vS]
  exact LeA.refl _
set_option maxHeartbeats 1000000 in
theorem v26_4 {a b:Int} (h0:el a) (h1:el b):PC Tryz.prog 68 [.lit (.string (⟨#[109,111,100]⟩:ByteArray)),.sl false 1 [.lit (.int .i64 a),.lit (.int .i64 b)]] (.lit (.int .i64 (vS 4 [a,b]))):=by
  simp only [vS]
  by_cases hb:b=0
  ·have g1:(b==0)=true:=by rw [beq_iff_eq];exact hb
   rw [if_pos hb]
   refine pcO E5_ok (fun _=>[0,1,4,5,6,16,26,36,46,51,67,77,87,94,105,111,120,126,135]) Tryz.func68 (h:=fun KF=>?_)
   unfold E5
   repeat' (first
    |(with_reducible first|refine nx ?_|refine t_seq fun K=>?_|refine t_br (fun hc=>?_) fun hc=>?_|refine t_bx ?_|apply And.intro|intro vr)
    |((with_reducible first|refine ny ?_|refine t_dwh (h:=fun K KL=>?_));intros;simp only [go_sem,geff,con88_f,con89_f,con90_f,con91_f,con88_c,con89_c,con90_c,con91_10,con91_11,con91_12,con91_13,con91_14,con91_15,g1]))
   all_goals try exact om
   refine end_ret rfl ?_
   simp only [fin,go_sem,vS]
   exact LeA.refl _
  ·have g1:(b==0)=false:=by rw [beq_eq_false_iff_ne];exact hb
   rw [if_neg hb]
   have hm:=bflo_bd h0 h1 hb
   have hl:=flo_bd (b:=b) h0
   have h0':=h0
   have h1':=h1
   unfold el at h0' h1'
   refine pcO E5_ok (fun _=>[0,1,4,5,6,16,26,36,46,51,67,77,87,94,105,111,120,126,135]) Tryz.func68 (h:=fun KF=>?_)
   unfold E5
   repeat' (first
    |(with_reducible first|refine nx ?_|refine t_seq fun K=>?_|refine t_br (fun hc=>?_) fun hc=>?_|refine t_bx ?_|apply And.intro|intro vr)
    |((with_reducible first|refine ny ?_|refine t_dwh (h:=fun K KL=>?_));intros;simp only [go_sem,geff,con88_f,con89_f,con90_f,con91_f,con88_c,con89_c,con90_c,con91_10,con91_11,con91_12,con91_13,con91_14,con91_15,g1,eq_true h0]))
   all_goals try exact om
   refine end_ret rfl ?_
   simp only [fin,go_sem,vS]
   exact LeA.refl _
set_option maxHeartbeats 1000000 in
theorem v26_5 {a b:Int} (h0:el a) (h1:el b):PC Tryz.prog 68 [.lit (.string (⟨#[109,105,110]⟩:ByteArray)),.sl false 1 [.lit (.int .i64 a),.lit (.int .i64 b)]] (.lit (.int .i64 (vS 5 [a,b]))):=by
  refine pcO E5_ok (fun _=>[0,1,4,5,6,16,26,36,46,51,67,77,87,94,105,111,120,126,135]) Tryz.func68 (h:=fun KF=>?_)
  unfold E5
  repeat' (first
   |(with_reducible first|refine nx ?_|refine t_seq fun K=>?_|refine t_br (fun hc=>?_) fun hc=>?_|refine t_bx ?_|apply And.intro|intro vr)
   |((with_reducible first|refine ny ?_|refine t_dwh (h:=fun K KL=>?_));intros;simp only [go_sem,geff,con88_f,con89_f,con90_f,con91_f,con88_c,con89_c,con90_c,con91_10,con91_11,con91_12,con91_13,con91_14,con91_15]))
  all_goals try exact om
  refine end_ret rfl ?_
  simp only [fin,go_sem,vS]
  exact LeA.refl _
set_option maxHeartbeats 1000000 in
theorem v26_6 {a b:Int} (h0:el a) (h1:el b):PC Tryz.prog 68 [.lit (.string (⟨#[109,97,120]⟩:ByteArray)),.sl false 1 [.lit (.int .i64 a),.lit (.int .i64 b)]] (.lit (.int .i64 (vS 6 [a,b]))):=by
  refine pcO E5_ok (fun _=>[0,1,4,5,6,16,26,36,46,51,67,77,87,94,105,111,120,126,135]) Tryz.func68 (h:=fun KF=>?_)
  unfold E5
  repeat' (first
   |(with_reducible first|refine nx ?_|refine t_seq fun K=>?_|refine t_br (fun hc=>?_) fun hc=>?_|refine t_bx ?_|apply And.intro|intro vr)
   |((with_reducible first|refine ny ?_|refine t_dwh (h:=fun K KL=>?_));intros;simp only [go_sem,geff,con88_f,con89_f,con90_f,con91_f,con88_c,con89_c,con90_c,con91_10,con91_11,con91_12,con91_13,con91_14,con91_15]))
  all_goals try exact om
  refine end_ret rfl ?_
  simp only [fin,go_sem,vS]
  exact LeA.refl _
set_option maxHeartbeats 1000000 in
theorem v26_7 {a:Int} (h0:el a):PC Tryz.prog 68 [.lit (.string (⟨#[110,101,103]⟩:ByteArray)),.sl false 1 [.lit (.int .i64 a)]] (.lit (.int .i64 (vS 7 [a]))):=by
  unfold el at h0
  refine pcO E5_ok (fun _=>[0,1,4,5,6,16,26,36,46,51,67,77,87,94,105,111,120,126,135]) Tryz.func68 (h:=fun KF=>?_)
  unfold E5
  repeat' (first
   |(with_reducible first|refine nx ?_|refine t_seq fun K=>?_|refine t_br (fun hc=>?_) fun hc=>?_|refine t_bx ?_|apply And.intro|intro vr)
   |((with_reducible first|refine ny ?_|refine t_dwh (h:=fun K KL=>?_));intros;simp only [go_sem,geff,con88_f,con89_f,con90_f,con91_f,con88_c,con89_c,con90_c,con91_10,con91_11,con91_12,con91_13,con91_14,con91_15]))
  all_goals try exact om
  refine end_ret rfl ?_
  simp only [fin,go_sem,vS]
  exact LeA.refl _
set_option maxHeartbeats 1000000 in
theorem v26_8 {a:Int} (h0:el a):PC Tryz.prog 68 [.lit (.string (⟨#[97,98,115]⟩:ByteArray)),.sl false 1 [.lit (.int .i64 a)]] (.lit (.int .i64 (vS 8 [a]))):=by
  unfold el at h0
  have hm:=max_el (b:=0 - a) h0
  refine pcO E5_ok (fun _=>[0,1,4,5,6,16,26,36,46,51,67,77,87,94,105,111,120,126,135]) Tryz.func68 (h:=fun KF=>?_)
  unfold E5
  repeat' (first
   |(with_reducible first|refine nx ?_|refine t_seq fun K=>?_|refine t_br (fun hc=>?_) fun hc=>?_|refine t_bx ?_|apply And.intro|intro vr)
   |((with_reducible first|refine ny ?_|refine t_dwh (h:=fun K KL=>?_));intros;simp only [go_sem,geff,con88_f,con89_f,con90_f,con91_f,con88_c,con89_c,con90_c,con91_10,con91_11,con91_12,con91_13,con91_14,con91_15]))
  all_goals try exact om
  refine end_ret rfl ?_
  simp only [fin,go_sem,vS]
  exact LeA.refl _
set_option maxHeartbeats 1000000 in
theorem v26_9 {a:Int} (h0:el a):PC Tryz.prog 68 [.lit (.string (⟨#[115,105,103,110]⟩:ByteArray)),.sl false 1 [.lit (.int .i64 a)]] (.lit (.int .i64 (vS 9 [a]))):=by
  refine pcO E5_ok (fun _=>[0,1,4,5,6,16,26,36,46,51,67,77,87,94,105,111,120,126,135]) Tryz.func68 (h:=fun KF=>?_)
  unfold E5
  repeat' (first
   |(with_reducible first|refine nx ?_|refine t_seq fun K=>?_|refine t_br (fun hc=>?_) fun hc=>?_|refine t_bx ?_|apply And.intro|intro vr)
   |((with_reducible first|refine ny ?_|refine t_dwh (h:=fun K KL=>?_));intros;simp only [go_sem,geff,con88_f,con89_f,con90_f,con91_f,con88_c,con89_c,con90_c,con91_10,con91_11,con91_12,con91_13,con91_14,con91_15]))
  all_goals try exact om
  refine end_ret rfl ?_
  simp only [fin,go_sem,vS]
  exact LeA.refl _
set_option maxHeartbeats 1000000 in
theorem v26_10 {a b:Int} (h0:el a) (h1:el b):PC Tryz.prog 68 [.lit (.string (⟨#[108,116]⟩:ByteArray)),.sl false 1 [.lit (.int .i64 a),.lit (.int .i64 b)]] (.lit (.int .i64 (vS 10 [a,b]))):=by
  refine pcO E5_ok (fun _=>[0,1,4,5,6,16,26,36,46,51,67,77,87,94,105,111,120,126,135]) Tryz.func68 (h:=fun KF=>?_)
  unfold E5
  repeat' (first
   |(with_reducible first|refine nx ?_|refine t_seq fun K=>?_|refine t_br (fun hc=>?_) fun hc=>?_|refine t_bx ?_|apply And.intro|intro vr)
   |((with_reducible first|refine ny ?_|refine t_dwh (h:=fun K KL=>?_));intros;simp only [go_sem,geff,con88_f,con89_f,con90_f,con91_f,con88_c,con89_c,con90_c,con91_10,con91_11,con91_12,con91_13,con91_14,con91_15]))
  all_goals try exact om
  refine end_ret rfl ?_
  simp only [fin,go_sem,vS]
  exact LeA.refl _
set_option maxHeartbeats 1000000 in
theorem v26_11 {a b:Int} (h0:el a) (h1:el b):PC Tryz.prog 68 [.lit (.string (⟨#[108,101]⟩:ByteArray)),.sl false 1 [.lit (.int .i64 a),.lit (.int .i64 b)]] (.lit (.int .i64 (vS 11 [a,b]))):=by
  refine pcO E5_ok (fun _=>[0,1,4,5,6,16,26,36,46,51,67,77,87,94,105,111,120,126,135]) Tryz.func68 (h:=fun KF=>?_)
  unfold E5
  repeat' (first
   |(with_reducible first|refine nx ?_|refine t_seq fun K=>?_|refine t_br (fun hc=>?_) fun hc=>?_|refine t_bx ?_|apply And.intro|intro vr)
   |((with_reducible first|refine ny ?_|refine t_dwh (h:=fun K KL=>?_));intros;simp only [go_sem,geff,con88_f,con89_f,con90_f,con91_f,con88_c,con89_c,con90_c,con91_10,con91_11,con91_12,con91_13,con91_14,con91_15]))
  all_goals try exact om
  refine end_ret rfl ?_
  simp only [fin,go_sem,vS]
  exact LeA.refl _
set_option maxHeartbeats 1000000 in
theorem v26_12 {a b:Int} (h0:el a) (h1:el b):PC Tryz.prog 68 [.lit (.string (⟨#[103,116]⟩:ByteArray)),.sl false 1 [.lit (.int .i64 a),.lit (.int .i64 b)]] (.lit (.int .i64 (vS 12 [a,b]))):=by
  refine pcO E5_ok (fun _=>[0,1,4,5,6,16,26,36,46,51,67,77,87,94,105,111,120,126,135]) Tryz.func68 (h:=fun KF=>?_)
  unfold E5
  repeat' (first
   |(with_reducible first|refine nx ?_|refine t_seq fun K=>?_|refine t_br (fun hc=>?_) fun hc=>?_|refine t_bx ?_|apply And.intro|intro vr)
   |((with_reducible first|refine ny ?_|refine t_dwh (h:=fun K KL=>?_));intros;simp only [go_sem,geff,con88_f,con89_f,con90_f,con91_f,con88_c,con89_c,con90_c,con91_10,con91_11,con91_12,con91_13,con91_14,con91_15]))
  all_goals try exact om
  refine end_ret rfl ?_
  simp only [fin,go_sem,vS]
  exact LeA.refl _
set_option maxHeartbeats 1000000 in
theorem v26_13 {a b:Int} (h0:el a) (h1:el b):PC Tryz.prog 68 [.lit (.string (⟨#[103,101]⟩:ByteArray)),.sl false 1 [.lit (.int .i64 a),.lit (.int .i64 b)]] (.lit (.int .i64 (vS 13 [a,b]))):=by
  refine pcO E5_ok (fun _=>[0,1,4,5,6,16,26,36,46,51,67,77,87,94,105,111,120,126,135]) Tryz.func68 (h:=fun KF=>?_)
  unfold E5
  repeat' (first
   |(with_reducible first|refine nx ?_|refine t_seq fun K=>?_|refine t_br (fun hc=>?_) fun hc=>?_|refine t_bx ?_|apply And.intro|intro vr)
   |((with_reducible first|refine ny ?_|refine t_dwh (h:=fun K KL=>?_));intros;simp only [go_sem,geff,con88_f,con89_f,con90_f,con91_f,con88_c,con89_c,con90_c,con91_10,con91_11,con91_12,con91_13,con91_14,con91_15]))
  all_goals try exact om
  refine end_ret rfl ?_
  simp only [fin,go_sem,vS]
  exact LeA.refl _
set_option maxHeartbeats 1000000 in
theorem v26_14 {a b:Int} (h0:el a) (h1:el b):PC Tryz.prog 68 [.lit (.string (⟨#[101,113]⟩:ByteArray)),.sl false 1 [.lit (.int .i64 a),.lit (.int .i64 b)]] (.lit (.int .i64 (vS 14 [a,b]))):=by
  refine pcO E5_ok (fun _=>[0,1,4,5,6,16,26,36,46,51,67,77,87,94,105,111,120,126,135]) Tryz.func68 (h:=fun KF=>?_)
  unfold E5
  repeat' (first
   |(with_reducible first|refine nx ?_|refine t_seq fun K=>?_|refine t_br (fun hc=>?_) fun hc=>?_|refine t_bx ?_|apply And.intro|intro vr)
   |((with_reducible first|refine ny ?_|refine t_dwh (h:=fun K KL=>?_));intros;simp only [go_sem,geff,con88_f,con89_f,con90_f,con91_f,con88_c,con89_c,con90_c,con91_10,con91_11,con91_12,con91_13,con91_14,con91_15]))
  all_goals try exact om
  refine end_ret rfl ?_
  simp only [fin,go_sem,vS]
  exact LeA.refl _
set_option maxHeartbeats 1000000 in
theorem v26_15 {a b:Int} (h0:el a) (h1:el b):PC Tryz.prog 68 [.lit (.string (⟨#[110,101]⟩:ByteArray)),.sl false 1 [.lit (.int .i64 a),.lit (.int .i64 b)]] (.lit (.int .i64 (vS 15 [a,b]))):=by
  refine pcO E5_ok (fun _=>[0,1,4,5,6,16,26,36,46,51,67,77,87,94,105,111,120,126,135]) Tryz.func68 (h:=fun KF=>?_)
  unfold E5
  repeat' (first
   |(with_reducible first|refine nx ?_|refine t_seq fun K=>?_|refine t_br (fun hc=>?_) fun hc=>?_|refine t_bx ?_|apply And.intro|intro vr)
   |((with_reducible first|refine ny ?_|refine t_dwh (h:=fun K KL=>?_));intros;simp only [go_sem,geff,con88_f,con89_f,con90_f,con91_f,con88_c,con89_c,con90_c,con91_10,con91_11,con91_12,con91_13,con91_14,con91_15]))
  all_goals try exact om
  refine end_ret rfl ?_
  simp only [fin,go_sem,vS]
  exact LeA.refl _
set_option maxHeartbeats 1000000 in
theorem v26_16 {a b:Int} (h0:a=0∨a=1) (h1:b=0∨b=1):PC Tryz.prog 68 [.lit (.string (⟨#[97,110,100]⟩:ByteArray)),.sl false 1 [.lit (.int .i64 a),.lit (.int .i64 b)]] (.lit (.int .i64 (vS 16 [a,b]))):=by
  refine pcO E5_ok (fun _=>[0,1,4,5,6,16,26,36,46,51,67,77,87,94,105,111,120,126,135]) Tryz.func68 (h:=fun KF=>?_)
  unfold E5
  repeat' (first
   |(with_reducible first|refine nx ?_|refine t_seq fun K=>?_|refine t_br (fun hc=>?_) fun hc=>?_|refine t_bx ?_|apply And.intro|intro vr)
   |((with_reducible first|refine ny ?_|refine t_dwh (h:=fun K KL=>?_));intros;simp only [go_sem,geff,con88_f,con89_f,con90_f,con91_f,con88_c,con89_c,con90_c,con91_10,con91_11,con91_12,con91_13,con91_14,con91_15]))
  all_goals try exact om
  refine end_ret rfl ?_
  simp only [fin,go_sem,vS]
  exact LeA.refl _
set_option maxHeartbeats 1000000 in
theorem v26_17 {a b:Int} (h0:a=0∨a=1) (h1:b=0∨b=1):PC Tryz.prog 68 [.lit (.string (⟨#[111,114]⟩:ByteArray)),.sl false 1 [.lit (.int .i64 a),.lit (.int .i64 b)]] (.lit (.int .i64 (vS 17 [a,b]))):=by
  refine pcO E5_ok (fun _=>[0,1,4,5,6,16,26,36,46,51,67,77,87,94,105,111,120,126,135]) Tryz.func68 (h:=fun KF=>?_)
  unfold E5
  repeat' (first
   |(with_reducible first|refine nx ?_|refine t_seq fun K=>?_|refine t_br (fun hc=>?_) fun hc=>?_|refine t_bx ?_|apply And.intro|intro vr)
   |((with_reducible first|refine ny ?_|refine t_dwh (h:=fun K KL=>?_));intros;simp only [go_sem,geff,con88_f,con89_f,con90_f,con91_f,con88_c,con89_c,con90_c,con91_10,con91_11,con91_12,con91_13,con91_14,con91_15]))
  all_goals try exact om
  refine end_ret rfl ?_
  simp only [fin,go_sem,vS]
  exact LeA.refl _
set_option maxHeartbeats 1000000 in
theorem v26_18 {a b:Int} (h0:a=0∨a=1) (h1:b=0∨b=1):PC Tryz.prog 68 [.lit (.string (⟨#[120,111,114]⟩:ByteArray)),.sl false 1 [.lit (.int .i64 a),.lit (.int .i64 b)]] (.lit (.int .i64 (vS 18 [a,b]))):=by
  rcases h0 with rfl|rfl<;>rcases h1 with rfl|rfl
  ·skip
   refine pcO E5_ok (fun _=>[0,1,4,5,6,16,26,36,46,51,67,77,87,94,105,111,120,126,135]) Tryz.func68 (h:=fun KF=>?_)
   unfold E5
   repeat' (first
    |(with_reducible first|refine nx ?_|refine t_seq fun K=>?_|refine t_br (fun hc=>?_) fun hc=>?_|refine t_bx ?_|apply And.intro|intro vr)
    |((with_reducible first|refine ny ?_|refine t_dwh (h:=fun K KL=>?_));intros;simp only [go_sem,geff,con88_f,con89_f,con90_f,con91_f,con88_c,con89_c,con90_c,con91_10,con91_11,con91_12,con91_13,con91_14,con91_15]))
   all_goals try exact om
   refine end_ret rfl ?_
   simp only [fin,go_sem,vS]
   exact LeA.refl _
  ·skip
   refine pcO E5_ok (fun _=>[0,1,4,5,6,16,26,36,46,51,67,77,87,94,105,111,120,126,135]) Tryz.func68 (h:=fun KF=>?_)
   unfold E5
   repeat' (first
    |(with_reducible first|refine nx ?_|refine t_seq fun K=>?_|refine t_br (fun hc=>?_) fun hc=>?_|refine t_bx ?_|apply And.intro|intro vr)
    |((with_reducible first|refine ny ?_|refine t_dwh (h:=fun K KL=>?_));intros;simp only [go_sem,geff,con88_f,con89_f,con90_f,con91_f,con88_c,con89_c,con90_c,con91_10,con91_11,con91_12,con91_13,con91_14,con91_15]))
   all_goals try exact om
   refine end_ret rfl ?_
   simp only [fin,go_sem,vS]
   exact LeA.refl _
  ·skip
   refine pcO E5_ok (fun _=>[0,1,4,5,6,16,26,36,46,51,67,77,87,94,105,111,120,126,135]) Tryz.func68 (h:=fun KF=>?_)
   unfold E5
   repeat' (first
    |(with_reducible first|refine nx ?_|refine t_seq fun K=>?_|refine t_br (fun hc=>?_) fun hc=>?_|refine t_bx ?_|apply And.intro|intro vr)
    |((with_reducible first|refine ny ?_|refine t_dwh (h:=fun K KL=>?_));intros;simp only [go_sem,geff,con88_f,con89_f,con90_f,con91_f,con88_c,con89_c,con90_c,con91_10,con91_11,con91_12,con91_13,con91_14,con91_15]))
   all_goals try exact om
   refine end_ret rfl ?_
   simp only [fin,go_sem,vS]
   exact LeA.refl _
  ·skip
   refine pcO E5_ok (fun _=>[0,1,4,5,6,16,26,36,46,51,67,77,87,94,105,111,120,126,135]) Tryz.func68 (h:=fun KF=>?_)
   unfold E5
   repeat' (first
    |(with_reducible first|refine nx ?_|refine t_seq fun K=>?_|refine t_br (fun hc=>?_) fun hc=>?_|refine t_bx ?_|apply And.intro|intro vr)
    |((with_reducible first|refine ny ?_|refine t_dwh (h:=fun K KL=>?_));intros;simp only [go_sem,geff,con88_f,con89_f,con90_f,con91_f,con88_c,con89_c,con90_c,con91_10,con91_11,con91_12,con91_13,con91_14,con91_15]))
   all_goals try exact om
   refine end_ret rfl ?_
   simp only [fin,go_sem,vS]
   exact LeA.refl _
set_option maxHeartbeats 1000000 in
theorem v26_19 {a:Int} (h0:a=0∨a=1):PC Tryz.prog 68 [.lit (.string (⟨#[110,111,116]⟩:ByteArray)),.sl false 1 [.lit (.int .i64 a)]] (.lit (.int .i64 (vS 19 [a]))):=by
  have h0': -1≤a∧a≤1:=by omega
  refine pcO E5_ok (fun _=>[0,1,4,5,6,16,26,36,46,51,67,77,87,94,105,111,120,126,135]) Tryz.func68 (h:=fun KF=>?_)
  unfold E5
  repeat' (first
   |(with_reducible first|refine nx ?_|refine t_seq fun K=>?_|refine t_br (fun hc=>?_) fun hc=>?_|refine t_bx ?_|apply And.intro|intro vr)
   |((with_reducible first|refine ny ?_|refine t_dwh (h:=fun K KL=>?_));intros;simp only [go_sem,geff,con88_f,con89_f,con90_f,con91_f,con88_c,con89_c,con90_c,con91_10,con91_11,con91_12,con91_13,con91_14,con91_15]))
  all_goals try exact om
  refine end_ret rfl ?_
  simp only [fin,go_sem,vS]
  exact LeA.refl _
set_option maxHeartbeats 1000000 in
theorem v26_20 {a b c:Int} (h0:a=0∨a=1) (h1:el b) (h2:el c):PC Tryz.prog 68 [.lit (.string (⟨#[115,101,108,101,99,116]⟩:ByteArray)),.sl false 1 [.lit (.int .i64 a),.lit (.int .i64 b),.lit (.int .i64 c)]] (.lit (.int .i64 (vS 20 [a,b,c]))):=by
  rcases h0 with rfl|rfl
  ·skip
   refine pcO E5_ok (fun _=>[0,1,4,5,6,16,26,36,46,51,67,77,87,94,105,111,120,126,135]) Tryz.func68 (h:=fun KF=>?_)
   unfold E5
   repeat' (first
    |(with_reducible first|refine nx ?_|refine t_seq fun K=>?_|refine t_br (fun hc=>?_) fun hc=>?_|refine t_bx ?_|apply And.intro|intro vr)
    |((with_reducible first|refine ny ?_|refine t_dwh (h:=fun K KL=>?_));intros;simp only [go_sem,geff,con88_f,con89_f,con90_f,con91_f,con88_c,con89_c,con90_c,con91_10,con91_11,con91_12,con91_13,con91_14,con91_15]))
   all_goals try exact om
   refine end_ret rfl ?_
   simp only [fin,go_sem,vS]
   exact LeA.refl _
  ·skip
   refine pcO E5_ok (fun _=>[0,1,4,5,6,16,26,36,46,51,67,77,87,94,105,111,120,126,135]) Tryz.func68 (h:=fun KF=>?_)
   unfold E5
   repeat' (first
    |(with_reducible first|refine nx ?_|refine t_seq fun K=>?_|refine t_br (fun hc=>?_) fun hc=>?_|refine t_bx ?_|apply And.intro|intro vr)
    |((with_reducible first|refine ny ?_|refine t_dwh (h:=fun K KL=>?_));intros;simp only [go_sem,geff,con88_f,con89_f,con90_f,con91_f,con88_c,con89_c,con90_c,con91_10,con91_11,con91_12,con91_13,con91_14,con91_15]))
   all_goals try exact om
   refine end_ret rfl ?_
   simp only [fin,go_sem,vS]
   exact LeA.refl _
set_option maxHeartbeats 1000000 in
theorem v26_21 {a:Int} (h0:a=0∨a=1):PC Tryz.prog 68 [.lit (.string (⟨#[116,111,105,110,116]⟩:ByteArray)),.sl false 1 [.lit (.int .i64 a)]] (.lit (.int .i64 (vS 21 [a]))):=by
  refine pcO E5_ok (fun _=>[0,1,4,5,6,16,26,36,46,51,67,77,87,94,105,111,120,126,135]) Tryz.func68 (h:=fun KF=>?_)
  unfold E5
  repeat' (first
   |(with_reducible first|refine nx ?_|refine t_seq fun K=>?_|refine t_br (fun hc=>?_) fun hc=>?_|refine t_bx ?_|apply And.intro|intro vr)
   |((with_reducible first|refine ny ?_|refine t_dwh (h:=fun K KL=>?_));intros;simp only [go_sem,geff,con88_f,con89_f,con90_f,con91_f,con88_c,con89_c,con90_c,con91_10,con91_11,con91_12,con91_13,con91_14,con91_15]))
  all_goals try exact om
  refine end_ret rfl ?_
  simp only [fin,go_sem,vS]
  exact LeA.refl _
noncomputable def con68:PCon Tryz.prog where
  f:=68
  c:=fun
   |[.lit (.string op),x]=>(rowIx op).bind fun i=>(slK .i64 x).map fun xs=>(okL i xs,.lit (.int .i64 (vS i xs)))
   |_=>none
  ok:=by
   intro args p r hc hp
   split at hc
   ·rename_i op x
    rcases ix_cases op with ⟨i,hi,he,hx,_⟩|⟨hx,_⟩
    ·rw [hx] at hc
     cases hl:slK .i64 x with
     |none=>rw [hl] at hc;cases hc
     |some xs=>
      rw [hl] at hc
      cases hc
      refine PC.weak (bs:=[.lit (.string op),.sl false 1 (ints .i64 xs)]) ?_ ⟨LeA.refl _,slK_le hl,trivial⟩
      subst he
      clear hx hl
      have:i=0∨i=1∨i=2∨i=3∨i=4∨i=5∨i=6∨i=7∨i=8∨i=9∨i=10∨i=11∨i=12∨i=13∨i=14∨i=15∨i=16∨i=17∨i=18∨i=19∨i=20∨i=21:=by omega
      rcases this with rfl|rfl|rfl|rfl|rfl|rfl|rfl|rfl|rfl|rfl|rfl|rfl|rfl|rfl|rfl|rfl|rfl|rfl|rfl|rfl|rfl|rfl
      ·obtain ⟨a,b,rfl,h0,h1⟩:=okL_0.1 hp;exact v26_0 h0 h1
      ·obtain ⟨a,b,rfl,h0,h1⟩:=okL_1.1 hp;exact v26_1 h0 h1
      ·obtain ⟨a,b,rfl,h0,h1⟩:=okL_2.1 hp;exact v26_2 h0 h1
      ·obtain ⟨a,b,rfl,h0,h1⟩:=okL_3.1 hp;exact v26_3 h0 h1
      ·obtain ⟨a,b,rfl,h0,h1⟩:=okL_4.1 hp;exact v26_4 h0 h1
      ·obtain ⟨a,b,rfl,h0,h1⟩:=okL_5.1 hp;exact v26_5 h0 h1
      ·obtain ⟨a,b,rfl,h0,h1⟩:=okL_6.1 hp;exact v26_6 h0 h1
      ·obtain ⟨a,rfl,h0⟩:=okL_7.1 hp;exact v26_7 h0
      ·obtain ⟨a,rfl,h0⟩:=okL_8.1 hp;exact v26_8 h0
      ·obtain ⟨a,rfl,h0⟩:=okL_9.1 hp;exact v26_9 h0
      ·obtain ⟨a,b,rfl,h0,h1⟩:=okL_10.1 hp;exact v26_10 h0 h1
      ·obtain ⟨a,b,rfl,h0,h1⟩:=okL_11.1 hp;exact v26_11 h0 h1
      ·obtain ⟨a,b,rfl,h0,h1⟩:=okL_12.1 hp;exact v26_12 h0 h1
      ·obtain ⟨a,b,rfl,h0,h1⟩:=okL_13.1 hp;exact v26_13 h0 h1
      ·obtain ⟨a,b,rfl,h0,h1⟩:=okL_14.1 hp;exact v26_14 h0 h1
      ·obtain ⟨a,b,rfl,h0,h1⟩:=okL_15.1 hp;exact v26_15 h0 h1
      ·obtain ⟨a,b,rfl,h0,h1⟩:=okL_16.1 hp;exact v26_16 h0 h1
      ·obtain ⟨a,b,rfl,h0,h1⟩:=okL_17.1 hp;exact v26_17 h0 h1
      ·obtain ⟨a,b,rfl,h0,h1⟩:=okL_18.1 hp;exact v26_18 h0 h1
      ·obtain ⟨a,rfl,h0⟩:=okL_19.1 hp;exact v26_19 h0
      ·obtain ⟨a,b,c,rfl,h0,h1,h2⟩:=okL_20.1 hp;exact v26_20 h0 h1 h2
      ·obtain ⟨a,rfl,h0⟩:=okL_21.1 hp;exact v26_21 h0
    ·rw [hx] at hc;cases hc
   ·cases hc
  fk:=fk68
theorem con68_f:con68.f=68:=rfl
theorem con68_c {op:ByteArray} {x:AV}:con68.c [.lit (.string op),x]=(rowIx op).bind fun i=>(slK .i64 x).map fun xs=>(okL i xs,.lit (.int .i64 (vS i xs))):=rfl
end Go.Proofs.YtcpjahmajkhchaaGreat.El

namespace Go.Proofs.YtcpjahmajkhchaaGreat.El
open Go.Proofs.YtcpjahmajkhchaaGreat
open Go Go.Fw
set_option maxRecDepth 20000
end Go.Proofs.YtcpjahmajkhchaaGreat.El

namespace Go.Proofs.YtcpjahmajkhchaaGreat.El
open Go.Proofs.YtcpjahmajkhchaaGreat
open Go Go.Fw
set_option maxRecDepth 20000
noncomputable def con65:PCon Tryz.prog where
  f:=65
  c:=fun
   |[.lit (.string op)]=>some (True,typesV (typesS op))
   |_=>none
  ok:=by
   intro args p r hc hp
   split at hc
   ·cases hc;exact types_pc
   ·cases hc
  fk:=fk65
theorem con65_f:con65.f=65:=rfl
theorem con65_c {op:ByteArray}:con65.c [.lit (.string op)]=some (True,typesV (typesS op)):=rfl
noncomputable def con44:PCon Tryz.prog where
  f:=44
  c:=fun
   |[.lit (.string op)]=>some (True,typesV (typesS op))
   |_=>none
  ok:=by
   intro args p r hc hp
   split at hc
   ·cases hc;exact rtypes_pc
   ·cases hc
  fk:=fk44
theorem con44_f:con44.f=44:=rfl
theorem con44_c {op:ByteArray}:con44.c [.lit (.string op)]=some (True,typesV (typesS op)):=rfl
theorem typesV_none:typesV none= .tup [.lit (.slice none 0 0),.lit (.string ⟨#[]⟩),.lit (.bool false)]:=rfl
theorem typesV_row (i:Nat):typesV (some (rowsL.getD i default))= .tup [.sl false 1 (strs (psN i)),.lit (.string (rowsL.getD i default).rs),.lit (.bool true)]:=rfl
def okB (i:Nat) (xs:List Int):Bool:=decide (xs.length=(psN i).length)&&okA (psN i) xs
def applyS (op:ByteArray) (xs:List Int):Option Int:=(rowIx op).bind fun i=>if okB i xs=true then some (vS i xs) else none
def applyV (o:Option Int):AV:=match o with
  |some n=> .tup [.lit (.int .i64 n),.lit (.bool true)]
  |none=> .tup [.lit (.int .i64 0),.lit (.bool false)]
theorem okA_drop {ps:List ByteArray} {xs:List Int} {i:Nat} (h1:i<ps.length) (h2:i<xs.length):
    okA (ps.drop i) (xs.drop i)=(vld (elT (ps.getD i ByteArray.empty)) (xs.getD i 0)&&okA (ps.drop (i+1)) (xs.drop (i+1))):=by
  rw [getD_elem _ _ h1,getD_elem _ _ h2]
  conv=>lhs;rw [List.drop_eq_getElem_cons h1,List.drop_eq_getElem_cons h2]
  rfl
theorem psN_len:∀ i,i<22→(psN i).length≤3∧1≤(psN i).length∧((psN i).length=3→i=20):=by decide
noncomputable def E7:Env:=envOf (P:=Tryz.prog) zer (fun _=>false) (fun _=>false) [con40,con65,con68] []
theorem E7_ok:EnvOk Tryz.prog E7:=envOk zer_ok
set_option maxHeartbeats 2000000 in
theorem apply_pc {op:ByteArray} {xs:List Int}:PC Tryz.prog 41 [.lit (.string op),.sl false 1 (ints .i64 xs)] (applyV (applyS op xs)):=by
  rcases ix_cases op with ⟨i0,hi0, -,hx,ht⟩|⟨hx,ht⟩
  rotate_left
  ·have e:applyS op xs=none:=by unfold applyS;rw [hx];rfl
   rw [e]
   refine pcO E7_ok (fun _=>[0,1,4,5,6,8,9,10,11,26,27,28,29,30,39,43]) Tryz.func41 (h:=fun KF=>?_)
   unfold E7
   repeat' (first
    |(with_reducible first|refine nx ?_|refine t_seq fun K=>?_|refine t_br (fun hc=>?_) fun hc=>?_|refine t_bx ?_|apply And.intro|intro vr)
    |((with_reducible first|refine ny ?_|refine t_dwh (h:=fun K KL=>?_));intros;simp only [go_sem,geff,con40_f,con65_f,con68_f,con65_c,ht,typesV_none]))
   refine end_ret rfl ?_
   simp only [fin,go_sem,applyV]
   exact LeA.refl _
  have hl:=psN_len i0 hi0
  have hT:=typesV_row i0
  by_cases hn:xs.length=(psN i0).length
  rotate_left
  ·have e:applyS op xs=none:=by unfold applyS;rw [hx];simp [okB,hn]
   have g1:((xs.length:Int) !=((psN i0).length:Int))=true:=by rw [bne_iff_ne];omega
   rw [e]
   refine pcO E7_ok (fun _=>[0,1,4,5,6,8,9,10,11,26,27,28,29,30,39,43]) Tryz.func41 (h:=fun KF=>?_)
   unfold E7
   repeat' (first
    |(with_reducible first|refine nx ?_|refine t_seq fun K=>?_|refine t_br (fun hc=>?_) fun hc=>?_|refine t_bx ?_|apply And.intro|intro vr)
    |((with_reducible first|refine ny ?_|refine t_dwh (h:=fun K KL=>?_));intros;simp only [go_sem,geff,con40_f,con65_f,con68_f,con65_c,ht,hT,g1,pickB]))
   all_goals try exact om
   refine end_ret rfl ?_
   simp only [fin,go_sem,applyV]
   exact LeA.refl _
  have g1:((xs.length:Int) !=((psN i0).length:Int))=false:=by rw [bne_eq_false_iff_eq];omega
  have hR:applyS op xs=if okA (psN i0) xs=true then some (vS i0 xs) else none:=by
    unfold applyS
    rw [hx]
    simp [okB,hn]
  have hL:okA (psN i0) xs=true→okL i0 xs:=fun h=>⟨hn,h⟩
  rw [hR]
  clear hR
  generalize hps:psN i0=ps at*
  clear hps
  refine pcO E7_ok (fun _=>[0,1,4,5,6,8,9,10,11,26,27,28,29,30,39,43]) Tryz.func41 (h:=fun KF=>?_)
  unfold E7
  repeat' (first
   |(with_reducible first|refine nx ?_|refine t_seq fun K=>?_|refine t_br (fun hc=>?_) fun hc=>?_|refine t_bx ?_|apply And.intro|intro vr)
   |((with_reducible first|refine ny ?_|refine t_dwh (h:=fun K KL=>?_));intros;simp only [go_sem,geff,con40_f,con65_f,con68_f,con65_c,ht,hT,g1,pickB]))
  all_goals try exact om
  refine t_loop (ι:={i:Nat // i≤xs.length∧okA (ps.drop i) (xs.drop i)=okA ps xs}) (fun i=>⟨upd (upd (upd (upd (upd (upd topF 29 (.lit (.int .i64 i.1))) 28 (.lit (.int .i64 xs.length))) 27 (.sl false 1 (ints .i64 xs))) 6 (.sl false 1 (strs ps))) 1 (.sl false 1 (ints .i64 xs))) 0 (.lit (.string op)),[]⟩) (fun i=>xs.length - i.1) ⟨0,by omega,rfl⟩ ?_ ?_
  ·skip
   (refine Le.frame ?_;repeat' (first|exact leF_top _|(with_reducible refine leF_sl ?_ ?_)|(refine leF_upd (LeR.of_eq ?_) ?_)))<;>(try (simp only [go_sem];try rfl))
  rintro ⟨i,hi,hF⟩ K0
  rcases Nat.lt_or_ge i xs.length with hc|hc
  ·have g2:decide ((i:Int)<(xs.length:Int))=true:=decide_eq_true (by omega)
   have hc':i<ps.length:=by omega
   have e1:=ints_getD .i64 xs i hc
   have e2:=strs_getD ps i hc'
   rw [okA_drop hc' hc] at hF
   generalize ps.getD i ByteArray.empty=p at*
   generalize xs.getD i 0=x at*
   by_cases hA:eqS p ⟨#[65]⟩=true
   ·have hel:elT p=⟨#[105,110,116]⟩:=by unfold elT sA sInt;rw [if_pos hA]
    rw [hel] at hF
    cases hv:vld ⟨#[105,110,116]⟩ x with
    |true=>
     rw [hv,Bool.true_and] at hF
     repeat' (first
      |(with_reducible first|refine nx ?_|refine t_seq fun K=>?_|refine t_br (fun hc=>?_) fun hc=>?_|refine t_bx ?_|apply And.intro|intro vr)
      |((with_reducible first|refine ny ?_|refine t_dwh (h:=fun K KL=>?_));intros;simp only [go_sem,geff,g2,Int.toNat_natCast,e1,e2,hA,hv,con40_f,con65_f,con68_f,con40_c]))
     all_goals try exact om
     refine ⟨⟨i+1,by omega,hF⟩,by simp only;omega,?_⟩
     (refine Le.frame ?_;repeat' (first|exact leF_top _|(with_reducible refine leF_sl ?_ ?_)|(refine leF_upd (LeR.of_eq ?_) ?_)))<;>(try (simp only [go_sem];try rfl))
    |false=>
     rw [hv,Bool.false_and] at hF
     have hF2:okA ps xs=false:=hF.symm
     repeat' (first
      |(with_reducible first|refine nx ?_|refine t_seq fun K=>?_|refine t_br (fun hc=>?_) fun hc=>?_|refine t_bx ?_|apply And.intro|intro vr)
      |((with_reducible first|refine ny ?_|refine t_dwh (h:=fun K KL=>?_));intros;simp only [go_sem,geff,g2,Int.toNat_natCast,e1,e2,hA,hv,con40_f,con65_f,con68_f,con40_c]))
     all_goals try exact om
     refine end_ret rfl ?_
     simp only [fin,go_sem,applyV,hF2,Bool.false_eq_true]
     exact LeA.refl _
   ·have hA':eqS p ⟨#[65]⟩=false:=by simpa using hA
    have hel:elT p=p:=by unfold elT sA;rw [if_neg hA]
    rw [hel] at hF
    cases hv:vld p x with
    |true=>
     rw [hv,Bool.true_and] at hF
     repeat' (first
      |(with_reducible first|refine nx ?_|refine t_seq fun K=>?_|refine t_br (fun hc=>?_) fun hc=>?_|refine t_bx ?_|apply And.intro|intro vr)
      |((with_reducible first|refine ny ?_|refine t_dwh (h:=fun K KL=>?_));intros;simp only [go_sem,geff,g2,Int.toNat_natCast,e1,e2,hA',hv,con40_f,con65_f,con68_f,con40_c]))
     all_goals try exact om
     refine ⟨⟨i+1,by omega,hF⟩,by simp only;omega,?_⟩
     (refine Le.frame ?_;repeat' (first|exact leF_top _|(with_reducible refine leF_sl ?_ ?_)|(refine leF_upd (LeR.of_eq ?_) ?_)))<;>(try (simp only [go_sem];try rfl))
    |false=>
     rw [hv,Bool.false_and] at hF
     have hF2:okA ps xs=false:=hF.symm
     repeat' (first
      |(with_reducible first|refine nx ?_|refine t_seq fun K=>?_|refine t_br (fun hc=>?_) fun hc=>?_|refine t_bx ?_|apply And.intro|intro vr)
      |((with_reducible first|refine ny ?_|refine t_dwh (h:=fun K KL=>?_));intros;simp only [go_sem,geff,g2,Int.toNat_natCast,e1,e2,hA',hv,con40_f,con65_f,con68_f,con40_c]))
     all_goals try exact om
     refine end_ret rfl ?_
     simp only [fin,go_sem,applyV,hF2,Bool.false_eq_true]
     exact LeA.refl _
  ·have g2:decide ((i:Int)<(xs.length:Int))=false:=decide_eq_false (by omega)
   have:i=xs.length:=by omega
   subst this
   have hF':okA ps xs=true:=by
     rw [←hF,List.drop_eq_nil_of_le (by omega:ps.length≤xs.length)];rfl
   repeat' (first
    |(with_reducible first|refine nx ?_|refine t_seq fun K=>?_|refine t_br (fun hc=>?_) fun hc=>?_|refine t_bx ?_|apply And.intro|intro vr)
    |((with_reducible first|refine ny ?_|refine t_dwh (h:=fun K KL=>?_));intros;simp only [go_sem,geff,g2,con40_f,con65_f,con68_f,con68_c,hx,slK_sl,Option.bind_some,Option.map_some]))
   all_goals try exact om
   ·exact hL hF'
   refine end_ret rfl ?_
   simp only [fin,go_sem,applyV,hF']
   exact LeA.refl _
noncomputable def con41:PCon Tryz.prog where
  f:=41
  c:=fun
   |[.lit (.string op),x]=>(slK .i64 x).map fun xs=>(True,applyV (applyS op xs))
   |_=>none
  ok:=by
   intro args p r hc hp
   split at hc
   ·rename_i op x
    cases hl:slK .i64 x with
    |none=>rw [hl] at hc;cases hc
    |some xs=>
     rw [hl] at hc
     cases hc
     exact PC.weak apply_pc ⟨LeA.refl _,slK_le hl,trivial⟩
   ·cases hc
  fk:=fk41
theorem con41_f:con41.f=41:=rfl
theorem con41_c {op:ByteArray} {x:AV}:con41.c [.lit (.string op),x]=(slK .i64 x).map fun xs=>(True,applyV (applyS op xs)):=rfl
end Go.Proofs.YtcpjahmajkhchaaGreat.El

namespace Go.Proofs.YtcpjahmajkhchaaGreat.El
open Go.Proofs.YtcpjahmajkhchaaGreat
open Go Go.Fw
set_option maxRecDepth 20000
end Go.Proofs.YtcpjahmajkhchaaGreat.El

namespace Go.Proofs.YtcpjahmajkhchaaGreat.El
open Go.Proofs.YtcpjahmajkhchaaGreat
open Go Go.Fw
set_option maxRecDepth 20000
theorem clone_ec {σ:List AObj} {l:List ByteArray} (h0:l≠[]) (hl:l.length≤1000000) {k:AV→List AObj→Prop}
    (hk:k (.arr σ.length 0) (σ++[.arr 9 1 (strs l) 0 false])):EC Tryz.prog 85 [.sl false 1 (strs l)] σ k:=by
  refine ecO E0_ok (fun _=>[0,2,4]) Tryz.func85 (h:=fun KF=>?_)
  unfold E0
  repeat' (first
   |(with_reducible first|refine nx ?_|refine t_seq fun K=>?_|refine t_br (fun hc=>?_) fun hc=>?_|refine t_bx ?_|apply And.intro|intro vr)
   |((with_reducible first|refine ny ?_|refine t_dwh (h:=fun K KL=>?_));intros;simp only [go_sem,geff]))
  all_goals try exact om
  ·exact absurd (by assumption) (fun h:strs l=[]=>h0 (by cases l with|nil=>rfl|cons a m=>cases h))
  ·skip
   refine end_ret rfl ?_
   simp only [go_sem]
   exact hk
noncomputable def con30E:ECon Tryz.prog where
  f:=85
  c:=fun args σ k=>match args with
   |[x]=>match slS x with
    |some l=>(l≠[]∧l.length≤1000000)∧k (.arr σ.length 0) (σ++[.arr 9 1 (strs l) 0 false])
    |none=>False
   |_=>False
  ok:=by
   intro args σ k h
   split at h
   ·split at h
    ·rename_i hx
     exact EC.weak (clone_ec h.1.1 h.1.2 h.2) (LeRL.cons (slS_leR hx) LeRL.nil)
    ·exact h.elim
   ·exact h.elim
  fk:=fk85
theorem con30E_f:con30E.f=85:=rfl
theorem con30E_c {σ:List AObj} {k:AV→List AObj→Prop} {x:AV}:con30E.c [x] σ k=match slS x with
      |some l=>(l≠[]∧l.length≤1000000)∧k (.arr σ.length 0) (σ++[.arr 9 1 (strs l) 0 false])
      |none=>False:=rfl
theorem rows_ne:∀ r∈rowsL,r.ps≠[]:=by decide
noncomputable def E31:Env:=envOf (P:=Tryz.prog) zer (fun _=>false) (fun _=>false) [con84] [con30E]
theorem E31_ok:EnvOk Tryz.prog E31:=envOk zer_ok
set_option maxHeartbeats 1000000 in
theorem types_ec {σ:List AObj} {op:ByteArray} {k:AV→List AObj→Prop}
    (hk:match typesS op with
      |some r=>∀ s,(∃ g,s=σ++g)→k (.tup [.arr s.length 0,.lit (.string r.rs),.lit (.bool true)]) (s++[.arr 9 1 (strs r.ps) 0 false])
      |none=>∀ s,(∃ g,s=σ++g)→k (typesV none) s):EC Tryz.prog 65 [.lit (.string op)] σ k:=by
  unfold typesS at hk
  generalize hR:rowsL.find? (fun r=>eqS r.op op)=R at hk
  refine ecO E31_ok (fun _=>[0,2,3,4,6,7,8,9,14]) Tryz.func65 (h:=fun KF=>?_)
  unfold E31
  repeat' (first
   |(with_reducible first|refine nx ?_|refine t_seq fun K=>?_|refine t_br (fun hc=>?_) fun hc=>?_|refine t_bx ?_|apply And.intro|intro vr)|exact kpd
   |((with_reducible first|refine ny ?_|refine t_kLF ?_ ?_|refine t_drawE (id:=5) (fun i=>i==s.length) [(0,1),(1,1),(3,1),(4,1),(2,0),(5,1),(6,1),(7,1)] (by kernel_rfl) fun K=>?_|refine t_dwh (h:=fun K KL=>?_));intros;simp only [go_sem,geff,con84_f,con84_c,rowCells_all,Bool.false_eq_true]))
  refine t_loop (ι:={i:Nat // i≤22∧(rowsL.drop i).find? (fun r=>eqS r.op op)=R}×{s:List AObj // ∃ g,s=σ++g}) (fun i=>⟨upd (upd (upd topF 8 (.lit (.int .i64 i.1.1))) 7 (.agg rowCells)) 0 (.lit (.string op)),i.2.1⟩) (fun i=>22 - i.1.1) (⟨0,by omega,hR⟩,⟨σ,[],by simp⟩) ?_ ?_
  ·skip
   (refine Le.frame ?_;repeat' (first|exact leF_top _|(with_reducible refine leF_sl ?_ ?_)|(refine leF_upd (LeR.of_eq ?_) ?_)))<;>(try (simp only [go_sem];try rfl))
  ·rintro ⟨⟨i,hi,hF⟩,s,g,hs⟩ K0
   rcases Nat.lt_or_ge i 22 with hc|hc
   ·have g1:decide ((i:Int)<22)=true:=decide_eq_true (by omega)
    have g2:=row_cells i hc
    have g3:(i*3+3≤66)=True:=eq_true (by omega)
    have hd:rowsL.drop i=rowsL.getD i default::rowsL.drop (i+1):=by
      rw [List.drop_eq_getElem_cons (by rw [rows_len];exact hc),getD_elem _ _ (by rw [rows_len];exact hc)]
    have hps:=rows_ps (rowsL.getD i default) (by rw [getD_elem _ _ (by rw [rows_len];exact hc)];exact List.getElem_mem _)
    have hpn:=rows_ne (rowsL.getD i default) (by rw [getD_elem _ _ (by rw [rows_len];exact hc)];exact List.getElem_mem _)
    generalize rowsL.getD i default=r at g2 hd hps hpn
    obtain ⟨nm,ps,rs⟩:=r
    simp only at hps hpn
    rw [hd,List.find?_cons] at hF
    have k1:∀ (A:AObj),(s++[A])[s.length]? =some A:=fun A=>getA0 rfl
    have k2:∀ (A B:AObj),(s++[A]).set s.length B=s++[B]:=fun A B=>setA0 rfl
    by_cases he:eqS nm op=true
    ·have:R=some ⟨nm,ps,rs⟩:=by rw [←hF];simp only [he]
     subst this
     have hk':=hk (s++[.box 122 [.lit (.string nm),.sl true 1 (strs ps),.lit (.string rs)]]) ⟨g++[.box 122 [.lit (.string nm),.sl true 1 (strs ps),.lit (.string rs)]],by rw [hs,List.append_assoc]⟩
     repeat' (first
      |(with_reducible first|refine nx ?_|refine t_seq fun K=>?_|refine t_br (fun hc=>?_) fun hc=>?_|refine t_bx ?_|apply And.intro|intro vr)|exact kpd
      |((with_reducible first|refine ny ?_|refine t_kLF ?_ ?_|refine t_drawE (id:=5) (fun i=>i==s.length) [(0,1),(1,1),(3,1),(4,1),(2,0),(5,1),(6,1),(7,1)] (by kernel_rfl) fun K=>?_|refine t_dwh (h:=fun K KL=>?_));intros;simp only [go_sem,geff,g1,Int.toNat_natCast,g3,rowCells_len,g2,rowC,yes_def,need_def,k1,k2,he,con84_f,con30E_f,con30E_c,slS_sl,typesV]))
     all_goals try exact om
     refine end_ret rfl ?_
     simp only [go_sem]
     simpa using hk'
    ·have he':eqS nm op=false:=by simpa using he
     have hF':(rowsL.drop (i+1)).find? (fun r=>eqS r.op op)=R:=by rw [←hF];simp only [he']
     repeat' (first
      |(with_reducible first|refine nx ?_|refine t_seq fun K=>?_|refine t_br (fun hc=>?_) fun hc=>?_|refine t_bx ?_|apply And.intro|intro vr)|exact kpd
      |((with_reducible first|refine ny ?_|refine t_kLF ?_ ?_|refine t_drawE (id:=5) (fun i=>i==s.length) [(0,1),(1,1),(3,1),(4,1),(2,0),(5,1),(6,1),(7,1)] (by kernel_rfl) fun K=>?_|refine t_dwh (h:=fun K KL=>?_));intros;simp only [go_sem,geff,g1,Int.toNat_natCast,g3,rowCells_len,g2,rowC,yes_def,need_def,k1,k2,he',con84_f,con30E_f,con30E_c,slS_sl]))
     all_goals try exact om
     refine ⟨(⟨i+1,by omega,hF'⟩,⟨s++[.box 122 [.lit (.string nm),.sl true 1 (strs ps),.lit (.string rs)]],g++[.box 122 [.lit (.string nm),.sl true 1 (strs ps),.lit (.string rs)]],by rw [hs,List.append_assoc]⟩),by simp only;omega,?_⟩
     (refine Le.frame ?_;repeat' (first|exact leF_top _|(with_reducible refine leF_sl ?_ ?_)|(refine leF_upd (LeR.of_eq ?_) ?_)))<;>(try (simp only [go_sem];try rfl))
   ·have g1:decide ((i:Int)<22)=false:=decide_eq_false (by omega)
    have:i=22:=by omega
    subst this
    have:R=none:=by rw [←hF];rfl
    subst this
    repeat' (first
     |(with_reducible first|refine nx ?_|refine t_seq fun K=>?_|refine t_br (fun hc=>?_) fun hc=>?_|refine t_bx ?_|apply And.intro|intro vr)|exact kpd
     |((with_reducible first|refine ny ?_|refine t_kLF ?_ ?_|refine t_drawE (id:=5) (fun i=>i==s.length) [(0,1),(1,1),(3,1),(4,1),(2,0),(5,1),(6,1),(7,1)] (by kernel_rfl) fun K=>?_|refine t_dwh (h:=fun K KL=>?_));intros;simp only [go_sem,geff,g1,typesV]))
    refine end_ret rfl ?_
    simp only [go_sem]
    exact hk _ ⟨g,hs⟩
noncomputable def con20E:ECon Tryz.prog where
  f:=65
  c:=fun args σ k=>match args with
   |[.lit (.string op)]=>match typesS op with
    |some r=>∀ s,(∃ g,s=σ++g)→k (.tup [.arr s.length 0,.lit (.string r.rs),.lit (.bool true)]) (s++[.arr 9 1 (strs r.ps) 0 false])
    |none=>∀ s,(∃ g,s=σ++g)→k (typesV none) s
   |_=>False
  ok:=by
   intro args σ k h
   split at h
   ·exact types_ec h
   ·exact h.elim
  fk:=fk65
theorem con20E_f:con20E.f=65:=rfl
theorem con20E_c {σ:List AObj} {k:AV→List AObj→Prop} {op:ByteArray}:con20E.c [.lit (.string op)] σ k=match typesS op with
      |some r=>∀ s,(∃ g,s=σ++g)→k (.tup [.arr s.length 0,.lit (.string r.rs),.lit (.bool true)]) (s++[.arr 9 1 (strs r.ps) 0 false])
      |none=>∀ s,(∃ g,s=σ++g)→k (typesV none) s:=rfl
def orS (a b:ByteArray):ByteArray:=if eqS a ⟨#[]⟩=true then b else a
set_option maxHeartbeats 400000 in
theorem or_pc {a b:ByteArray}:PC Tryz.prog 83 [.sl false 1 (strs [a,b])] (.lit (.string (orS a b))):=by
  unfold orS
  have s0:(strs [a,b]).getD 0 AV.top= .lit (.string a):=rfl
  have s1:(strs [a,b]).getD 1 AV.top= .lit (.string b):=rfl
  refine pcO E0_ok (fun _=>[0,2,3,5,6,7,8,9,14]) Tryz.func83 (h:=fun KF=>?_)
  unfold E0
  repeat' (first
   |(with_reducible first|refine nx ?_|refine t_seq fun K=>?_|refine t_br (fun hc=>?_) fun hc=>?_|refine t_bx ?_|apply And.intro|intro vr)
   |((with_reducible first|refine ny ?_|refine t_dwh (h:=fun K KL=>?_));intros;simp only [go_sem,geff]))
  refine t_loop (ι:={i:Nat // i≤2∧(0<i→eqS a ⟨#[]⟩=true)∧(1<i→eqS b ⟨#[]⟩=true)}) (fun i=>⟨upd (upd (upd (upd topF 8 (.lit (.int .i64 i.1))) 7 (.lit (.int .i64 2))) 6 (.sl false 1 (strs [a,b]))) 3 (.lit (.string ⟨#[]⟩)),[]⟩) (fun i=>2 - i.1) ⟨0,by omega,by omega,by omega⟩ ?_ ?_
  ·skip
   (refine Le.frame ?_;repeat' (first|exact leF_top _|(with_reducible refine leF_sl ?_ ?_)|(refine leF_upd (LeR.of_eq ?_) ?_)))<;>(try (simp only [go_sem];try rfl))
  ·rintro ⟨i,hi,h1,h2⟩ K0
   have:i=0∨i=1∨i=2:=by omega
   rcases this with rfl|rfl|rfl
   ·by_cases ha:eqS a ⟨#[]⟩=true
    ·skip
     repeat' (first
      |(with_reducible first|refine nx ?_|refine t_seq fun K=>?_|refine t_br (fun hc=>?_) fun hc=>?_|refine t_bx ?_|apply And.intro|intro vr)
      |((with_reducible first|refine ny ?_|refine t_dwh (h:=fun K KL=>?_));intros;simp only [go_sem,geff,ha,s0,s1]))
     all_goals try exact om
     refine ⟨⟨1,by omega,fun _=>ha,by omega⟩,by simp only;omega,?_⟩
     (refine Le.frame ?_;repeat' (first|exact leF_top _|(with_reducible refine leF_sl ?_ ?_)|(refine leF_upd (LeR.of_eq ?_) ?_)))<;>(try (simp only [go_sem];try rfl))
    ·have ha':eqS a ⟨#[]⟩=false:=by simpa using ha
     repeat' (first
      |(with_reducible first|refine nx ?_|refine t_seq fun K=>?_|refine t_br (fun hc=>?_) fun hc=>?_|refine t_bx ?_|apply And.intro|intro vr)
      |((with_reducible first|refine ny ?_|refine t_dwh (h:=fun K KL=>?_));intros;simp only [go_sem,geff,ha',s0,s1]))
     all_goals try exact om
     refine end_ret rfl ?_
     simp only [fin,go_sem,ha',Bool.false_eq_true]
     exact LeA.refl _
   ·have ha:=h1 (by omega)
    by_cases hb:eqS b ⟨#[]⟩=true
    ·skip
     repeat' (first
      |(with_reducible first|refine nx ?_|refine t_seq fun K=>?_|refine t_br (fun hc=>?_) fun hc=>?_|refine t_bx ?_|apply And.intro|intro vr)
      |((with_reducible first|refine ny ?_|refine t_dwh (h:=fun K KL=>?_));intros;simp only [go_sem,geff,hb,s0,s1]))
     all_goals try exact om
     refine ⟨⟨2,by omega,fun _=>ha,fun _=>hb⟩,by simp only;omega,?_⟩
     (refine Le.frame ?_;repeat' (first|exact leF_top _|(with_reducible refine leF_sl ?_ ?_)|(refine leF_upd (LeR.of_eq ?_) ?_)))<;>(try (simp only [go_sem];try rfl))
    ·have hb':eqS b ⟨#[]⟩=false:=by simpa using hb
     repeat' (first
      |(with_reducible first|refine nx ?_|refine t_seq fun K=>?_|refine t_br (fun hc=>?_) fun hc=>?_|refine t_bx ?_|apply And.intro|intro vr)
      |((with_reducible first|refine ny ?_|refine t_dwh (h:=fun K KL=>?_));intros;simp only [go_sem,geff,hb',s0,s1]))
     all_goals try exact om
     refine end_ret rfl ?_
     simp only [fin,go_sem,ha]
     exact LeA.refl _
   ·have ha:=h1 (by omega)
    have hb:=h2 (by omega)
    repeat' (first
     |(with_reducible first|refine nx ?_|refine t_seq fun K=>?_|refine t_br (fun hc=>?_) fun hc=>?_|refine t_bx ?_|apply And.intro|intro vr)
     |((with_reducible first|refine ny ?_|refine t_dwh (h:=fun K KL=>?_));intros;simp only [go_sem,geff]))
    all_goals try exact om
    refine end_ret rfl ?_
    simp only [fin,go_sem,ha]
    rw [eqS_iff.1 hb]
    exact LeA.refl _
noncomputable def con83:PCon Tryz.prog where
  f:=83
  c:=fun
   |[x]=>match slS x with
    |some [a,b]=>some (True,.lit (.string (orS a b)))
    |_=>none
   |_=>none
  ok:=by
   intro args p r hc hp
   split at hc
   ·split at hc
    ·rename_i hx
     cases hc
     exact PC.weak or_pc ⟨slS_le hx,trivial⟩
    ·cases hc
   ·cases hc
  fk:=fk83
theorem con83_f:con83.f=83:=rfl
theorem con83_c {x:AV}:con83.c [x]=match slS x with
      |some [a,b]=>some (True,.lit (.string (orS a b)))
      |_=>none:=rfl
def goS:List ByteArray→List ByteArray→ByteArray→Option ByteArray
  |p::ps,t::ts,a=>if eqS t ⟨#[105,110,116]⟩=false∧eqS t ⟨#[98,111,111,108]⟩=false then none
   else if eqS p ⟨#[65]⟩=true then (if eqS a ⟨#[]⟩=true then goS ps ts t else if eqS t a=true then goS ps ts a else none)
   else if eqS t p=true then goS ps ts a else none
  |_,_,a=>some a
def resS (op:ByteArray) (ts:List ByteArray):Option ByteArray:=match typesS op with
  |some r=>if ts.length=r.ps.length then (goS r.ps ts ⟨#[]⟩).map fun a=>if eqS r.rs ⟨#[65]⟩=true then a else r.rs else none
  |none=>none
def rsV:Option ByteArray→AV
  |some s=> .tup [.lit (.string s),.lit (.bool true)]
  |none=> .tup [.lit (.string ⟨#[]⟩),.lit (.bool false)]
structure Lp (ps ts:List ByteArray) (G:Option ByteArray) where
  i:Nat
  a:ByteArray
  xs:List ByteArray
  hi:i≤ts.length
  hx:xs.length=ts.length
  hxd:xs.drop i=ps.drop i
  hF:goS (ps.drop i) (ts.drop i) a=G
theorem slS_two {b:Bool} {a t:ByteArray}:slS (.sl b 1 [.lit (.string a),.lit (.string t)])=some [a,t]:=slS_sl (l:=[a,t])
theorem strs_set (l:List ByteArray) (i:Nat) (v:ByteArray):(strs l).set i (.lit (.string v))=strs (l.set i v):=by simp [strs,List.map_set]
theorem strs_setD (l:List ByteArray) (i:Nat) (v:ByteArray) (h:i<l.length):(strs (l.set i v)).getD i .top= .lit (.string v):=by
  rw [strs_getD _ _ (by simpa using h)];simp [List.getD,h]
theorem drop_getD {l:List ByteArray} {i:Nat} (h:i<l.length):l.drop i=l.getD i ByteArray.empty::l.drop (i+1):=by
  rw [List.drop_eq_getElem_cons h];simp [List.getD,h]
theorem drop_hd {l m:List ByteArray} {i:Nat} (h:l.drop i=m.drop i) (hl:i<l.length) (hm:i<m.length):l.getD i ByteArray.empty=m.getD i ByteArray.empty:=by
  rw [drop_getD hl,drop_getD hm] at h
  exact (List.cons.inj h).1
noncomputable def E32:Env:=envOf (P:=Tryz.prog) zer (fun _=>false) (fun _=>false) [con83] [con20E]
theorem E32_ok:EnvOk Tryz.prog E32:=envOk zer_ok
set_option maxHeartbeats 2000000 in
theorem result_pc {op:ByteArray} {ts:List ByteArray} (hl:ts.length≤1000000):PC Tryz.prog 63 [.lit (.string op),.sl false 1 (strs ts)] (rsV (resS op ts)):=by
  unfold resS
  cases hT:typesS op with
  |none=>
   refine pcO E32_ok (fun _=>[0,1,4,5,6,7,8,9,10,11,26,27,28,29,30,39,44,58,61]) Tryz.func63 (h:=fun KF=>?_)
   unfold E32
   repeat' (first
    |(with_reducible first|refine nx ?_|refine t_seq fun K=>?_|refine t_br (fun hc=>?_) fun hc=>?_|refine t_bx ?_|apply And.intro|intro vr)
    |((with_reducible first|refine ny ?_|refine t_dwh (h:=fun K KL=>?_));intros;simp only [go_sem,geff,con83_f,con20E_f,con20E_c,hT,typesV]))
   refine end_ret rfl ?_
   simp only [fin,go_sem,rsV]
   exact LeA.refl _
  |some r=>
   obtain ⟨nm,ps,rs⟩:=r
   by_cases hn:ts.length=ps.length
   ·have g0:((ts.length:Int) !=(ps.length:Int))=false:=by rw [bne_eq_false_iff_eq];omega
    simp only [hn,if_true]
    generalize hG:goS ps ts ⟨#[]⟩=G
    refine pcO E32_ok (fun _=>[0,1,4,5,6,7,8,9,10,11,26,27,28,29,30,39,44,58,61]) Tryz.func63 (h:=fun KF=>?_)
    unfold E32
    repeat' (first
     |(with_reducible first|refine nx ?_|refine t_seq fun K=>?_|refine t_br (fun hc=>?_) fun hc=>?_|refine t_bx ?_|apply And.intro|intro vr)
     |((with_reducible first|refine ny ?_|refine t_dwh (h:=fun K KL=>?_));intros;simp only [go_sem,geff,con83_f,con20E_f,con20E_c,hT,g0]))
    rename List AObj=>s
    refine t_loop (ι:=Lp ps ts G) (fun i=>⟨upd (upd (upd (upd (upd (upd topF 29 (.lit (.int .i64 i.i))) 28 (.lit (.int .i64 ts.length))) 27 (.sl false 1 (strs ts))) 9 (.lit (.string i.a))) 7 (.lit (.string rs))) 6 (.arr s.length 0),s++[.arr 9 1 (strs i.xs) 0 false]⟩) (fun i=>ts.length - i.i) ⟨0,_,ps,by omega,by omega,rfl,hG⟩ ?_ ?_
    ·skip
     (refine Le.frame ?_;repeat' (first|exact leF_top _|(with_reducible refine leF_sl ?_ ?_)|(refine leF_upd (LeR.of_eq ?_) ?_)))<;>(try (simp only [go_sem];try rfl))
    ·rintro ⟨i,a,xs,hi,hx,hxd,hF⟩ K0
     have k1:∀ (A:AObj),(s++[A])[s.length]? =some A:=fun A=>getA0 rfl
     have k2:∀ (A B:AObj),(s++[A]).set s.length B=s++[B]:=fun A B=>setA0 rfl
     rcases Nat.lt_or_ge i ts.length with hc|hc
     ·have g1:decide ((i:Int)<(ts.length:Int))=true:=decide_eq_true (by omega)
      have g2:=strs_getD ts i hc
      have g3:=strs_getD xs i (by omega)
      have hp:=drop_hd hxd (by omega) (by omega)
      rw [drop_getD hc,drop_getD (show i<ps.length by omega)] at hF
      have hxd':xs.drop (i+1)=ps.drop (i+1):=by have:=congrArg (List.drop 1) hxd;simpa using this
      rw [hp] at g3
      generalize ts.getD i ByteArray.empty=t at g2 hF
      generalize ps.getD i ByteArray.empty=p at g3 hF
      have setE:∀ v,(strs xs).set i (.lit (.string v))=strs (xs.set i v):=strs_set xs i
      have getE:∀ v,(strs (xs.set i v)).getD i .top= .lit (.string v):=fun v=>strs_setD xs i v (by omega)
      have hxd2:∀ v,(xs.set i v).drop (i+1)=ps.drop (i+1):=fun v=>by rw [List.drop_set_of_lt (by omega)];exact hxd'
      simp only [goS] at hF
      by_cases b1:eqS t ⟨#[105,110,116]⟩=true
      ·rw [if_neg (by rw [b1];simp)] at hF
       by_cases p1:eqS p ⟨#[65]⟩=true
       ·rw [if_pos p1] at hF
        by_cases a1:eqS a ⟨#[]⟩=true
        ·rw [if_pos a1] at hF
         have o1:orS a t=t:=by unfold orS;rw [if_pos a1]
         repeat' (first
          |(with_reducible first|refine nx ?_|refine t_seq fun K=>?_|refine t_br (fun hc=>?_) fun hc=>?_|refine t_bx ?_|apply And.intro|intro vr)
          |((with_reducible first|refine ny ?_|refine t_dwh (h:=fun K KL=>?_));intros;simp only [go_sem,geff,g1,b1,Int.toNat_natCast,g2,g3,k1,k2,setE,getE,yes_def,need_def,con83_f,con83_c,con20E_f,slS_two,p1,o1,eqS_refl]))
         all_goals try exact om
         refine ⟨⟨i+1,t,xs.set i t,by omega,by simp [hx],hxd2 t,hF⟩,by simp only;omega,?_⟩
         (refine Le.frame ?_;repeat' (first|exact leF_top _|(with_reducible refine leF_sl ?_ ?_)|(refine leF_upd (LeR.of_eq ?_) ?_)))<;>(try (simp only [go_sem];try rfl))
        ·have a1':eqS a ⟨#[]⟩=false:=by simpa using a1
         rw [if_neg a1] at hF
         have o1:orS a t=a:=by unfold orS;rw [if_neg a1]
         by_cases t1:eqS t a=true
         ·rw [if_pos t1] at hF
          repeat' (first
           |(with_reducible first|refine nx ?_|refine t_seq fun K=>?_|refine t_br (fun hc=>?_) fun hc=>?_|refine t_bx ?_|apply And.intro|intro vr)
           |((with_reducible first|refine ny ?_|refine t_dwh (h:=fun K KL=>?_));intros;simp only [go_sem,geff,g1,b1,Int.toNat_natCast,g2,g3,k1,k2,setE,getE,yes_def,need_def,con83_f,con83_c,con20E_f,slS_two,p1,o1,t1]))
          all_goals try exact om
          refine ⟨⟨i+1,a,xs.set i a,by omega,by simp [hx],hxd2 a,hF⟩,by simp only;omega,?_⟩
          (refine Le.frame ?_;repeat' (first|exact leF_top _|(with_reducible refine leF_sl ?_ ?_)|(refine leF_upd (LeR.of_eq ?_) ?_)))<;>(try (simp only [go_sem];try rfl))
         ·have t1':eqS t a=false:=by simpa using t1
          rw [if_neg t1] at hF
          subst hF
          repeat' (first
           |(with_reducible first|refine nx ?_|refine t_seq fun K=>?_|refine t_br (fun hc=>?_) fun hc=>?_|refine t_bx ?_|apply And.intro|intro vr)
           |((with_reducible first|refine ny ?_|refine t_dwh (h:=fun K KL=>?_));intros;simp only [go_sem,geff,g1,b1,Int.toNat_natCast,g2,g3,k1,k2,setE,getE,yes_def,need_def,con83_f,con83_c,con20E_f,slS_two,p1,o1,t1']))
          all_goals try exact om
          refine end_ret rfl ?_
          simp only [fin,go_sem,rsV,Option.map]
          exact LeA.refl _
       ·have p1':eqS p ⟨#[65]⟩=false:=by simpa using p1
        rw [if_neg p1] at hF
        by_cases t1:eqS t p=true
        ·rw [if_pos t1] at hF
         repeat' (first
          |(with_reducible first|refine nx ?_|refine t_seq fun K=>?_|refine t_br (fun hc=>?_) fun hc=>?_|refine t_bx ?_|apply And.intro|intro vr)
          |((with_reducible first|refine ny ?_|refine t_dwh (h:=fun K KL=>?_));intros;simp only [go_sem,geff,g1,b1,Int.toNat_natCast,g2,g3,k1,k2,setE,getE,yes_def,need_def,con83_f,con83_c,con20E_f,slS_two,p1',t1]))
         all_goals try exact om
         refine ⟨⟨i+1,a,xs,by omega,hx,hxd',hF⟩,by simp only;omega,?_⟩
         (refine Le.frame ?_;repeat' (first|exact leF_top _|(with_reducible refine leF_sl ?_ ?_)|(refine leF_upd (LeR.of_eq ?_) ?_)))<;>(try (simp only [go_sem];try rfl))
        ·have t1':eqS t p=false:=by simpa using t1
         rw [if_neg t1] at hF
         subst hF
         repeat' (first
          |(with_reducible first|refine nx ?_|refine t_seq fun K=>?_|refine t_br (fun hc=>?_) fun hc=>?_|refine t_bx ?_|apply And.intro|intro vr)
          |((with_reducible first|refine ny ?_|refine t_dwh (h:=fun K KL=>?_));intros;simp only [go_sem,geff,g1,b1,Int.toNat_natCast,g2,g3,k1,k2,setE,getE,yes_def,need_def,con83_f,con83_c,con20E_f,slS_two,p1',t1']))
         all_goals try exact om
         refine end_ret rfl ?_
         simp only [fin,go_sem,rsV,Option.map]
         exact LeA.refl _
      ·have b1':eqS t ⟨#[105,110,116]⟩=false:=by simpa using b1
       by_cases b2:eqS t ⟨#[98,111,111,108]⟩=true
       ·rw [if_neg (by rw [b2];simp)] at hF
        by_cases p1:eqS p ⟨#[65]⟩=true
        ·rw [if_pos p1] at hF
         by_cases a1:eqS a ⟨#[]⟩=true
         ·rw [if_pos a1] at hF
          have o1:orS a t=t:=by unfold orS;rw [if_pos a1]
          repeat' (first
           |(with_reducible first|refine nx ?_|refine t_seq fun K=>?_|refine t_br (fun hc=>?_) fun hc=>?_|refine t_bx ?_|apply And.intro|intro vr)
           |((with_reducible first|refine ny ?_|refine t_dwh (h:=fun K KL=>?_));intros;simp only [go_sem,geff,g1,b1',b2,Int.toNat_natCast,g2,g3,k1,k2,setE,getE,yes_def,need_def,con83_f,con83_c,con20E_f,slS_two,p1,o1,eqS_refl]))
          all_goals try exact om
          refine ⟨⟨i+1,t,xs.set i t,by omega,by simp [hx],hxd2 t,hF⟩,by simp only;omega,?_⟩
          (refine Le.frame ?_;repeat' (first|exact leF_top _|(with_reducible refine leF_sl ?_ ?_)|(refine leF_upd (LeR.of_eq ?_) ?_)))<;>(try (simp only [go_sem];try rfl))
         ·have a1':eqS a ⟨#[]⟩=false:=by simpa using a1
          rw [if_neg a1] at hF
          have o1:orS a t=a:=by unfold orS;rw [if_neg a1]
          by_cases t1:eqS t a=true
          ·rw [if_pos t1] at hF
           repeat' (first
            |(with_reducible first|refine nx ?_|refine t_seq fun K=>?_|refine t_br (fun hc=>?_) fun hc=>?_|refine t_bx ?_|apply And.intro|intro vr)
            |((with_reducible first|refine ny ?_|refine t_dwh (h:=fun K KL=>?_));intros;simp only [go_sem,geff,g1,b1',b2,Int.toNat_natCast,g2,g3,k1,k2,setE,getE,yes_def,need_def,con83_f,con83_c,con20E_f,slS_two,p1,o1,t1]))
           all_goals try exact om
           refine ⟨⟨i+1,a,xs.set i a,by omega,by simp [hx],hxd2 a,hF⟩,by simp only;omega,?_⟩
           (refine Le.frame ?_;repeat' (first|exact leF_top _|(with_reducible refine leF_sl ?_ ?_)|(refine leF_upd (LeR.of_eq ?_) ?_)))<;>(try (simp only [go_sem];try rfl))
          ·have t1':eqS t a=false:=by simpa using t1
           rw [if_neg t1] at hF
           subst hF
           repeat' (first
            |(with_reducible first|refine nx ?_|refine t_seq fun K=>?_|refine t_br (fun hc=>?_) fun hc=>?_|refine t_bx ?_|apply And.intro|intro vr)
            |((with_reducible first|refine ny ?_|refine t_dwh (h:=fun K KL=>?_));intros;simp only [go_sem,geff,g1,b1',b2,Int.toNat_natCast,g2,g3,k1,k2,setE,getE,yes_def,need_def,con83_f,con83_c,con20E_f,slS_two,p1,o1,t1']))
           all_goals try exact om
           refine end_ret rfl ?_
           simp only [fin,go_sem,rsV,Option.map]
           exact LeA.refl _
        ·have p1':eqS p ⟨#[65]⟩=false:=by simpa using p1
         rw [if_neg p1] at hF
         by_cases t1:eqS t p=true
         ·rw [if_pos t1] at hF
          repeat' (first
           |(with_reducible first|refine nx ?_|refine t_seq fun K=>?_|refine t_br (fun hc=>?_) fun hc=>?_|refine t_bx ?_|apply And.intro|intro vr)
           |((with_reducible first|refine ny ?_|refine t_dwh (h:=fun K KL=>?_));intros;simp only [go_sem,geff,g1,b1',b2,Int.toNat_natCast,g2,g3,k1,k2,setE,getE,yes_def,need_def,con83_f,con83_c,con20E_f,slS_two,p1',t1]))
          all_goals try exact om
          refine ⟨⟨i+1,a,xs,by omega,hx,hxd',hF⟩,by simp only;omega,?_⟩
          (refine Le.frame ?_;repeat' (first|exact leF_top _|(with_reducible refine leF_sl ?_ ?_)|(refine leF_upd (LeR.of_eq ?_) ?_)))<;>(try (simp only [go_sem];try rfl))
         ·have t1':eqS t p=false:=by simpa using t1
          rw [if_neg t1] at hF
          subst hF
          repeat' (first
           |(with_reducible first|refine nx ?_|refine t_seq fun K=>?_|refine t_br (fun hc=>?_) fun hc=>?_|refine t_bx ?_|apply And.intro|intro vr)
           |((with_reducible first|refine ny ?_|refine t_dwh (h:=fun K KL=>?_));intros;simp only [go_sem,geff,g1,b1',b2,Int.toNat_natCast,g2,g3,k1,k2,setE,getE,yes_def,need_def,con83_f,con83_c,con20E_f,slS_two,p1',t1']))
          all_goals try exact om
          refine end_ret rfl ?_
          simp only [fin,go_sem,rsV,Option.map]
          exact LeA.refl _
       ·have b2':eqS t ⟨#[98,111,111,108]⟩=false:=by simpa using b2
        rw [if_pos ⟨b1',b2'⟩] at hF
        subst hF
        repeat' (first
         |(with_reducible first|refine nx ?_|refine t_seq fun K=>?_|refine t_br (fun hc=>?_) fun hc=>?_|refine t_bx ?_|apply And.intro|intro vr)
         |((with_reducible first|refine ny ?_|refine t_dwh (h:=fun K KL=>?_));intros;simp only [go_sem,geff,g1,b1',b2',Int.toNat_natCast,g2]))
        all_goals try exact om
        refine end_ret rfl ?_
        simp only [fin,go_sem,rsV,Option.map]
        exact LeA.refl _
     ·have g1:decide ((i:Int)<(ts.length:Int))=false:=decide_eq_false (by omega)
      have:ps.drop i=[]:=List.drop_eq_nil_of_le (by omega)
      rw [this,goS] at hF
      ·subst hF
       by_cases r1:eqS rs ⟨#[65]⟩=true
       ·skip
        repeat' (first
         |(with_reducible first|refine nx ?_|refine t_seq fun K=>?_|refine t_br (fun hc=>?_) fun hc=>?_|refine t_bx ?_|apply And.intro|intro vr)
         |((with_reducible first|refine ny ?_|refine t_dwh (h:=fun K KL=>?_));intros;simp only [go_sem,geff,g1,r1]))
        refine end_ret rfl ?_
        simp only [fin,go_sem,rsV,Option.map,r1]
        exact LeA.refl _
       ·have r1':eqS rs ⟨#[65]⟩=false:=by simpa using r1
        repeat' (first
         |(with_reducible first|refine nx ?_|refine t_seq fun K=>?_|refine t_br (fun hc=>?_) fun hc=>?_|refine t_bx ?_|apply And.intro|intro vr)
         |((with_reducible first|refine ny ?_|refine t_dwh (h:=fun K KL=>?_));intros;simp only [go_sem,geff,g1,r1']))
        refine end_ret rfl ?_
        simp only [fin,go_sem,rsV,Option.map,r1',Bool.false_eq_true]
        exact LeA.refl _
      ·intro _ _ _ _ h;cases h
   ·have g0:((ts.length:Int) !=(ps.length:Int))=true:=by rw [bne_iff_ne];omega
    refine pcO E32_ok (fun _=>[0,1,4,5,6,7,8,9,10,11,26,27,28,29,30,39,44,58,61]) Tryz.func63 (h:=fun KF=>?_)
    unfold E32
    repeat' (first
     |(with_reducible first|refine nx ?_|refine t_seq fun K=>?_|refine t_br (fun hc=>?_) fun hc=>?_|refine t_bx ?_|apply And.intro|intro vr)
     |((with_reducible first|refine ny ?_|refine t_dwh (h:=fun K KL=>?_));intros;simp only [go_sem,geff,con83_f,con20E_f,con20E_c,hT,g0]))
    refine end_ret rfl ?_
    simp only [fin,go_sem,hn,rsV]
    exact LeA.refl _
end Go.Proofs.YtcpjahmajkhchaaGreat.El

namespace Go.Proofs.YtcpjahmajkhchaaGreat.El
open Go.Proofs.YtcpjahmajkhchaaGreat
open Go Go.Fw
set_option maxRecDepth 20000
noncomputable def con63:PCon Tryz.prog where
  f:=63
  c:=fun
   |[.lit (.string op),x]=>match slS x with
    |some ts=>some (ts.length≤1000000,rsV (resS op ts))
    |none=>none
   |_=>none
  ok:=by
   intro args p r hc hp
   split at hc
   ·split at hc
    ·rename_i hx
     cases hc
     exact PC.weak (result_pc hp) ⟨LeA.refl _,slS_le hx,trivial⟩
    ·cases hc
   ·cases hc
  fk:=fk63
theorem con63_f:con63.f=63:=rfl
theorem con63_c {x:AV} {op:ByteArray}:con63.c [.lit (.string op),x]=match slS x with
      |some ts=>some (ts.length≤1000000,rsV (resS op ts))
      |none=>none:=rfl
theorem le_nil {n0:Nat} {f:Nat→AV} {σ:List AObj} (i e sz:Nat) (h:f i= .lit (.slice none 0 0)):Le n0 ⟨f,σ⟩ ⟨upd f i (.arr σ.length 0),σ++[.arr e sz [] 0 false]⟩:=by
  intro cx G w N a _ hr hf
  obtain ⟨G',h1,h2,h3⟩:=Rel.newEmpty hr e sz none
  refine ⟨G',h2,hf.size,hf.defers,fun j=>?_⟩
  have hj:R G' (f j) (a.tmps.getD j undef):=(hf.rel j).mono h1
  simp only [upd]
  split
  ·rename_i e;subst e;rw [h] at hj;rw [hj.lit_inv];exact h3
  ·exact hj
end Go.Proofs.YtcpjahmajkhchaaGreat.El

namespace Go.Proofs.YtcpjahmajkhchaaGreat
open Go Go.Fw
def sConst:ByteArray:=⟨#[99,111,110,115,116]⟩
def sTruth:ByteArray:=⟨#[116,114,117,116,104]⟩
structure Stp where
  op:ByteArray
  num:Int
  args:List Int
def nilStp:Stp:=⟨⟨#[]⟩,0,[]⟩
def stpV (s:Stp):AV:= .agg [.lit (.string s.op),.lit (.int .i64 s.num),.sl false 1 (ints .i64 s.args)]
def stps (l:List Stp):List AV:=l.map stpV
theorem stps_length (l:List Stp):(stps l).length=l.length:=by simp [stps]
def jStp:AV:=stpV nilStp
theorem stps_getJ (l:List Stp) (i:Nat):(stps l).getD i jStp=stpV (l.getD i nilStp):=by
  simp only [stps,jStp,List.getD_eq_getElem?_getD,List.getElem?_map];cases l[i]? <;>rfl
def stpOf:AV→Option Stp
  |.agg [.lit (.string e),.lit (.int .i64 n),x]=>match slK .i64 x with
   |some a=>some ⟨e,n,a⟩
   |none=>none
  |_=>none
theorem stpOf_agg {e:ByteArray} {n:Int} {x:AV}:stpOf (.agg [.lit (.string e),.lit (.int .i64 n),x])=match slK .i64 x with
    |some a=>some ⟨e,n,a⟩
    |none=>none:=rfl
theorem stpOf_V (s:Stp):stpOf (stpV s)=some s:=by simp [stpV,stpOf,slK_sl]
theorem stpOf_inv {x:AV} {s:Stp} (h:stpOf x=some s):∃ p,x= .agg [.lit (.string s.op),.lit (.int .i64 s.num),p]∧LeA p (.sl false 1 (ints .i64 s.args)):=by
  unfold stpOf at h
  split at h
  ·split at h
   ·rename_i h1
    cases h
    exact ⟨_,rfl,slK_le h1⟩
   ·cases h
  ·cases h
theorem stpOf_le {x:AV} {s:Stp} (h:stpOf x=some s):LeA x (stpV s):=by
  obtain ⟨p,rfl,h1⟩:=stpOf_inv h
  exact LeA.agg ⟨LeA.refl _,LeA.refl _,h1,trivial⟩
def stpL:List AV→Option (List Stp)
  |[]=>some []
  |x::xs=>match stpOf x,stpL xs with
   |some s,some l=>some (s::l)
   |_,_=>none
theorem stpL_stps:∀ l:List Stp,stpL (stps l)=some l
  |[]=>rfl
  |s::l=>by
   show stpL (stpV s::stps l)=_
   rw [stpL,stpOf_V,stpL_stps l]
theorem flat_stps:∀ (xs:List AV) (l:List Stp),stpL xs=some l→xs.length=l.length∧LeL (flat xs) (flat (stps l))
  |[],l,h=>by cases h;exact ⟨rfl,trivial⟩
  |x::xs,l,h=>by
   unfold stpL at h
   split at h
   ·rename_i s l' h1 h2
    cases h
    obtain ⟨k1,k2⟩:=flat_stps xs l' h2
    obtain ⟨p,rfl,hp⟩:=stpOf_inv h1
    refine ⟨by simp [k1],?_⟩
    show LeL (AV.cells _++flat xs) (AV.cells (stpV s)++flat (stps l'))
    exact LeL.append ⟨LeA.refl _,LeA.refl _,hp,trivial⟩ k2
   ·cases h
def stpsOf (x:AV):Option (List Stp):=(slA 3 x).bind stpL
theorem stpsOf_le {x:AV} {l:List Stp} (h:stpsOf x=some l):LeA x (.sl false 3 (stps l)):=by
  unfold stpsOf at h
  cases hx:slA 3 x with
  |none=>rw [hx] at h;cases h
  |some xs=>
   rw [hx] at h
   obtain ⟨k1,k2⟩:=flat_stps xs l h
   intro C v hv
   refine LeA.sl (by rw [k1,stps_length]) ?_ k2 C v (slA_le hx C v hv)
   intro y hy
   obtain ⟨s,_,rfl⟩:=List.mem_map.1 hy
   rfl
theorem stpsOf_sl {b:Bool} {l:List Stp}:stpsOf (.sl b 3 (stps l))=some l:=by simp [stpsOf,slA,stpL_stps]
def inR (n a:Int):Bool:=decide (a≥0)&&decide (a<n)
def validS (s:Stp) (n:Int):Bool:=
  if eqS s.op sConst=true then (s.args.length:Int)==0&&vld sInt s.num
  else if eqS s.op sTruth=true then (s.args.length:Int)==0&&vld sBool s.num
  else match El.typesS s.op with
    |none=>false
    |some r=>(s.args.all (inR n)&&s.num==0)&&(s.args.length:Int)==(r.ps.length:Int)
def allV:List Stp→Int→Bool
  |[],_=>true
  |s::t,n=>validS s n&&allV t (n+1)
def badN (code:List Stp) (n:Int):Bool:=decide (n<0)||decide (n>20)||decide ((code.length:Int)>60)||n+(code.length:Int)==0
def validC (code:List Stp) (n:Int):Bool:=if badN code n=true then false else allV code n
def pickI (vs ats:List Int):List Int:=ats.map fun i=>vs.getD i.toNat 0
def pickB (vs:List ByteArray) (ats:List Int):List ByteArray:=ats.map fun i=>vs.getD i.toNat ⟨#[]⟩
def isNum (s:Stp):Bool:=eqS s.op sConst||eqS s.op sTruth
def stepS (s:Stp) (vs:List Int):Option Int:=if isNum s=true then some s.num else El.applyS s.op (pickI vs s.args)
def runG:List Stp→List Int→Option (List Int)
  |[],vs=>some vs
  |s::t,vs=>match stepS s vs with
   |none=>none
   |some n=>runG t (vs++[n])
def lastI (l:List Int):Int:=l.getD (l.length - 1) 0
def runS (code:List Stp) (args:List Int):Int×Bool:=
  if validC code args.length=false then (0,false) else if args.any (fun n=> !vld sInt n)=true then (0,false) else match runG code args with
   |none=>(0,false)
   |some vs=>(lastI vs,true)
def stepT (s:Stp) (ts:List ByteArray):Option ByteArray:=if eqS s.op sConst=true then some sInt else if eqS s.op sTruth=true then some sBool else El.resS s.op (pickB ts s.args)
def typG:List Stp→List ByteArray→Option (List ByteArray)
  |[],ts=>some ts
  |s::t,ts=>match stepT s ts with
   |none=>none
   |some x=>typG t (ts++[x])
def lastB (l:List ByteArray):ByteArray:=l.getD (l.length - 1) ⟨#[]⟩
def typS (code:List Stp) (ts:List ByteArray):ByteArray×Bool:=
  if validC code ts.length=false then (⟨#[]⟩,false) else if ts.any (fun t=> !tyOk t)=true then (⟨#[]⟩,false) else match typG code ts with
   |none=>(⟨#[]⟩,false)
   |some l=>(lastB l,true)
end Go.Proofs.YtcpjahmajkhchaaGreat

namespace Go.Proofs.YtcpjahmajkhchaaGreat
open Go Go.Fw
set_option maxRecDepth 20000
def jkR:TypeId→AV:=fun t=>if t=78 then jStp else jk t
theorem jkR_78:jkR 78=jStp:=rfl
theorem jkR_3:jkR 3= .lit (.int .i64 0):=rfl
theorem jkR_9:jkR 9= .lit (.string ByteArray.empty):=rfl
theorem jkR_23:jkR 23=jI:=rfl
theorem jkR_31:jkR 31=jA:=rfl
theorem typesV_some {r:El.Rw}:El.typesV (some r)= .tup [.sl false 1 (strs r.ps),.lit (.string r.rs),.lit (.bool true)]:=rfl
theorem typesV_none:El.typesV none= .tup [.lit (.slice none 0 0),.lit (.string ⟨#[]⟩),.lit (.bool false)]:=rfl
attribute [go_sem] jkR_78 jkR_3 jkR_9 jkR_23 jkR_31 stps_getJ stps_length El.con65_f El.con65_c El.con44_f El.con44_c El.con40_f El.con40_c El.con38_f El.con38_c typesV_some typesV_none
theorem all_step {l:List Int} {i:Nat} {p:Int→Bool} (h:i<l.length):((l.take i).all p&&p (l.getD i 0))=(l.take (i+1)).all p:=by
  rw [List.take_add_one,List.getElem?_eq_getElem h,List.all_append,List.getD_eq_getElem?_getD,List.getElem?_eq_getElem h];simp
noncomputable def A1:Env:=envJ (P:=Tryz.prog) jkR zer (fun _=>false) (fun _=>false) [El.con40,El.con65] []
theorem A1_ok:EnvOk Tryz.prog A1:=envJOk zer_ok
set_option maxHeartbeats 4000000 in
theorem valid1_pc {s:Stp} {n:Int} (hl:s.args.length≤1000000):PC Tryz.prog 43 [stpV s,.lit (.int .i64 n)] (.lit (.bool (validS s n))):=by
  generalize hR:validS s n=R
  unfold validS at hR
  simp only [stpV]
  cases h1:eqS s.op sConst with
  |true=>
   rw [if_pos h1] at hR
   have h1':eqS s.op ⟨#[99,111,110,115,116]⟩=true:=h1
   refine pcR A1_ok (kp43) Tryz.func43 [.tmp 4] (h:=fun KF=>?_)
   unfold A1
   repeat' (first
    |(with_reducible first|refine nx ?_|refine t_seq fun K=>?_|refine t_br (fun hc=>?_) fun hc=>?_|refine t_bx ?_|apply And.intro|intro vr)
    |((with_reducible first|refine ny ?_|refine t_dwh (h:=fun K KL=>?_));intros;simp only [go_sem,kp43,geff,h1']))
   all_goals try exact nd
   all_goals (refine nl ?_;simp only [go_sem])
   exact LeA.of_eq (by rw [←hR];rfl)
  |false=>
   have h1':eqS s.op ⟨#[99,111,110,115,116]⟩=false:=h1
   rw [if_neg (by rw [h1];decide)] at hR
   cases h2:eqS s.op sTruth with
   |true=>
    rw [if_pos h2] at hR
    have h2':eqS s.op ⟨#[116,114,117,116,104]⟩=true:=h2
    refine pcR A1_ok (kp43) Tryz.func43 [.tmp 4] (h:=fun KF=>?_)
    unfold A1
    repeat' (first
     |(with_reducible first|refine nx ?_|refine t_seq fun K=>?_|refine t_br (fun hc=>?_) fun hc=>?_|refine t_bx ?_|apply And.intro|intro vr)
     |((with_reducible first|refine ny ?_|refine t_dwh (h:=fun K KL=>?_));intros;simp only [go_sem,kp43,geff,h1',h2']))
    all_goals try exact nd
    all_goals (refine nl ?_;simp only [go_sem])
    exact LeA.of_eq (by rw [←hR];rfl)
   |false=>
    have h2':eqS s.op ⟨#[116,114,117,116,104]⟩=false:=h2
    rw [if_neg (by rw [h2];decide)] at hR
    cases hT:El.typesS s.op with
    |none=>
     rw [hT] at hR
     simp only at hR
     refine pcR A1_ok (kp43) Tryz.func43 [.tmp 4] (h:=fun KF=>?_)
     unfold A1
     repeat' (first
      |(with_reducible first|refine nx ?_|refine t_seq fun K=>?_|refine t_br (fun hc=>?_) fun hc=>?_|refine t_bx ?_|apply And.intro|intro vr)
      |((with_reducible first|refine ny ?_|refine t_dwh (h:=fun K KL=>?_));intros;simp only [go_sem,kp43,geff,h1',h2',hT]))
     all_goals try exact nd
     refine t_loopF (ι:={i:Nat // i≤s.args.length}) (fun i=>[(44,.lit (.int .i64 i.1))]) (fun i=>[.box 78 [.lit (.string s.op),.lit (.int .i64 s.num),.sl false 1 (ints .i64 s.args)]]) (fun i=>s.args.length - i.1) ⟨0,by omega⟩ ?_ ?_
     ·exact lf
     rintro ⟨i,hi⟩ K0
     rcases Nat.lt_or_ge i s.args.length with hc|hc
     ·have g3:decide ((i:Int)<(s.args.length:Int))=true:=decide_eq_true (by omega)
      repeat' (first
       |(with_reducible first|refine nx ?_|refine t_seq fun K=>?_|refine t_br (fun hc=>?_) fun hc=>?_|refine t_bx ?_|apply And.intro|intro vr)
       |((with_reducible first|refine ny ?_|refine t_dwh (h:=fun K KL=>?_));intros;simp only [go_sem,kp43,geff,g3,Int.toNat_natCast]))
      all_goals try exact nd
      exact ⟨⟨i+1,by omega⟩,wf,lf⟩
     ·have g3:decide ((i:Int)<(s.args.length:Int))=false:=decide_eq_false (by omega)
      repeat' (first
       |(with_reducible first|refine nx ?_|refine t_seq fun K=>?_|refine t_br (fun hc=>?_) fun hc=>?_|refine t_bx ?_|apply And.intro|intro vr)
       |((with_reducible first|refine ny ?_|refine t_dwh (h:=fun K KL=>?_));intros;simp only [go_sem,kp43,geff,g3,Int.toNat_natCast]))
      all_goals try exact nd
      all_goals (refine nl ?_;simp only [go_sem])
      exact LeA.of_eq (by rw [←hR])
    |some r=>
     rw [hT] at hR
     simp only at hR
     refine pcR A1_ok (kp43) Tryz.func43 [.tmp 4] (h:=fun KF=>?_)
     unfold A1
     repeat' (first
      |(with_reducible first|refine nx ?_|refine t_seq fun K=>?_|refine t_br (fun hc=>?_) fun hc=>?_|refine t_bx ?_|apply And.intro|intro vr)
      |((with_reducible first|refine ny ?_|refine t_dwh (h:=fun K KL=>?_));intros;simp only [go_sem,kp43,geff,h1',h2',hT]))
     all_goals try exact nd
     refine t_loopF (ι:={i:Nat // i≤s.args.length}) (fun i=>[(44,.lit (.int .i64 i.1)),(7,.lit (.bool ((s.args.take i.1).all (inR n))))]) (fun i=>[.box 78 [.lit (.string s.op),.lit (.int .i64 s.num),.sl false 1 (ints .i64 s.args)]]) (fun i=>s.args.length - i.1) ⟨0,by omega⟩ ?_ ?_
     ·exact lf
     rintro ⟨i,hi⟩ K0
     rcases Nat.lt_or_ge i s.args.length with hc|hc
     ·have g3:decide ((i:Int)<(s.args.length:Int))=true:=decide_eq_true (by omega)
      have hs:((s.args.take i).all (inR n)&&decide (s.args.getD i 0≥0)&&decide (s.args.getD i 0<n))=(s.args.take (i+1)).all (inR n):=by rw [Bool.and_assoc];exact all_step (p:=inR n) hc
      repeat' (first
       |(with_reducible first|refine nx ?_|refine t_seq fun K=>?_|refine t_br (fun hc=>?_) fun hc=>?_|refine t_bx ?_|apply And.intro|intro vr)
       |((with_reducible first|refine ny ?_|refine t_dwh (h:=fun K KL=>?_));intros;simp only [go_sem,kp43,geff,g3,hs,Int.toNat_natCast,updL_cons,updL_nil]))
      all_goals try exact nd
      exact ⟨⟨i+1,by omega⟩,wf,lf⟩
     ·have g3:decide ((i:Int)<(s.args.length:Int))=false:=decide_eq_false (by omega)
      have e:s.args.take i=s.args:=List.take_of_length_le hc
      repeat' (first
       |(with_reducible first|refine nx ?_|refine t_seq fun K=>?_|refine t_br (fun hc=>?_) fun hc=>?_|refine t_bx ?_|apply And.intro|intro vr)
       |((with_reducible first|refine ny ?_|refine t_dwh (h:=fun K KL=>?_));intros;simp only [go_sem,kp43,geff,g3,Int.toNat_natCast,e,updL_cons,updL_nil]))
      all_goals try exact nd
      all_goals (refine nl ?_;simp only [go_sem])
      exact LeA.of_eq (by rw [←hR])
noncomputable def con43:PCon Tryz.prog where
  f:=43
  c:=fun
   |[xs,.lit (.int .i64 n)]=>match stpOf xs with|some s=>some (s.args.length≤1000000,.lit (.bool (validS s n)))|_=>none
   |_=>none
  ok:=by
   intro args p r hc hp
   split at hc
   ·split at hc
    ·rename_i hs
     cases hc
     exact PC.weak (valid1_pc hp) ⟨stpOf_le hs,LeA.refl _,trivial⟩
    ·cases hc
   ·cases hc
  fk:=fk43
theorem con43_f:con43.f=43:=rfl
theorem con43_c {xs:AV} {n:Int}:con43.c [xs,.lit (.int .i64 n)]=match stpOf xs with|some s=>some (s.args.length≤1000000,.lit (.bool (validS s n)))|_=>none:=rfl
end Go.Proofs.YtcpjahmajkhchaaGreat

namespace Go.Proofs.YtcpjahmajkhchaaGreat
open Go Go.Fw
set_option maxRecDepth 20000
def rdK (k:IntKind) (σ:List AObj):AV→Option (List Int)
  |.arr o ver=>match σ[o]? with
   |some (.arr _ sz xs ver' _)=>if ver=ver'∧sz=1 then kOf k xs else none
   |_=>none
  |x=>slK k x
theorem rdK_sl {k:IntKind} {σ:List AObj} {b:Bool} {l:List Int}:rdK k σ (.sl b 1 (ints k l))=some l:=slK_sl
theorem rdK_at {k:IntKind} {σ:List AObj} {o ver:Nat}:rdK k σ (.arr o ver)=match σ[o]? with
    |some (.arr _ sz xs ver' _)=>if ver=ver'∧sz=1 then kOf k xs else none
    |_=>none:=rfl
theorem rd_cases {k:IntKind} {σ:List AObj} {x:AV} {l:List Int} (hx:rdK k σ x=some l):(∃ o ver e fz,x= .arr o ver∧σ[o]? =some (.arr e 1 (ints k l) ver fz))∨LeR x (.sl false 1 (ints k l)):=by
  unfold rdK at hx
  split at hx
  ·split at hx
   ·rename_i e sz xs ver' fz ho
    split at hx
    ·rename_i hc
     obtain ⟨rfl,rfl⟩:=hc
     have:=kOf_inv hx
     subst this
     exact .inl ⟨_,_,_,_,rfl,ho⟩
    ·cases hx
   ·cases hx
  ·exact .inr (slK_leR hx)
def rdS (σ:List AObj):AV→Option (List ByteArray)
  |.arr o ver=>match σ[o]? with
   |some (.arr _ sz xs ver' _)=>if ver=ver'∧sz=1 then strsOf xs else none
   |_=>none
  |x=>slS x
theorem rdS_sl {σ:List AObj} {b:Bool} {l:List ByteArray}:rdS σ (.sl b 1 (strs l))=some l:=slS_sl
theorem rdS_at {σ:List AObj} {o ver:Nat}:rdS σ (.arr o ver)=match σ[o]? with
    |some (.arr _ sz xs ver' _)=>if ver=ver'∧sz=1 then strsOf xs else none
    |_=>none:=rfl
theorem slS_leR {x:AV} {l:List ByteArray} (h:slS x=some l):LeR x (.sl false 1 (strs l)):=slA_leR (by
  unfold slS at h
  cases hx:slA 1 x with
  |none=>rw [hx] at h;cases h
  |some xs=>rw [hx] at h;rw [←strsOf_inv h])
theorem rdS_cases {σ:List AObj} {x:AV} {l:List ByteArray} (hx:rdS σ x=some l):(∃ o ver e fz,x= .arr o ver∧σ[o]? =some (.arr e 1 (strs l) ver fz))∨LeR x (.sl false 1 (strs l)):=by
  unfold rdS at hx
  split at hx
  ·split at hx
   ·rename_i e sz xs ver' fz ho
    split at hx
    ·rename_i hc
     obtain ⟨rfl,rfl⟩:=hc
     have:=strsOf_inv hx
     subst this
     exact .inl ⟨_,_,_,_,rfl,ho⟩
    ·cases hx
   ·cases hx
  ·exact .inr (slS_leR hx)
theorem LeRL.refl:∀ (xs:List AV),LeRL xs xs
  |[]=>trivial
  |x::xs=>⟨LeR.refl x,LeRL.refl xs⟩
theorem get_app {σ:List AObj} {o:Nat} {x:AObj} (h:σ[o]? =some x) (X:AObj):(σ++[X])[o]? =some x:=by
  rw [List.getElem?_append_left (List.getElem?_eq_some_iff.1 h).1];exact h
theorem ints_getX {l:List Int} {i:Nat} (d:AV) (h:i<l.length):(ints .i64 l).getD i d= .lit (.int .i64 (l.getD i 0)):=by simp [ints,List.getD,h]
theorem strs_getX {l:List ByteArray} {i:Nat} (d:AV) (h:i<l.length):(strs l).getD i d= .lit (.string (l.getD i ⟨#[]⟩)):=by simp [strs,List.getD,h]
theorem pickI_succ {vs ats:List Int} {i:Nat} (h:i<ats.length):pickI vs (ats.take (i+1))=pickI vs (ats.take i)++[vs.getD (ats.getD i 0).toNat 0]:=by
  unfold pickI
  have e:ats.getD i 0=ats[i]:=by rw [List.getD_eq_getElem?_getD,List.getElem?_eq_getElem h];rfl
  rw [List.take_add_one,List.getElem?_eq_getElem h,List.map_append,e];rfl
theorem pickI_len {vs ats:List Int}:(pickI vs ats).length=ats.length:=by simp [pickI]
noncomputable def A2:Env:=envJ (P:=Tryz.prog) jkR zer (fun _=>false) (fun _=>false) [] []
theorem A2_ok:EnvOk Tryz.prog A2:=envJOk zer_ok
set_option maxHeartbeats 4000000 in
theorem picked_arr {σ:List AObj} {o ver e:Nat} {fz:Bool} {vs ats:List Int} {k:AV→List AObj→Prop} (ho:σ[o]? =some (.arr e 1 (ints .i64 vs) ver fz)) (ha:∀ a∈ats,0≤a∧a<vs.length) (hl:ats.length≤1000000)
    (hk:∀ v,k (.arr σ.length v) (σ++[.arr 3 1 (ints .i64 (pickI vs ats)) v false])):EC Tryz.prog 42 [.arr o ver,.sl false 1 (ints .i64 ats)] σ k:=by
  have ho':=get_app ho
  refine ecR A2_ok (kp42) Tryz.func42 [.tmp 4] (h:=fun KF=>?_)
  unfold A2
  repeat' (first
   |(with_reducible first|refine nx ?_|refine t_seq fun K=>?_|refine t_br (fun hc=>?_) fun hc=>?_|refine t_bx ?_|apply And.intro|intro vr)
   |((with_reducible first|refine ny ?_|refine t_dwh (h:=fun K KL=>?_));intros;simp only [go_sem,kp42,geff,ho]))
  all_goals try exact nd
  refine t_loopF (ι:={p:Nat×Nat // p.1≤ats.length}) (fun i=>[(10,.lit (.int .i64 i.1.1)),(5,.arr σ.length i.1.2)]) (fun i=>σ++[.arr 3 1 (ints .i64 (pickI vs (ats.take i.1.1))) i.1.2 false]) (fun i=>ats.length - i.1.1) ⟨(0,0),by simp⟩ ?_ ?_
  ·refine (le_nil 5 3 1 rfl).trans ?_
   exact lf
  rintro ⟨⟨i,v⟩,hi⟩ K0
  simp only at hi
  rcases Nat.lt_or_ge i ats.length with hc|hc
  ·have g3:decide ((i:Int)<(ats.length:Int))=true:=decide_eq_true (by omega)
   have hb:=ha _ (getD_mem 0 hc)
   have hgt:(ints .i64 vs).getD (ats.getD i 0).toNat (jkR e)= .lit (.int .i64 (vs.getD (ats.getD i 0).toNat 0)):=ints_getX _ (by omega)
   have hs:=pickI_succ (vs:=vs) hc
   have hpl:=pickI_len (vs:=vs) (ats:=ats.take i)
   rw [List.length_take] at hpl
   repeat' (first
    |(with_reducible first|refine nx ?_|refine t_seq fun K=>?_|refine t_br (fun hc=>?_) fun hc=>?_|refine t_bx ?_|apply And.intro|intro vr)
    |((with_reducible first|refine ny ?_|refine t_dwh (h:=fun K KL=>?_));intros;simp only [go_sem,kp42,geff,g3,ho',hgt,←hs,Int.toNat_natCast,updL_cons,updL_nil,getLast0,setLast0,yes]))
   all_goals try exact nd
   exact ⟨⟨(i+1,v+1),by omega⟩,wf,lf⟩
  ·have g3:decide ((i:Int)<(ats.length:Int))=false:=decide_eq_false (by omega)
   have e:ats.take i=ats:=List.take_of_length_le hc
   repeat' (first
    |(with_reducible first|refine nx ?_|refine t_seq fun K=>?_|refine t_br (fun hc=>?_) fun hc=>?_|refine t_bx ?_|apply And.intro|intro vr)
    |((with_reducible first|refine ny ?_|refine t_dwh (h:=fun K KL=>?_));intros;simp only [go_sem,kp42,geff,g3,Int.toNat_natCast,updL_cons,updL_nil,e]))
   all_goals try exact nd
   all_goals ((first|refine end_retE ?_|refine end_normE ?_);try simp only [go_sem])
   exact hk _
set_option maxHeartbeats 4000000 in
theorem picked_sl {σ:List AObj} {vs ats:List Int} {k:AV→List AObj→Prop} (ha:∀ a∈ats,0≤a∧a<vs.length) (hl:ats.length≤1000000)
    (hk:∀ v,k (.arr σ.length v) (σ++[.arr 3 1 (ints .i64 (pickI vs ats)) v false])):EC Tryz.prog 42 [.sl false 1 (ints .i64 vs),.sl false 1 (ints .i64 ats)] σ k:=by
  refine ecR A2_ok (kp42) Tryz.func42 [.tmp 4] (h:=fun KF=>?_)
  unfold A2
  repeat' (first
   |(with_reducible first|refine nx ?_|refine t_seq fun K=>?_|refine t_br (fun hc=>?_) fun hc=>?_|refine t_bx ?_|apply And.intro|intro vr)
   |((with_reducible first|refine ny ?_|refine t_dwh (h:=fun K KL=>?_));intros;simp only [go_sem,kp42,geff]))
  all_goals try exact nd
  refine t_loopF (ι:={p:Nat×Nat // p.1≤ats.length}) (fun i=>[(10,.lit (.int .i64 i.1.1)),(5,.arr σ.length i.1.2)]) (fun i=>σ++[.arr 3 1 (ints .i64 (pickI vs (ats.take i.1.1))) i.1.2 false]) (fun i=>ats.length - i.1.1) ⟨(0,0),by simp⟩ ?_ ?_
  ·refine (le_nil 5 3 1 rfl).trans ?_
   exact lf
  rintro ⟨⟨i,v⟩,hi⟩ K0
  simp only at hi
  rcases Nat.lt_or_ge i ats.length with hc|hc
  ·have g3:decide ((i:Int)<(ats.length:Int))=true:=decide_eq_true (by omega)
   have hb:=ha _ (getD_mem 0 hc)
   have hgt:(ints .i64 vs).getD (ats.getD i 0).toNat (jkR 3)= .lit (.int .i64 (vs.getD (ats.getD i 0).toNat 0)):=ints_getX _ (by omega)
   have hs:=pickI_succ (vs:=vs) hc
   have hpl:=pickI_len (vs:=vs) (ats:=ats.take i)
   rw [List.length_take] at hpl
   repeat' (first
    |(with_reducible first|refine nx ?_|refine t_seq fun K=>?_|refine t_br (fun hc=>?_) fun hc=>?_|refine t_bx ?_|apply And.intro|intro vr)
    |((with_reducible first|refine ny ?_|refine t_dwh (h:=fun K KL=>?_));intros;simp only [go_sem,kp42,geff,g3,←hs,Int.toNat_natCast,updL_cons,updL_nil,getLast0,setLast0,yes]))
   all_goals try exact nd
   exact ⟨⟨(i+1,v+1),by omega⟩,wf,lf⟩
  ·have g3:decide ((i:Int)<(ats.length:Int))=false:=decide_eq_false (by omega)
   have e:ats.take i=ats:=List.take_of_length_le hc
   repeat' (first
    |(with_reducible first|refine nx ?_|refine t_seq fun K=>?_|refine t_br (fun hc=>?_) fun hc=>?_|refine t_bx ?_|apply And.intro|intro vr)
    |((with_reducible first|refine ny ?_|refine t_dwh (h:=fun K KL=>?_));intros;simp only [go_sem,kp42,geff,g3,Int.toNat_natCast,updL_cons,updL_nil,e]))
   all_goals try exact nd
   all_goals ((first|refine end_retE ?_|refine end_normE ?_);try simp only [go_sem])
   exact hk _
theorem picked_rd {σ:List AObj} {x:AV} {vs ats:List Int} {k:AV→List AObj→Prop} (hx:rdK .i64 σ x=some vs) (ha:∀ a∈ats,0≤a∧a<vs.length) (hl:ats.length≤1000000)
    (hk:∀ v,k (.arr σ.length v) (σ++[.arr 3 1 (ints .i64 (pickI vs ats)) v false])):EC Tryz.prog 42 [x,.sl false 1 (ints .i64 ats)] σ k:=by
  rcases rd_cases hx with ⟨o,ver,e,fz,rfl,ho⟩|hle
  ·exact picked_arr ho ha hl hk
  ·exact EC.weak (picked_sl ha hl hk) (LeRL.cons hle (LeRL.refl _))
noncomputable def ecn42:ECon Tryz.prog where
  f:=42
  c:=fun args σ k=>match args with
   |[x,y]=>match rdK .i64 σ x,slK .i64 y with
    |some vs,some ats=>(∀ a∈ats,0≤a∧a<(vs.length:Int))∧ats.length≤1000000∧∀ v,k (.arr σ.length v) (σ++[.arr 3 1 (ints .i64 (pickI vs ats)) v false])
    |_,_=>False
   |_=>False
  ok:=by
   intro args σ k h
   split at h
   ·split at h
    ·rename_i hx hy
     exact EC.weak (picked_rd hx h.1 h.2.1 h.2.2) (LeRL.cons (LeR.refl _) (LeRL.cons (slK_leR hy) LeRL.nil))
    ·exact h.elim
   ·exact h.elim
  fk:=fk42
theorem ecn42_f:ecn42.f=42:=rfl
theorem ecn42_c {σ:List AObj} {k:AV→List AObj→Prop} {x y:AV}:ecn42.c [x,y] σ k=match rdK .i64 σ x,slK .i64 y with
      |some vs,some ats=>(∀ a∈ats,0≤a∧a<(vs.length:Int))∧ats.length≤1000000∧∀ v,k (.arr σ.length v) (σ++[.arr 3 1 (ints .i64 (pickI vs ats)) v false])
      |_,_=>False:=rfl
theorem pickB_succ {vs:List ByteArray} {ats:List Int} {i:Nat} (h:i<ats.length):pickB vs (ats.take (i+1))=pickB vs (ats.take i)++[vs.getD (ats.getD i 0).toNat ⟨#[]⟩]:=by
  have e:ats.getD i 0=ats[i]:=by rw [List.getD_eq_getElem?_getD,List.getElem?_eq_getElem h];rfl
  unfold pickB
  rw [List.take_add_one,List.getElem?_eq_getElem h,List.map_append,e];rfl
theorem pickB_len {vs:List ByteArray} {ats:List Int}:(pickB vs ats).length=ats.length:=by simp [pickB]
set_option maxHeartbeats 4000000 in
theorem pickedB_arr {σ:List AObj} {o ver e:Nat} {fz:Bool} {vs:List ByteArray} {ats:List Int} {k:AV→List AObj→Prop} (ho:σ[o]? =some (.arr e 1 (strs vs) ver fz)) (ha:∀ a∈ats,0≤a∧a<vs.length) (hl:ats.length≤1000000)
    (hk:∀ v,k (.arr σ.length v) (σ++[.arr 9 1 (strs (pickB vs ats)) v false])):EC Tryz.prog 64 [.arr o ver,.sl false 1 (ints .i64 ats)] σ k:=by
  have ho':=get_app ho
  refine ecR A2_ok (kp64) Tryz.func64 [.tmp 4] (h:=fun KF=>?_)
  unfold A2
  repeat' (first
   |(with_reducible first|refine nx ?_|refine t_seq fun K=>?_|refine t_br (fun hc=>?_) fun hc=>?_|refine t_bx ?_|apply And.intro|intro vr)
   |((with_reducible first|refine ny ?_|refine t_dwh (h:=fun K KL=>?_));intros;simp only [go_sem,kp64,geff,ho]))
  all_goals try exact nd
  refine t_loopF (ι:={p:Nat×Nat // p.1≤ats.length}) (fun i=>[(10,.lit (.int .i64 i.1.1)),(5,.arr σ.length i.1.2)]) (fun i=>σ++[.arr 9 1 (strs (pickB vs (ats.take i.1.1))) i.1.2 false]) (fun i=>ats.length - i.1.1) ⟨(0,0),by simp⟩ ?_ ?_
  ·refine (le_nil 5 9 1 rfl).trans ?_
   exact lf
  rintro ⟨⟨i,v⟩,hi⟩ K0
  simp only at hi
  rcases Nat.lt_or_ge i ats.length with hc|hc
  ·have g3:decide ((i:Int)<(ats.length:Int))=true:=decide_eq_true (by omega)
   have hb:=ha _ (getD_mem 0 hc)
   have hgt:(strs vs).getD (ats.getD i 0).toNat (jkR e)= .lit (.string (vs.getD (ats.getD i 0).toNat ⟨#[]⟩)):=strs_getX _ (by omega)
   have hs:=pickB_succ (vs:=vs) hc
   have hpl:=pickB_len (vs:=vs) (ats:=ats.take i)
   rw [List.length_take] at hpl
   repeat' (first
    |(with_reducible first|refine nx ?_|refine t_seq fun K=>?_|refine t_br (fun hc=>?_) fun hc=>?_|refine t_bx ?_|apply And.intro|intro vr)
    |((with_reducible first|refine ny ?_|refine t_dwh (h:=fun K KL=>?_));intros;simp only [go_sem,kp64,geff,g3,ho',hgt,←hs,Int.toNat_natCast,updL_cons,updL_nil,getLast0,setLast0,yes]))
   all_goals try exact nd
   exact ⟨⟨(i+1,v+1),by omega⟩,wf,lf⟩
  ·have g3:decide ((i:Int)<(ats.length:Int))=false:=decide_eq_false (by omega)
   have e:ats.take i=ats:=List.take_of_length_le hc
   repeat' (first
    |(with_reducible first|refine nx ?_|refine t_seq fun K=>?_|refine t_br (fun hc=>?_) fun hc=>?_|refine t_bx ?_|apply And.intro|intro vr)
    |((with_reducible first|refine ny ?_|refine t_dwh (h:=fun K KL=>?_));intros;simp only [go_sem,kp64,geff,g3,Int.toNat_natCast,updL_cons,updL_nil,e]))
   all_goals try exact nd
   all_goals ((first|refine end_retE ?_|refine end_normE ?_);try simp only [go_sem])
   exact hk _
set_option maxHeartbeats 4000000 in
theorem pickedB_sl {σ:List AObj} {vs:List ByteArray} {ats:List Int} {k:AV→List AObj→Prop} (ha:∀ a∈ats,0≤a∧a<vs.length) (hl:ats.length≤1000000)
    (hk:∀ v,k (.arr σ.length v) (σ++[.arr 9 1 (strs (pickB vs ats)) v false])):EC Tryz.prog 64 [.sl false 1 (strs vs),.sl false 1 (ints .i64 ats)] σ k:=by
  refine ecR A2_ok (kp64) Tryz.func64 [.tmp 4] (h:=fun KF=>?_)
  unfold A2
  repeat' (first
   |(with_reducible first|refine nx ?_|refine t_seq fun K=>?_|refine t_br (fun hc=>?_) fun hc=>?_|refine t_bx ?_|apply And.intro|intro vr)
   |((with_reducible first|refine ny ?_|refine t_dwh (h:=fun K KL=>?_));intros;simp only [go_sem,kp64,geff]))
  all_goals try exact nd
  refine t_loopF (ι:={p:Nat×Nat // p.1≤ats.length}) (fun i=>[(10,.lit (.int .i64 i.1.1)),(5,.arr σ.length i.1.2)]) (fun i=>σ++[.arr 9 1 (strs (pickB vs (ats.take i.1.1))) i.1.2 false]) (fun i=>ats.length - i.1.1) ⟨(0,0),by simp⟩ ?_ ?_
  ·refine (le_nil 5 9 1 rfl).trans ?_
   exact lf
  rintro ⟨⟨i,v⟩,hi⟩ K0
  simp only at hi
  rcases Nat.lt_or_ge i ats.length with hc|hc
  ·have g3:decide ((i:Int)<(ats.length:Int))=true:=decide_eq_true (by omega)
   have hb:=ha _ (getD_mem 0 hc)
   have hgt:(strs vs).getD (ats.getD i 0).toNat (jkR 9)= .lit (.string (vs.getD (ats.getD i 0).toNat ⟨#[]⟩)):=strs_getX _ (by omega)
   have hs:pickB vs (ats.take (i+1))=pickB vs (ats.take i)++[vs.getD (ats.getD i 0).toNat ByteArray.empty]:=pickB_succ (vs:=vs) hc
   have hpl:=pickB_len (vs:=vs) (ats:=ats.take i)
   rw [List.length_take] at hpl
   repeat' (first
    |(with_reducible first|refine nx ?_|refine t_seq fun K=>?_|refine t_br (fun hc=>?_) fun hc=>?_|refine t_bx ?_|apply And.intro|intro vr)
    |((with_reducible first|refine ny ?_|refine t_dwh (h:=fun K KL=>?_));intros;simp only [go_sem,kp64,geff,g3,hgt,jkR_9,←hs,Int.toNat_natCast,updL_cons,updL_nil,getLast0,setLast0,yes]))
   all_goals try exact nd
   exact ⟨⟨(i+1,v+1),by omega⟩,wf,lf⟩
  ·have g3:decide ((i:Int)<(ats.length:Int))=false:=decide_eq_false (by omega)
   have e:ats.take i=ats:=List.take_of_length_le hc
   repeat' (first
    |(with_reducible first|refine nx ?_|refine t_seq fun K=>?_|refine t_br (fun hc=>?_) fun hc=>?_|refine t_bx ?_|apply And.intro|intro vr)
    |((with_reducible first|refine ny ?_|refine t_dwh (h:=fun K KL=>?_));intros;simp only [go_sem,kp64,geff,g3,Int.toNat_natCast,updL_cons,updL_nil,e]))
   all_goals try exact nd
   all_goals ((first|refine end_retE ?_|refine end_normE ?_);try simp only [go_sem])
   exact hk _
theorem pickedB_rd {σ:List AObj} {x:AV} {vs:List ByteArray} {ats:List Int} {k:AV→List AObj→Prop} (hx:rdS σ x=some vs) (ha:∀ a∈ats,0≤a∧a<vs.length) (hl:ats.length≤1000000)
    (hk:∀ v,k (.arr σ.length v) (σ++[.arr 9 1 (strs (pickB vs ats)) v false])):EC Tryz.prog 64 [x,.sl false 1 (ints .i64 ats)] σ k:=by
  rcases rdS_cases hx with ⟨o,ver,e,fz,rfl,ho⟩|hle
  ·exact pickedB_arr ho ha hl hk
  ·exact EC.weak (pickedB_sl ha hl hk) (LeRL.cons hle (LeRL.refl _))
noncomputable def ecn64:ECon Tryz.prog where
  f:=64
  c:=fun args σ k=>match args with
   |[x,y]=>match rdS σ x,slK .i64 y with
    |some vs,some ats=>(∀ a∈ats,0≤a∧a<(vs.length:Int))∧ats.length≤1000000∧∀ v,k (.arr σ.length v) (σ++[.arr 9 1 (strs (pickB vs ats)) v false])
    |_,_=>False
   |_=>False
  ok:=by
   intro args σ k h
   split at h
   ·split at h
    ·rename_i hx hy
     exact EC.weak (pickedB_rd hx h.1 h.2.1 h.2.2) (LeRL.cons (LeR.refl _) (LeRL.cons (slK_leR hy) LeRL.nil))
    ·exact h.elim
   ·exact h.elim
  fk:=fk64
theorem ecn64_f:ecn64.f=64:=rfl
theorem ecn64_c {σ:List AObj} {k:AV→List AObj→Prop} {x y:AV}:ecn64.c [x,y] σ k=match rdS σ x,slK .i64 y with
      |some vs,some ats=>(∀ a∈ats,0≤a∧a<(vs.length:Int))∧ats.length≤1000000∧∀ v,k (.arr σ.length v) (σ++[.arr 9 1 (strs (pickB vs ats)) v false])
      |_,_=>False:=rfl
end Go.Proofs.YtcpjahmajkhchaaGreat

namespace Go.Proofs.YtcpjahmajkhchaaGreat
open Go Go.Fw
set_option maxRecDepth 20000
def okC (c:List Stp):Prop:=c.length≤1000000∧∀ s∈c,s.args.length≤1000000
theorem badN_no {c:List Stp} {n:Int} (h:badN c n=false):0≤n∧n≤20∧c.length≤60:=by
  simp only [badN,Bool.or_eq_false_iff,decide_eq_false_iff_not] at h
  omega
attribute [go_sem] con43_f con43_c stpOf_agg
noncomputable def A3:Env:=envJ (P:=Tryz.prog) jkR zer (fun _=>false) (fun _=>false) [con43] []
theorem A3_ok:EnvOk Tryz.prog A3:=envJOk zer_ok
set_option maxHeartbeats 4000000 in
theorem validC_pc {c:List Stp} {n:Int} (hc0:okC c) (hn:inI64 n):PC Tryz.prog 13 [.sl false 3 (stps c),.lit (.int .i64 n)] (.lit (.bool (validC c n))):=by
  obtain ⟨hl,ha⟩:=hc0
  generalize hR:validC c n=R
  unfold validC at hR
  cases hb:badN c n with
  |true=>
   rw [if_pos hb] at hR
   have hb':(decide (n<0)||decide (n>20)||decide ((c.length:Int)>60)||n+(c.length:Int)==0)=true:=hb
   refine pcR A3_ok (kp13) Tryz.func13 [.tmp 4] (h:=fun KF=>?_)
   unfold A3
   repeat' (first
    |(with_reducible first|refine nx ?_|refine t_seq fun K=>?_|refine t_br (fun hc=>?_) fun hc=>?_|refine t_bx ?_|apply And.intro|intro vr)
    |((with_reducible first|refine ny ?_|refine t_dwh (h:=fun K KL=>?_));intros;simp only [go_sem,kp13,geff,hb',stps_length]))
   all_goals try exact nd
   all_goals (refine nl ?_;simp only [go_sem])
   exact LeA.of_eq (by rw [←hR])
  |false=>
   rw [if_neg (by rw [hb];decide)] at hR
   have hb':(decide (n<0)||decide (n>20)||decide ((c.length:Int)>60)||n+(c.length:Int)==0)=false:=hb
   obtain ⟨b1,b2,b3⟩:=badN_no hb
   refine pcR A3_ok (kp13) Tryz.func13 [.tmp 4] (h:=fun KF=>?_)
   unfold A3
   repeat' (first
    |(with_reducible first|refine nx ?_|refine t_seq fun K=>?_|refine t_br (fun hc=>?_) fun hc=>?_|refine t_bx ?_|apply And.intro|intro vr)
    |((with_reducible first|refine ny ?_|refine t_dwh (h:=fun K KL=>?_));intros;simp only [go_sem,kp13,geff,hb',stps_length]))
   all_goals try exact nd
   refine t_loopF (ι:={i:Nat // i≤c.length∧allV (c.drop i) (n+i)=R}) (fun i=>[(27,.lit (.int .i64 i.1))]) (fun i=>[]) (fun i=>c.length - i.1) ⟨0,by omega,by simpa using hR⟩ ?_ ?_
   ·exact lf
   rintro ⟨i,hi,hF⟩ K0
   rcases Nat.lt_or_ge i c.length with hc|hc
   ·rw [drop_getD nilStp hc,allV] at hF
    have g3:decide ((i:Int)<(c.length:Int))=true:=decide_eq_true (by omega)
    have hx:=ha _ (getD_mem nilStp hc)
    cases h4:validS (c.getD i nilStp) (n+i) with
    |false=>
     rw [h4,Bool.false_and] at hF
     have h4':validS ⟨(c.getD i nilStp).op,(c.getD i nilStp).num,(c.getD i nilStp).args⟩ (n+i)=false:=h4
     repeat' (first
      |(with_reducible first|refine nx ?_|refine t_seq fun K=>?_|refine t_br (fun hc=>?_) fun hc=>?_|refine t_bx ?_|apply And.intro|intro vr)
      |((with_reducible first|refine ny ?_|refine t_dwh (h:=fun K KL=>?_));intros;simp only [go_sem,kp13,geff,g3,h4',Int.toNat_natCast,stps_length,stpV,Bool.not_false]))
     all_goals try exact nd
     all_goals (refine nl ?_;simp only [go_sem])
     exact LeA.of_eq (by rw [←hF])
    |true=>
     rw [h4,Bool.true_and] at hF
     have h4':validS ⟨(c.getD i nilStp).op,(c.getD i nilStp).num,(c.getD i nilStp).args⟩ (n+i)=true:=h4
     repeat' (first
      |(with_reducible first|refine nx ?_|refine t_seq fun K=>?_|refine t_br (fun hc=>?_) fun hc=>?_|refine t_bx ?_|apply And.intro|intro vr)
      |((with_reducible first|refine ny ?_|refine t_dwh (h:=fun K KL=>?_));intros;simp only [go_sem,kp13,geff,g3,h4',Int.toNat_natCast,stps_length,stpV,Bool.not_true]))
     all_goals try exact nd
     refine ⟨⟨i+1,by omega,by rw [←hF];congr 1;push_cast;omega⟩,by first|(simp only;omega)|omega,?_⟩
     simp only [updL_nil,updL_cons,delF_top,delF_upd,Nat.reduceEqDiff,reduceIte]
     refine le_backD (by first|rfl|(simp only [go_sem];try rfl)) (by first|exact Nat.zero_le _|simp) (by first|rfl|simp [lowO,low_lit,low_sl,low_ref,low_arr]) ?_ ?_
     ·repeat' (first|exact low_top|(refine low_upd rfl ?_))
     repeat' (first|exact leF_top _|exact (fun _=>LeR.refl _)|(with_reducible refine leF_sl ?_ ?_)|(refine leF_upd ?_ ?_))
     all_goals (first|exact LeR.top _|exact LeR.refl _|(refine LeR.of_eq ?_;(try simp only [go_sem]);try rfl)|((try simp only [go_sem]);try rfl))
   ·rw [List.drop_eq_nil_of_le hc,allV] at hF
    have g3:decide ((i:Int)<(c.length:Int))=false:=decide_eq_false (by omega)
    repeat' (first
     |(with_reducible first|refine nx ?_|refine t_seq fun K=>?_|refine t_br (fun hc=>?_) fun hc=>?_|refine t_bx ?_|apply And.intro|intro vr)
     |((with_reducible first|refine ny ?_|refine t_dwh (h:=fun K KL=>?_));intros;simp only [go_sem,kp13,geff,g3,Int.toNat_natCast,stps_length]))
    all_goals try exact nd
    all_goals (refine nl ?_;simp only [go_sem])
    exact LeA.of_eq (by rw [←hF])
noncomputable def con13:PCon Tryz.prog where
  f:=13
  c:=fun
   |[xc,.lit (.int .i64 n)]=>match stpsOf xc with|some c=>some (okC c∧inI64 n,.lit (.bool (validC c n)))|_=>none
   |_=>none
  ok:=by
   intro args p r hc hp
   split at hc
   ·split at hc
    ·rename_i hc
     cases hc
     exact PC.weak ((fun hp:_∧_=>validC_pc hp.1 hp.2) hp) ⟨stpsOf_le hc,LeA.refl _,trivial⟩
    ·cases hc
   ·cases hc
  fk:=fk13
theorem con13_f:con13.f=13:=rfl
theorem con13_c {xc:AV} {n:Int}:con13.c [xc,.lit (.int .i64 n)]=match stpsOf xc with|some c=>some (okC c∧inI64 n,.lit (.bool (validC c n)))|_=>none:=rfl
attribute [go_sem] con13_f con13_c
end Go.Proofs.YtcpjahmajkhchaaGreat

namespace Go.Proofs.YtcpjahmajkhchaaGreat
open Go Go.Fw
set_option maxRecDepth 20000
end Go.Proofs.YtcpjahmajkhchaaGreat

namespace Go.Proofs.YtcpjahmajkhchaaGreat
open Go Go.Fw
set_option maxRecDepth 20000
theorem gA0 {σ l:List AObj} {X:AObj}:(σ++X::l)[σ.length]? =some X:=by simp
theorem gA1 {σ l:List AObj} {X Y:AObj}:(σ++X::Y::l)[σ.length+1]? =some Y:=by
  rw [List.getElem?_append_right (by omega),show σ.length+1 - σ.length=1 by omega];rfl
theorem gA2 {σ l:List AObj} {X Y Z:AObj}:(σ++X::Y::Z::l)[σ.length+2]? =some Z:=by
  rw [List.getElem?_append_right (by omega),show σ.length+2 - σ.length=2 by omega];rfl
theorem sA0 {σ l:List AObj} {X Z:AObj}:(σ++X::l).set σ.length Z=σ++Z::l:=by simp
theorem sA1 {σ l:List AObj} {X Y Z:AObj}:(σ++X::Y::l).set (σ.length+1) Z=σ++X::Z::l:=by
  rw [List.set_append_right _ _ (by omega),show σ.length+1 - σ.length=1 by omega];rfl
theorem lenA1 {σ:List AObj} {X:AObj}:(σ++[X]).length=σ.length+1:=by simp
theorem lenA2 {σ:List AObj} {X Y:AObj}:(σ++[X,Y]).length=σ.length+2:=by simp
theorem lenA3 {σ:List AObj} {X Y Z:AObj}:(σ++[X,Y,Z]).length=σ.length+3:=by simp
theorem appA {σ:List AObj} {l m:List AObj}:(σ++l)++m=σ++(l++m):=List.append_assoc ..
theorem le_two {n0:Nat} {f g:Nat→AV} {σ l:List AObj} {a b:AObj} (e:σ=l++[a,b]) (hn:n0≤l.length) (hb:∀ m,l.all (lowO m)=true) (ha:∀ m,lowO m a=true) (hg:∀ m,l.length≤m→∀ j,low1 m (g j)=true) (h:∀ j,LeR (f j) (g j)):Le n0 ⟨f,σ⟩ ⟨g,l⟩:=by
  subst e
  exact (le_backD (σ:=l++[a,b]) (l:=l++[a]) (ob:=b) (by simp) (by simp;omega) (by rw [List.all_append,hb];simp [ha]) (hg _ (by simp)) h).trans (le_backD rfl hn (hb _) (hg _ (Nat.le_refl _)) (fun j=>LeR.refl _))
attribute [go_sem] gA0 gA1 gA2 sA0 sA1 lenA1 lenA2 lenA3 appA
structure Rv (c:List Stp) (av:List Int) (G:Option (List Int)) where
  i:Nat
  o:Option (List AObj×Nat)
  vs:List Int
  hi:i≤c.length
  h0:o=none→vs=av
  hl:∀ p,o=some p→∀ m,p.1.all (lowO m)=true
  hn:vs.length=av.length+i
  hF:runG (c.drop i) vs=G
def rvS {c:List Stp} {av:List Int} {G:Option (List Int)} (x:Rv c av G):AV:=match x.o with
  |none=> .sl true 1 (ints .i64 x.vs)
  |some p=> .arr p.1.length p.2
def rvO {c:List Stp} {av:List Int} {G:Option (List Int)} (x:Rv c av G):List AObj:=match x.o with
  |none=>[]
  |some p=>p.1++[.arr 3 1 (ints .i64 x.vs) p.2 false]
theorem allV_args:∀ {l:List Stp} {n:Int},allV l n=true→∀ i,i<l.length→isNum (l.getD i nilStp)=false→∀ a∈(l.getD i nilStp).args,0≤a∧a<n+i
  |[],_,_,_,h,_=>absurd h (by simp)
  |s::t,n,h,0,_,hn=>by
   simp only [allV,Bool.and_eq_true] at h
   intro a ha
   have hv:=h.1
   simp only [List.getD_cons_zero] at hn ha
   simp only [isNum,Bool.or_eq_false_iff] at hn
   unfold validS at hv
   rw [if_neg (by rw [hn.1];decide),if_neg (by rw [hn.2];decide)] at hv
   cases hT:El.typesS s.op with
   |none=>rw [hT] at hv;cases hv
   |some r=>
    rw [hT] at hv
    simp only [Bool.and_eq_true] at hv
    have:=List.all_eq_true.1 hv.1.1 a ha
    simp only [inR,Bool.and_eq_true,decide_eq_true_eq] at this
    simp only [Int.natCast_zero];omega
  |s::t,n,h,i+1,hi,hn=>by
   simp only [allV,Bool.and_eq_true] at h
   simp only [List.getD_cons_succ] at hn ⊢
   intro a ha
   have:=allV_args h.2 i (by simpa using hi) hn a ha
   push_cast;omega
attribute [go_sem] El.con41_f El.con41_c ecn42_f ecn42_c rdK_at rdK_sl kOf_ints
theorem applyV_some {n:Int}:El.applyV (some n)= .tup [.lit (.int .i64 n),.lit (.bool true)]:=rfl
theorem applyV_none:El.applyV none= .tup [.lit (.int .i64 0),.lit (.bool false)]:=rfl
theorem run_of {a:Int} {b:Bool} {r:Int×Bool} (h:r=(a,b)):LeA (.tup [.lit (.int .i64 a),.lit (.bool b)]) (.tup [.lit (.int .i64 r.1),.lit (.bool r.2)]):=by subst h;exact LeA.refl _
def runV (r:Int×Bool):AV:= .tup [.lit (.int .i64 r.1),.lit (.bool r.2)]
noncomputable def A5:Env:=envJ (P:=Tryz.prog) jkR zer (fun _=>false) (fun _=>false) [con13,El.con40,El.con41] [ecn42]
theorem A5_ok:EnvOk Tryz.prog A5:=envJOk zer_ok
set_option maxHeartbeats 8000000 in
theorem run_pc {c:List Stp} {av:List Int} (hc0:okC c) (ha0:av.length≤1000000):PC Tryz.prog 11 [.sl false 3 (stps c),.sl false 1 (ints .i64 av)] (runV (runS c av)):=by
  generalize hR:runS c av=R
  unfold runS at hR
  cases h1:validC c av.length with
  |false=>
   rw [if_pos h1] at hR
   refine pcR A5_ok (kp11) Tryz.func11 [.tmp 4,.tmp 5] (h:=fun KF=>?_)
   unfold A5
   repeat' (first
    |(with_reducible first|refine nx ?_|refine t_seq fun K=>?_|refine t_br (fun hc=>?_) fun hc=>?_|refine t_bx ?_|apply And.intro|intro vr)|exact kpd
    |((with_reducible first|refine ny ?_|refine t_kLF ?_ ?_|refine t_drawE (id:=15) (fun _=>true) [(0,1),(1,1),(2,1),(3,1),(4,1),(5,0),(6,0),(7,1),(8,1),(9,1),(10,1),(11,1)] (by kernel_rfl) fun K=>?_|refine t_dwh (h:=fun K KL=>?_));intros;simp only [go_sem,kp11,geff,h1,stpsOf_sl,Bool.not_false]))
   all_goals try exact nd
   all_goals (refine nl ?_;simp only [go_sem])
   exact run_of hR.symm
  |true=>
   rw [if_neg (by rw [h1];decide)] at hR
   have hb:badN c av.length=false:=by
     cases hb:badN c av.length with
     |false=>rfl
     |true=>unfold validC at h1;rw [if_pos hb] at h1;cases h1
   have hall:allV c av.length=true:=by
     unfold validC at h1;rw [if_neg (by rw [hb];decide)] at h1;exact h1
   obtain ⟨b1,b2,b3⟩:=badN_no hb
   refine pcR A5_ok (kp11) Tryz.func11 [.tmp 4,.tmp 5] (h:=fun KF=>?_)
   unfold A5
   repeat' (first
    |(with_reducible first|refine nx ?_|refine t_seq fun K=>?_|refine t_br (fun hc=>?_) fun hc=>?_|refine t_bx ?_|apply And.intro|intro vr)|exact kpd
    |((with_reducible first|refine ny ?_|refine t_kLF ?_ ?_|refine t_drawE (id:=15) (fun _=>true) [(0,1),(1,1),(2,1),(3,1),(4,1),(5,0),(6,0),(7,1),(8,1),(9,1),(10,1),(11,1)] (by kernel_rfl) fun K=>?_|refine t_dwh (h:=fun K KL=>?_));intros;simp only [go_sem,kp11,geff,h1,stpsOf_sl,Bool.not_true]))
   all_goals try exact nd
   refine t_loopF (ι:={i:Nat // i≤av.length∧(av.drop i).any (fun n=> !vld sInt n)=av.any (fun n=> !vld sInt n)}) (fun i=>[(20,.lit (.int .i64 i.1))]) (fun i=>[]) (fun i=>av.length - i.1) ⟨0,by omega,rfl⟩ ?_ ?_
   ·exact lf
   rintro ⟨i,hi,hF⟩ K0
   rcases Nat.lt_or_ge i av.length with hc|hc
   ·rw [drop_getD 0 hc,List.any_cons] at hF
    have g3:decide ((i:Int)<(av.length:Int))=true:=decide_eq_true (by omega)
    cases h4:vld sInt (av.getD i 0) with
    |false=>
     rw [h4,Bool.not_false,Bool.true_or] at hF
     rw [if_pos hF.symm] at hR
     have h4':El.vld ⟨#[105,110,116]⟩ (av.getD i 0)=false:=h4
     repeat' (first
      |(with_reducible first|refine nx ?_|refine t_seq fun K=>?_|refine t_br (fun hc=>?_) fun hc=>?_|refine t_bx ?_|apply And.intro|intro vr)|exact kpd
      |((with_reducible first|refine ny ?_|refine t_kLF ?_ ?_|refine t_drawE (id:=15) (fun _=>true) [(0,1),(1,1),(2,1),(3,1),(4,1),(5,0),(6,0),(7,1),(8,1),(9,1),(10,1),(11,1)] (by kernel_rfl) fun K=>?_|refine t_dwh (h:=fun K KL=>?_));intros;simp only [go_sem,kp11,geff,g3,h4',Int.toNat_natCast,Bool.not_false]))
     all_goals try exact nd
     all_goals (refine nl ?_;simp only [go_sem])
     exact run_of hR.symm
    |true=>
     rw [h4,Bool.not_true,Bool.false_or] at hF
     have h4':El.vld ⟨#[105,110,116]⟩ (av.getD i 0)=true:=h4
     repeat' (first
      |(with_reducible first|refine nx ?_|refine t_seq fun K=>?_|refine t_br (fun hc=>?_) fun hc=>?_|refine t_bx ?_|apply And.intro|intro vr)|exact kpd
      |((with_reducible first|refine ny ?_|refine t_kLF ?_ ?_|refine t_drawE (id:=15) (fun _=>true) [(0,1),(1,1),(2,1),(3,1),(4,1),(5,0),(6,0),(7,1),(8,1),(9,1),(10,1),(11,1)] (by kernel_rfl) fun K=>?_|refine t_dwh (h:=fun K KL=>?_));intros;simp only [go_sem,kp11,geff,g3,h4',Int.toNat_natCast,Bool.not_true]))
     all_goals try exact nd
     exact ⟨⟨i+1,by omega,hF⟩,wf,lf⟩
   ·have g3:decide ((i:Int)<(av.length:Int))=false:=decide_eq_false (by omega)
    rw [List.drop_eq_nil_of_le hc,List.any_nil] at hF
    rw [if_neg (by rw [←hF];decide)] at hR
    generalize hG:runG c av=G at hR
    repeat' (first
     |(with_reducible first|refine nx ?_|refine t_seq fun K=>?_|refine t_br (fun hc=>?_) fun hc=>?_|refine t_bx ?_|apply And.intro|intro vr)|exact kpd
     |((with_reducible first|refine ny ?_|refine t_kLF ?_ ?_|refine t_drawE (id:=15) (fun _=>true) [(0,1),(1,1),(2,1),(3,1),(4,1),(5,0),(6,0),(7,1),(8,1),(9,1),(10,1),(11,1)] (by kernel_rfl) fun K=>?_|refine t_dwh (h:=fun K KL=>?_));intros;simp only [go_sem,kp11,geff,g3,Int.toNat_natCast,stps_length,List.take_length]))
    all_goals try exact nd
    refine t_loopF (ι:=Rv c av G) (fun x=>[(36,.lit (.int .i64 x.i)),(8,rvS x)]) (fun x=>rvO x) (fun x=>c.length - x.i) ⟨0,none,av,by omega,fun _=>rfl,nofun,by simp,hG⟩ ?_ ?_
    ·simp only [rvS,rvO,updL_nil,updL_cons,delF_top,delF_upd,Nat.reduceEqDiff,reduceIte]
     refine Le.frameS (by first|rfl|(simp only [go_sem];try rfl)) ?_
     repeat' (first|exact leF_top _|exact (fun _=>LeR.refl _)|(with_reducible refine leF_sl ?_ ?_)|(refine leF_upd ?_ ?_))
     all_goals (first|exact LeR.top _|exact LeR.refl _|(refine LeR.of_eq ?_;(try simp only [go_sem]);try rfl)|((try simp only [go_sem]);try rfl))
    rintro ⟨i,o,vs,hi,h0,hl,hn,hF⟩ K0
    have hap:∀ n:Int,ints .i64 vs++[.lit (.int .i64 n)]=ints .i64 (vs++[n]):=fun n=>ints_append1 _ _ _
    cases o with
    |none=>
     simp only [rvS,rvO]
     rcases Nat.lt_or_ge i c.length with hc|hc
     ·rw [drop_getD nilStp hc,runG] at hF
      have g3:decide ((i:Int)<(c.length:Int))=true:=decide_eq_true (by omega)
      have hag:=allV_args hall i hc
      have hx:=hc0.2 _ (getD_mem nilStp hc)
      generalize hs:c.getD i nilStp=s at hF hx hag
      cases h5:isNum s with
      |true=>
       rw [show stepS s vs=some s.num by unfold stepS;rw [if_pos h5]] at hF
       simp only at hF
       have h5':(!eqS s.op ⟨#[99,111,110,115,116]⟩&& !eqS s.op ⟨#[116,114,117,116,104]⟩)=false:=by
         rw [←Bool.not_or];show (!isNum s)=false;rw [h5];rfl
       repeat' (first
        |(with_reducible first|refine nx ?_|refine t_seq fun K=>?_|refine t_br (fun hc=>?_) fun hc=>?_|refine t_bx ?_|apply And.intro|intro vr)|exact kpd
        |((with_reducible first|refine ny ?_|refine t_kLF ?_ ?_|refine t_drawE (id:=15) (fun _=>true) [(0,1),(1,1),(2,1),(3,1),(4,1),(5,0),(6,0),(7,1),(8,1),(9,1),(10,1),(11,1)] (by kernel_rfl) fun K=>?_|refine t_dwh (h:=fun K KL=>?_));intros;simp only [go_sem,kp11,geff,g3,hs,h5',hap,stpV,Int.toNat_natCast,stps_length]))
       all_goals try exact nd
       refine ⟨⟨i+1,some ([.box 78 [.lit (.string s.op),.lit (.int .i64 s.num),.sl false 1 (ints .i64 s.args)]],0),vs++[s.num],by omega,nofun,?_,by rw [List.length_append,hn];simp;omega,hF⟩,by show c.length - (i+1)<c.length - i;omega,?_⟩
       ·intro p hp m
        cases hp;rfl
       ·simp only [rvS,rvO,updL_nil,updL_cons,delF_top,delF_upd,Nat.reduceEqDiff,reduceIte,List.cons_append,List.nil_append,List.length_cons,List.length_nil]
        refine Le.frameS (by first|rfl|(simp only [go_sem];try rfl)) ?_
        repeat' (first|exact leF_top _|exact (fun _=>LeR.refl _)|(with_reducible refine leF_sl ?_ ?_)|(refine leF_upd ?_ ?_))
        all_goals (first|exact LeR.top _|exact LeR.refl _|(refine LeR.of_eq ?_;(try simp only [go_sem]);try rfl)|((try simp only [go_sem]);try rfl))
      |false=>
       rw [show stepS s vs=El.applyS s.op (pickI vs s.args) by unfold stepS;rw [if_neg (by rw [h5];decide)]] at hF
       have h5':(!eqS s.op ⟨#[99,111,110,115,116]⟩&& !eqS s.op ⟨#[116,114,117,116,104]⟩)=true:=by
         rw [←Bool.not_or];show (!isNum s)=true;rw [h5];rfl
       have hag':∀ a∈s.args,0≤a∧a<(vs.length:Int):=fun a ha=>by have:=hag h5 a ha;omega
       cases hA:El.applyS s.op (pickI vs s.args) with
       |none=>
        rw [hA] at hF
        simp only at hF
        rw [←hF] at hR
        repeat' (first
         |(with_reducible first|refine nx ?_|refine t_seq fun K=>?_|refine t_br (fun hc=>?_) fun hc=>?_|refine t_bx ?_|apply And.intro|intro vr)|exact kpd
         |((with_reducible first|refine ny ?_|refine t_kLF ?_ ?_|refine t_drawE (id:=15) (fun _=>true) [(0,1),(1,1),(2,1),(3,1),(4,1),(5,0),(6,0),(7,1),(8,1),(9,1),(10,1),(11,1)] (by kernel_rfl) fun K=>?_|refine t_dwh (h:=fun K KL=>?_));intros;simp only [go_sem,kp11,geff,g3,hs,h5',hap,hA,applyV_none,stpV,Int.toNat_natCast,stps_length,Bool.not_false]))
        all_goals try exact nd
        all_goals try exact (hag' _ (by assumption)).1
        all_goals try exact (hag' _ (by assumption)).2
        all_goals (refine nl ?_;simp only [go_sem])
        exact run_of hR.symm
       |some n=>
        rw [hA] at hF
        simp only at hF
        repeat' (first
         |(with_reducible first|refine nx ?_|refine t_seq fun K=>?_|refine t_br (fun hc=>?_) fun hc=>?_|refine t_bx ?_|apply And.intro|intro vr)|exact kpd
         |((with_reducible first|refine ny ?_|refine t_kLF ?_ ?_|refine t_drawE (id:=15) (fun _=>true) [(0,1),(1,1),(2,1),(3,1),(4,1),(5,0),(6,0),(7,1),(8,1),(9,1),(10,1),(11,1)] (by kernel_rfl) fun K=>?_|refine t_dwh (h:=fun K KL=>?_));intros;simp only [go_sem,kp11,geff,g3,hs,h5',hap,hA,applyV_some,stpV,Int.toNat_natCast,stps_length,Bool.not_true]))
        all_goals try exact nd
        all_goals try exact (hag' _ (by assumption)).1
        all_goals try exact (hag' _ (by assumption)).2
        refine ⟨⟨i+1,some ([.box 78 [.lit (.string s.op),.lit (.int .i64 s.num),.sl false 1 (ints .i64 s.args)],.arr 3 1 (ints .i64 (pickI vs s.args)) vr false],0),vs++[n],by omega,nofun,?_,by rw [List.length_append,hn];simp;omega,hF⟩,by show c.length - (i+1)<c.length - i;omega,?_⟩
        ·intro p hp m
         cases hp;rfl
        ·simp only [rvS,rvO,updL_nil,updL_cons,delF_top,delF_upd,Nat.reduceEqDiff,reduceIte,List.cons_append,List.nil_append,List.length_cons,List.length_nil]
         refine Le.frameS (by first|rfl|(simp only [go_sem];try rfl)) ?_
         repeat' (first|exact leF_top _|exact (fun _=>LeR.refl _)|(with_reducible refine leF_sl ?_ ?_)|(refine leF_upd ?_ ?_))
         all_goals (first|exact LeR.top _|exact LeR.refl _|(refine LeR.of_eq ?_;(try simp only [go_sem]);try rfl)|((try simp only [go_sem]);try rfl))
     ·have g3:decide ((i:Int)<(c.length:Int))=false:=decide_eq_false (by omega)
      rw [List.drop_eq_nil_of_le hc,runG] at hF
      rw [←hF] at hR
      simp only at hR
      have hv0:1≤vs.length:=by
        have: ¬ ((av.length:Int)+(c.length:Int)=0):=fun e=>by
          unfold badN at hb;simp [e] at hb
        omega
      have e1:((vs.length:Int) - 1).toNat=vs.length - 1:=by omega
      repeat' (first
       |(with_reducible first|refine nx ?_|refine t_seq fun K=>?_|refine t_br (fun hc=>?_) fun hc=>?_|refine t_bx ?_|apply And.intro|intro vr)|exact kpd
       |((with_reducible first|refine ny ?_|refine t_kLF ?_ ?_|refine t_drawE (id:=15) (fun _=>true) [(0,1),(1,1),(2,1),(3,1),(4,1),(5,0),(6,0),(7,1),(8,1),(9,1),(10,1),(11,1)] (by kernel_rfl) fun K=>?_|refine t_dwh (h:=fun K KL=>?_));intros;simp only [go_sem,kp11,geff,g3,e1,Int.toNat_natCast,stps_length,yes]))
      all_goals try exact nd
      all_goals (refine nl ?_;simp only [go_sem])
      exact run_of (by rw [←hR];rfl)
    |some p=>
     obtain ⟨pre,v⟩:=p
     have hpre:=hl _ rfl
     simp only at hpre
     simp only [rvS,rvO]
     rcases Nat.lt_or_ge i c.length with hc|hc
     ·rw [drop_getD nilStp hc,runG] at hF
      have g3:decide ((i:Int)<(c.length:Int))=true:=decide_eq_true (by omega)
      have hag:=allV_args hall i hc
      have hx:=hc0.2 _ (getD_mem nilStp hc)
      generalize hs:c.getD i nilStp=s at hF hx hag
      cases h5:isNum s with
      |true=>
       rw [show stepS s vs=some s.num by unfold stepS;rw [if_pos h5]] at hF
       simp only at hF
       have h5':(!eqS s.op ⟨#[99,111,110,115,116]⟩&& !eqS s.op ⟨#[116,114,117,116,104]⟩)=false:=by
         rw [←Bool.not_or];show (!isNum s)=false;rw [h5];rfl
       repeat' (first
        |(with_reducible first|refine nx ?_|refine t_seq fun K=>?_|refine t_br (fun hc=>?_) fun hc=>?_|refine t_bx ?_|apply And.intro|intro vr)|exact kpd
        |((with_reducible first|refine ny ?_|refine t_kLF ?_ ?_|refine t_drawE (id:=15) (fun _=>true) [(0,1),(1,1),(2,1),(3,1),(4,1),(5,0),(6,0),(7,1),(8,1),(9,1),(10,1),(11,1)] (by kernel_rfl) fun K=>?_|refine t_dwh (h:=fun K KL=>?_));intros;simp only [go_sem,kp11,geff,g3,hs,h5',hap,stpV,Int.toNat_natCast,stps_length]))
       all_goals try exact nd
       refine ⟨⟨i+1,some (pre,v+1),vs++[s.num],by omega,nofun,?_,by rw [List.length_append,hn];simp;omega,hF⟩,by show c.length - (i+1)<c.length - i;omega,?_⟩
       ·intro p hp m
        cases hp;exact hpre m
       ·simp only [rvS,rvO,updL_nil,updL_cons,delF_top,delF_upd,Nat.reduceEqDiff,reduceIte]
        refine le_backD (σ:=pre++[.arr 3 1 (ints .i64 (vs++[s.num])) (v+1) false,.box 78 [.lit (.string s.op),.lit (.int .i64 s.num),.sl false 1 (ints .i64 s.args)]]) (l:=pre++[.arr 3 1 (ints .i64 (vs++[s.num])) (v+1) false]) (ob:= .box 78 [.lit (.string s.op),.lit (.int .i64 s.num),.sl false 1 (ints .i64 s.args)]) (by simp) (Nat.zero_le _) (by rw [List.all_append,hpre];rfl) ?_ ?_
        ·repeat' (first|exact low_top|(refine low_upd ?_ ?_))
         all_goals (first|rfl|(simp only [low_arr,decide_eq_true_eq];simp))
        repeat' (first|exact leF_top _|exact (fun _=>LeR.refl _)|(with_reducible refine leF_sl ?_ ?_)|(refine leF_upd ?_ ?_))
        all_goals (first|exact LeR.top _|exact LeR.refl _|(refine LeR.of_eq ?_;(try simp only [go_sem]);try rfl)|((try simp only [go_sem]);try rfl))
      |false=>
       rw [show stepS s vs=El.applyS s.op (pickI vs s.args) by unfold stepS;rw [if_neg (by rw [h5];decide)]] at hF
       have h5':(!eqS s.op ⟨#[99,111,110,115,116]⟩&& !eqS s.op ⟨#[116,114,117,116,104]⟩)=true:=by
         rw [←Bool.not_or];show (!isNum s)=true;rw [h5];rfl
       have hag':∀ a∈s.args,0≤a∧a<(vs.length:Int):=fun a ha=>by have:=hag h5 a ha;omega
       cases hA:El.applyS s.op (pickI vs s.args) with
       |none=>
        rw [hA] at hF
        simp only at hF
        rw [←hF] at hR
        repeat' (first
         |(with_reducible first|refine nx ?_|refine t_seq fun K=>?_|refine t_br (fun hc=>?_) fun hc=>?_|refine t_bx ?_|apply And.intro|intro vr)|exact kpd
         |((with_reducible first|refine ny ?_|refine t_kLF ?_ ?_|refine t_drawE (id:=15) (fun _=>true) [(0,1),(1,1),(2,1),(3,1),(4,1),(5,0),(6,0),(7,1),(8,1),(9,1),(10,1),(11,1)] (by kernel_rfl) fun K=>?_|refine t_dwh (h:=fun K KL=>?_));intros;simp only [go_sem,kp11,geff,g3,hs,h5',hap,hA,applyV_none,stpV,Int.toNat_natCast,stps_length,Bool.not_false]))
        all_goals try exact nd
        all_goals try exact (hag' _ (by assumption)).1
        all_goals try exact (hag' _ (by assumption)).2
        all_goals (refine nl ?_;simp only [go_sem])
        exact run_of hR.symm
       |some n=>
        rw [hA] at hF
        simp only at hF
        repeat' (first
         |(with_reducible first|refine nx ?_|refine t_seq fun K=>?_|refine t_br (fun hc=>?_) fun hc=>?_|refine t_bx ?_|apply And.intro|intro vr)|exact kpd
         |((with_reducible first|refine ny ?_|refine t_kLF ?_ ?_|refine t_drawE (id:=15) (fun _=>true) [(0,1),(1,1),(2,1),(3,1),(4,1),(5,0),(6,0),(7,1),(8,1),(9,1),(10,1),(11,1)] (by kernel_rfl) fun K=>?_|refine t_dwh (h:=fun K KL=>?_));intros;simp only [go_sem,kp11,geff,g3,hs,h5',hap,hA,applyV_some,stpV,Int.toNat_natCast,stps_length,Bool.not_true]))
        all_goals try exact nd
        all_goals try exact (hag' _ (by assumption)).1
        all_goals try exact (hag' _ (by assumption)).2
        refine ⟨⟨i+1,some (pre,v+1),vs++[n],by omega,nofun,?_,by rw [List.length_append,hn];simp;omega,hF⟩,by show c.length - (i+1)<c.length - i;omega,?_⟩
        ·intro p hp m
         cases hp;exact hpre m
        ·simp only [rvS,rvO,updL_nil,updL_cons,delF_top,delF_upd,Nat.reduceEqDiff,reduceIte]
         refine le_two (σ:=pre++[.arr 3 1 (ints .i64 (vs++[n])) (v+1) false,.box 78 [.lit (.string s.op),.lit (.int .i64 s.num),.sl false 1 (ints .i64 s.args)],.arr 3 1 (ints .i64 (pickI vs s.args)) vr false]) (l:=pre++[.arr 3 1 (ints .i64 (vs++[n])) (v+1) false]) (a:= .box 78 [.lit (.string s.op),.lit (.int .i64 s.num),.sl false 1 (ints .i64 s.args)]) (b:= .arr 3 1 (ints .i64 (pickI vs s.args)) vr false) (by simp) (Nat.zero_le _) (fun m=>by rw [List.all_append,hpre];rfl) (fun m=>rfl) ?_ ?_
         ·intro m hm
          repeat' (first|exact low_top|(refine low_upd ?_ ?_))
          all_goals (first|rfl|(simp only [low_arr,decide_eq_true_eq];simp at hm;omega))
         repeat' (first|exact leF_top _|exact (fun _=>LeR.refl _)|(with_reducible refine leF_sl ?_ ?_)|(refine leF_upd ?_ ?_))
         all_goals (first|exact LeR.top _|exact LeR.refl _|(refine LeR.of_eq ?_;(try simp only [go_sem]);try rfl)|((try simp only [go_sem]);try rfl))
     ·have g3:decide ((i:Int)<(c.length:Int))=false:=decide_eq_false (by omega)
      rw [List.drop_eq_nil_of_le hc,runG] at hF
      rw [←hF] at hR
      simp only at hR
      have hv0:1≤vs.length:=by
        have: ¬ ((av.length:Int)+(c.length:Int)=0):=fun e=>by
          unfold badN at hb;simp [e] at hb
        omega
      have e1:((vs.length:Int) - 1).toNat=vs.length - 1:=by omega
      repeat' (first
       |(with_reducible first|refine nx ?_|refine t_seq fun K=>?_|refine t_br (fun hc=>?_) fun hc=>?_|refine t_bx ?_|apply And.intro|intro vr)|exact kpd
       |((with_reducible first|refine ny ?_|refine t_kLF ?_ ?_|refine t_drawE (id:=15) (fun _=>true) [(0,1),(1,1),(2,1),(3,1),(4,1),(5,0),(6,0),(7,1),(8,1),(9,1),(10,1),(11,1)] (by kernel_rfl) fun K=>?_|refine t_dwh (h:=fun K KL=>?_));intros;simp only [go_sem,kp11,geff,g3,e1,Int.toNat_natCast,stps_length,yes]))
      all_goals try exact nd
      all_goals (refine nl ?_;simp only [go_sem])
      exact run_of (by rw [←hR];rfl)
noncomputable def con11:PCon Tryz.prog where
  f:=11
  c:=fun
   |[xc,xav]=>match stpsOf xc,slK .i64 xav with|some c,some av=>some (okC c∧av.length≤1000000,runV (runS c av))|_,_=>none
   |_=>none
  ok:=by
   intro args p r hc hp
   split at hc
   ·split at hc
    ·rename_i hc hav
     cases hc
     exact PC.weak ((fun hp:_∧_=>run_pc hp.1 hp.2) hp) ⟨stpsOf_le hc,slK_le hav,trivial⟩
    ·cases hc
   ·cases hc
  fk:=fk11
theorem con11_f:con11.f=11:=rfl
theorem con11_c {xc:AV} {xav:AV}:con11.c [xc,xav]=match stpsOf xc,slK .i64 xav with|some c,some av=>some (okC c∧av.length≤1000000,runV (runS c av))|_,_=>none:=rfl
attribute [go_sem] con11_f con11_c
end Go.Proofs.YtcpjahmajkhchaaGreat

namespace Go.Proofs.YtcpjahmajkhchaaGreat
open Go Go.Fw
set_option maxRecDepth 20000
end Go.Proofs.YtcpjahmajkhchaaGreat

namespace Go.Proofs.YtcpjahmajkhchaaGreat
open Go Go.Fw
set_option maxRecDepth 20000
structure Tv (c:List Stp) (av:List ByteArray) (G:Option (List ByteArray)) where
  i:Nat
  o:Option (List AObj×Nat)
  vs:List ByteArray
  hi:i≤c.length
  h0:o=none→vs=av
  hl:∀ p,o=some p→∀ m,p.1.all (lowO m)=true
  hn:vs.length=av.length+i
  hF:typG (c.drop i) vs=G
def tvS {c:List Stp} {av:List ByteArray} {G:Option (List ByteArray)} (x:Tv c av G):AV:=match x.o with
  |none=> .sl true 1 (strs x.vs)
  |some p=> .arr p.1.length p.2
def tvO {c:List Stp} {av:List ByteArray} {G:Option (List ByteArray)} (x:Tv c av G):List AObj:=match x.o with
  |none=>[]
  |some p=>p.1++[.arr 9 1 (strs x.vs) p.2 false]
attribute [go_sem] El.con63_f El.con63_c ecn64_f ecn64_c rdS_at rdS_sl strsOf_strs
theorem rsV_some {n:ByteArray}:El.rsV (some n)= .tup [.lit (.string n),.lit (.bool true)]:=rfl
theorem rsV_none:El.rsV none= .tup [.lit (.string ⟨#[]⟩),.lit (.bool false)]:=rfl
theorem typ_of {a:ByteArray} {b:Bool} {r:ByteArray×Bool} (h:r=(a,b)):LeA (.tup [.lit (.string a),.lit (.bool b)]) (.tup [.lit (.string r.1),.lit (.bool r.2)]):=by subst h;exact LeA.refl _
def typV (r:ByteArray×Bool):AV:= .tup [.lit (.string r.1),.lit (.bool r.2)]
noncomputable def A7:Env:=envJ (P:=Tryz.prog) jkR zer (fun _=>false) (fun _=>false) [con13,El.con63] [ecn64]
theorem A7_ok:EnvOk Tryz.prog A7:=envJOk zer_ok
set_option maxHeartbeats 8000000 in
theorem typ_pc {c:List Stp} {av:List ByteArray} (hc0:okC c) (ha0:av.length≤1000000):PC Tryz.prog 33 [.sl false 3 (stps c),.sl false 1 (strs av)] (typV (typS c av)):=by
  generalize hR:typS c av=R
  unfold typS at hR
  cases h1:validC c av.length with
  |false=>
   rw [if_pos h1] at hR
   refine pcR A7_ok (kp33) Tryz.func33 [.tmp 4,.tmp 5] (h:=fun KF=>?_)
   unfold A7
   repeat' (first
    |(with_reducible first|refine nx ?_|refine t_seq fun K=>?_|refine t_br (fun hc=>?_) fun hc=>?_|refine t_bx ?_|apply And.intro|intro vr)|exact kpd
    |((with_reducible first|refine ny ?_|refine t_kLF ?_ ?_|refine t_drawE (id:=15) (fun _=>true) [(0,1),(1,1),(2,1),(3,1),(4,1),(5,0),(6,0),(7,1),(8,1),(9,1),(10,1),(11,1)] (by kernel_rfl) fun K=>?_|refine t_dwh (h:=fun K KL=>?_));intros;simp only [go_sem,kp33,geff,h1,stpsOf_sl,Bool.not_false]))
   all_goals try exact nd
   all_goals (refine nl ?_;simp only [go_sem])
   exact typ_of hR.symm
  |true=>
   rw [if_neg (by rw [h1];decide)] at hR
   have hb:badN c av.length=false:=by
     cases hb:badN c av.length with
     |false=>rfl
     |true=>unfold validC at h1;rw [if_pos hb] at h1;cases h1
   have hall:allV c av.length=true:=by
     unfold validC at h1;rw [if_neg (by rw [hb];decide)] at h1;exact h1
   obtain ⟨b1,b2,b3⟩:=badN_no hb
   refine pcR A7_ok (kp33) Tryz.func33 [.tmp 4,.tmp 5] (h:=fun KF=>?_)
   unfold A7
   repeat' (first
    |(with_reducible first|refine nx ?_|refine t_seq fun K=>?_|refine t_br (fun hc=>?_) fun hc=>?_|refine t_bx ?_|apply And.intro|intro vr)|exact kpd
    |((with_reducible first|refine ny ?_|refine t_kLF ?_ ?_|refine t_drawE (id:=15) (fun _=>true) [(0,1),(1,1),(2,1),(3,1),(4,1),(5,0),(6,0),(7,1),(8,1),(9,1),(10,1),(11,1)] (by kernel_rfl) fun K=>?_|refine t_dwh (h:=fun K KL=>?_));intros;simp only [go_sem,kp33,geff,h1,stpsOf_sl,Bool.not_true]))
   all_goals try exact nd
   refine t_loopF (ι:={i:Nat // i≤av.length∧(av.drop i).any (fun t=> !tyOk t)=av.any (fun t=> !tyOk t)}) (fun i=>[(20,.lit (.int .i64 i.1))]) (fun i=>[]) (fun i=>av.length - i.1) ⟨0,by omega,rfl⟩ ?_ ?_
   ·exact lf
   rintro ⟨i,hi,hF⟩ K0
   rcases Nat.lt_or_ge i av.length with hc|hc
   ·rw [drop_getD ⟨#[]⟩ hc,List.any_cons] at hF
    have g3:decide ((i:Int)<(av.length:Int))=true:=decide_eq_true (by omega)
    cases h4:tyOk (av.getD i ⟨#[]⟩) with
    |false=>
     rw [h4,Bool.not_false,Bool.true_or] at hF
     rw [if_pos hF.symm] at hR
     have h4':(!eqS (av.getD i ByteArray.empty) ⟨#[105,110,116]⟩&& !eqS (av.getD i ByteArray.empty) ⟨#[98,111,111,108]⟩)=true:=by rw [←Bool.not_or];show (!tyOk (av.getD i ⟨#[]⟩))=true;rw [h4];rfl
     repeat' (first
      |(with_reducible first|refine nx ?_|refine t_seq fun K=>?_|refine t_br (fun hc=>?_) fun hc=>?_|refine t_bx ?_|apply And.intro|intro vr)|exact kpd
      |((with_reducible first|refine ny ?_|refine t_kLF ?_ ?_|refine t_drawE (id:=15) (fun _=>true) [(0,1),(1,1),(2,1),(3,1),(4,1),(5,0),(6,0),(7,1),(8,1),(9,1),(10,1),(11,1)] (by kernel_rfl) fun K=>?_|refine t_dwh (h:=fun K KL=>?_));intros;simp only [go_sem,kp33,geff,g3,h4',Int.toNat_natCast,Bool.not_false]))
     all_goals try exact nd
     all_goals (refine nl ?_;simp only [go_sem])
     exact typ_of hR.symm
    |true=>
     rw [h4,Bool.not_true,Bool.false_or] at hF
     have h4':(!eqS (av.getD i ByteArray.empty) ⟨#[105,110,116]⟩&& !eqS (av.getD i ByteArray.empty) ⟨#[98,111,111,108]⟩)=false:=by rw [←Bool.not_or];show (!tyOk (av.getD i ⟨#[]⟩))=false;rw [h4];rfl
     repeat' (first
      |(with_reducible first|refine nx ?_|refine t_seq fun K=>?_|refine t_br (fun hc=>?_) fun hc=>?_|refine t_bx ?_|apply And.intro|intro vr)|exact kpd
      |((with_reducible first|refine ny ?_|refine t_kLF ?_ ?_|refine t_drawE (id:=15) (fun _=>true) [(0,1),(1,1),(2,1),(3,1),(4,1),(5,0),(6,0),(7,1),(8,1),(9,1),(10,1),(11,1)] (by kernel_rfl) fun K=>?_|refine t_dwh (h:=fun K KL=>?_));intros;simp only [go_sem,kp33,geff,g3,h4',Int.toNat_natCast,Bool.not_true]))
     all_goals try exact nd
     exact ⟨⟨i+1,by omega,hF⟩,wf,lf⟩
   ·have g3:decide ((i:Int)<(av.length:Int))=false:=decide_eq_false (by omega)
    rw [List.drop_eq_nil_of_le hc,List.any_nil] at hF
    rw [if_neg (by rw [←hF];decide)] at hR
    generalize hG:typG c av=G at hR
    have htk:List.take av.length (strs av)=strs av:=by
      have:=List.take_length (l:=strs av)
      rwa [strs_length] at this
    repeat' (first
     |(with_reducible first|refine nx ?_|refine t_seq fun K=>?_|refine t_br (fun hc=>?_) fun hc=>?_|refine t_bx ?_|apply And.intro|intro vr)|exact kpd
     |((with_reducible first|refine ny ?_|refine t_kLF ?_ ?_|refine t_drawE (id:=15) (fun _=>true) [(0,1),(1,1),(2,1),(3,1),(4,1),(5,0),(6,0),(7,1),(8,1),(9,1),(10,1),(11,1)] (by kernel_rfl) fun K=>?_|refine t_dwh (h:=fun K KL=>?_));intros;simp only [go_sem,kp33,geff,g3,Int.toNat_natCast,stps_length,htk]))
    all_goals try exact nd
    refine t_loopF (ι:=Tv c av G) (fun x=>[(39,.lit (.int .i64 x.i)),(8,tvS x)]) (fun x=>tvO x) (fun x=>c.length - x.i) ⟨0,none,av,by omega,fun _=>rfl,nofun,by simp,hG⟩ ?_ ?_
    ·simp only [tvS,tvO,updL_nil,updL_cons,delF_top,delF_upd,Nat.reduceEqDiff,reduceIte]
     refine Le.frameS (by first|rfl|(simp only [go_sem];try rfl)) ?_
     repeat' (first|exact leF_top _|exact (fun _=>LeR.refl _)|(with_reducible refine leF_sl ?_ ?_)|(refine leF_upd ?_ ?_))
     all_goals (first|exact LeR.top _|exact LeR.refl _|(refine LeR.of_eq ?_;(try simp only [go_sem]);try rfl)|((try simp only [go_sem]);try rfl))
    rintro ⟨i,o,vs,hi,h0,hl,hn,hF⟩ K0
    have hap:∀ n:ByteArray,strs vs++[.lit (.string n)]=strs (vs++[n]):=fun n=>by simp [strs]
    cases o with
    |none=>
     simp only [tvS,tvO]
     rcases Nat.lt_or_ge i c.length with hc|hc
     ·rw [drop_getD nilStp hc,typG] at hF
      have g3:decide ((i:Int)<(c.length:Int))=true:=decide_eq_true (by omega)
      have hag:=allV_args hall i hc
      have hx:=hc0.2 _ (getD_mem nilStp hc)
      generalize hs:c.getD i nilStp=s at hF hx hag
      cases h6:eqS s.op sConst with
      |true=>
       rw [show stepT s vs=some ⟨#[105,110,116]⟩ by unfold stepT;rw [if_pos h6];rfl] at hF
       simp only at hF
       have h6':eqS s.op ⟨#[99,111,110,115,116]⟩=true:=h6
       repeat' (first
        |(with_reducible first|refine nx ?_|refine t_seq fun K=>?_|refine t_br (fun hc=>?_) fun hc=>?_|refine t_bx ?_|apply And.intro|intro vr)|exact kpd
        |((with_reducible first|refine ny ?_|refine t_kLF ?_ ?_|refine t_drawE (id:=15) (fun _=>true) [(0,1),(1,1),(2,1),(3,1),(4,1),(5,0),(6,0),(7,1),(8,1),(9,1),(10,1),(11,1)] (by kernel_rfl) fun K=>?_|refine t_dwh (h:=fun K KL=>?_));intros;simp only [go_sem,kp33,geff,g3,hs,h6',hap,stpV,Int.toNat_natCast,stps_length]))
       all_goals try exact nd
       refine ⟨⟨i+1,some ([.box 78 [.lit (.string s.op),.lit (.int .i64 s.num),.sl false 1 (ints .i64 s.args)]],0),vs++[⟨#[105,110,116]⟩],by omega,nofun,?_,by rw [List.length_append,hn];simp;omega,hF⟩,by show c.length - (i+1)<c.length - i;omega,?_⟩
       ·intro p hp m
        cases hp;rfl
       ·simp only [tvS,tvO,updL_nil,updL_cons,delF_top,delF_upd,Nat.reduceEqDiff,reduceIte,List.cons_append,List.nil_append,List.length_cons,List.length_nil]
        refine Le.frameS (by first|rfl|(simp only [go_sem];try rfl)) ?_
        repeat' (first|exact leF_top _|exact (fun _=>LeR.refl _)|(with_reducible refine leF_sl ?_ ?_)|(refine leF_upd ?_ ?_))
        all_goals (first|exact LeR.top _|exact LeR.refl _|(refine LeR.of_eq ?_;(try simp only [go_sem]);try rfl)|((try simp only [go_sem]);try rfl))
      |false=>
       cases h7:eqS s.op sTruth with
       |true=>
        rw [show stepT s vs=some ⟨#[98,111,111,108]⟩ by unfold stepT;rw [if_neg (by rw [h6];decide),if_pos h7];rfl] at hF
        simp only at hF
        have h6':eqS s.op ⟨#[99,111,110,115,116]⟩=false:=h6
        have h7':eqS s.op ⟨#[116,114,117,116,104]⟩=true:=h7
        repeat' (first
         |(with_reducible first|refine nx ?_|refine t_seq fun K=>?_|refine t_br (fun hc=>?_) fun hc=>?_|refine t_bx ?_|apply And.intro|intro vr)|exact kpd
         |((with_reducible first|refine ny ?_|refine t_kLF ?_ ?_|refine t_drawE (id:=15) (fun _=>true) [(0,1),(1,1),(2,1),(3,1),(4,1),(5,0),(6,0),(7,1),(8,1),(9,1),(10,1),(11,1)] (by kernel_rfl) fun K=>?_|refine t_dwh (h:=fun K KL=>?_));intros;simp only [go_sem,kp33,geff,g3,hs,h6',h7',hap,stpV,Int.toNat_natCast,stps_length]))
        all_goals try exact nd
        refine ⟨⟨i+1,some ([.box 78 [.lit (.string s.op),.lit (.int .i64 s.num),.sl false 1 (ints .i64 s.args)]],0),vs++[⟨#[98,111,111,108]⟩],by omega,nofun,?_,by rw [List.length_append,hn];simp;omega,hF⟩,by show c.length - (i+1)<c.length - i;omega,?_⟩
        ·intro p hp m
         cases hp;rfl
        ·simp only [tvS,tvO,updL_nil,updL_cons,delF_top,delF_upd,Nat.reduceEqDiff,reduceIte,List.cons_append,List.nil_append,List.length_cons,List.length_nil]
         refine Le.frameS (by first|rfl|(simp only [go_sem];try rfl)) ?_
         repeat' (first|exact leF_top _|exact (fun _=>LeR.refl _)|(with_reducible refine leF_sl ?_ ?_)|(refine leF_upd ?_ ?_))
         all_goals (first|exact LeR.top _|exact LeR.refl _|(refine LeR.of_eq ?_;(try simp only [go_sem]);try rfl)|((try simp only [go_sem]);try rfl))
       |false=>
        have h5:isNum s=false:=by unfold isNum;rw [h6,h7];rfl
        rw [show stepT s vs=El.resS s.op (pickB vs s.args) by unfold stepT;rw [if_neg (by rw [h6];decide),if_neg (by rw [h7];decide)]] at hF
        have h6':eqS s.op ⟨#[99,111,110,115,116]⟩=false:=h6
        have h7':eqS s.op ⟨#[116,114,117,116,104]⟩=false:=h7
        have hag':∀ a∈s.args,0≤a∧a<(vs.length:Int):=fun a ha=>by have:=hag h5 a ha;omega
        have hpl:=pickB_len (vs:=vs) (ats:=s.args)
        cases hA:El.resS s.op (pickB vs s.args) with
        |none=>
         rw [hA] at hF
         simp only at hF
         rw [←hF] at hR
         repeat' (first
          |(with_reducible first|refine nx ?_|refine t_seq fun K=>?_|refine t_br (fun hc=>?_) fun hc=>?_|refine t_bx ?_|apply And.intro|intro vr)|exact kpd
          |((with_reducible first|refine ny ?_|refine t_kLF ?_ ?_|refine t_drawE (id:=15) (fun _=>true) [(0,1),(1,1),(2,1),(3,1),(4,1),(5,0),(6,0),(7,1),(8,1),(9,1),(10,1),(11,1)] (by kernel_rfl) fun K=>?_|refine t_dwh (h:=fun K KL=>?_));intros;simp only [go_sem,kp33,geff,g3,hs,h6',h7',hap,hA,rsV_none,stpV,Int.toNat_natCast,stps_length,Bool.not_false]))
         all_goals try exact nd
         all_goals try exact (hag' _ (by assumption)).1
         all_goals try exact (hag' _ (by assumption)).2
         all_goals (refine nl ?_;simp only [go_sem])
         exact typ_of hR.symm
        |some n=>
         rw [hA] at hF
         simp only at hF
         repeat' (first
          |(with_reducible first|refine nx ?_|refine t_seq fun K=>?_|refine t_br (fun hc=>?_) fun hc=>?_|refine t_bx ?_|apply And.intro|intro vr)|exact kpd
          |((with_reducible first|refine ny ?_|refine t_kLF ?_ ?_|refine t_drawE (id:=15) (fun _=>true) [(0,1),(1,1),(2,1),(3,1),(4,1),(5,0),(6,0),(7,1),(8,1),(9,1),(10,1),(11,1)] (by kernel_rfl) fun K=>?_|refine t_dwh (h:=fun K KL=>?_));intros;simp only [go_sem,kp33,geff,g3,hs,h6',h7',hap,hA,rsV_some,stpV,Int.toNat_natCast,stps_length,Bool.not_true]))
         all_goals try exact nd
         all_goals try exact (hag' _ (by assumption)).1
         all_goals try exact (hag' _ (by assumption)).2
         refine ⟨⟨i+1,some ([.box 78 [.lit (.string s.op),.lit (.int .i64 s.num),.sl false 1 (ints .i64 s.args)],.arr 9 1 (strs (pickB vs s.args)) vr false],0),vs++[n],by omega,nofun,?_,by rw [List.length_append,hn];simp;omega,hF⟩,by show c.length - (i+1)<c.length - i;omega,?_⟩
         ·intro p hp m
          cases hp;rfl
         ·simp only [tvS,tvO,updL_nil,updL_cons,delF_top,delF_upd,Nat.reduceEqDiff,reduceIte,List.cons_append,List.nil_append,List.length_cons,List.length_nil]
          refine Le.frameS (by first|rfl|(simp only [go_sem];try rfl)) ?_
          repeat' (first|exact leF_top _|exact (fun _=>LeR.refl _)|(with_reducible refine leF_sl ?_ ?_)|(refine leF_upd ?_ ?_))
          all_goals (first|exact LeR.top _|exact LeR.refl _|(refine LeR.of_eq ?_;(try simp only [go_sem]);try rfl)|((try simp only [go_sem]);try rfl))
     ·have g3:decide ((i:Int)<(c.length:Int))=false:=decide_eq_false (by omega)
      rw [List.drop_eq_nil_of_le hc,typG] at hF
      rw [←hF] at hR
      simp only at hR
      have hv0:1≤vs.length:=by
        have: ¬ ((av.length:Int)+(c.length:Int)=0):=fun e=>by
          unfold badN at hb;simp [e] at hb
        omega
      have e1:((vs.length:Int) - 1).toNat=vs.length - 1:=by omega
      repeat' (first
       |(with_reducible first|refine nx ?_|refine t_seq fun K=>?_|refine t_br (fun hc=>?_) fun hc=>?_|refine t_bx ?_|apply And.intro|intro vr)|exact kpd
       |((with_reducible first|refine ny ?_|refine t_kLF ?_ ?_|refine t_drawE (id:=15) (fun _=>true) [(0,1),(1,1),(2,1),(3,1),(4,1),(5,0),(6,0),(7,1),(8,1),(9,1),(10,1),(11,1)] (by kernel_rfl) fun K=>?_|refine t_dwh (h:=fun K KL=>?_));intros;simp only [go_sem,kp33,geff,g3,e1,Int.toNat_natCast,stps_length,yes]))
      all_goals try exact nd
      all_goals (refine nl ?_;simp only [go_sem])
      exact typ_of (by rw [←hR];rfl)
    |some p=>
     obtain ⟨pre,v⟩:=p
     have hpre:=hl _ rfl
     simp only at hpre
     simp only [tvS,tvO]
     rcases Nat.lt_or_ge i c.length with hc|hc
     ·rw [drop_getD nilStp hc,typG] at hF
      have g3:decide ((i:Int)<(c.length:Int))=true:=decide_eq_true (by omega)
      have hag:=allV_args hall i hc
      have hx:=hc0.2 _ (getD_mem nilStp hc)
      generalize hs:c.getD i nilStp=s at hF hx hag
      cases h6:eqS s.op sConst with
      |true=>
       rw [show stepT s vs=some ⟨#[105,110,116]⟩ by unfold stepT;rw [if_pos h6];rfl] at hF
       simp only at hF
       have h6':eqS s.op ⟨#[99,111,110,115,116]⟩=true:=h6
       repeat' (first
        |(with_reducible first|refine nx ?_|refine t_seq fun K=>?_|refine t_br (fun hc=>?_) fun hc=>?_|refine t_bx ?_|apply And.intro|intro vr)|exact kpd
        |((with_reducible first|refine ny ?_|refine t_kLF ?_ ?_|refine t_drawE (id:=15) (fun _=>true) [(0,1),(1,1),(2,1),(3,1),(4,1),(5,0),(6,0),(7,1),(8,1),(9,1),(10,1),(11,1)] (by kernel_rfl) fun K=>?_|refine t_dwh (h:=fun K KL=>?_));intros;simp only [go_sem,kp33,geff,g3,hs,h6',hap,stpV,Int.toNat_natCast,stps_length]))
       all_goals try exact nd
       refine ⟨⟨i+1,some (pre,v+1),vs++[⟨#[105,110,116]⟩],by omega,nofun,?_,by rw [List.length_append,hn];simp;omega,hF⟩,by show c.length - (i+1)<c.length - i;omega,?_⟩
       ·intro p hp m
        cases hp;exact hpre m
       ·simp only [tvS,tvO,updL_nil,updL_cons,delF_top,delF_upd,Nat.reduceEqDiff,reduceIte]
        refine le_backD (σ:=pre++[.arr 9 1 (strs (vs++[⟨#[105,110,116]⟩])) (v+1) false,.box 78 [.lit (.string s.op),.lit (.int .i64 s.num),.sl false 1 (ints .i64 s.args)]]) (l:=pre++[.arr 9 1 (strs (vs++[⟨#[105,110,116]⟩])) (v+1) false]) (ob:= .box 78 [.lit (.string s.op),.lit (.int .i64 s.num),.sl false 1 (ints .i64 s.args)]) (by simp) (Nat.zero_le _) (by rw [List.all_append,hpre];rfl) ?_ ?_
        ·repeat' (first|exact low_top|(refine low_upd ?_ ?_))
         all_goals (first|rfl|(simp only [low_arr,decide_eq_true_eq];simp))
        repeat' (first|exact leF_top _|exact (fun _=>LeR.refl _)|(with_reducible refine leF_sl ?_ ?_)|(refine leF_upd ?_ ?_))
        all_goals (first|exact LeR.top _|exact LeR.refl _|(refine LeR.of_eq ?_;(try simp only [go_sem]);try rfl)|((try simp only [go_sem]);try rfl))
      |false=>
       cases h7:eqS s.op sTruth with
       |true=>
        rw [show stepT s vs=some ⟨#[98,111,111,108]⟩ by unfold stepT;rw [if_neg (by rw [h6];decide),if_pos h7];rfl] at hF
        simp only at hF
        have h6':eqS s.op ⟨#[99,111,110,115,116]⟩=false:=h6
        have h7':eqS s.op ⟨#[116,114,117,116,104]⟩=true:=h7
        repeat' (first
         |(with_reducible first|refine nx ?_|refine t_seq fun K=>?_|refine t_br (fun hc=>?_) fun hc=>?_|refine t_bx ?_|apply And.intro|intro vr)|exact kpd
         |((with_reducible first|refine ny ?_|refine t_kLF ?_ ?_|refine t_drawE (id:=15) (fun _=>true) [(0,1),(1,1),(2,1),(3,1),(4,1),(5,0),(6,0),(7,1),(8,1),(9,1),(10,1),(11,1)] (by kernel_rfl) fun K=>?_|refine t_dwh (h:=fun K KL=>?_));intros;simp only [go_sem,kp33,geff,g3,hs,h6',h7',hap,stpV,Int.toNat_natCast,stps_length]))
        all_goals try exact nd
        refine ⟨⟨i+1,some (pre,v+1),vs++[⟨#[98,111,111,108]⟩],by omega,nofun,?_,by rw [List.length_append,hn];simp;omega,hF⟩,by show c.length - (i+1)<c.length - i;omega,?_⟩
        ·intro p hp m
         cases hp;exact hpre m
        ·simp only [tvS,tvO,updL_nil,updL_cons,delF_top,delF_upd,Nat.reduceEqDiff,reduceIte]
         refine le_backD (σ:=pre++[.arr 9 1 (strs (vs++[⟨#[98,111,111,108]⟩])) (v+1) false,.box 78 [.lit (.string s.op),.lit (.int .i64 s.num),.sl false 1 (ints .i64 s.args)]]) (l:=pre++[.arr 9 1 (strs (vs++[⟨#[98,111,111,108]⟩])) (v+1) false]) (ob:= .box 78 [.lit (.string s.op),.lit (.int .i64 s.num),.sl false 1 (ints .i64 s.args)]) (by simp) (Nat.zero_le _) (by rw [List.all_append,hpre];rfl) ?_ ?_
         ·repeat' (first|exact low_top|(refine low_upd ?_ ?_))
          all_goals (first|rfl|(simp only [low_arr,decide_eq_true_eq];simp))
         repeat' (first|exact leF_top _|exact (fun _=>LeR.refl _)|(with_reducible refine leF_sl ?_ ?_)|(refine leF_upd ?_ ?_))
         all_goals (first|exact LeR.top _|exact LeR.refl _|(refine LeR.of_eq ?_;(try simp only [go_sem]);try rfl)|((try simp only [go_sem]);try rfl))
       |false=>
        have h5:isNum s=false:=by unfold isNum;rw [h6,h7];rfl
        rw [show stepT s vs=El.resS s.op (pickB vs s.args) by unfold stepT;rw [if_neg (by rw [h6];decide),if_neg (by rw [h7];decide)]] at hF
        have h6':eqS s.op ⟨#[99,111,110,115,116]⟩=false:=h6
        have h7':eqS s.op ⟨#[116,114,117,116,104]⟩=false:=h7
        have hag':∀ a∈s.args,0≤a∧a<(vs.length:Int):=fun a ha=>by have:=hag h5 a ha;omega
        have hpl:=pickB_len (vs:=vs) (ats:=s.args)
        cases hA:El.resS s.op (pickB vs s.args) with
        |none=>
         rw [hA] at hF
         simp only at hF
         rw [←hF] at hR
         repeat' (first
          |(with_reducible first|refine nx ?_|refine t_seq fun K=>?_|refine t_br (fun hc=>?_) fun hc=>?_|refine t_bx ?_|apply And.intro|intro vr)|exact kpd
          |((with_reducible first|refine ny ?_|refine t_kLF ?_ ?_|refine t_drawE (id:=15) (fun _=>true) [(0,1),(1,1),(2,1),(3,1),(4,1),(5,0),(6,0),(7,1),(8,1),(9,1),(10,1),(11,1)] (by kernel_rfl) fun K=>?_|refine t_dwh (h:=fun K KL=>?_));intros;simp only [go_sem,kp33,geff,g3,hs,h6',h7',hap,hA,rsV_none,stpV,Int.toNat_natCast,stps_length,Bool.not_false]))
         all_goals try exact nd
         all_goals try exact (hag' _ (by assumption)).1
         all_goals try exact (hag' _ (by assumption)).2
         all_goals (refine nl ?_;simp only [go_sem])
         exact typ_of hR.symm
        |some n=>
         rw [hA] at hF
         simp only at hF
         repeat' (first
          |(with_reducible first|refine nx ?_|refine t_seq fun K=>?_|refine t_br (fun hc=>?_) fun hc=>?_|refine t_bx ?_|apply And.intro|intro vr)|exact kpd
          |((with_reducible first|refine ny ?_|refine t_kLF ?_ ?_|refine t_drawE (id:=15) (fun _=>true) [(0,1),(1,1),(2,1),(3,1),(4,1),(5,0),(6,0),(7,1),(8,1),(9,1),(10,1),(11,1)] (by kernel_rfl) fun K=>?_|refine t_dwh (h:=fun K KL=>?_));intros;simp only [go_sem,kp33,geff,g3,hs,h6',h7',hap,hA,rsV_some,stpV,Int.toNat_natCast,stps_length,Bool.not_true]))
         all_goals try exact nd
         all_goals try exact (hag' _ (by assumption)).1
         all_goals try exact (hag' _ (by assumption)).2
         refine ⟨⟨i+1,some (pre,v+1),vs++[n],by omega,nofun,?_,by rw [List.length_append,hn];simp;omega,hF⟩,by show c.length - (i+1)<c.length - i;omega,?_⟩
         ·intro p hp m
          cases hp;exact hpre m
         ·simp only [tvS,tvO,updL_nil,updL_cons,delF_top,delF_upd,Nat.reduceEqDiff,reduceIte]
          refine le_two (σ:=pre++[.arr 9 1 (strs (vs++[n])) (v+1) false,.box 78 [.lit (.string s.op),.lit (.int .i64 s.num),.sl false 1 (ints .i64 s.args)],.arr 9 1 (strs (pickB vs s.args)) vr false]) (l:=pre++[.arr 9 1 (strs (vs++[n])) (v+1) false]) (a:= .box 78 [.lit (.string s.op),.lit (.int .i64 s.num),.sl false 1 (ints .i64 s.args)]) (b:= .arr 9 1 (strs (pickB vs s.args)) vr false) (by simp) (Nat.zero_le _) (fun m=>by rw [List.all_append,hpre];rfl) (fun m=>rfl) ?_ ?_
          ·intro m hm
           repeat' (first|exact low_top|(refine low_upd ?_ ?_))
           all_goals (first|rfl|(simp only [low_arr,decide_eq_true_eq];simp at hm;omega))
          repeat' (first|exact leF_top _|exact (fun _=>LeR.refl _)|(with_reducible refine leF_sl ?_ ?_)|(refine leF_upd ?_ ?_))
          all_goals (first|exact LeR.top _|exact LeR.refl _|(refine LeR.of_eq ?_;(try simp only [go_sem]);try rfl)|((try simp only [go_sem]);try rfl))
     ·have g3:decide ((i:Int)<(c.length:Int))=false:=decide_eq_false (by omega)
      rw [List.drop_eq_nil_of_le hc,typG] at hF
      rw [←hF] at hR
      simp only at hR
      have hv0:1≤vs.length:=by
        have: ¬ ((av.length:Int)+(c.length:Int)=0):=fun e=>by
          unfold badN at hb;simp [e] at hb
        omega
      have e1:((vs.length:Int) - 1).toNat=vs.length - 1:=by omega
      repeat' (first
       |(with_reducible first|refine nx ?_|refine t_seq fun K=>?_|refine t_br (fun hc=>?_) fun hc=>?_|refine t_bx ?_|apply And.intro|intro vr)|exact kpd
       |((with_reducible first|refine ny ?_|refine t_kLF ?_ ?_|refine t_drawE (id:=15) (fun _=>true) [(0,1),(1,1),(2,1),(3,1),(4,1),(5,0),(6,0),(7,1),(8,1),(9,1),(10,1),(11,1)] (by kernel_rfl) fun K=>?_|refine t_dwh (h:=fun K KL=>?_));intros;simp only [go_sem,kp33,geff,g3,e1,Int.toNat_natCast,stps_length,yes]))
      all_goals try exact nd
      all_goals (refine nl ?_;simp only [go_sem])
      exact typ_of (by rw [←hR];rfl)
noncomputable def con33:PCon Tryz.prog where
  f:=33
  c:=fun
   |[xc,xav]=>match stpsOf xc,slS xav with|some c,some av=>some (okC c∧av.length≤1000000,typV (typS c av))|_,_=>none
   |_=>none
  ok:=by
   intro args p r hc hp
   split at hc
   ·split at hc
    ·rename_i hc hav
     cases hc
     exact PC.weak ((fun hp:_∧_=>typ_pc hp.1 hp.2) hp) ⟨stpsOf_le hc,slS_le hav,trivial⟩
    ·cases hc
   ·cases hc
  fk:=fk33
theorem con33_f:con33.f=33:=rfl
theorem con33_c {xc:AV} {xav:AV}:con33.c [xc,xav]=match stpsOf xc,slS xav with|some c,some av=>some (okC c∧av.length≤1000000,typV (typS c av))|_,_=>none:=rfl
attribute [go_sem] con33_f con33_c
end Go.Proofs.YtcpjahmajkhchaaGreat

namespace Go.Proofs.YtcpjahmajkhchaaGreat
open Go Go.Fw
set_option maxRecDepth 20000
end Go.Proofs.YtcpjahmajkhchaaGreat

namespace Go.Proofs.YtcpjahmajkhchaaGreat
open Go Go.Fw
set_option maxRecDepth 20000
def iota (n:Nat):List Int:=(List.range n).map fun k:Nat=>(k:Int)
theorem iota_succ (n:Nat):iota (n+1)=iota n++[(n:Int)]:=by simp [iota,List.range_succ]
theorem iota_len (n:Nat):(iota n).length=n:=by simp [iota]
theorem iota_zero:iota 0=[]:=rfl
def primS (op:ByteArray):List Stp×Bool:=match El.typesS op with
  |none=>([],false)
  |some r=>([⟨op,0,iota r.ps.length⟩],true)
def prV (p:List Stp×Bool):AV:= .tup [.sl false 3 (stps p.1),.lit (.bool p.2)]
theorem types_len {op:ByteArray} {r:El.Rw} (h:El.typesS op=some r):r.ps.length≤3:=El.rows_ps r (List.mem_of_find?_eq_some h)
theorem types_pos {op:ByteArray} {r:El.Rw} (h:El.typesS op=some r):1≤r.ps.length:=
  (show ∀ r∈El.rowsL,1≤r.ps.length by decide) r (List.mem_of_find?_eq_some h)
theorem le_frz {n0:Nat} {f:Nat→AV} {σ:List AObj} {o e sz ver:Nat} {xs:List AV} (ho:σ[o]? =some (.arr e sz xs ver false)):Le n0 ⟨f,σ⟩ ⟨f,σ.set o (.arr e sz xs ver true)⟩:=by
  intro cx G w N a _ hr hf
  obtain ⟨G',h1,h2⟩:=Rel.freezeO hr o
  have e1:Fw.freezeO σ o=σ.set o (.arr e sz xs ver true):=by unfold Fw.freezeO;rw [ho]
  rw [e1] at h2
  exact ⟨G',h2,hf.size,hf.defers,fun j=>(hf.rel j).mono h1⟩
theorem slS_two {b:Bool} {x y:ByteArray}:slS (.sl b 1 [.lit (.string x),.lit (.string y)])=some [x,y]:=rfl
theorem slK_two {b:Bool} {x y:Int}:slK .i64 (.sl b 1 [.lit (.int .i64 x),.lit (.int .i64 y)])=some [x,y]:=rfl
theorem slK_one {b:Bool} {x:Int}:slK .i64 (.sl b 1 [.lit (.int .i64 x)])=some [x]:=rfl
theorem stp_one {p:AV} {op:ByteArray} {n:Int} {l:List Int} (h:slK .i64 p=some l):LeA (.tup [.sl true 3 [.agg [.lit (.string op),.lit (.int .i64 n),p]],.lit (.bool true)]) (prV ([⟨op,n,l⟩],true)):=
  LeA.tup ⟨stpsOf_le (by simp [stpsOf,slA,stpL,stpOf,h]),LeA.refl _,trivial⟩
attribute [go_sem] slS_two slK_two slK_one
noncomputable def A9:Env:=envJ (P:=Tryz.prog) jkR zer (fun _=>false) (fun _=>false) [El.con65] []
theorem A9_ok:EnvOk Tryz.prog A9:=envJOk zer_ok
set_option maxHeartbeats 4000000 in
theorem prim_pc {op:ByteArray}:PC Tryz.prog 34 [.lit (.string op)] (prV (primS op)):=by
  generalize hR:primS op=R
  unfold primS at hR
  cases hT:El.typesS op with
  |none=>
   rw [hT] at hR
   simp only at hR
   refine pcR A9_ok (kp34) Tryz.func34 [.tmp 2,.tmp 3] (h:=fun KF=>?_)
   unfold A9
   repeat' (first
    |(with_reducible first|refine nx ?_|refine t_seq fun K=>?_|refine t_br (fun hc=>?_) fun hc=>?_|refine t_bx ?_|apply And.intro|intro vr)
    |((with_reducible first|refine ny ?_|refine t_dwh (h:=fun K KL=>?_));intros;simp only [go_sem,kp34,geff,hT,Bool.not_false]))
   all_goals try exact nd
   all_goals (refine nl ?_;simp only [go_sem])
   rw [←hR]
   exact LeA.tup ⟨LeA.nil _ _,LeA.refl _,trivial⟩
  |some r=>
   rw [hT] at hR
   simp only at hR
   have hr:=types_len hT
   have hr1:=types_pos hT
   have z0:decide (0=r.ps.length)=false:=decide_eq_false (by omega)
   refine pcR A9_ok (kp34) Tryz.func34 [.tmp 2,.tmp 3] (h:=fun KF=>?_)
   unfold A9
   repeat' (first
    |(with_reducible first|refine nx ?_|refine t_seq fun K=>?_|refine t_br (fun hc=>?_) fun hc=>?_|refine t_bx ?_|apply And.intro|intro vr)
    |((with_reducible first|refine ny ?_|refine t_dwh (h:=fun K KL=>?_));intros;simp only [go_sem,kp34,geff,hT,Bool.not_true,strs_length]))
   all_goals try exact nd
   refine t_loopF (ι:={p:Nat×Nat // p.1≤r.ps.length}) (fun i=>[(21,.lit (.int .i64 i.1.1))]) (fun i=>[.box 78 [.lit (.string op),.lit (.int .i64 0),.arr 1 i.1.2],.arr 3 1 (ints .i64 (iota i.1.1)) i.1.2 (decide (i.1.1=r.ps.length))]) (fun i=>r.ps.length - i.1.1) ⟨(0,0),by simp⟩ ?_ ?_
   ·refine (le_nilB 0 2 3 1 (cs:=[.lit (.string op),.lit (.int .i64 0),.sl true 1 []]) rfl (by simp) nil_sl).trans ?_
    simp only [updL_nil,updL_cons,delF_top,delF_upd,Nat.reduceEqDiff,reduceIte]
    simp only [iota_zero,ints_nil,z0]
    refine Le.frameS (by first|rfl|(simp only [go_sem];try rfl)) ?_
    repeat' (first|exact leF_top _|exact (fun _=>LeR.refl _)|(with_reducible refine leF_sl ?_ ?_)|(refine leF_upd ?_ ?_))
    all_goals (first|exact LeR.top _|exact LeR.refl _|(refine LeR.of_eq ?_;(try simp only [go_sem]);try rfl)|((try simp only [go_sem]);try rfl))
   rintro ⟨⟨i,v⟩,hi⟩ K0
   simp only at hi
   have hil:=iota_len i
   rcases Nat.lt_or_ge i r.ps.length with hc|hc
   ·have g3:decide ((i:Int)<(r.ps.length:Int))=true:=decide_eq_true (by omega)
    have z1:decide (i=r.ps.length)=false:=decide_eq_false (by omega)
    repeat' (first
     |(with_reducible first|refine nx ?_|refine t_seq fun K=>?_|refine t_br (fun hc=>?_) fun hc=>?_|refine t_bx ?_|apply And.intro|intro vr)
     |((with_reducible first|refine ny ?_|refine t_dwh (h:=fun K KL=>?_));intros;simp only [go_sem,kp34,geff,g3,z1,Int.toNat_natCast,←iota_succ]))
    all_goals try exact nd
    refine ⟨⟨(i+1,v+1),by omega⟩,by show r.ps.length - (i+1)<r.ps.length - i;omega,?_⟩
    by_cases hz:i+1=r.ps.length
    ·refine (le_frz (o:=1) rfl).trans ?_
     have z2:decide (i+1=r.ps.length)=true:=decide_eq_true hz
     simp only [updL_nil,updL_cons,delF_top,delF_upd,Nat.reduceEqDiff,reduceIte,z2,List.set_cons_zero,List.set_cons_succ]
     refine Le.frameS (by first|rfl|(simp only [go_sem];try rfl)) ?_
     repeat' (first|exact leF_top _|exact (fun _=>LeR.refl _)|(with_reducible refine leF_sl ?_ ?_)|(refine leF_upd ?_ ?_))
     all_goals (first|exact LeR.top _|exact LeR.refl _|(refine LeR.of_eq ?_;(try simp only [go_sem]);try rfl)|((try simp only [go_sem]);try rfl))
    ·have z2:decide (i+1=r.ps.length)=false:=decide_eq_false hz
     simp only [updL_nil,updL_cons,delF_top,delF_upd,Nat.reduceEqDiff,reduceIte,z2]
     refine Le.frameS (by first|rfl|(simp only [go_sem];try rfl)) ?_
     repeat' (first|exact leF_top _|exact (fun _=>LeR.refl _)|(with_reducible refine leF_sl ?_ ?_)|(refine leF_upd ?_ ?_))
     all_goals (first|exact LeR.top _|exact LeR.refl _|(refine LeR.of_eq ?_;(try simp only [go_sem]);try rfl)|((try simp only [go_sem]);try rfl))
   ·have g3:decide ((i:Int)<(r.ps.length:Int))=false:=decide_eq_false (by omega)
    have e:i=r.ps.length:=by omega
    have z1:decide (i=r.ps.length)=true:=decide_eq_true e
    repeat' (first
     |(with_reducible first|refine nx ?_|refine t_seq fun K=>?_|refine t_br (fun hc=>?_) fun hc=>?_|refine t_bx ?_|apply And.intro|intro vr)
     |((with_reducible first|refine ny ?_|refine t_dwh (h:=fun K KL=>?_));intros;simp only [go_sem,kp34,geff,g3,z1,Int.toNat_natCast]))
    all_goals try exact nd
    all_goals (refine nl ?_;simp only [go_sem])
    rw [←hR,←e]
    exact stp_one slK_sl
noncomputable def con34:PCon Tryz.prog where
  f:=34
  c:=fun
   |[.lit (.string op)]=>some (True,prV (primS op))
   |_=>none
  ok:=by
   intro args p r hc hp
   split at hc
   ·cases hc;exact prim_pc
   ·cases hc
  fk:=fk34
theorem con34_f:con34.f=34:=rfl
theorem con34_c {op:ByteArray}:con34.c [.lit (.string op)]=some (True,prV (primS op)):=rfl
def fitsS (c:List Stp) (init:ByteArray) (x:Arr) (b:Bool):Int:=
  if (!b||(x.d.length:Int) !=1)=true then 13 else if (!(typS c [init,x.e]).2|| !eqS (typS c [init,x.e]).1 init)=true then 12 else 0
noncomputable def A10:Env:=envJ (P:=Tryz.prog) jkR zer (fun _=>false) (fun _=>false) [con33] []
theorem A10_ok:EnvOk Tryz.prog A10:=envJOk zer_ok
attribute [go_sem] typV
set_option maxHeartbeats 4000000 in
theorem fits_pc {c:List Stp} {init:ByteArray} {x:Arr} {b:Bool} (hc:okC c):PC Tryz.prog 46 [.sl false 3 (stps c),.lit (.string init),arrV x,.lit (.bool b)] (.lit (.int .i64 (fitsS c init x b))):=by
  generalize hR:fitsS c init x b=R
  unfold fitsS at hR
  simp only [arrV]
  cases h1:(!b||(x.d.length:Int) !=1) with
  |true=>
   rw [if_pos h1] at hR
   refine pcR A10_ok (kp46) Tryz.func46 [.tmp 8] (h:=fun KF=>?_)
   unfold A10
   repeat' (first
    |(with_reducible first|refine nx ?_|refine t_seq fun K=>?_|refine t_br (fun hc=>?_) fun hc=>?_|refine t_bx ?_|apply And.intro|intro vr)
    |((with_reducible first|refine ny ?_|refine t_dwh (h:=fun K KL=>?_));intros;simp only [go_sem,kp46,geff,h1,stpsOf_sl]))
   all_goals try exact nd
   all_goals (refine nl ?_;simp only [go_sem])
   exact LeA.of_eq (by rw [←hR])
  |false=>
   rw [if_neg (by rw [h1];decide)] at hR
   cases h2:(!(typS c [init,x.e]).2|| !eqS (typS c [init,x.e]).1 init) with
   |true=>
    rw [if_pos h2] at hR
    refine pcR A10_ok (kp46) Tryz.func46 [.tmp 8] (h:=fun KF=>?_)
    unfold A10
    repeat' (first
     |(with_reducible first|refine nx ?_|refine t_seq fun K=>?_|refine t_br (fun hc=>?_) fun hc=>?_|refine t_bx ?_|apply And.intro|intro vr)
     |((with_reducible first|refine ny ?_|refine t_dwh (h:=fun K KL=>?_));intros;simp only [go_sem,kp46,geff,h1,h2,stpsOf_sl]))
    all_goals try exact nd
    all_goals (refine nl ?_;simp only [go_sem])
    exact LeA.of_eq (by rw [←hR])
   |false=>
    rw [if_neg (by rw [h2];decide)] at hR
    refine pcR A10_ok (kp46) Tryz.func46 [.tmp 8] (h:=fun KF=>?_)
    unfold A10
    repeat' (first
     |(with_reducible first|refine nx ?_|refine t_seq fun K=>?_|refine t_br (fun hc=>?_) fun hc=>?_|refine t_bx ?_|apply And.intro|intro vr)
     |((with_reducible first|refine ny ?_|refine t_dwh (h:=fun K KL=>?_));intros;simp only [go_sem,kp46,geff,h1,h2,stpsOf_sl]))
    all_goals try exact nd
    all_goals (refine nl ?_;simp only [go_sem])
    exact LeA.of_eq (by rw [←hR])
noncomputable def con46:PCon Tryz.prog where
  f:=46
  c:=fun
   |[xc,.lit (.string init),xx,.lit (.bool b)]=>match stpsOf xc,arrOf xx with|some c,some x=>some (okC c,.lit (.int .i64 (fitsS c init x b)))|_,_=>none
   |_=>none
  ok:=by
   intro args p r hc hp
   split at hc
   ·split at hc
    ·rename_i hc hx
     cases hc
     exact PC.weak (fits_pc hp) ⟨stpsOf_le hc,LeA.refl _,arrOf_le hx,LeA.refl _,trivial⟩
    ·cases hc
   ·cases hc
  fk:=fk46
theorem con46_f:con46.f=46:=rfl
theorem con46_c {xc:AV} {init:ByteArray} {xx:AV} {b:Bool}:con46.c [xc,.lit (.string init),xx,.lit (.bool b)]=match stpsOf xc,arrOf xx with|some c,some x=>some (okC c,.lit (.int .i64 (fitsS c init x b)))|_,_=>none:=rfl
attribute [go_sem] con34_f con34_c con46_f con46_c
end Go.Proofs.YtcpjahmajkhchaaGreat

namespace Go.Proofs.YtcpjahmajkhchaaGreat
open Go Go.Fw
set_option maxRecDepth 20000
def foldG (c:List Stp):List Int→Int→Int
  |[],n=>n
  |k::t,n=>foldG c t (runS c [n,k]).1
def foldS (c:List Stp) (a x:Arr):Arr×Int:=
  if (!(ofE a==0)|| !(ofE x==0)|| !validC c 2)=true then (nilA,1)
  else if fitsS c a.e x ((a.d.length:Int)==0)≠0 then (nilA,fitsS c a.e x ((a.d.length:Int)==0)) else ofS ⟨a.e,[],[foldG c x.x (a.x.getD 0 0)]⟩
theorem fits_zero {c:List Stp} {e:ByteArray} {x:Arr} {b:Bool} (h:fitsS c e x b=0):b=true∧x.d.length=1∧(typS c [e,x.e]).2=true∧eqS (typS c [e,x.e]).1 e=true:=by
  unfold fitsS at h
  split at h
  ·cases h
  ·rename_i h1
   split at h
   ·cases h
   ·rename_i h2
    simp only [Bool.or_eq_true,not_or,Bool.not_eq_true',Bool.not_eq_false,bne_iff_ne,ne_eq,Decidable.not_not] at h1 h2
    exact ⟨h1.1,by omega,h2.1,h2.2⟩
theorem one_datum {a:Arr} (h0:ofE a=0) (hd:((a.d.length:Int)==0)=true):a.x.length=1:=by
  have:a.d=[]:=List.eq_nil_of_length_eq_zero (by simpa using hd)
  have hs:=(ofE_inv h0).2.1
  rw [this] at hs
  have:sizeS []=(1,0):=by decide
  rw [this] at hs
  have:=congrArg Prod.fst hs
  simp only at this;omega
attribute [go_sem] con45_f con45_c con47_f con47_c slK_nil runV aeV_def
noncomputable def A11:Env:=envJ (P:=Tryz.prog) jkR zer (fun _=>false) (fun _=>false) [con45,con13,con46,con11,con47] []
theorem A11_ok:EnvOk Tryz.prog A11:=envJOk zer_ok
set_option maxHeartbeats 4000000 in
theorem fold_pc {c:List Stp} {a x:Arr} (hc0:okC c) (ha:okA a) (hx:okA x):PC Tryz.prog 16 [.sl false 3 (stps c),arrV a,arrV x] (aeV (foldS c a x)):=by
  generalize hR:foldS c a x=R
  unfold foldS at hR
  obtain ⟨a1,a2⟩:=ha
  obtain ⟨x1,x2⟩:=hx
  simp only [arrV]
  cases h1:(!(ofE a==0)|| !(ofE x==0)|| !validC c 2) with
  |true=>
   rw [if_pos h1] at hR
   have h1':(!(ofE ⟨a.e,a.d,a.x⟩==0)|| !(ofE ⟨x.e,x.d,x.x⟩==0)|| !validC c 2)=true:=h1
   refine pcR A11_ok (kp16) Tryz.func16 [.cell 6 31,.tmp 7] (h:=fun KF=>?_)
   unfold A11
   repeat' (first
    |(with_reducible first|refine nx ?_|refine t_seq fun K=>?_|refine t_br (fun hc=>?_) fun hc=>?_|refine t_bx ?_|apply And.intro|intro vr)
    |((with_reducible first|refine ny ?_|refine t_dwh (h:=fun K KL=>?_));intros;simp only [go_sem,kp16,geff,h1',stpsOf_sl]))
   all_goals try exact nd
   all_goals (refine nl ?_;simp only [go_sem])
   exact ae_of rfl rfl hR.symm
  |false=>
   rw [if_neg (by rw [h1];decide)] at hR
   have h1':(!(ofE ⟨a.e,a.d,a.x⟩==0)|| !(ofE ⟨x.e,x.d,x.x⟩==0)|| !validC c 2)=false:=h1
   have hq:(ofE a=0∧ofE x=0)∧validC c 2=true:=by
     simp only [Bool.or_eq_false_iff,Bool.not_eq_false',beq_iff_eq] at h1;exact h1
   generalize hE:fitsS c a.e x ((a.d.length:Int)==0)=e at hR
   have hE':fitsS c a.e ⟨x.e,x.d,x.x⟩ ((a.d.length:Int)==0)=e:=hE
   by_cases h2:e=0
   ·subst h2
    rw [if_neg (by simp)] at hR
    obtain ⟨f1,f2,f3,f4⟩:=fits_zero hE
    have hl1:=one_datum hq.1.1 f1
    generalize hG:foldG c x.x (a.x.getD 0 0)=G at hR
    generalize hO:ofS ⟨a.e,[],[G]⟩=O at hR
    obtain ⟨oa,oe⟩:=O
    refine pcR A11_ok (kp16) Tryz.func16 [.cell 6 31,.tmp 7] (h:=fun KF=>?_)
    unfold A11
    repeat' (first
     |(with_reducible first|refine nx ?_|refine t_seq fun K=>?_|refine t_br (fun hc=>?_) fun hc=>?_|refine t_bx ?_|apply And.intro|intro vr)
     |((with_reducible first|refine ny ?_|refine t_dwh (h:=fun K KL=>?_));intros;simp only [go_sem,kp16,geff,h1',hE',stpsOf_sl]))
    all_goals try exact nd
    refine t_loopF (ι:={p:Nat×Int // p.1≤x.x.length∧foldG c (x.x.drop p.1) p.2=G}) (fun i=>[(46,.lit (.int .i64 i.1.1)),(9,.lit (.int .i64 i.1.2))]) (fun i=>[.box 31 [.lit (.string a.e),.sl false 1 (ints .i64 a.d),.sl false 1 (ints .i64 a.x)],.box 31 [.lit (.string x.e),.sl false 1 (ints .i64 x.d),.sl false 1 (ints .i64 x.x)],.box 31 [.lit (.string ByteArray.empty),.sl true 1 [],.sl true 1 []]]) (fun i=>x.x.length - i.1.1) ⟨(0,a.x.getD 0 0),by simpa using hG⟩ ?_ ?_
    ·exact lf
    rintro ⟨⟨i,n⟩,hi,hF⟩ K0
    simp only at hi hF
    rcases Nat.lt_or_ge i x.x.length with hc|hc
    ·rw [drop_getD 0 hc,foldG] at hF
     have g3:decide ((i:Int)<(x.x.length:Int))=true:=decide_eq_true (by omega)
     repeat' (first
      |(with_reducible first|refine nx ?_|refine t_seq fun K=>?_|refine t_br (fun hc=>?_) fun hc=>?_|refine t_bx ?_|apply And.intro|intro vr)
      |((with_reducible first|refine ny ?_|refine t_dwh (h:=fun K KL=>?_));intros;simp only [go_sem,kp16,geff,g3,stpsOf_sl,Int.toNat_natCast]))
     all_goals try exact nd
     exact ⟨⟨(i+1,(runS c [n,x.x.getD i 0]).1),by omega,hF⟩,wf,lf⟩
    ·have g3:decide ((i:Int)<(x.x.length:Int))=false:=decide_eq_false (by omega)
     rw [List.drop_eq_nil_of_le hc,foldG] at hF
     subst hF
     repeat' (first
      |(with_reducible first|refine nx ?_|refine t_seq fun K=>?_|refine t_br (fun hc=>?_) fun hc=>?_|refine t_bx ?_|apply And.intro|intro vr)
      |((with_reducible first|refine ny ?_|refine t_dwh (h:=fun K KL=>?_));intros;simp only [go_sem,kp16,geff,g3,hO,arrV,Int.toNat_natCast]))
     all_goals try exact nd
     all_goals (refine nl ?_;simp only [go_sem])
     exact ae_of slK_sl slK_sl hR.symm
   ·rw [if_pos h2] at hR
    have h2':(e !=0)=true:=bne_iff_ne.2 h2
    refine pcR A11_ok (kp16) Tryz.func16 [.cell 6 31,.tmp 7] (h:=fun KF=>?_)
    unfold A11
    repeat' (first
     |(with_reducible first|refine nx ?_|refine t_seq fun K=>?_|refine t_br (fun hc=>?_) fun hc=>?_|refine t_bx ?_|apply And.intro|intro vr)
     |((with_reducible first|refine ny ?_|refine t_dwh (h:=fun K KL=>?_));intros;simp only [go_sem,kp16,geff,h1',hE',h2',stpsOf_sl]))
    all_goals try exact nd
    all_goals (refine nl ?_;simp only [go_sem])
    exact ae_of rfl rfl hR.symm
noncomputable def con16:PCon Tryz.prog where
  f:=16
  c:=fun
   |[xc,xa,xx]=>match stpsOf xc,arrOf xa,arrOf xx with|some c,some a,some x=>some (okC c∧okA a∧okA x,aeV (foldS c a x))|_,_,_=>none
   |_=>none
  ok:=by
   intro args p r hc hp
   split at hc
   ·split at hc
    ·rename_i hc ha hx
     cases hc
     exact PC.weak ((fun hp:_∧_∧_=>fold_pc hp.1 hp.2.1 hp.2.2) hp) ⟨stpsOf_le hc,arrOf_le ha,arrOf_le hx,trivial⟩
    ·cases hc
   ·cases hc
  fk:=fk16
theorem con16_f:con16.f=16:=rfl
theorem con16_c {xc:AV} {xa:AV} {xx:AV}:con16.c [xc,xa,xx]=match stpsOf xc,arrOf xa,arrOf xx with|some c,some a,some x=>some (okC c∧okA a∧okA x,aeV (foldS c a x))|_,_,_=>none:=rfl
attribute [go_sem] con16_f con16_c
end Go.Proofs.YtcpjahmajkhchaaGreat
