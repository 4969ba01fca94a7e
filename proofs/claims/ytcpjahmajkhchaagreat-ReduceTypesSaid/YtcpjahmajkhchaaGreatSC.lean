import Derived.Test.YtcpjahmajkhchaaGreatSB
import Derived.RangeFuncBox
import Derived.RangeFuncLeaves
import Derived.RangeFuncCalls
import Derived.Shelf.Abstract
import Derived.OwnWalkIn
import Derived.TacticsInMore
import Derived.LoopNIn
import Derived.LoopIn
import Derived.Maps.AppendAt
import Derived.Maps.OwnIn
import Derived.Test.YtcpjahmajkhchaaGreatFwB

set_option linter.all false

namespace Go.Proofs.YtcpjahmajkhchaaGreat
open Go Go.Fw Go.RowKit Go.Shelf
attribute [local go_sem] Oper.semAt_some
def CW (n0 n:Nat) (C:Nat→Nat→Option Value) (W:World):Nat→Nat→Option Value:=fun k o=>if k<n0 then C k o else if k<n then none else W.cell? ⟨k,o,none⟩
def KpX (n0 B:Nat) (W W':World):Prop:=Below n0 W W'∧∀ v,W.cell? ⟨B,0,none⟩=some v→W'.cell? ⟨B,0,none⟩=some v
theorem rc_tup2 {C:Nat→Nat→Option Value} {x y:AV} {v:Value} (h:RC C (.tup [x,y]) v):∃ a b,v= .tuple #[a,b]∧RC C x a∧RC C y b:=by
  cases h with
  |tup _ vs hl h=>
   match vs,hl with
   |[a,b],_=>exact ⟨a,b,rfl,h 0 (by simp),h 1 (by simp)⟩
theorem rc_lit {C:Nat→Nat→Option Value} {u v:Value} (h:RC C (.lit u) v):v=u:=by cases h;rfl
theorem more_grown {w w':World} (h:More w w'):w.grownBy w' none:=⟨h.os,h.tape,h.output,h.size,fun k hk _=>h.block k hk⟩
theorem RL_two {C:Nat→Nat→Option Value} {x y:AV} {a b:Value} (h:RC C x a) (h':RC C y b):RL C [x,y] [a,b]:=⟨rfl,fun i hi=>match i,hi with
  |0,_=>h
  |1,_=>h'⟩
theorem RL_one {C:Nat→Nat→Option Value} {x:AV} {a:Value} (h:RC C x a):RL C [x] [a]:=⟨rfl,fun i hi=>match i,hi with
  |0,_=>h⟩
theorem rc_CW {n0:Nat} {C C2:Nat→Nat→Option Value} {w wr w2:World} {x:AV} {v:Value} (h:RC C2 x v) (hC:∀ k o u,C k o=some u→k<n0∧w.cell? ⟨k,o,none⟩=some u)
    (hold:∀ k,k<wr.heap.size→∀ j,C2 k j=C k j) (hin:inW C2 w2) (hn:n0≤wr.heap.size):RC (CW n0 wr.heap.size C w2) x v:=by
  refine h.mono fun k o u hu=>?_
  unfold CW
  split
  ·rename_i hk
   rw [←hold k (by omega) o];exact hu
  ·split
   ·rename_i hk hk'
    rw [hold k hk' o] at hu
    exact absurd (hC k o u hu).1 hk
   ·exact hin k o u hu
theorem rc_slice {C:Nat→Nat→Option Value} {fl:Bool} {sz:Nat} {xs:List AV} {v:Value} (h:RC C (.sl fl sz xs) v):∃ a len cap,v= .slice a len cap:=by
  cases h with
  |nil=>exact ⟨_,_,_,rfl⟩
  |sl=>exact ⟨_,_,_,rfl⟩
def AX (n0:Nat) (C:Nat→Nat→Option Value) (fr:List Int) (m:Nat) (pre:List Value) (x:Value) (W0 W1:World):Prop:=
  pre.length<m∧RC (CW n0 W0.heap.size C W1) (.sl false 1 (ints .i64 (idxS fr pre.length).1)) x
set_option maxRecDepth 100000 in
set_option maxHeartbeats 2000000 in
theorem all1_seq {n n0 B m:Nat} {C:Nat→Nat→Option Value} {fr:List Int} {fv:Value} {w:World} (h1:1≤n) (hfr:fr.length≤1000000) (hS:sizeS fr=((m:Int),0)) (hm:m≤1000000) (hB:B<w.heap.size) (hn0:n0≤w.heap.size)
    (hb:w.cell? ⟨B,0,none⟩=some fv) (hf:RC C (.sl false 1 (ints .i64 fr)) fv) (hC:∀ k o u,C k o=some u→k<n0∧w.cell? ⟨k,o,none⟩=some u):
    SeqW Fence.wide n Tryz.prog 109 #[.pointer (some ⟨B,0,none⟩)] (fun x:Value=> #[x]) (KpX n0 B) (AX n0 C fr m) (fun xs=>xs.length=m) w:=by
  intro l J W hW hJ hY h0
  have hbW:W.cell? ⟨B,0,none⟩=some fv:=(hW.cell (p:=⟨B,0,none⟩) hB).trans hb
  have hCW:∀ W',Below n0 W W'→inW C W':=fun W' hb' k o u hu=>by
    obtain ⟨q1,q2⟩:=hC k o u hu
    exact (hb'.cell (p:=⟨k,o,none⟩) q1).trans ((hW.cell (p:=⟨k,o,none⟩) (show k<w.heap.size by omega)).trans q2)
  refine callsIn_of_wp Tryz.func109 rfl trivial ?_ rfl
  simp only [Tryz.ntmps109,List.size_toArray,List.length_cons,List.length_nil,Nat.reduceAdd,Nat.reduceSub,Array.replicate_succ,Array.replicate_zero,List.push_toArray,List.append_toArray,List.nil_append,List.cons_append]
  have c65:=(callsIn_wide (n:=n - 1)).2 (size_pc hfr C W [fv] (RL_one hf) (hCW W (Below.refl _ _)))
  rw [hS] at c65
  gi_wp2_with (refine ⟨trivial,?_⟩;gi_at_call 69;refine c65.mono ?_;rintro e w1 ⟨v,C',rfl,hle,hrc,hin,hmore,hold⟩;obtain ⟨a,b,rfl,ha,hb2⟩:=rc_tup2 hrc;obtain rfl:=rc_lit ha;obtain rfl:=rc_lit hb2)
  have hJ1:J [] w1:=hJ [] W w1 none h0 (more_grown hmore) (fun r e=>by cases e)
  have hb1:Below n0 W w1:=hmore.below.mono (Nat.le_trans hn0 hW.size)
  have hbox:w1.cell? ⟨B,0,none⟩=some fv:=hmore.cell hbW
  gi_loopw [14] (fun i wr=>∃ xs:List Value,i= .int .i64 xs.length∧xs.length≤m∧J xs wr∧wr.cell? ⟨B,0,none⟩=some fv∧Below n0 W wr) (fun i _=>m - (intOf i).toNat)
  case atStart=>exact ⟨[],rfl,Nat.zero_le _,hJ1,hbox,hb1⟩
  case round=>
    obtain ⟨xs,rfl,hk,hJs,hbx,hbl⟩:=hrel
    have hnr:n0≤wr.heap.size:=Nat.le_trans (Nat.le_trans hn0 hW.size) hbl.size
    by_cases hlt:xs.length<m
    ·have c95:=(callsIn_wide (n:=n - 1)).2 (idx_pc (o:=xs.length) hfr C wr [fv,.int .i64 xs.length] (RL_two hf (.lit _)) (hCW wr hbl))
     gi_wp2_with (refine ⟨trivial,?_⟩;gi_at_call 110;refine c95.mono ?_;rintro e w2 ⟨v,C2,rfl,hle2,hrc2,hin2,hmore2,hold2⟩;obtain ⟨x,e2,rfl,hx,he2⟩:=rc_tup2 hrc2;obtain rfl:=rc_lit he2;obtain ⟨fn,tmps,assign,body,hy,hR⟩:=hY xs x wr w2 hJs (more_grown hmore2) ⟨hlt,rc_CW hx hC hold2 hin2 hnr⟩)
     refine hR.mono ?_
     rintro e W3 ⟨rfl,hJ3,hk3⟩
     gi_wp2
     go_roundw
     case rel=>exact ⟨xs++[x],by simp,by simp;omega,hJ3,hk3.2 _ (hmore2.cell hbx),(hbl.trans (hmore2.below.mono hnr)).trans hk3.1⟩
     case measure=>simp [intOf];omega
    ·obtain rfl:xs.length=m:=by omega
     gi_wp2
     go_end0
     exact ⟨⟨_,rfl⟩,xs,rfl,hJs⟩
set_option maxHeartbeats 1000000 in
theorem all_in (n:Nat) (a:Option Addr) (len cap:Nat) (w:World):
    CallsIn Fence.wide n Tryz.prog 76 #[.slice a len cap] w fun e w'=>e= .returned (.func (.func 109) #[] #[.pointer (some ⟨w.heap.size,0,none⟩)])∧w'=w.alloc (.cells #[.slice a len cap] 23):=by
  refine callsIn_of_wp Tryz.func76 rfl trivial ?_ rfl
  simp only [Tryz.ntmps76,List.size_toArray,List.length_cons,List.length_nil,Nat.reduceAdd,Nat.reduceSub,Array.replicate_succ,Array.replicate_zero,List.push_toArray,List.append_toArray,List.nil_append,List.cons_append]
  gi_wp2
  go_ret
  exact ⟨rfl,rfl⟩
def IX (C:Nat→Nat→Option Value) (fr:List Int) (w1:World) (pre:List Value) (W:World):Prop:=
  Below w1.heap.size w1 W∧∃ v C',Boxed W w1.heap.size 50 v∧W.ownsRow w1.heap.size 23 1 v pre.length pre∧(v= .slice none 0 0 ↔ pre=[])∧v.ownBlock≠some (w1.heap.size+1)∧inW C' W∧(∀ k,k<w1.heap.size→∀ j,C' k j=C k j)∧(∀ j,C' w1.heap.size j=none)∧
    (∀ g,v.ownBlock=some g→∀ j,C' g j=none)∧∀ i,i<pre.length→RC C' (.sl false 1 (ints .i64 (idxS fr i).1)) (pre.getD i undef)
theorem ix_own {C:Nat→Nat→Option Value} {fr:List Int} {w1:World} {B:Nat} (hB:w1.heap.size≤B):OwnFrom B (IX C fr w1):=by
  rintro s W W' row ⟨hb,v,C',h1,h2,h3,h3',h4,h5⟩ hg hr
  refine ⟨hb.grown hg (by have:=h1.lt;omega) (fun k e=>Nat.le_trans hB (hr k e).1),v,C',h1.kept hg (fun e'=>?_),h2.kept hg ?_,h3,h3',fun k o u hu=>cell_kept (h4 k o u hu) hg (fun r e=>(hr r e).2),h5⟩
  ·obtain ⟨_,o,ho,hc⟩:=hr _ e'.symm
   rw [show W.heap[w1.heap.size]? =_ from h1] at ho;cases ho;cases hc
  ·rcases h2.2 with ⟨rfl,_⟩|⟨g,cap,cur,rfl,_,hgb,_⟩
   ·exact .inl rfl
   ·refine .inr fun e'=>?_
    obtain ⟨_,o,ho,hc⟩:=hr g (by simpa [Value.ownBlock] using e'.symm)
    rw [hgb] at ho;cases ho;cases hc
theorem ax_own {n0 B m:Nat} {C:Nat→Nat→Option Value} {fr:List Int} (pre:List Value) (x:Value) (W0:World):OwnFrom B (fun (_:Unit)=>AX n0 C fr m pre x W0):=by
  rintro s W W' row ⟨h1,h2⟩ hg hr
  refine ⟨h1,h2.mono fun k o u hu=>?_⟩
  unfold CW at hu ⊢
  split
  ·rename_i hk
   rwa [if_pos hk] at hu
  ·rename_i hk
   rw [if_neg hk] at hu
   split
   ·rename_i hk2
    rwa [if_pos hk2] at hu
   ·rename_i hk2
    rw [if_neg hk2] at hu
    exact cell_kept hu hg (fun r e=>(hr r e).2)
theorem info23:(Tryz.prog.info? 23).map (fun i=>(i.zero,i.size,i.bytes))=some (some (.slice none 0 0),1,24):=by kernel_rfl
theorem flat_ils:∀ (L:List (List Int)),flat (ils L)=ils L
  |[]=>rfl
  |l::L=>by
   show AV.cells (ilA l)++flat (ils L)=ilA l::ils L
   rw [flat_ils L];rfl
theorem getD_left {α:Type} {l:List α} {x d:α} {i:Nat} (h:i<l.length):(l++[x]).getD i d=l.getD i d:=by
  rw [List.getD_eq_getElem?_getD,List.getD_eq_getElem?_getD,List.getElem?_append_left h]
theorem getD_end {α:Type} {l:List α} {x d:α}:(l++[x]).getD l.length d=x:=by simp
set_option maxRecDepth 100000 in
set_option maxHeartbeats 2000000 in
theorem indices_pc {fr:List Int} (hfr:fr.length≤1000000):PC Tryz.prog 54 [.sl false 1 (ints .i64 fr)] (inV (indicesS fr)):=by
  intro C w vs hr hin
  obtain ⟨hl,hr⟩:=hr
  match vs,hl with
  |[fv],_=>
  have hf:RC C (.sl false 1 (ints .i64 fr)) fv:=hr 0 (by simp)
  have ⟨a,len,cap,hfv⟩:∃ a len cap,fv= .slice a len cap:=by
    exact rc_slice hf
  subst hfv
  obtain ⟨i0,hi,hz0,hz1,hz2⟩:=info_parts info23
  refine (callsIn_wide (n:=4)).1 ?_
  unfold indicesS
  generalize hS:sizeS fr=s
  obtain ⟨m,er⟩:=s
  simp only
  have c65:=(callsIn_wide (n:=4 - 1)).2 (size_pc hfr C w [.slice a len cap] (RL_one hf) hin)
  rw [hS] at c65
  by_cases e0:er=0
  ·subst e0
   obtain ⟨_,hdk,hpr,hm⟩:=sizeS_ok hS
   obtain ⟨m,rfl⟩:∃ k:Nat,m=k:=⟨m.toNat,by have:=prI_nonneg hdk;omega⟩
   clear hpr hdk
   rw [if_neg (by simp),Int.toNat_natCast]
   refine callsIn_of_wp_marks Tryz.func54 rfl trivial ?_ rfl
   simp only [Tryz.ntmps54,List.size_toArray,List.length_cons,List.length_nil,Nat.reduceAdd,Nat.reduceSub,Array.replicate_succ,Array.replicate_zero,List.push_toArray,List.append_toArray,List.nil_append,List.cons_append]
   gi_wp2_with (first|(refine ⟨trivial,?_⟩;gi_at_call 69;refine c65.mono ?_;clear c65;rintro e w1 ⟨v,C',rfl,_,hrc,_,hmore,_⟩;obtain ⟨a,b,rfl,ha,hb2⟩:=rc_tup2 hrc;obtain rfl:=rc_lit ha;obtain rfl:=rc_lit hb2;clear hrc ha hb2)|(refine ⟨trivial,?_⟩;gi_at_call 76;refine (all_in _ _ _ _ _).mono ?_;rintro e w2 ⟨rfl,rfl⟩))
   have hs:=hmore.size
   have hCd:∀ k o u,C k o=some u→k<w1.heap.size∧w1.cell? ⟨k,o,none⟩=some u:=fun k o u hu=>by
     have hc:=hmore.cell (hin k o u hu)
     exact ⟨World.block_lt_of_cell? w1 _ hc,hc⟩
   have bO:=Boxed.new w1 50 (.slice none 0 0)
   have bN:=Boxed.new (w1.alloc (.cells #[.slice none 0 0] 50)) 23 (.slice a len cap)
   rw [World.size_alloc] at bN
   have hB0:Below w1.heap.size w1 ((w1.alloc (.cells #[.slice none 0 0] 50)).alloc (.cells #[.slice a len cap] 23)):=((Below.refl _ w1).alloc (Nat.le_refl _) _).alloc (by simp) _
   refine wpIn_rangeW (n:=4) rfl (by omega) (gf:=109) (lb:= #[.pointer (some ⟨w1.heap.size+1,0,none⟩)]) rfl trivial (enters_of Tryz.func109 (by kernel_rfl) rfl)
     (all1_seq (by omega) hfr hS (by omega) (B:=w1.heap.size+1) (n0:=w1.heap.size) (by simp) (by simp;omega) bN.cell hf (fun k o u hu=>⟨(hCd k o u hu).1,(hB0.cell (p:=⟨k,o,none⟩) (hCd k o u hu).1).trans (hCd k o u hu).2⟩))
     ?hkp (fun _=>rfl) (IX C fr w1) (ix_own (by simp;omega)) (fun pre x W0=>ax_own pre x W0) ?h0
     (fun x=>{tmps:= #[.slice a len cap,undef,.slice none 0 0,.int .i64 0,.int .i64 m,.int .i64 0,.pointer (some ⟨w1.heap.size,0,none⟩),x,.tuple #[.int .i64 m,.int .i64 0],.slice a len cap,.tuple #[.int .i64 m,.int .i64 0],.int .i64 m,.int .i64 0,.int .i64 0,.bool false,undef,.slice a len cap,.func (.func 109) #[] #[.pointer (some ⟨w1.heap.size+1,0,none⟩)],x,undef,undef,undef,undef,undef],defers:=[]}) ?assign ?body ?done
   case hkp=>
     intro W W' o o' hs1 hl hc hw _ o2 o3 hl2 hc2 hw2 hk
     have q1:=belowK_b (n₀:=w1.heap.size) (w:=(w1.alloc (.cells #[.slice none 0 0] 50)).alloc (.cells #[.slice a len cap] 23)) (by simp;omega) W _ o o' (Nat.le_succ _) hl hc hw
     have q2:=belowK_b (n₀:=w1.heap.size) (w:=(w1.alloc (.cells #[.slice none 0 0] 50)).alloc (.cells #[.slice a len cap] 23)) (by simp;omega) W' _ o2 o3 (Nat.le_succ _) hl2 hc2 hw2
     refine ⟨(q1.trans hk.1).trans q2,fun v hv=>?_⟩
     exact cell_kept (hk.2 v (cell_kept hv (grownBy_putObj' W _ o') (fun r e=>by cases e;exact ⟨_,hl,hc⟩))) (grownBy_putObj' W' _ o3) (fun r e=>by cases e;exact ⟨_,hl2,hc2⟩)
   case h0=>
     refine ⟨hB0,.slice none 0 0,C,bO.alloc _,World.ownsRow_nil _ _ _ _,by simp,by simp [Value.ownBlock],fun k o u hu=>(hB0.cell (p:=⟨k,o,none⟩) (hCd k o u hu).1).trans (hCd k o u hu).2,fun _ _ _=>rfl,fun j=>?_,by simp [Value.ownBlock],by simp⟩
     cases h:C w1.heap.size j with
     |none=>rfl
     |some u=>exact absurd (hCd _ _ u h).1 (by omega)
   case assign=>
     intro l x W K hK
     gi_wp2
     exact hK
   case body=>
     rintro l pre x W0 W hl ⟨hb0,v0,C0,g1,g2,g3,g3',g4,g5,g6,g7,g8⟩ ⟨hb,v,C1,h1,h2,h3,_⟩ hsz hcell ⟨hlt,hx⟩
     obtain ⟨ax,nx,cx,rfl⟩:=rc_slice hx
     have ev:v0=v:=by
       have q1:=hcell _ _ g1.cell
       rw [h1.cell] at q1
       exact (Option.some.inj q1).symm
     subst ev
     have hc:=h1.cell
     have hwb:=hb.size
     gi_wp2_with (gi_at_builtin;refine wpListIn_append_own_at _ rfl _ _ 50 rfl w1.heap.size 23 i0 (.slice none 0 0) 1 24 u50 hi hz0 hz1 hz2 rfl (by decide) _ _ _ rfl (h2.alloc _) ⟨W.heap.size,0,none⟩ 1 1 [.slice ax nx cx] rfl rfl (cell_one_new _ _ _) (by simp [Value.oneCell']) (by unfold maxLen;omega) (by omega) (by simp;omega) ?_;intro v' w3 hown' hgrow _ hob;obtain ⟨g',cap',rfl⟩:=ownsRow_succ hown';obtain ⟨hv1,hv2,hr2,hk2,hb2⟩:=h1.appended (by decide) h2 hb.size (Nat.le_refl _) hown' hgrow;have hc1:=hv1.cell;have hf1:=hv1.frozen)
     have hgb:∀ g,v0.ownBlock=some g→g<W0.heap.size:=fun g e=>by
       rcases g2.2 with ⟨rfl,_⟩|⟨g',cap,cur,rfl,_,hgb,_⟩
       ·cases e
       ·obtain rfl:g'=g:=by simpa [Value.ownBlock] using e
        exact (Array.getElem?_eq_some_iff.1 hgb).1
     have hB0l:=g1.lt
     have hst:∀ k o u,k≠w1.heap.size→v0.ownBlock≠some k→W.cell? ⟨k,o,none⟩=some u→(w3.setCell ⟨w1.heap.size,0,none⟩ (.slice (some ⟨g',0,none⟩) (pre.length+1) cap')).cell? ⟨k,o,none⟩=some u:=fun k o u e1 e2 hu=>by
       have hk:=World.block_lt_of_cell? W _ hu
       have a1:(W.alloc (.cells #[.slice ax nx cx] 23)).cell? ⟨k,o,none⟩=some u:=(World.cell?_of_block (Below.heap_alloc W _ k hk)).trans hu
       have a2:w3.cell? ⟨k,o,none⟩=some u:=(World.cell?_of_block (hgrow.block k (by simp at hk ⊢;omega) (fun e=>e2 e.symm))).trans a1
       exact (World.cell?_of_block (Below.heap_setCell _ _ _ k e1)).trans a2
     have hkp:KpX w1.heap.size (w1.heap.size+1) W (w3.setCell ⟨w1.heap.size,0,none⟩ (.slice (some ⟨g',0,none⟩) (pre.length+1) cap')):=by
       exact ⟨hb2,fun u hu=>hst _ _ u (by omega) g3' hu⟩
     refine ⟨hkp,hb.trans hb2,_,fun k o=>if k<W0.heap.size then C0 k o else W.cell? ⟨k,o,none⟩,hv2,by simpa using hr2,by simp,?_,?_,?_,?_,?_,?_⟩
     ·rcases hob with e'|e'
      ·rw [e'];exact g3'
      ·rw [e'];simp;omega
     ·intro k o u hu
      simp only at hu
      split at hu
      ·refine hst k o u (fun e=>?_) (fun e=>?_) (hcell _ _ (g4 k o u hu))
       ·rw [e,g6] at hu;cases hu
       ·rw [g7 k e] at hu;cases hu
      ·rename_i hk
       refine hst k o u (by omega) (fun e=>?_) hu
       exact hk (hgb k e)
     ·intro k hk j
      simp only
      rw [if_pos (by omega)];exact g5 k hk j
     ·intro j
      simp only
      rw [if_pos hB0l];exact g6 j
     ·intro g e j
      simp only
      rcases hob with e'|e'
      ·rw [e'] at e
       rw [if_pos (hgb g e)];exact g7 g e j
      ·rw [e'] at e
       obtain rfl:=Option.some.inj e
       rw [if_neg (by simp;omega)]
       cases h:W.cell? ⟨(W.alloc (.cells #[.slice ax nx cx] 23)).heap.size,j,none⟩ with
       |none=>rfl
       |some u=>have:=World.block_lt_of_cell? W _ h;simp at this;omega
     ·intro i hi
      rw [List.length_append] at hi
      rcases Nat.lt_or_ge i pre.length with hc2|hc2
      ·rw [getD_left hc2]
       refine (g8 i hc2).mono fun k o u hu=>?_
       show (if k<W0.heap.size then C0 k o else W.cell? ⟨k,o,none⟩)=some u
       rw [if_pos (World.block_lt_of_cell? W0 _ (g4 k o u hu))];exact hu
      ·obtain rfl:i=pre.length:=by simp at hi;omega
       rw [getD_end]
       refine hx.mono fun k o u hu=>?_
       unfold CW at hu
       show (if k<W0.heap.size then C0 k o else W.cell? ⟨k,o,none⟩)=some u
       split at hu
       ·rw [if_pos (by omega),g5 k (by assumption) o];exact hu
       ·split at hu
        ·cases hu
        ·rename_i hk
         rw [if_neg hk];exact hu
   case done=>
     rintro D ys W hD hy ⟨hb,v,C',h1,h2,h3,h3',h4,h5,h6,h7,h8⟩ hK
     have hc:=h1.cell
     gi_wp2
     refine ⟨by simp,.inl ⟨_,_,rfl,run_takeDeferred hK,?_⟩⟩
     have hck:∀ p u,W.cell? p=some u→(W.putObj D (.deferred none)).cell? p=some u:=fun p u hu=>cell_kept hu (grownBy_putObj' W D _) (fun r e=>by cases e;exact ⟨_,hK,rfl⟩)
     have hbD:Below w1.heap.size w1 (W.putObj D (.deferred none)):=hb.trans (belowK_b (w:=w1) (Nat.le_refl _) W D _ _ (by simp at hD;omega) hK rfl rfl)
     refine ⟨_,results_tmp2 rfl _ _ _,.tuple #[v,.int .i64 0],fun k o=>if v.ownBlock=some k then W.cell? ⟨k,o,none⟩ else C' k o,rfl,?_,?_,?_,?_,?_⟩
     ·intro k o u hu
      have hk:=(hCd k o u hu).1
      have e:=h5 k hk o
      show (if v.ownBlock=some k then W.cell? ⟨k,o,none⟩ else C' k o)=some u
      rw [if_neg (fun e'=>by rw [h7 k e' o,hu] at e;cases e),e];exact hu
     ·have hCC:CLe C' (fun k o=>if v.ownBlock=some k then W.cell? ⟨k,o,none⟩ else C' k o):=fun k o u hu=>by
        show (if v.ownBlock=some k then W.cell? ⟨k,o,none⟩ else C' k o)=some u
        rw [if_neg (fun e'=>by rw [h7 k e' o] at hu;cases hu)];exact hu
      unfold inV
      refine RC.tup _ [v,.int .i64 0] rfl fun i hi=>?_
      match i,hi with
      |1,_=>exact .lit _
      |0,_=>
       show RC _ (.sl false 1 (ils (inds fr m))) v
       rcases h2.2 with ⟨rfl,h0⟩|⟨g,cap,cur,rfl,hg1,hg2,hg3,hg4,hg5,hg6⟩
       ·rw [hy] at h0
        subst h0
        exact .nil _ _ _
       ·have hlen:ys.length=(ils (inds fr m)).length:=by rw [ils_length,inds_len,hy]
        have hget:∀ j,j<ys.length→cur[j]? =some (ys.getD j undef):=fun j hj=>by
          have:cur.toList[j]? =some (ys.getD j undef):=by
            rw [←hg6] at hj ⊢
            rw [List.length_take] at hj
            rw [List.getD_eq_getElem?_getD,List.getElem?_take_of_lt (by omega),List.getElem?_eq_getElem (by omega)];rfl
          simpa using this
        rw [hlen]
        refine .sl false 1 _ g 0 cap (fun j=>ys.getD j undef) (by omega) hg4 (by simp) ?_ ?_ ?_ ?_
        ·intro x hx
         obtain ⟨l,_,rfl⟩:=List.mem_map.1 hx;rfl
        all_goals (intro j hj;rw [flat_ils,←hlen] at hj)
        ·show (if (Value.slice (some ⟨g,0,none⟩) ys.length cap).ownBlock=some g then W.cell? ⟨g,0+j,none⟩ else C' g (0+j))=_
         rw [if_pos (show (Value.slice (some ⟨g,0,none⟩) ys.length cap).ownBlock=some g from rfl),Nat.zero_add]
         simp [World.cell?,hg2,hget j hj]
        ·obtain ⟨a,b,c,e⟩:=rc_slice (h8 j hj)
         rw [e];rfl
        ·rw [flat_ils,ils_getD _ _ (by rw [inds_len];omega)]
         have e:(inds fr m).getD j []=(idxS fr j).1:=by simp [inds,List.getD,show j<m by omega]
         rw [e]
         exact (h8 j hj).mono hCC
     ·intro k o u hu
      simp only at hu
      split at hu
      ·exact hck _ _ hu
      ·exact hck _ _ (h4 k o u hu)
     ·exact hmore.trans (More.of_below hbD)
     ·intro k hk j
      show (if v.ownBlock=some k then W.cell? ⟨k,j,none⟩ else C' k j)=C k j
      rw [if_neg,h5 k (by omega)]
      intro e
      rcases h2.2 with ⟨rfl,_⟩|⟨g,cap,cur,rfl,hg1,_⟩
      ·cases e
      ·obtain rfl:g=k:=by simpa [Value.ownBlock] using e
       omega
  ·have e1:er≠0:=e0
   rw [if_pos e0]
   refine callsIn_of_wp_marks Tryz.func54 rfl trivial ?_ rfl
   simp only [Tryz.ntmps54,List.size_toArray,List.length_cons,List.length_nil,Nat.reduceAdd,Nat.reduceSub,Array.replicate_succ,Array.replicate_zero,List.push_toArray,List.append_toArray,List.nil_append,List.cons_append]
   gi_wp2_with (refine ⟨trivial,?_⟩;gi_at_call 69;refine c65.mono ?_;clear c65;rintro e w1 ⟨v,C',rfl,_,hrc,_,hmore,_⟩;obtain ⟨a,b,rfl,ha,hb2⟩:=rc_tup2 hrc;obtain rfl:=rc_lit ha;obtain rfl:=rc_lit hb2;clear hrc ha hb2)
   refine ⟨_,results_tmp2 rfl _ _ _,.tuple #[.slice none 0 0,.int .i64 er],C,rfl,CLe.refl _,?_,fun k o u hu=>hmore.cell (hin k o u hu),hmore,fun _ _ _=>rfl⟩
   unfold inV
   refine RC.tup _ [.slice none 0 0,.int .i64 er] rfl fun i hi=>?_
   match i,hi with
   |1,_=>exact .lit _
   |0,_=>exact .nil _ _ _
end Go.Proofs.YtcpjahmajkhchaaGreat

namespace Go.Proofs.YtcpjahmajkhchaaGreat
open Go Go.Fw
set_option maxRecDepth 20000
set_option maxRecDepth 20000
theorem ilsOf_two {b:Bool} {x y:List Int}:ilsOf (.sl b 1 [.sl false 1 (ints .i64 x),.sl false 1 (ints .i64 y)])=some [x,y]:=ilsOf_sl (b:=b) (l:=[x,y])
theorem flat_two {x y:List Int}:[x,y].flatten=x++y:=by simp
noncomputable def con80:PCon Tryz.prog where
  f:=80
  c:=fun
   |[xL]=>match ilsOf xL with|some L=>some (L.flatten.length≤1000000∧L.length≤1000000,.sl false 1 (ints .i64 L.flatten))|_=>none
   |_=>none
  ok:=by
   intro args p r hc hp
   split at hc
   ·split at hc
    ·rename_i hL
     cases hc
     exact PC.weak ((fun hp:_∧_=>concat_pc hp.1 hp.2) hp) ⟨ilsOf_le hL,trivial⟩
    ·cases hc
   ·cases hc
  fk:=fk80
theorem con80_f:con80.f=80:=rfl
theorem con80_c {xL:AV}:con80.c [xL]=match ilsOf xL with|some L=>some (L.flatten.length≤1000000∧L.length≤1000000,.sl false 1 (ints .i64 L.flatten))|_=>none:=rfl
theorem ae_of {e:ByteArray} {x y:AV} {n:Int} {d w:List Int} {r:Arr×Int} (hx:slK .i64 x=some d) (hy:slK .i64 y=some w) (h:r=(⟨e,d,w⟩,n)):LeA (.tup [.agg [.lit (.string e),x,y],.lit (.int .i64 n)]) (aeV r):=by
  subst h
  exact LeA.tup ⟨LeA.agg ⟨LeA.refl _,slK_le hx,slK_le hy,trivial⟩,LeA.refl _,trivial⟩
def jnG (sm:Arr):List Arr→List Int→List Int×Int
  |[],acc=>(acc,0)
  |c::t,acc=>if (!(eqS c.e sm.e))=true then ([],12) else if decide (c.d=sm.d)=false then ([],14) else jnG sm t (acc++c.x)
def joinS (fr:List Int) (L:List Arr) (sm:Arr):Arr×Int:=
  if (!(ofE sm==0)||L.any invA)=true then (nilA,1) else if (sizeS fr).2≠0 then (nilA,(sizeS fr).2) else if (L.length:Int)≠(sizeS fr).1 then (nilA,1) else
   if (jnG sm L []).2≠0 then (nilA,(jnG sm L []).2) else if (sizeS (fr++sm.d)).2≠0 then (nilA,(sizeS (fr++sm.d)).2) else (⟨sm.e,fr++sm.d,(jnG sm L []).1⟩,0)
structure Jl (sm:Arr) (L:List Arr) (G:List Int×Int) where
  i:Nat
  v:Nat
  acc:List Int
  hi:i≤L.length
  ha:acc.length≤i*4096
  hF:jnG sm (L.drop i) acc=G
attribute [go_sem] con45_f con45_c con69_f con69_c con80_f con80_c con81_f con81_c arrOf_agg slK_sl ilsOf_two flat_two szV_def
noncomputable def E79:Env:=envJ (P:=Tryz.prog) jk zer (fun _=>false) (fun _=>false) [con45,con69,con78,con80,con81] []
theorem E79_ok:EnvOk Tryz.prog E79:=envJOk zer_ok
set_option maxHeartbeats 4000000 in
theorem join_pc {fr:List Int} {L:List Arr} {sm:Arr} (hfr:fr.length≤1000000) (hL:L.length≤1000000) (ho:∀ a∈L,okA a) (hs:okA sm):PC Tryz.prog 57 [.sl false 1 (ints .i64 fr),.sl false 3 (arrs L),arrV sm] (aeV (joinS fr L sm)):=by
  generalize hR:joinS fr L sm=R
  unfold joinS at hR
  obtain ⟨s1,s2⟩:=hs
  cases h1:(ofE sm==0) with
  |false=>
   rw [if_pos (by simp [h1])] at hR
   simp only [arrV]
   refine pcR E79_ok (kp57) Tryz.func57 [.cell 6 31,.tmp 7] (h:=fun KF=>?_)
   unfold E79
   repeat' (first
    |(with_reducible first|refine nx ?_|refine t_seq fun K=>?_|refine t_br (fun hc=>?_) fun hc=>?_|refine t_bx ?_|apply And.intro|intro vr)|exact kpd
    |((with_reducible first|refine ny ?_|refine t_kLF ?_ ?_|refine t_drawE (id:=8) (fun i=>i==0) [(0,1),(1,1),(2,1),(3,1),(4,1),(5,1),(6,1),(7,1),(8,0),(9,0)] (by kernel_rfl) fun K=>?_|refine t_dwh (h:=fun K KL=>?_));intros;simp only [go_sem,kp57,geff,h1,Bool.not_false]))
   all_goals try exact nd
   all_goals (refine nl ?_;simp only [go_sem])
   exact ae_of rfl rfl hR.symm
  |true=>
   simp only [h1,Bool.not_true,Bool.false_or] at hR
   cases h2:L.any invA with
   |true=>
    rw [if_pos h2] at hR
    simp only [arrV]
    refine pcR E79_ok (kp57) Tryz.func57 [.cell 6 31,.tmp 7] (h:=fun KF=>?_)
    unfold E79
    repeat' (first
     |(with_reducible first|refine nx ?_|refine t_seq fun K=>?_|refine t_br (fun hc=>?_) fun hc=>?_|refine t_bx ?_|apply And.intro|intro vr)|exact kpd
     |((with_reducible first|refine ny ?_|refine t_kLF ?_ ?_|refine t_drawE (id:=8) (fun i=>i==0) [(0,1),(1,1),(2,1),(3,1),(4,1),(5,1),(6,1),(7,1),(8,0),(9,0)] (by kernel_rfl) fun K=>?_|refine t_dwh (h:=fun K KL=>?_));intros;simp only [go_sem,kp57,geff,h1,h2,Bool.not_true,arrsOf_sl]))
    all_goals try exact nd
    all_goals try exact ho _ (by assumption)
    all_goals (refine nl ?_;simp only [go_sem])
    exact ae_of rfl rfl hR.symm
   |false=>
    rw [if_neg (by rw [h2];decide)] at hR
    generalize hS:sizeS fr=q at hR
    obtain ⟨n,er⟩:=q
    simp only at hR
    by_cases e0:er=0
    ·subst e0
     rw [if_neg (by simp)] at hR
     obtain ⟨p1,p2,p3,p4⟩:=sizeS_ok hS
     by_cases h3:(L.length:Int)=n
     ·rw [if_neg (by simp [h3])] at hR
      have h3':((L.length:Int) !=n)=false:=by rw [bne_eq_false_iff_eq];exact h3
      have hsd:=(ofE_inv (beq_iff_eq.1 h1)).2.1
      have hrow:∀ i,i<L.length→(L.getD i nilA).x.length≤4096:=fun i hi=>by
        have hv:invA (L.getD i nilA)=false:=by
          cases h:invA (L.getD i nilA) with
          |false=>rfl
          |true=>exact absurd (List.any_eq_true.2 ⟨_,getD_mem nilA hi,h⟩) (by rw [h2];decide)
        have h0:ofE (L.getD i nilA)=0:=by simpa [invA] using hv
        have:=(sizeS_ok (ofE_inv h0).2.1).2.2.2
        omega
      have hd6:=(sizeS_ok hsd).1
      generalize hG:jnG sm L []=G at hR
      obtain ⟨w,e2⟩:=G
      simp only at hR
      have hfl:([fr,sm.d]:List (List Int)).flatten.length≤1000000:=by rw [flat_two,List.length_append];omega
      simp only [arrV]
      refine pcR E79_ok (kp57) Tryz.func57 [.cell 6 31,.tmp 7] (h:=fun KF=>?_)
      unfold E79
      repeat' (first
       |(with_reducible first|refine nx ?_|refine t_seq fun K=>?_|refine t_br (fun hc=>?_) fun hc=>?_|refine t_bx ?_|apply And.intro|intro vr)|exact kpd
       |((with_reducible first|refine ny ?_|refine t_kLF ?_ ?_|refine t_drawE (id:=8) (fun i=>i==0) [(0,1),(1,1),(2,1),(3,1),(4,1),(5,1),(6,1),(7,1),(8,0),(9,0)] (by kernel_rfl) fun K=>?_|refine t_dwh (h:=fun K KL=>?_));intros;simp only [go_sem,kp57,geff,h1,h2,Bool.not_true,arrsOf_sl,hS,h3',arrs_length]))
      all_goals try exact nd
      all_goals try exact ho _ (by assumption)
      all_goals try (simp only [List.length_append];omega)
      refine t_loopF (ι:=Jl sm L (w,e2)) (fun i=>[(49,.lit (.int .i64 i.i))]) (fun i=>[.box 31 [.lit (.string sm.e),.sl false 1 (ints .i64 sm.d),.sl false 1 (ints .i64 sm.x)],.box 31 [.lit (.string ByteArray.empty),.sl true 1 [],.sl true 1 []],.box 31 [.lit (.string sm.e),.sl false 1 (ints .i64 (fr++sm.d)),.arr 3 i.v],.arr 3 1 (ints .i64 i.acc) i.v false]) (fun i=>L.length - i.i) ⟨0,0,[],by omega,by simp,hG⟩ ?_ ?_
      ·refine (le_nilB 2 2 3 1 (cs:=[.lit (.string sm.e),.sl false 1 (ints .i64 (fr++sm.d)),.sl true 1 []]) rfl (by simp) nil_sl).trans ?_
       simp only [updL_nil,updL_cons,delF_top,delF_upd,Nat.reduceEqDiff,reduceIte]
       simp only [ints_nil]
       refine Le.frameS (by first|rfl|(simp only [go_sem];try rfl)) ?_
       repeat' (first|exact leF_top _|exact (fun _=>LeR.refl _)|(with_reducible refine leF_sl ?_ ?_)|(refine leF_upd ?_ ?_))
       all_goals (first|exact LeR.top _|exact LeR.refl _|(refine LeR.of_eq ?_;(try simp only [go_sem]);try rfl)|((try simp only [go_sem]);try rfl))
      rintro ⟨i,v,acc,hi,ha,hF⟩ K0
      rcases Nat.lt_or_ge i L.length with hc|hc
      ·rw [drop_getD nilA hc,jnG] at hF
       have g3:decide ((i:Int)<(L.length:Int))=true:=decide_eq_true (by omega)
       have hx:=hrow i hc
       have o1:=ho _ (getD_mem nilA hc)
       have o1':=o1.1
       cases h5:eqS (L.getD i nilA).e sm.e with
       |false=>
        rw [if_pos (by rw [h5];rfl)] at hF
        cases hF
        rw [if_pos (by decide)] at hR
        repeat' (first
         |(with_reducible first|refine nx ?_|refine t_seq fun K=>?_|refine t_br (fun hc=>?_) fun hc=>?_|refine t_bx ?_|apply And.intro|intro vr)|exact kpd
         |((with_reducible first|refine ny ?_|refine t_kLF ?_ ?_|refine t_drawE (id:=8) (fun i=>i==0) [(0,1),(1,1),(2,1),(3,1),(4,1),(5,1),(6,1),(7,1),(8,0),(9,0)] (by kernel_rfl) fun K=>?_|refine t_dwh (h:=fun K KL=>?_));intros;simp only [go_sem,kp57,geff,g3,h5,Int.toNat_natCast,arrs_length,arrV,Bool.not_false]))
        all_goals try exact nd
        all_goals (refine nl ?_;simp only [go_sem])
        exact ae_of rfl rfl hR.symm
       |true=>
        rw [if_neg (by rw [h5];decide)] at hF
        cases h6:decide ((L.getD i nilA).d=sm.d) with
        |false=>
         rw [if_pos h6] at hF
         cases hF
         rw [if_pos (by decide)] at hR
         repeat' (first
          |(with_reducible first|refine nx ?_|refine t_seq fun K=>?_|refine t_br (fun hc=>?_) fun hc=>?_|refine t_bx ?_|apply And.intro|intro vr)|exact kpd
          |((with_reducible first|refine ny ?_|refine t_kLF ?_ ?_|refine t_drawE (id:=8) (fun i=>i==0) [(0,1),(1,1),(2,1),(3,1),(4,1),(5,1),(6,1),(7,1),(8,0),(9,0)] (by kernel_rfl) fun K=>?_|refine t_dwh (h:=fun K KL=>?_));intros;simp only [go_sem,kp57,geff,g3,h5,h6,Int.toNat_natCast,arrs_length,arrV,Bool.not_false,Bool.not_true]))
         all_goals try exact nd
         all_goals (refine nl ?_;simp only [go_sem])
         exact ae_of rfl rfl hR.symm
        |true=>
         rw [if_neg (by rw [h6];decide)] at hF
         repeat' (first
          |(with_reducible first|refine nx ?_|refine t_seq fun K=>?_|refine t_br (fun hc=>?_) fun hc=>?_|refine t_bx ?_|apply And.intro|intro vr)|exact kpd
          |((with_reducible first|refine ny ?_|refine t_kLF ?_ ?_|refine t_drawE (id:=8) (fun i=>i==0) [(0,1),(1,1),(2,1),(3,1),(4,1),(5,1),(6,1),(7,1),(8,0),(9,0)] (by kernel_rfl) fun K=>?_|refine t_dwh (h:=fun K KL=>?_));intros;simp only [go_sem,kp57,geff,g3,h5,h6,Int.toNat_natCast,arrs_length,arrV,Bool.not_false,Bool.not_true,ints_append]))
         all_goals try exact nd
         refine ⟨⟨i+1,v+1,acc++(L.getD i nilA).x,by omega,by rw [List.length_append];omega,hF⟩,by first|(simp only;omega)|omega,?_⟩
         simp only [updL_nil,updL_cons,delF_top,delF_upd,Nat.reduceEqDiff,reduceIte]
         refine le_backD (by first|rfl|(simp only [go_sem];try rfl)) (by first|exact Nat.zero_le _|simp) (by first|rfl|simp [lowO,low_lit,low_sl,low_ref,low_arr]) ?_ ?_
         ·repeat' (first|exact low_top|(refine low_upd rfl ?_))
         repeat' (first|exact leF_top _|exact (fun _=>LeR.refl _)|(with_reducible refine leF_sl ?_ ?_)|(refine leF_upd ?_ ?_))
         all_goals (first|exact LeR.top _|exact LeR.refl _|(refine LeR.of_eq ?_;(try simp only [go_sem]);try rfl)|((try simp only [go_sem]);try rfl))
      ·have g3:decide ((i:Int)<(L.length:Int))=false:=decide_eq_false (by omega)
       rw [List.drop_eq_nil_of_le hc,jnG] at hF
       cases hF
       rw [if_neg (by simp)] at hR
       have hl2:(fr++sm.d).length≤1000000:=by rw [List.length_append];omega
       generalize hS2:sizeS (fr++sm.d)=q2 at hR
       obtain ⟨n2,er2⟩:=q2
       simp only at hR
       by_cases e3:er2=0
       ·subst e3
        rw [if_neg (by simp)] at hR
        repeat' (first
         |(with_reducible first|refine nx ?_|refine t_seq fun K=>?_|refine t_br (fun hc=>?_) fun hc=>?_|refine t_bx ?_|apply And.intro|intro vr)|exact kpd
         |((with_reducible first|refine ny ?_|refine t_kLF ?_ ?_|refine t_drawE (id:=8) (fun i=>i==0) [(0,1),(1,1),(2,1),(3,1),(4,1),(5,1),(6,1),(7,1),(8,0),(9,0)] (by kernel_rfl) fun K=>?_|refine t_dwh (h:=fun K KL=>?_));intros;simp only [go_sem,kp57,geff,g3,hS2,Int.toNat_natCast,arrs_length]))
        all_goals try exact nd
        all_goals (refine nl ?_;simp only [go_sem])
        exact ae_of slK_sl slK_sl hR.symm
       ·rw [if_pos e3] at hR
        have e4:(er2 !=0)=true:=bne_iff_ne.2 e3
        repeat' (first
         |(with_reducible first|refine nx ?_|refine t_seq fun K=>?_|refine t_br (fun hc=>?_) fun hc=>?_|refine t_bx ?_|apply And.intro|intro vr)|exact kpd
         |((with_reducible first|refine ny ?_|refine t_kLF ?_ ?_|refine t_drawE (id:=8) (fun i=>i==0) [(0,1),(1,1),(2,1),(3,1),(4,1),(5,1),(6,1),(7,1),(8,0),(9,0)] (by kernel_rfl) fun K=>?_|refine t_dwh (h:=fun K KL=>?_));intros;simp only [go_sem,kp57,geff,g3,hS2,e4,Int.toNat_natCast,arrs_length]))
        all_goals try exact nd
        all_goals (refine nl ?_;simp only [go_sem])
        exact ae_of rfl rfl hR.symm
     ·rw [if_pos h3] at hR
      have h3':((L.length:Int) !=n)=true:=bne_iff_ne.2 h3
      simp only [arrV]
      refine pcR E79_ok (kp57) Tryz.func57 [.cell 6 31,.tmp 7] (h:=fun KF=>?_)
      unfold E79
      repeat' (first
       |(with_reducible first|refine nx ?_|refine t_seq fun K=>?_|refine t_br (fun hc=>?_) fun hc=>?_|refine t_bx ?_|apply And.intro|intro vr)|exact kpd
       |((with_reducible first|refine ny ?_|refine t_kLF ?_ ?_|refine t_drawE (id:=8) (fun i=>i==0) [(0,1),(1,1),(2,1),(3,1),(4,1),(5,1),(6,1),(7,1),(8,0),(9,0)] (by kernel_rfl) fun K=>?_|refine t_dwh (h:=fun K KL=>?_));intros;simp only [go_sem,kp57,geff,h1,h2,Bool.not_true,arrsOf_sl,hS,h3',arrs_length]))
      all_goals try exact nd
      all_goals try exact ho _ (by assumption)
      all_goals (refine nl ?_;simp only [go_sem])
      exact ae_of rfl rfl hR.symm
    ·rw [if_pos e0] at hR
     have e1:(er !=0)=true:=bne_iff_ne.2 e0
     simp only [arrV]
     refine pcR E79_ok (kp57) Tryz.func57 [.cell 6 31,.tmp 7] (h:=fun KF=>?_)
     unfold E79
     repeat' (first
      |(with_reducible first|refine nx ?_|refine t_seq fun K=>?_|refine t_br (fun hc=>?_) fun hc=>?_|refine t_bx ?_|apply And.intro|intro vr)|exact kpd
      |((with_reducible first|refine ny ?_|refine t_kLF ?_ ?_|refine t_drawE (id:=8) (fun i=>i==0) [(0,1),(1,1),(2,1),(3,1),(4,1),(5,1),(6,1),(7,1),(8,0),(9,0)] (by kernel_rfl) fun K=>?_|refine t_dwh (h:=fun K KL=>?_));intros;simp only [go_sem,kp57,geff,h1,h2,Bool.not_true,arrsOf_sl,hS,e1]))
     all_goals try exact nd
     all_goals try exact ho _ (by assumption)
     all_goals (refine nl ?_;simp only [go_sem])
     exact ae_of rfl rfl hR.symm
noncomputable def con57:PCon Tryz.prog where
  f:=57
  c:=fun
   |[xfr,xL,xsm]=>match slK .i64 xfr,arrsOf xL,arrOf xsm with|some fr,some L,some sm=>some (fr.length≤1000000∧L.length≤1000000∧(∀ a∈L,okA a)∧okA sm,aeV (joinS fr L sm))|_,_,_=>none
   |_=>none
  ok:=by
   intro args p r hc hp
   split at hc
   ·split at hc
    ·rename_i hfr hL hsm
     cases hc
     exact PC.weak ((fun hp:_∧_∧_∧_=>join_pc hp.1 hp.2.1 hp.2.2.1 hp.2.2.2) hp) ⟨slK_le hfr,arrsOf_le hL,arrOf_le hsm,trivial⟩
    ·cases hc
   ·cases hc
  fk:=fk57
theorem con57_f:con57.f=57:=rfl
theorem con57_c {xfr:AV} {xL:AV} {xsm:AV}:con57.c [xfr,xL,xsm]=match slK .i64 xfr,arrsOf xL,arrOf xsm with|some fr,some L,some sm=>some (fr.length≤1000000∧L.length≤1000000∧(∀ a∈L,okA a)∧okA sm,aeV (joinS fr L sm))|_,_,_=>none:=rfl
end Go.Proofs.YtcpjahmajkhchaaGreat

namespace Go.Proofs.YtcpjahmajkhchaaGreat
open Go Go.Fw
set_option maxRecDepth 20000
def iota (n:Nat):List Int:=(List.range n).map fun k:Nat=>(k:Int)
theorem iota_succ (n:Nat):iota (n+1)=iota n++[(n:Int)]:=by simp [iota,List.range_succ]
theorem iota_len (n:Nat):(iota n).length=n:=by simp [iota]
theorem iota_zero:iota 0=[]:=rfl
def primS (op:ByteArray):List Stp×Bool:=match El.typesS op with
  |none=>([],false)
  |some r=>([⟨op,0,iota r.ps.length⟩],true)
def prV (p:List Stp×Bool):AV:= .tup [.sl false 3 (stps p.1),.lit (.bool p.2)]
theorem types_len {op:ByteArray} {r:El.Rw} (h:El.typesS op=some r):r.ps.length≤3:=El.rows_ps r (List.mem_of_find?_eq_some h)
theorem types_pos {op:ByteArray} {r:El.Rw} (h:El.typesS op=some r):1≤r.ps.length:=
  (show ∀ r∈El.rowsL,1≤r.ps.length by decide) r (List.mem_of_find?_eq_some h)
theorem le_frz {n0:Nat} {f:Nat→AV} {σ:List AObj} {o e sz ver:Nat} {xs:List AV} (ho:σ[o]? =some (.arr e sz xs ver false)):Le n0 ⟨f,σ⟩ ⟨f,σ.set o (.arr e sz xs ver true)⟩:=by
  intro cx G w N a _ hr hf
  obtain ⟨G',h1,h2⟩:=Rel.freezeO hr o
  have e1:Fw.freezeO σ o=σ.set o (.arr e sz xs ver true):=by unfold Fw.freezeO;rw [ho]
  rw [e1] at h2
  exact ⟨G',h2,hf.size,hf.defers,fun j=>(hf.rel j).mono h1⟩
theorem slS_two {b:Bool} {x y:ByteArray}:slS (.sl b 1 [.lit (.string x),.lit (.string y)])=some [x,y]:=rfl
theorem slK_two {b:Bool} {x y:Int}:slK .i64 (.sl b 1 [.lit (.int .i64 x),.lit (.int .i64 y)])=some [x,y]:=rfl
theorem slK_one {b:Bool} {x:Int}:slK .i64 (.sl b 1 [.lit (.int .i64 x)])=some [x]:=rfl
theorem stp_one {p:AV} {op:ByteArray} {n:Int} {l:List Int} (h:slK .i64 p=some l):LeA (.tup [.sl true 3 [.agg [.lit (.string op),.lit (.int .i64 n),p]],.lit (.bool true)]) (prV ([⟨op,n,l⟩],true)):=
  LeA.tup ⟨stpsOf_le (by simp [stpsOf,slA,stpL,stpOf,h]),LeA.refl _,trivial⟩
attribute [go_sem] slS_two slK_two slK_one
noncomputable def A9:Env:=envJ (P:=Tryz.prog) jkR zer (fun _=>false) (fun _=>false) [El.con65] []
theorem A9_ok:EnvOk Tryz.prog A9:=envJOk zer_ok
set_option maxHeartbeats 4000000 in
theorem prim_pc {op:ByteArray}:PC Tryz.prog 34 [.lit (.string op)] (prV (primS op)):=by
  generalize hR:primS op=R
  unfold primS at hR
  cases hT:El.typesS op with
  |none=>
   rw [hT] at hR
   simp only at hR
   refine pcR A9_ok (kp34) Tryz.func34 [.tmp 2,.tmp 3] (h:=fun KF=>?_)
   unfold A9
   repeat' (first
    |(with_reducible first|refine nx ?_|refine t_seq fun K=>?_|refine t_br (fun hc=>?_) fun hc=>?_|refine t_bx ?_|apply And.intro|intro vr)
    |((with_reducible first|refine ny ?_|refine t_dwh (h:=fun K KL=>?_));intros;simp only [go_sem,kp34,geff,hT,Bool.not_false]))
   all_goals try exact nd
   all_goals (refine nl ?_;simp only [go_sem])
   rw [←hR]
   exact LeA.tup ⟨LeA.nil _ _,LeA.refl _,trivial⟩
  |some r=>
   rw [hT] at hR
   simp only at hR
   have hr:=types_len hT
   have hr1:=types_pos hT
   have z0:decide (0=r.ps.length)=false:=decide_eq_false (by omega)
   refine pcR A9_ok (kp34) Tryz.func34 [.tmp 2,.tmp 3] (h:=fun KF=>?_)
   unfold A9
   repeat' (first
    |(with_reducible first|refine nx ?_|refine t_seq fun K=>?_|refine t_br (fun hc=>?_) fun hc=>?_|refine t_bx ?_|apply And.intro|intro vr)
    |((with_reducible first|refine ny ?_|refine t_dwh (h:=fun K KL=>?_));intros;simp only [go_sem,kp34,geff,hT,Bool.not_true,strs_length]))
   all_goals try exact nd
   refine t_loopF (ι:={p:Nat×Nat // p.1≤r.ps.length}) (fun i=>[(21,.lit (.int .i64 i.1.1))]) (fun i=>[.box 78 [.lit (.string op),.lit (.int .i64 0),.arr 1 i.1.2],.arr 3 1 (ints .i64 (iota i.1.1)) i.1.2 (decide (i.1.1=r.ps.length))]) (fun i=>r.ps.length - i.1.1) ⟨(0,0),by simp⟩ ?_ ?_
   ·refine (le_nilB 0 2 3 1 (cs:=[.lit (.string op),.lit (.int .i64 0),.sl true 1 []]) rfl (by simp) nil_sl).trans ?_
    simp only [updL_nil,updL_cons,delF_top,delF_upd,Nat.reduceEqDiff,reduceIte]
    simp only [iota_zero,ints_nil,z0]
    refine Le.frameS (by first|rfl|(simp only [go_sem];try rfl)) ?_
    repeat' (first|exact leF_top _|exact (fun _=>LeR.refl _)|(with_reducible refine leF_sl ?_ ?_)|(refine leF_upd ?_ ?_))
    all_goals (first|exact LeR.top _|exact LeR.refl _|(refine LeR.of_eq ?_;(try simp only [go_sem]);try rfl)|((try simp only [go_sem]);try rfl))
   rintro ⟨⟨i,v⟩,hi⟩ K0
   simp only at hi
   have hil:=iota_len i
   rcases Nat.lt_or_ge i r.ps.length with hc|hc
   ·have g3:decide ((i:Int)<(r.ps.length:Int))=true:=decide_eq_true (by omega)
    have z1:decide (i=r.ps.length)=false:=decide_eq_false (by omega)
    repeat' (first
     |(with_reducible first|refine nx ?_|refine t_seq fun K=>?_|refine t_br (fun hc=>?_) fun hc=>?_|refine t_bx ?_|apply And.intro|intro vr)
     |((with_reducible first|refine ny ?_|refine t_dwh (h:=fun K KL=>?_));intros;simp only [go_sem,kp34,geff,g3,z1,Int.toNat_natCast,←iota_succ]))
    all_goals try exact nd
    refine ⟨⟨(i+1,v+1),by omega⟩,by show r.ps.length - (i+1)<r.ps.length - i;omega,?_⟩
    by_cases hz:i+1=r.ps.length
    ·refine (le_frz (o:=1) rfl).trans ?_
     have z2:decide (i+1=r.ps.length)=true:=decide_eq_true hz
     simp only [updL_nil,updL_cons,delF_top,delF_upd,Nat.reduceEqDiff,reduceIte,z2,List.set_cons_zero,List.set_cons_succ]
     refine Le.frameS (by first|rfl|(simp only [go_sem];try rfl)) ?_
     repeat' (first|exact leF_top _|exact (fun _=>LeR.refl _)|(with_reducible refine leF_sl ?_ ?_)|(refine leF_upd ?_ ?_))
     all_goals (first|exact LeR.top _|exact LeR.refl _|(refine LeR.of_eq ?_;(try simp only [go_sem]);try rfl)|((try simp only [go_sem]);try rfl))
    ·have z2:decide (i+1=r.ps.length)=false:=decide_eq_false hz
     simp only [updL_nil,updL_cons,delF_top,delF_upd,Nat.reduceEqDiff,reduceIte,z2]
     refine Le.frameS (by first|rfl|(simp only [go_sem];try rfl)) ?_
     repeat' (first|exact leF_top _|exact (fun _=>LeR.refl _)|(with_reducible refine leF_sl ?_ ?_)|(refine leF_upd ?_ ?_))
     all_goals (first|exact LeR.top _|exact LeR.refl _|(refine LeR.of_eq ?_;(try simp only [go_sem]);try rfl)|((try simp only [go_sem]);try rfl))
   ·have g3:decide ((i:Int)<(r.ps.length:Int))=false:=decide_eq_false (by omega)
    have e:i=r.ps.length:=by omega
    have z1:decide (i=r.ps.length)=true:=decide_eq_true e
    repeat' (first
     |(with_reducible first|refine nx ?_|refine t_seq fun K=>?_|refine t_br (fun hc=>?_) fun hc=>?_|refine t_bx ?_|apply And.intro|intro vr)
     |((with_reducible first|refine ny ?_|refine t_dwh (h:=fun K KL=>?_));intros;simp only [go_sem,kp34,geff,g3,z1,Int.toNat_natCast]))
    all_goals try exact nd
    all_goals (refine nl ?_;simp only [go_sem])
    rw [←hR,←e]
    exact stp_one slK_sl
noncomputable def con34:PCon Tryz.prog where
  f:=34
  c:=fun
   |[.lit (.string op)]=>some (True,prV (primS op))
   |_=>none
  ok:=by
   intro args p r hc hp
   split at hc
   ·cases hc;exact prim_pc
   ·cases hc
  fk:=fk34
theorem con34_f:con34.f=34:=rfl
theorem con34_c {op:ByteArray}:con34.c [.lit (.string op)]=some (True,prV (primS op)):=rfl
def fitsS (c:List Stp) (init:ByteArray) (x:Arr) (b:Bool):Int:=
  if (!b||(x.d.length:Int) !=1)=true then 13 else if (!(typS c [init,x.e]).2|| !eqS (typS c [init,x.e]).1 init)=true then 12 else 0
noncomputable def A10:Env:=envJ (P:=Tryz.prog) jkR zer (fun _=>false) (fun _=>false) [con33] []
theorem A10_ok:EnvOk Tryz.prog A10:=envJOk zer_ok
attribute [go_sem] typV
set_option maxHeartbeats 4000000 in
theorem fits_pc {c:List Stp} {init:ByteArray} {x:Arr} {b:Bool} (hc:okC c):PC Tryz.prog 46 [.sl false 3 (stps c),.lit (.string init),arrV x,.lit (.bool b)] (.lit (.int .i64 (fitsS c init x b))):=by
  generalize hR:fitsS c init x b=R
  unfold fitsS at hR
  simp only [arrV]
  cases h1:(!b||(x.d.length:Int) !=1) with
  |true=>
   rw [if_pos h1] at hR
   refine pcR A10_ok (kp46) Tryz.func46 [.tmp 8] (h:=fun KF=>?_)
   unfold A10
   repeat' (first
    |(with_reducible first|refine nx ?_|refine t_seq fun K=>?_|refine t_br (fun hc=>?_) fun hc=>?_|refine t_bx ?_|apply And.intro|intro vr)
    |((with_reducible first|refine ny ?_|refine t_dwh (h:=fun K KL=>?_));intros;simp only [go_sem,kp46,geff,h1,stpsOf_sl]))
   all_goals try exact nd
   all_goals (refine nl ?_;simp only [go_sem])
   exact LeA.of_eq (by rw [←hR])
  |false=>
   rw [if_neg (by rw [h1];decide)] at hR
   cases h2:(!(typS c [init,x.e]).2|| !eqS (typS c [init,x.e]).1 init) with
   |true=>
    rw [if_pos h2] at hR
    refine pcR A10_ok (kp46) Tryz.func46 [.tmp 8] (h:=fun KF=>?_)
    unfold A10
    repeat' (first
     |(with_reducible first|refine nx ?_|refine t_seq fun K=>?_|refine t_br (fun hc=>?_) fun hc=>?_|refine t_bx ?_|apply And.intro|intro vr)
     |((with_reducible first|refine ny ?_|refine t_dwh (h:=fun K KL=>?_));intros;simp only [go_sem,kp46,geff,h1,h2,stpsOf_sl]))
    all_goals try exact nd
    all_goals (refine nl ?_;simp only [go_sem])
    exact LeA.of_eq (by rw [←hR])
   |false=>
    rw [if_neg (by rw [h2];decide)] at hR
    refine pcR A10_ok (kp46) Tryz.func46 [.tmp 8] (h:=fun KF=>?_)
    unfold A10
    repeat' (first
     |(with_reducible first|refine nx ?_|refine t_seq fun K=>?_|refine t_br (fun hc=>?_) fun hc=>?_|refine t_bx ?_|apply And.intro|intro vr)
     |((with_reducible first|refine ny ?_|refine t_dwh (h:=fun K KL=>?_));intros;simp only [go_sem,kp46,geff,h1,h2,stpsOf_sl]))
    all_goals try exact nd
    all_goals (refine nl ?_;simp only [go_sem])
    exact LeA.of_eq (by rw [←hR])
noncomputable def con46:PCon Tryz.prog where
  f:=46
  c:=fun
   |[xc,.lit (.string init),xx,.lit (.bool b)]=>match stpsOf xc,arrOf xx with|some c,some x=>some (okC c,.lit (.int .i64 (fitsS c init x b)))|_,_=>none
   |_=>none
  ok:=by
   intro args p r hc hp
   split at hc
   ·split at hc
    ·rename_i hc hx
     cases hc
     exact PC.weak (fits_pc hp) ⟨stpsOf_le hc,LeA.refl _,arrOf_le hx,LeA.refl _,trivial⟩
    ·cases hc
   ·cases hc
  fk:=fk46
theorem con46_f:con46.f=46:=rfl
theorem con46_c {xc:AV} {init:ByteArray} {xx:AV} {b:Bool}:con46.c [xc,.lit (.string init),xx,.lit (.bool b)]=match stpsOf xc,arrOf xx with|some c,some x=>some (okC c,.lit (.int .i64 (fitsS c init x b)))|_,_=>none:=rfl
attribute [go_sem] con34_f con34_c con46_f con46_c
end Go.Proofs.YtcpjahmajkhchaaGreat

namespace Go.Proofs.YtcpjahmajkhchaaGreat
open Go Go.Fw
set_option maxRecDepth 20000
def foldG (c:List Stp):List Int→Int→Int
  |[],n=>n
  |k::t,n=>foldG c t (runS c [n,k]).1
def foldS (c:List Stp) (a x:Arr):Arr×Int:=
  if (!(ofE a==0)|| !(ofE x==0)|| !validC c 2)=true then (nilA,1)
  else if fitsS c a.e x ((a.d.length:Int)==0)≠0 then (nilA,fitsS c a.e x ((a.d.length:Int)==0)) else ofS ⟨a.e,[],[foldG c x.x (a.x.getD 0 0)]⟩
theorem fits_zero {c:List Stp} {e:ByteArray} {x:Arr} {b:Bool} (h:fitsS c e x b=0):b=true∧x.d.length=1∧(typS c [e,x.e]).2=true∧eqS (typS c [e,x.e]).1 e=true:=by
  unfold fitsS at h
  split at h
  ·cases h
  ·rename_i h1
   split at h
   ·cases h
   ·rename_i h2
    simp only [Bool.or_eq_true,not_or,Bool.not_eq_true',Bool.not_eq_false,bne_iff_ne,ne_eq,Decidable.not_not] at h1 h2
    exact ⟨h1.1,by omega,h2.1,h2.2⟩
theorem one_datum {a:Arr} (h0:ofE a=0) (hd:((a.d.length:Int)==0)=true):a.x.length=1:=by
  have:a.d=[]:=List.eq_nil_of_length_eq_zero (by simpa using hd)
  have hs:=(ofE_inv h0).2.1
  rw [this] at hs
  have:sizeS []=(1,0):=by decide
  rw [this] at hs
  have:=congrArg Prod.fst hs
  simp only at this;omega
attribute [go_sem] con45_f con45_c con47_f con47_c slK_nil runV aeV_def
noncomputable def A11:Env:=envJ (P:=Tryz.prog) jkR zer (fun _=>false) (fun _=>false) [con45,con13,con46,con11,con47] []
theorem A11_ok:EnvOk Tryz.prog A11:=envJOk zer_ok
set_option maxHeartbeats 4000000 in
theorem fold_pc {c:List Stp} {a x:Arr} (hc0:okC c) (ha:okA a) (hx:okA x):PC Tryz.prog 16 [.sl false 3 (stps c),arrV a,arrV x] (aeV (foldS c a x)):=by
  generalize hR:foldS c a x=R
  unfold foldS at hR
  obtain ⟨a1,a2⟩:=ha
  obtain ⟨x1,x2⟩:=hx
  simp only [arrV]
  cases h1:(!(ofE a==0)|| !(ofE x==0)|| !validC c 2) with
  |true=>
   rw [if_pos h1] at hR
   have h1':(!(ofE ⟨a.e,a.d,a.x⟩==0)|| !(ofE ⟨x.e,x.d,x.x⟩==0)|| !validC c 2)=true:=h1
   refine pcR A11_ok (kp16) Tryz.func16 [.cell 6 31,.tmp 7] (h:=fun KF=>?_)
   unfold A11
   repeat' (first
    |(with_reducible first|refine nx ?_|refine t_seq fun K=>?_|refine t_br (fun hc=>?_) fun hc=>?_|refine t_bx ?_|apply And.intro|intro vr)
    |((with_reducible first|refine ny ?_|refine t_dwh (h:=fun K KL=>?_));intros;simp only [go_sem,kp16,geff,h1',stpsOf_sl]))
   all_goals try exact nd
   all_goals (refine nl ?_;simp only [go_sem])
   exact ae_of rfl rfl hR.symm
  |false=>
   rw [if_neg (by rw [h1];decide)] at hR
   have h1':(!(ofE ⟨a.e,a.d,a.x⟩==0)|| !(ofE ⟨x.e,x.d,x.x⟩==0)|| !validC c 2)=false:=h1
   have hq:(ofE a=0∧ofE x=0)∧validC c 2=true:=by
     simp only [Bool.or_eq_false_iff,Bool.not_eq_false',beq_iff_eq] at h1;exact h1
   generalize hE:fitsS c a.e x ((a.d.length:Int)==0)=e at hR
   have hE':fitsS c a.e ⟨x.e,x.d,x.x⟩ ((a.d.length:Int)==0)=e:=hE
   by_cases h2:e=0
   ·subst h2
    rw [if_neg (by simp)] at hR
    obtain ⟨f1,f2,f3,f4⟩:=fits_zero hE
    have hl1:=one_datum hq.1.1 f1
    generalize hG:foldG c x.x (a.x.getD 0 0)=G at hR
    generalize hO:ofS ⟨a.e,[],[G]⟩=O at hR
    obtain ⟨oa,oe⟩:=O
    refine pcR A11_ok (kp16) Tryz.func16 [.cell 6 31,.tmp 7] (h:=fun KF=>?_)
    unfold A11
    repeat' (first
     |(with_reducible first|refine nx ?_|refine t_seq fun K=>?_|refine t_br (fun hc=>?_) fun hc=>?_|refine t_bx ?_|apply And.intro|intro vr)
     |((with_reducible first|refine ny ?_|refine t_dwh (h:=fun K KL=>?_));intros;simp only [go_sem,kp16,geff,h1',hE',stpsOf_sl]))
    all_goals try exact nd
    refine t_loopF (ι:={p:Nat×Int // p.1≤x.x.length∧foldG c (x.x.drop p.1) p.2=G}) (fun i=>[(46,.lit (.int .i64 i.1.1)),(9,.lit (.int .i64 i.1.2))]) (fun i=>[.box 31 [.lit (.string a.e),.sl false 1 (ints .i64 a.d),.sl false 1 (ints .i64 a.x)],.box 31 [.lit (.string x.e),.sl false 1 (ints .i64 x.d),.sl false 1 (ints .i64 x.x)],.box 31 [.lit (.string ByteArray.empty),.sl true 1 [],.sl true 1 []]]) (fun i=>x.x.length - i.1.1) ⟨(0,a.x.getD 0 0),by simpa using hG⟩ ?_ ?_
    ·exact lf
    rintro ⟨⟨i,n⟩,hi,hF⟩ K0
    simp only at hi hF
    rcases Nat.lt_or_ge i x.x.length with hc|hc
    ·rw [drop_getD 0 hc,foldG] at hF
     have g3:decide ((i:Int)<(x.x.length:Int))=true:=decide_eq_true (by omega)
     repeat' (first
      |(with_reducible first|refine nx ?_|refine t_seq fun K=>?_|refine t_br (fun hc=>?_) fun hc=>?_|refine t_bx ?_|apply And.intro|intro vr)
      |((with_reducible first|refine ny ?_|refine t_dwh (h:=fun K KL=>?_));intros;simp only [go_sem,kp16,geff,g3,stpsOf_sl,Int.toNat_natCast]))
     all_goals try exact nd
     exact ⟨⟨(i+1,(runS c [n,x.x.getD i 0]).1),by omega,hF⟩,wf,lf⟩
    ·have g3:decide ((i:Int)<(x.x.length:Int))=false:=decide_eq_false (by omega)
     rw [List.drop_eq_nil_of_le hc,foldG] at hF
     subst hF
     repeat' (first
      |(with_reducible first|refine nx ?_|refine t_seq fun K=>?_|refine t_br (fun hc=>?_) fun hc=>?_|refine t_bx ?_|apply And.intro|intro vr)
      |((with_reducible first|refine ny ?_|refine t_dwh (h:=fun K KL=>?_));intros;simp only [go_sem,kp16,geff,g3,hO,arrV,Int.toNat_natCast]))
     all_goals try exact nd
     all_goals (refine nl ?_;simp only [go_sem])
     exact ae_of slK_sl slK_sl hR.symm
   ·rw [if_pos h2] at hR
    have h2':(e !=0)=true:=bne_iff_ne.2 h2
    refine pcR A11_ok (kp16) Tryz.func16 [.cell 6 31,.tmp 7] (h:=fun KF=>?_)
    unfold A11
    repeat' (first
     |(with_reducible first|refine nx ?_|refine t_seq fun K=>?_|refine t_br (fun hc=>?_) fun hc=>?_|refine t_bx ?_|apply And.intro|intro vr)
     |((with_reducible first|refine ny ?_|refine t_dwh (h:=fun K KL=>?_));intros;simp only [go_sem,kp16,geff,h1',hE',h2',stpsOf_sl]))
    all_goals try exact nd
    all_goals (refine nl ?_;simp only [go_sem])
    exact ae_of rfl rfl hR.symm
noncomputable def con16:PCon Tryz.prog where
  f:=16
  c:=fun
   |[xc,xa,xx]=>match stpsOf xc,arrOf xa,arrOf xx with|some c,some a,some x=>some (okC c∧okA a∧okA x,aeV (foldS c a x))|_,_,_=>none
   |_=>none
  ok:=by
   intro args p r hc hp
   split at hc
   ·split at hc
    ·rename_i hc ha hx
     cases hc
     exact PC.weak ((fun hp:_∧_∧_=>fold_pc hp.1 hp.2.1 hp.2.2) hp) ⟨stpsOf_le hc,arrOf_le ha,arrOf_le hx,trivial⟩
    ·cases hc
   ·cases hc
  fk:=fk16
theorem con16_f:con16.f=16:=rfl
theorem con16_c {xc:AV} {xa:AV} {xx:AV}:con16.c [xc,xa,xx]=match stpsOf xc,arrOf xa,arrOf xx with|some c,some a,some x=>some (okC c∧okA a∧okA x,aeV (foldS c a x))|_,_,_=>none:=rfl
attribute [go_sem] con16_f con16_c
end Go.Proofs.YtcpjahmajkhchaaGreat

namespace Go.Proofs.YtcpjahmajkhchaaGreat
open Go Go.Fw
set_option maxRecDepth 20000
attribute [go_sem] con22_f con22_c con48_f con48_c
end Go.Proofs.YtcpjahmajkhchaaGreat

namespace Go.Proofs.YtcpjahmajkhchaaGreat
open Go Go.Fw
set_option maxRecDepth 20000
def scanG (c:List Stp):List Int→List Int→List Int
  |[],acc=>acc
  |n::t,acc=>scanG c t (acc++[if acc=[] then n else (runS c [lastI acc,n]).1])
def scanP (c:List Stp) (x:Arr):Arr×Int:=
  if (!(ofE x==0)|| !validC c 2)=true then (nilA,1) else if fitsS c x.e x true≠0 then (nilA,fitsS c x.e x true) else (⟨x.e,x.d,scanG c x.x []⟩,0)
theorem scanG_len {c:List Stp}:∀ (l acc:List Int),(scanG c l acc).length=acc.length+l.length
  |[],acc=>rfl
  |n::t,acc=>by rw [scanG,scanG_len t];simp;omega
end Go.Proofs.YtcpjahmajkhchaaGreat

namespace Go.Proofs.YtcpjahmajkhchaaGreat
open Go Go.Fw
set_option maxRecDepth 20000
noncomputable def A14:Env:=envJ (P:=Tryz.prog) jkR zer (fun _=>false) (fun _=>false) [] []
theorem A14_ok:EnvOk Tryz.prog A14:=envJOk zer_ok
theorem clone_ec {σ:List AObj} {l:List Int} {k:AV→List AObj→Prop} (hl:l.length≤1000000) (hk:k (.arr σ.length 0) (σ++[.arr 3 1 (ints .i64 l) 0 false])):EC Tryz.prog 71 [.sl false 1 (ints .i64 l)] σ k:=by
  refine EC.nilArr 3 1 ?_
  refine ecR A14_ok (kp71) Tryz.func71 [.tmp 2] (h:=fun KF=>?_)
  unfold A14
  repeat' (first
   |(with_reducible first|refine nx ?_|refine t_seq fun K=>?_|refine t_br (fun hc=>?_) fun hc=>?_|refine t_bx ?_|apply And.intro|intro vr)
   |((with_reducible first|refine ny ?_|refine t_dwh (h:=fun K KL=>?_));intros;simp only [go_sem,kp71,geff]))
  all_goals try exact nd
  all_goals (refine nl ?_;simp only [go_sem])
  ·exact .inr (by simp_all [ints])
  ·exact .inl hk
noncomputable def ecn71:ECon Tryz.prog where
  f:=71
  c:=fun args σ k=>match args with
   |[xl]=>match slK .i64 xl with|some l=>l.length≤1000000∧k (.arr σ.length 0) (σ++[.arr 3 1 (ints .i64 l) 0 false])|_=>False
   |_=>False
  ok:=by
   intro args σ k h
   split at h
   ·split at h
    ·rename_i hl
     exact EC.weak (clone_ec h.1 h.2) (LeRL.cons (slK_leR hl) (LeRL.nil))
    ·exact h.elim
   ·exact h.elim
  fk:=fk71
theorem ecn71_f:ecn71.f=71:=rfl
theorem ecn71_c {xl:AV} {σ:List AObj} {k:AV→List AObj→Prop}:ecn71.c [xl] σ k=match slK .i64 xl with|some l=>l.length≤1000000∧k (.arr σ.length 0) (σ++[.arr 3 1 (ints .i64 l) 0 false])|_=>False:=rfl
attribute [go_sem] con69_f con69_c con70_f con70_c ecn71_f ecn71_c
noncomputable def A15:Env:=envJ (P:=Tryz.prog) jkR zer (fun _=>false) (fun _=>false) [con69,con70] [ecn71]
theorem A15_ok:EnvOk Tryz.prog A15:=envJOk zer_ok
set_option maxHeartbeats 2000000 in
theorem of_ec {σ:List AObj} {e:ByteArray} {d x:List Int} {k:AV→List AObj→Prop} (hd:d.length≤1000000) (hx:x.length≤1000000) (h0:ofE ⟨e,d,x⟩=0)
    (hk:k (.tup [.agg [.lit (.string e),.arr (σ.length+1) 0,.arr (σ.length+2) 0],.lit (.int .i64 0)]) (σ++[.box 31 [.lit (.string e),.arr (σ.length+1) 0,.arr (σ.length+2) 0],.arr 3 1 (ints .i64 d) 0 false,.arr 3 1 (ints .i64 x) 0 false])):
    EC Tryz.prog 47 [.lit (.string e),.sl false 1 (ints .i64 d),.sl false 1 (ints .i64 x)] σ k:=by
  have hz:=sizeS_bd d
  refine ecR A15_ok (kp47) Tryz.func47 [.cell 6 31,.tmp 7] (h:=fun KF=>?_)
  unfold A15
  repeat' (first
   |(with_reducible first|refine nx ?_|refine t_seq fun K=>?_|refine t_br (fun hc=>?_) fun hc=>?_|refine t_bx ?_|apply And.intro|intro vr)
   |((with_reducible first|refine ny ?_|refine t_dwh (h:=fun K KL=>?_));intros;simp only [go_sem,kp47,geff]))
  all_goals try exact nd
  all_goals (refine nl ?_;simp only [go_sem])
  ·exfalso;simp_all [ofE,sInt,sBool]
  ·exfalso;revert h0;simp_all [ofE,sInt,sBool];split<;>simp_all
  ·exfalso;revert h0;simp_all [ofE,sInt,sBool];split<;>simp_all
  ·exfalso;revert h0;simp_all [ofE,sInt,sBool];split<;>simp_all
  ·exact hk
noncomputable def ecn47:ECon Tryz.prog where
  f:=47
  c:=fun args σ k=>match args with
   |[.lit (.string e),xd,xx]=>match slK .i64 xd,slK .i64 xx with|some d,some x=>d.length≤1000000∧x.length≤1000000∧ofE ⟨e,d,x⟩=0∧k (.tup [.agg [.lit (.string e),.arr (σ.length+1) 0,.arr (σ.length+2) 0],.lit (.int .i64 0)]) (σ++[.box 31 [.lit (.string e),.arr (σ.length+1) 0,.arr (σ.length+2) 0],.arr 3 1 (ints .i64 d) 0 false,.arr 3 1 (ints .i64 x) 0 false])|_,_=>False
   |_=>False
  ok:=by
   intro args σ k h
   split at h
   ·split at h
    ·rename_i hd hx
     exact EC.weak (of_ec h.1 h.2.1 h.2.2.1 h.2.2.2) (LeRL.cons (LeR.refl _) (LeRL.cons (slK_leR hd) (LeRL.cons (slK_leR hx) (LeRL.nil))))
    ·exact h.elim
   ·exact h.elim
  fk:=fk47
theorem ecn47_f:ecn47.f=47:=rfl
theorem ecn47_c {e:ByteArray} {xd:AV} {xx:AV} {σ:List AObj} {k:AV→List AObj→Prop}:ecn47.c [.lit (.string e),xd,xx] σ k=match slK .i64 xd,slK .i64 xx with|some d,some x=>d.length≤1000000∧x.length≤1000000∧ofE ⟨e,d,x⟩=0∧k (.tup [.agg [.lit (.string e),.arr (σ.length+1) 0,.arr (σ.length+2) 0],.lit (.int .i64 0)]) (σ++[.box 31 [.lit (.string e),.arr (σ.length+1) 0,.arr (σ.length+2) 0],.arr 3 1 (ints .i64 d) 0 false,.arr 3 1 (ints .i64 x) 0 false])|_,_=>False:=rfl
attribute [go_sem] ecn47_f ecn47_c ints_set
end Go.Proofs.YtcpjahmajkhchaaGreat

namespace Go.Proofs.YtcpjahmajkhchaaGreat
open Go Go.Fw
set_option maxRecDepth 20000
structure Sd (c:List Stp) (x G:List Int) where
  i:Nat
  acc:List Int
  hi:i≤x.length
  hp:1≤i
  hn:acc.length=i
  hF:scanG c (x.drop i) acc=G
theorem set_mid {acc:List Int} {a:Int} {t:List Int} {v:Int} {i:Nat} (h:acc.length=i):(acc++a::t).set i v=(acc++[v])++t:=by
  subst h;simp
theorem get_mid {acc:List Int} {a:Int} {t:List Int} {i:Nat} (h:acc.length=i):(acc++a::t).getD i 0=a:=by
  subst h;simp
theorem get_pre {acc t:List Int} {i:Nat} (h:acc.length=i) (h1:1≤i):(acc++t).getD (i - 1) 0=lastI acc:=by
  subst h
  unfold lastI
  rw [List.getD_eq_getElem?_getD,List.getD_eq_getElem?_getD,List.getElem?_append_left (by omega)]
noncomputable def A16:Env:=envJ (P:=Tryz.prog) jkR zer (fun _=>false) (fun _=>false) [con45,con13,con46,con11] [ecn47]
theorem A16_ok:EnvOk Tryz.prog A16:=envJOk zer_ok
set_option maxHeartbeats 4000000 in
theorem scan_pc {c:List Stp} {x:Arr} (hc0:okC c) (hx:okA x):PC Tryz.prog 18 [.sl false 3 (stps c),arrV x] (aeV (scanP c x)):=by
  generalize hR:scanP c x=R
  unfold scanP at hR
  obtain ⟨x1,x2⟩:=hx
  simp only [arrV]
  cases h1:(!(ofE x==0)|| !validC c 2) with
  |true=>
   rw [if_pos h1] at hR
   have h1':(!(ofE ⟨x.e,x.d,x.x⟩==0)|| !validC c 2)=true:=h1
   refine pcR A16_ok (kp18) Tryz.func18 [.cell 4 31,.tmp 5] (h:=fun KF=>?_)
   unfold A16
   repeat' (first
    |(with_reducible first|refine nx ?_|refine t_seq fun K=>?_|refine t_br (fun hc=>?_) fun hc=>?_|refine t_bx ?_|apply And.intro|intro vr)|exact kpd
    |((with_reducible first|refine ny ?_|refine t_kLF ?_ ?_|refine t_drawE (id:=10) (fun i=>i==5) [(0,1),(1,1),(2,1),(3,1),(4,1),(5,1),(6,1),(7,1),(8,2),(9,2),(10,1),(11,1),(12,1),(13,2),(14,2),(15,1),(16,1),(17,1),(18,1),(19,1),(20,2),(21,0)] (by kernel_rfl) fun K=>?_|refine t_dwh (h:=fun K KL=>?_));intros;simp only [go_sem,kp18,geff,h1',stpsOf_sl]))
   all_goals try exact nd
   all_goals (refine nl ?_;simp only [go_sem])
   exact ae_of rfl rfl hR.symm
  |false=>
   rw [if_neg (by rw [h1];decide)] at hR
   have h1':(!(ofE ⟨x.e,x.d,x.x⟩==0)|| !validC c 2)=false:=h1
   have hq:ofE x=0∧validC c 2=true:=by
     simp only [Bool.or_eq_false_iff,Bool.not_eq_false',beq_iff_eq] at h1;exact h1
   generalize hE:fitsS c x.e x true=e at hR
   have hE':fitsS c x.e ⟨x.e,x.d,x.x⟩ true=e:=hE
   by_cases h2:e=0
   ·subst h2
    rw [if_neg (by simp)] at hR
    have hxl:x.x.length≤4096:=by have:=(sizeS_ok (ofE_inv hq.1).2.1).2.2.2;omega
    have hsl:=scanG_len (c:=c) x.x []
    have h0':ofE ⟨x.e,x.d,x.x⟩=0:=hq.1
    have hv2:=hq.2
    rcases Nat.eq_zero_or_pos x.x.length with hz0|hl1
    ·have hX:x.x=[]:=List.eq_nil_of_length_eq_zero hz0
     rw [hX] at hR
     rw [hX] at h1' hE' h0'
     refine pcR A16_ok (kp18) Tryz.func18 [.cell 4 31,.tmp 5] (h:=fun KF=>?_)
     unfold A16
     repeat' (first
      |(with_reducible first|refine nx ?_|refine t_seq fun K=>?_|refine t_br (fun hc=>?_) fun hc=>?_|refine t_bx ?_|apply And.intro|intro vr)|exact kpd
      |((with_reducible first|refine ny ?_|refine t_kLF ?_ ?_|refine t_drawE (id:=10) (fun i=>i==5) [(0,1),(1,1),(2,1),(3,1),(4,1),(5,1),(6,1),(7,1),(8,2),(9,2),(10,1),(11,1),(12,1),(13,2),(14,2),(15,1),(16,1),(17,1),(18,1),(19,1),(20,2),(21,0)] (by kernel_rfl) fun K=>?_|refine t_dwh (h:=fun K KL=>?_));intros;simp only [go_sem,kp18,geff,hX,h1',hE',h0',hv2,Bool.not_true,beq_self_eq_true,stpsOf_sl,ints_nil]))
     all_goals try exact nd
     refine t_loopF (ι:=Unit) (fun i=>[(9,.lit (.int .i64 1))]) (fun i=>[.box 31 [.lit (.string x.e),.sl false 1 (ints .i64 x.d),.sl false 1 []],.box 31 [.lit (.string ByteArray.empty),.sl true 1 [],.sl true 1 []],.box 31 [.lit (.string x.e),.arr 3 0,.arr 4 0],.arr 3 1 (ints .i64 x.d) 0 false,.arr 3 1 [] 0 false,.box 31 [.lit (.string x.e),.arr 3 0,.arr 4 0]]) (fun i=>0) () ?_ ?_
     ·exact lf
     rintro _ K0
     repeat' (first
      |(with_reducible first|refine nx ?_|refine t_seq fun K=>?_|refine t_br (fun hc=>?_) fun hc=>?_|refine t_bx ?_|apply And.intro|intro vr)|exact kpd
      |((with_reducible first|refine ny ?_|refine t_kLF ?_ ?_|refine t_drawE (id:=10) (fun i=>i==5) [(0,1),(1,1),(2,1),(3,1),(4,1),(5,1),(6,1),(7,1),(8,2),(9,2),(10,1),(11,1),(12,1),(13,2),(14,2),(15,1),(16,1),(17,1),(18,1),(19,1),(20,2),(21,0)] (by kernel_rfl) fun K=>?_|refine t_dwh (h:=fun K KL=>?_));intros;simp only [go_sem,kp18,geff,Int.toNat_natCast]))
     all_goals try exact nd
     all_goals (refine nl ?_;simp only [go_sem])
     exact ae_of slK_sl rfl hR.symm
    ·obtain ⟨a0,hX0⟩:∃ a0,x.x=[a0]++x.x.drop 1:=by
       rcases hh:x.x with _|⟨a0,t0⟩
       ·rw [hh] at hl1;simp at hl1
       ·exact ⟨a0,rfl⟩
     generalize hG:scanG c x.x []=G at hR hsl
     have hG1:scanG c (x.x.drop 1) [a0]=G:=by
       rw [←hG]
       conv=>rhs;rw [hX0]
       rfl
     refine pcR A16_ok (kp18) Tryz.func18 [.cell 4 31,.tmp 5] (h:=fun KF=>?_)
     unfold A16
     repeat' (first
      |(with_reducible first|refine nx ?_|refine t_seq fun K=>?_|refine t_br (fun hc=>?_) fun hc=>?_|refine t_bx ?_|apply And.intro|intro vr)|exact kpd
      |((with_reducible first|refine ny ?_|refine t_kLF ?_ ?_|refine t_drawE (id:=10) (fun i=>i==5) [(0,1),(1,1),(2,1),(3,1),(4,1),(5,1),(6,1),(7,1),(8,2),(9,2),(10,1),(11,1),(12,1),(13,2),(14,2),(15,1),(16,1),(17,1),(18,1),(19,1),(20,2),(21,0)] (by kernel_rfl) fun K=>?_|refine t_dwh (h:=fun K KL=>?_));intros;simp only [go_sem,kp18,geff,h1',hE',h0',hv2,Bool.not_true,beq_self_eq_true,stpsOf_sl]))
     all_goals try exact nd
     refine t_loopF (ι:=Sd c x.x G) (fun i=>[(9,.lit (.int .i64 i.i))]) (fun i=>[.box 31 [.lit (.string x.e),.sl false 1 (ints .i64 x.d),.sl false 1 (ints .i64 x.x)],.box 31 [.lit (.string ByteArray.empty),.sl true 1 [],.sl true 1 []],.box 31 [.lit (.string x.e),.arr 3 0,.arr 4 0],.arr 3 1 (ints .i64 x.d) 0 false,.arr 3 1 (ints .i64 (i.acc++x.x.drop i.i)) 0 false,.box 31 [.lit (.string x.e),.arr 3 0,.arr 4 0]]) (fun i=>x.x.length - i.i) ⟨1,[a0],by omega,by omega,rfl,hG1⟩ ?_ ?_
     ·simp only [updL_nil,updL_cons,delF_top,delF_upd,Nat.reduceEqDiff,reduceIte,←hX0]
      refine Le.frameS (by first|rfl|(simp only [go_sem];try rfl)) ?_
      repeat' (first|exact leF_top _|exact (fun _=>LeR.refl _)|(with_reducible refine leF_sl ?_ ?_)|(refine leF_upd ?_ ?_))
      all_goals (first|exact LeR.top _|exact LeR.refl _|(refine LeR.of_eq ?_;(try simp only [go_sem]);try rfl)|((try simp only [go_sem]);try rfl))
     rintro ⟨i,acc,hi,hp,hn,hF⟩ K0
     simp only
     have hla:(acc++x.x.drop i).length=x.x.length:=by rw [List.length_append,List.length_drop];omega
     rcases Nat.lt_or_ge i x.x.length with hc|hc
     ·have hdr:=drop_getD (0:Int) hc
      have hsc:scanG c (x.x.drop i) acc=scanG c (x.x.drop (i+1)) (acc++[(runS c [lastI acc,x.x.getD i 0]).1]):=by
        rw [hdr,scanG,if_neg (fun e=>by rw [e] at hn;simp at hn;omega)]
      have g3:decide ((i:Int)<(x.x.length:Int))=true:=decide_eq_true (by omega)
      have e1:((i:Int) - 1).toNat=i - 1:=by omega
      have p1:=get_pre (t:=x.x.drop i) hn hp
      have p2:(acc++x.x.drop i).getD i 0=x.x.getD i 0:=by rw [hdr];exact get_mid hn
      have p3:∀ v,(acc++x.x.drop i).set i v=(acc++[v])++x.x.drop (i+1):=fun v=>by rw [hdr];exact set_mid hn
      repeat' (first
       |(with_reducible first|refine nx ?_|refine t_seq fun K=>?_|refine t_br (fun hc=>?_) fun hc=>?_|refine t_bx ?_|apply And.intro|intro vr)|exact kpd
       |((with_reducible first|refine ny ?_|refine t_kLF ?_ ?_|refine t_drawE (id:=10) (fun i=>i==5) [(0,1),(1,1),(2,1),(3,1),(4,1),(5,1),(6,1),(7,1),(8,2),(9,2),(10,1),(11,1),(12,1),(13,2),(14,2),(15,1),(16,1),(17,1),(18,1),(19,1),(20,2),(21,0)] (by kernel_rfl) fun K=>?_|refine t_dwh (h:=fun K KL=>?_));intros;simp only [go_sem,kp18,geff,g3,hla,e1,p1,p2,p3,stpsOf_sl,Int.toNat_natCast,yes,ints_set]))
      all_goals try exact nd
      all_goals trace_state
      exact ⟨⟨i+1,acc++[(runS c [lastI acc,x.x.getD i 0]).1],by omega,by omega,by simp;omega,by rw [←hsc];exact hF⟩,wf,lf⟩
     ·have g3:decide ((i:Int)<(x.x.length:Int))=false:=decide_eq_false (by omega)
      rw [List.drop_eq_nil_of_le hc,scanG] at hF
      subst hF
      have p4:acc++x.x.drop i=acc:=by rw [List.drop_eq_nil_of_le hc,List.append_nil]
      rw [p4] at hla
      repeat' (first
       |(with_reducible first|refine nx ?_|refine t_seq fun K=>?_|refine t_br (fun hc=>?_) fun hc=>?_|refine t_bx ?_|apply And.intro|intro vr)|exact kpd
       |((with_reducible first|refine ny ?_|refine t_kLF ?_ ?_|refine t_drawE (id:=10) (fun i=>i==5) [(0,1),(1,1),(2,1),(3,1),(4,1),(5,1),(6,1),(7,1),(8,2),(9,2),(10,1),(11,1),(12,1),(13,2),(14,2),(15,1),(16,1),(17,1),(18,1),(19,1),(20,2),(21,0)] (by kernel_rfl) fun K=>?_|refine t_dwh (h:=fun K KL=>?_));intros;simp only [go_sem,kp18,geff,g3,hla,p4,Int.toNat_natCast]))
      all_goals try exact nd
      all_goals (refine nl ?_;simp only [go_sem])
      exact ae_of slK_sl slK_sl hR.symm
   ·rw [if_pos h2] at hR
    have h2':(e !=0)=true:=bne_iff_ne.2 h2
    refine pcR A16_ok (kp18) Tryz.func18 [.cell 4 31,.tmp 5] (h:=fun KF=>?_)
    unfold A16
    repeat' (first
     |(with_reducible first|refine nx ?_|refine t_seq fun K=>?_|refine t_br (fun hc=>?_) fun hc=>?_|refine t_bx ?_|apply And.intro|intro vr)|exact kpd
     |((with_reducible first|refine ny ?_|refine t_kLF ?_ ?_|refine t_drawE (id:=10) (fun i=>i==5) [(0,1),(1,1),(2,1),(3,1),(4,1),(5,1),(6,1),(7,1),(8,2),(9,2),(10,1),(11,1),(12,1),(13,2),(14,2),(15,1),(16,1),(17,1),(18,1),(19,1),(20,2),(21,0)] (by kernel_rfl) fun K=>?_|refine t_dwh (h:=fun K KL=>?_));intros;simp only [go_sem,kp18,geff,h1',hE',h2',stpsOf_sl]))
    all_goals try exact nd
    all_goals (refine nl ?_;simp only [go_sem])
    exact ae_of rfl rfl hR.symm
noncomputable def con18:PCon Tryz.prog where
  f:=18
  c:=fun
   |[xc,xx]=>match stpsOf xc,arrOf xx with|some c,some x=>some (okC c∧okA x,aeV (scanP c x))|_,_=>none
   |_=>none
  ok:=by
   intro args p r hc hp
   split at hc
   ·split at hc
    ·rename_i hc hx
     cases hc
     exact PC.weak ((fun hp:_∧_=>scan_pc hp.1 hp.2) hp) ⟨stpsOf_le hc,arrOf_le hx,trivial⟩
    ·cases hc
   ·cases hc
  fk:=fk18
theorem con18_f:con18.f=18:=rfl
theorem con18_c {xc:AV} {xx:AV}:con18.c [xc,xx]=match stpsOf xc,arrOf xx with|some c,some x=>some (okC c∧okA x,aeV (scanP c x))|_,_=>none:=rfl
attribute [go_sem] con18_f con18_c
end Go.Proofs.YtcpjahmajkhchaaGreat

namespace Go.Proofs.YtcpjahmajkhchaaGreat
open Go Go.Fw
set_option maxRecDepth 20000
noncomputable def A17:Env:=envJ (P:=Tryz.prog) jkR zer (fun _=>false) (fun _=>false) [El.con44] []
theorem A17_ok:EnvOk Tryz.prog A17:=envJOk zer_ok
set_option maxHeartbeats 4000000 in
theorem rprim_pc {op:ByteArray}:PC Tryz.prog 35 [.lit (.string op)] (prV (primS op)):=by
  generalize hR:primS op=R
  unfold primS at hR
  cases hT:El.typesS op with
  |none=>
   rw [hT] at hR
   simp only at hR
   refine pcR A17_ok (kp35) Tryz.func35 [.tmp 2,.tmp 3] (h:=fun KF=>?_)
   unfold A17
   repeat' (first
    |(with_reducible first|refine nx ?_|refine t_seq fun K=>?_|refine t_br (fun hc=>?_) fun hc=>?_|refine t_bx ?_|apply And.intro|intro vr)
    |((with_reducible first|refine ny ?_|refine t_dwh (h:=fun K KL=>?_));intros;simp only [go_sem,kp35,geff,hT,Bool.not_false]))
   all_goals try exact nd
   all_goals (refine nl ?_;simp only [go_sem])
   rw [←hR]
   exact LeA.tup ⟨LeA.nil _ _,LeA.refl _,trivial⟩
  |some r=>
   rw [hT] at hR
   simp only at hR
   have hr:=types_len hT
   have hr1:=types_pos hT
   have z0:decide (0=r.ps.length)=false:=decide_eq_false (by omega)
   refine pcR A17_ok (kp35) Tryz.func35 [.tmp 2,.tmp 3] (h:=fun KF=>?_)
   unfold A17
   repeat' (first
    |(with_reducible first|refine nx ?_|refine t_seq fun K=>?_|refine t_br (fun hc=>?_) fun hc=>?_|refine t_bx ?_|apply And.intro|intro vr)
    |((with_reducible first|refine ny ?_|refine t_dwh (h:=fun K KL=>?_));intros;simp only [go_sem,kp35,geff,hT,Bool.not_true,strs_length]))
   all_goals try exact nd
   refine t_loopF (ι:={p:Nat×Nat // p.1≤r.ps.length}) (fun i=>[(8,.lit (.int .i64 i.1.1))]) (fun i=>[.box 78 [.lit (.string op),.lit (.int .i64 0),.arr 1 i.1.2],.arr 3 1 (ints .i64 (iota i.1.1)) i.1.2 (decide (i.1.1=r.ps.length))]) (fun i=>r.ps.length - i.1.1) ⟨(0,0),by simp⟩ ?_ ?_
   ·refine (le_nilB 0 2 3 1 (cs:=[.lit (.string op),.lit (.int .i64 0),.sl true 1 []]) rfl (by simp) nil_sl).trans ?_
    simp only [updL_nil,updL_cons,delF_top,delF_upd,Nat.reduceEqDiff,reduceIte]
    simp only [iota_zero,ints_nil,z0]
    refine Le.frameS (by first|rfl|(simp only [go_sem];try rfl)) ?_
    repeat' (first|exact leF_top _|exact (fun _=>LeR.refl _)|(with_reducible refine leF_sl ?_ ?_)|(refine leF_upd ?_ ?_))
    all_goals (first|exact LeR.top _|exact LeR.refl _|(refine LeR.of_eq ?_;(try simp only [go_sem]);try rfl)|((try simp only [go_sem]);try rfl))
   rintro ⟨⟨i,v⟩,hi⟩ K0
   simp only at hi
   have hil:=iota_len i
   rcases Nat.lt_or_ge i r.ps.length with hc|hc
   ·have g3:decide ((i:Int)<(r.ps.length:Int))=true:=decide_eq_true (by omega)
    have z1:decide (i=r.ps.length)=false:=decide_eq_false (by omega)
    repeat' (first
     |(with_reducible first|refine nx ?_|refine t_seq fun K=>?_|refine t_br (fun hc=>?_) fun hc=>?_|refine t_bx ?_|apply And.intro|intro vr)
     |((with_reducible first|refine ny ?_|refine t_dwh (h:=fun K KL=>?_));intros;simp only [go_sem,kp35,geff,g3,z1,Int.toNat_natCast,←iota_succ]))
    all_goals try exact nd
    refine ⟨⟨(i+1,v+1),by omega⟩,by show r.ps.length - (i+1)<r.ps.length - i;omega,?_⟩
    by_cases hz:i+1=r.ps.length
    ·refine (le_frz (o:=1) rfl).trans ?_
     have z2:decide (i+1=r.ps.length)=true:=decide_eq_true hz
     simp only [updL_nil,updL_cons,delF_top,delF_upd,Nat.reduceEqDiff,reduceIte,z2,List.set_cons_zero,List.set_cons_succ]
     refine Le.frameS (by first|rfl|(simp only [go_sem];try rfl)) ?_
     repeat' (first|exact leF_top _|exact (fun _=>LeR.refl _)|(with_reducible refine leF_sl ?_ ?_)|(refine leF_upd ?_ ?_))
     all_goals (first|exact LeR.top _|exact LeR.refl _|(refine LeR.of_eq ?_;(try simp only [go_sem]);try rfl)|((try simp only [go_sem]);try rfl))
    ·have z2:decide (i+1=r.ps.length)=false:=decide_eq_false hz
     simp only [updL_nil,updL_cons,delF_top,delF_upd,Nat.reduceEqDiff,reduceIte,z2]
     refine Le.frameS (by first|rfl|(simp only [go_sem];try rfl)) ?_
     repeat' (first|exact leF_top _|exact (fun _=>LeR.refl _)|(with_reducible refine leF_sl ?_ ?_)|(refine leF_upd ?_ ?_))
     all_goals (first|exact LeR.top _|exact LeR.refl _|(refine LeR.of_eq ?_;(try simp only [go_sem]);try rfl)|((try simp only [go_sem]);try rfl))
   ·have g3:decide ((i:Int)<(r.ps.length:Int))=false:=decide_eq_false (by omega)
    have e:i=r.ps.length:=by omega
    have z1:decide (i=r.ps.length)=true:=decide_eq_true e
    repeat' (first
     |(with_reducible first|refine nx ?_|refine t_seq fun K=>?_|refine t_br (fun hc=>?_) fun hc=>?_|refine t_bx ?_|apply And.intro|intro vr)
     |((with_reducible first|refine ny ?_|refine t_dwh (h:=fun K KL=>?_));intros;simp only [go_sem,kp35,geff,g3,z1,Int.toNat_natCast]))
    all_goals try exact nd
    all_goals (refine nl ?_;simp only [go_sem])
    rw [←hR,←e]
    exact stp_one slK_sl
noncomputable def con35:PCon Tryz.prog where
  f:=35
  c:=fun
   |[.lit (.string op)]=>some (True,prV (primS op))
   |_=>none
  ok:=by
   intro args p r hc hp
   split at hc
   ·cases hc;exact rprim_pc
   ·cases hc
  fk:=fk35
theorem con35_f:con35.f=35:=rfl
theorem con35_c {op:ByteArray}:con35.c [.lit (.string op)]=some (True,prV (primS op)):=rfl
attribute [go_sem] con35_f con35_c
end Go.Proofs.YtcpjahmajkhchaaGreat

namespace Go.Proofs.YtcpjahmajkhchaaGreat
open Go Go.Fw
set_option maxRecDepth 20000
noncomputable def F1:Env:=envJ (P:=Tryz.prog) jk zer (fun _=>false) (fun _=>false) [] []
theorem F1_ok:EnvOk Tryz.prog F1:=envJOk zer_ok
end Go.Proofs.YtcpjahmajkhchaaGreat

namespace Go.Proofs.YtcpjahmajkhchaaGreat
open Go Go.Fw
set_option maxRecDepth 20000
def n_iota:ByteArray:=⟨#[105,111,116,97]⟩
def n_fill:ByteArray:=⟨#[102,105,108,108]⟩
def n_take:ByteArray:=⟨#[116,97,107,101]⟩
def n_drop:ByteArray:=⟨#[100,114,111,112]⟩
def n_reverse:ByteArray:=⟨#[114,101,118,101,114,115,101]⟩
def n_append:ByteArray:=⟨#[97,112,112,101,110,100]⟩
def n_transpose:ByteArray:=⟨#[116,114,97,110,115,112,111,115,101]⟩
def n_diagonal:ByteArray:=⟨#[100,105,97,103,111,110,97,108]⟩
def n_windows:ByteArray:=⟨#[119,105,110,100,111,119,115]⟩
def n_chunk:ByteArray:=⟨#[99,104,117,110,107]⟩
def n_index:ByteArray:=⟨#[105,110,100,101,120]⟩
def n_update:ByteArray:=⟨#[117,112,100,97,116,101]⟩
def n_pack:ByteArray:=⟨#[112,97,99,107]⟩
structure Ent where
  op:ByteArray
  sized:Bool
  ranks:List Int
  dims:Option Nat
  from_:Option Nat
def fnV:Option Nat→AV
  |some g=> .fn (.func g) [] []
  |none=> .lit .nilFunc
def entV (e:Ent):AV:= .agg [.lit (.string e.op),.lit (.bool e.sized),.sl false 1 (ints .i64 e.ranks),fnV e.dims,fnV e.from_]
theorem entV_def {e:Ent}:entV e= .agg [.lit (.string e.op),.lit (.bool e.sized),.sl false 1 (ints .i64 e.ranks),fnV e.dims,fnV e.from_]:=rfl
def entsV (l:List Ent):List AV:=l.map entV
def ent0:Ent:=⟨⟨#[]⟩,false,[],none,none⟩
def jE:AV:=entV ent0
def ents:List Ent:=[⟨n_iota,true,[],some 134,none⟩,
  ⟨n_fill,true,[0],some 134,some 135⟩,
  ⟨n_take,true,[1],some 136,some 138⟩,
  ⟨n_drop,true,[1],some 139,some 140⟩,
  ⟨n_reverse,false,[1],some 141,some 142⟩,
  ⟨n_append,false,[1,1],some 143,none⟩,
  ⟨n_transpose,false,[2],some 144,some 145⟩,
  ⟨n_diagonal,false,[2],some 146,some 147⟩,
  ⟨n_windows,true,[1],some 148,some 149⟩,
  ⟨n_chunk,false,[1],some 150,some 151⟩,
  ⟨n_index,false,[1,0],some 152,none⟩,
  ⟨n_update,false,[1,0,0],some 141,none⟩]
theorem entsV_length (l:List Ent):(entsV l).length=l.length:=by simp [entsV]
theorem entsV_getJ (l:List Ent) (i:Nat):(entsV l).getD i jE=entV (l.getD i ent0):=by
  simp only [entsV,jE,List.getD_eq_getElem?_getD,List.getElem?_map];cases l[i]? <;>rfl
theorem sz140':szT Tryz.prog 140=1:=by kernel_rfl
theorem ag140':aggT Tryz.prog 140=some false:=by kernel_rfl
theorem sz141':szT Tryz.prog 141=1:=by kernel_rfl
theorem ag141':aggT Tryz.prog 141=some false:=by kernel_rfl
attribute [go_sem] sz140' ag140' sz141' ag141'
def jk2:TypeId→AV:=fun t=>if t=143 then jE else jk t
theorem jk2_143:jk2 143=jE:=rfl
theorem jk2_3:jk2 3= .lit (.int .i64 0):=rfl
theorem jk2_9:jk2 9= .lit (.string ByteArray.empty):=rfl
theorem jk2_23:jk2 23=jI:=rfl
theorem jk2_31:jk2 31=jA:=rfl
attribute [go_sem] jk2_143 jk2_3 jk2_9 jk2_23 jk2_31 entsV_getJ
theorem fnV_none:fnV none= .lit .nilFunc:=rfl
theorem fnV_some {g:Nat}:fnV (some g)= .fn (.func g) [] []:=rfl
theorem close0_fnV {b:Bool} {σ:List AObj} {o:Option Nat}:close0 b σ (fnV o)=some (fnV o):=by cases o<;>rfl
theorem ids0_fnV {o:Option Nat}:ids0 (fnV o)=[]:=by cases o<;>rfl
theorem cells_fnV {o:Option Nat}:(fnV o).cells=[fnV o]:=by cases o<;>rfl
theorem solid_fnV {o:Option Nat}:(fnV o).solid=true:=by cases o<;>rfl
attribute [go_sem] close0_fnV ids0_fnV cells_fnV solid_fnV
noncomputable def F4:Env:=envJ (P:=Tryz.prog) jk2 zer (fun _=>false) (fun _=>false) [] []
theorem F4_ok:EnvOk Tryz.prog F4:=envJOk zer_ok
set_option maxRecDepth 20000 in
set_option maxHeartbeats 4000000 in
theorem entries_pc:PC Tryz.prog 127 [] (.sl false 5 (entsV ents)):=by
  refine pcR F4_ok (fun _=>[0,1]) Tryz.func127 [.tmp 0] (h:=fun KF=>?_)
  unfold F4
  repeat' (first
   |(with_reducible first|refine nx ?_|refine t_seq fun K=>?_|refine t_br (fun hc=>?_) fun hc=>?_|refine t_bx ?_|apply And.intro|intro vr)
   |((with_reducible first|refine ny ?_|refine t_dwh (h:=fun K KL=>?_));intros;simp only [go_sem,geff]))
  all_goals try exact nd
  all_goals (refine nl ?_;simp only [go_sem])
  refine LeA.sl rfl (by simp [entsV,entV,AV.cells]) ?_
  show LeL _ _
  simp only [flat,entsV,ents,entV,List.map_cons,List.map_nil,List.flatMap_cons,List.flatMap_nil,cells_agg,List.cons_append,List.nil_append,fnV,ints]
  repeat' (first|exact LeL.nil|refine LeL.cons ?_ ?_)
  all_goals first|exact LeA.refl _|exact LeA.full _ _ _|exact LeA.nil _ _
def findG:List Ent→ByteArray→Option Ent
  |[],_=>none
  |e::l,s=>if eqS e.op s=true then some e else findG l s
def packE (n:Int):Ent:=⟨n_pack,false,List.replicate (maxI n 1).toNat 0,some 128,none⟩
def foundS:Option Ent→Ent×Bool
  |some e=>(e,true)
  |none=>(ent0,false)
def findS (op:ByteArray) (n:Int):Ent×Bool:=if eqS op n_pack=true then (packE n,true) else foundS (findG ents op)
def eV (p:Ent×Bool):AV:= .tup [entV p.1,.lit (.bool p.2)]
theorem eV_def {p:Ent×Bool}:eV p= .tup [entV p.1,.lit (.bool p.2)]:=rfl
theorem ent_of {s:ByteArray} {b:Bool} {x y z:AV} {r:List Int} {e:Ent} {o p:Option Nat} (hx:slK .i64 x=some r) (hy:y=fnV o) (hz:z=fnV p) (h:e=⟨s,b,r,o,p⟩):LeA (.agg [.lit (.string s),.lit (.bool b),x,y,z]) (entV e):=by
  subst h hy hz
  exact LeA.agg ⟨LeA.refl _,LeA.refl _,slK_le hx,LeA.refl _,LeA.refl _,trivial⟩
noncomputable def con127:PCon Tryz.prog where
  f:=127
  c:=fun
   |[]=>some (True,.sl false 5 (entsV ents))
   |_=>none
  ok:=by
   intro args p r hc hp
   split at hc
   ·cases hc;exact entries_pc
   ·cases hc
  fk:=fk127
theorem con127_f:con127.f=127:=rfl
theorem con127_c:con127.c []=some (True,.sl false 5 (entsV ents)):=rfl
noncomputable def F5:Env:=envJ (P:=Tryz.prog) jk2 zer (fun _=>false) (fun _=>false) [con127] []
theorem F5_ok:EnvOk Tryz.prog F5:=envJOk zer_ok
set_option maxRecDepth 20000 in
set_option maxHeartbeats 4000000 in
theorem find_pc {op:ByteArray} {n:Int} (hn:n≤1000000):PC Tryz.prog 118 [.lit (.string op),.lit (.int .i64 n)] (eV (findS op n)):=by
  have hm:0≤maxI n 1∧maxI n 1≤1000000:=by unfold maxI;split<;>omega
  generalize hR:findS op n=R
  by_cases h:eqS op n_pack=true
  ·have h':eqS op ⟨#[112,97,99,107]⟩=true:=h
   unfold findS at hR;rw [if_pos h] at hR
   refine pcR F5_ok (fun _=>[0,1,4,5,7,9,15,16,17,18,24]) Tryz.func118 [.cell 4 143,.tmp 5] (h:=fun KF=>?_)
   unfold F5
   repeat' (first
    |(with_reducible first|refine nx ?_|refine t_seq fun K=>?_|refine t_br (fun hc=>?_) fun hc=>?_|refine t_bx ?_|apply And.intro|intro vr)
    |((with_reducible first|refine ny ?_|refine t_dwh (h:=fun K KL=>?_));intros;simp only [go_sem,geff,con127_f,h',ints_replicate]))
   all_goals try exact nd
   all_goals (refine nl ?_;simp only [go_sem])
   subst hR
   exact LeA.tup ⟨ent_of (by first|exact slK_sl|rfl) rfl rfl (by unfold packE;rw [←eqS_iff.1 h]),LeA.refl _,trivial⟩
  ·have h':eqS op ⟨#[112,97,99,107]⟩=false:=Bool.eq_false_iff.2 h
   unfold findS at hR;rw [if_neg h] at hR
   generalize hL:ents=L at hR
   have hlen:L.length=12:=by rw [←hL];rfl
   refine pcR F5_ok (fun _=>[0,1,4,5,7,9,15,16,17,18,24]) Tryz.func118 [.cell 4 143,.tmp 5] (h:=fun KF=>?_)
   unfold F5
   repeat' (first
    |(with_reducible first|refine nx ?_|refine t_seq fun K=>?_|refine t_br (fun hc=>?_) fun hc=>?_|refine t_bx ?_|apply And.intro|intro vr)
    |((with_reducible first|refine ny ?_|refine t_dwh (h:=fun K KL=>?_));intros;simp only [go_sem,geff,con127_f,con127_c,h',entsV_length,hL]))
   all_goals try exact nd
   refine t_loopF (ι:={p:Nat×List AObj // p.1≤L.length∧foundS (findG (L.drop p.1) op)=R}) (fun i=>[(17,.lit (.int .i64 i.1.1))]) (fun i=>AObj.box 143 [.lit (.string ByteArray.empty),.lit (.bool false),.sl true 1 [],.lit .nilFunc,.lit .nilFunc]::i.1.2) (fun i=>L.length - i.1.1) ⟨(0,[]),by omega,by simpa using hR⟩ ?_ ?_
   ·exact lf
   rintro ⟨⟨i,g⟩,hi,hF⟩ K0
   simp only at hi hF
   rcases Nat.lt_or_ge i L.length with hc|hc
   ·rw [drop_getD ent0 hc,findG] at hF
    have g3:decide ((i:Int)<(L.length:Int))=true:=decide_eq_true (by omega)
    repeat' (first
     |(with_reducible first|refine nx ?_|refine t_seq fun K=>?_|refine t_br (fun hc=>?_) fun hc=>?_|refine t_bx ?_|apply And.intro|intro vr)
     |((with_reducible first|refine ny ?_|refine t_dwh (h:=fun K KL=>?_));intros;simp only [go_sem,geff,con127_f,g3,Int.toNat_natCast,entsV_length,entV_def]))
    all_goals try exact nd
    ·rw [if_pos hc] at hF
     subst hF
     rcases hd:(L.getD i ent0).dims with _|g1<;>rcases hf:(L.getD i ent0).from_ with _|g2
     all_goals (refine nl ?_;simp only [go_sem,hd,hf,fnV_none,fnV_some])
     all_goals exact LeA.tup ⟨ent_of (o:=(L.getD i ent0).dims) (p:=(L.getD i ent0).from_) slK_sl (by rw [hd];rfl) (by rw [hf];rfl) rfl,LeA.refl _,trivial⟩
    ·skip
     exact ⟨⟨(i+1,g++[AObj.box 143 [.lit (.string (L.getD i ent0).op),.lit (.bool (L.getD i ent0).sized),.sl false 1 (ints .i64 (L.getD i ent0).ranks),fnV (L.getD i ent0).dims,fnV (L.getD i ent0).from_]]),by simp only;omega,by simp_all⟩,wf,lf⟩
   ·have g3:decide ((i:Int)<(L.length:Int))=false:=decide_eq_false (by omega)
    rw [List.drop_eq_nil_of_le (by omega),findG] at hF
    repeat' (first
     |(with_reducible first|refine nx ?_|refine t_seq fun K=>?_|refine t_br (fun hc=>?_) fun hc=>?_|refine t_bx ?_|apply And.intro|intro vr)
     |((with_reducible first|refine ny ?_|refine t_dwh (h:=fun K KL=>?_));intros;simp only [go_sem,geff,con127_f,g3,Int.toNat_natCast,entsV_length]))
    all_goals try exact nd
    all_goals (refine nl ?_;simp only [go_sem])
    subst hF
    exact LeA.tup ⟨ent_of (r:=[]) rfl (o:=none) (p:=none) rfl rfl rfl,LeA.refl _,trivial⟩
noncomputable def con118:PCon Tryz.prog where
  f:=118
  c:=fun
   |[.lit (.string op),.lit (.int .i64 n)]=>some (n≤1000000,eV (findS op n))
   |_=>none
  ok:=by
   intro args p r hc hp
   split at hc
   ·cases hc;exact (find_pc hp)
   ·cases hc
  fk:=fk118
theorem con118_f:con118.f=118:=rfl
theorem con118_c {op:ByteArray} {n:Int}:con118.c [.lit (.string op),.lit (.int .i64 n)]=some (n≤1000000,eV (findS op n)):=rfl
end Go.Proofs.YtcpjahmajkhchaaGreat

namespace Go.Proofs.YtcpjahmajkhchaaGreat
open Go Go.Fw
def opNames:List ByteArray:=[n_iota,n_fill,n_take,n_drop,n_reverse,n_append,n_transpose,n_diagonal,n_windows,n_chunk,n_index,n_update,n_pack]
def isS (op:ByteArray):Bool:=opNames.any fun s=>eqS s op
theorem eqS_symm (a b:ByteArray):eqS a b=eqS b a:=by
  rw [Bool.eq_iff_iff,eqS_iff,eqS_iff];exact eq_comm
theorem strs_nil':strs []=[]:=rfl
structure Gat where
  i:Nat
  v:Nat
def idxB (p:ByteArray→Bool):List ByteArray→Int→Int
  |[],_=> -1
  |d::t,i=>if p d=true then i else idxB p t (i+1)
theorem idxB_any (p:ByteArray→Bool):∀ (l:List ByteArray) (i:Int),0≤i→decide (idxB p l i≥0)=l.any p
  |[],_,_=>rfl
  |d::t,i,hi=>by
   unfold idxB
   by_cases h:p d=true
   ·rw [if_pos h,List.any_cons,h,decide_eq_true hi];rfl
   ·rw [if_neg h,idxB_any p t (i+1) (by omega),List.any_cons]
    simp only [Bool.not_eq_true] at h
    rw [h];rfl
end Go.Proofs.YtcpjahmajkhchaaGreat

namespace Go.Proofs.YtcpjahmajkhchaaGreat
open Go Go.Fw
set_option maxRecDepth 20000
set_option maxRecDepth 20000
def opT (L:List Ent) (i:Nat):List ByteArray:=(L.take i).map (·.op)
theorem opT_zero {L:List Ent}:opT L 0=[]:=rfl
theorem opT_succ {L:List Ent} {i:Nat} (h:i<L.length):opT L (i+1)=opT L i++[(L.getD i ent0).op]:=by
  unfold opT
  rw [List.take_add_one,List.getElem?_eq_getElem h,List.getD_eq_getElem?_getD,List.getElem?_eq_getElem h,List.map_append];rfl
theorem opT_len {L:List Ent} {i:Nat} (h:i≤L.length):(opT L i).length=i:=by simp [opT];omega
noncomputable def M2:Env:=envJ (P:=Tryz.prog) jk2 zer (fun _=>false) (fun _=>false) [con127] []
theorem M2_ok:EnvOk Tryz.prog M2:=envJOk zer_ok
set_option maxHeartbeats 2000000 in
theorem ops_pc:PC Tryz.prog 108 [] (.sl false 1 (strs opNames)):=by
  have hR:opT ents ents.length++[n_pack]=opNames:=rfl
  generalize hL:ents=L at hR
  have hlen:L.length=12:=by rw [←hL];rfl
  generalize opNames=R at hR
  refine pcR M2_ok (kp108) Tryz.func108 [.tmp 0] (h:=fun KF=>?_)
  unfold M2
  repeat' (first
   |(with_reducible first|refine nx ?_|refine t_seq fun K=>?_|refine t_br (fun hc=>?_) fun hc=>?_|refine t_bx ?_|apply And.intro|intro vr)
   |((with_reducible first|refine ny ?_|refine t_dwh (h:=fun K KL=>?_));intros;simp only [go_sem,kp108,geff,con127_f,con127_c,entsV_length,hL]))
  all_goals try exact nd
  refine t_loopF (ι:={i:Gat // i.i≤L.length}) (fun i=>[(6,.lit (.int .i64 i.1.i)),(1,.arr 0 i.1.v)]) (fun i=>[.arr 9 1 (strs (opT L i.1.i)) i.1.v false]) (fun i=>L.length - i.1.i) ⟨⟨0,0⟩,by simp⟩ ?_ ?_
  ·refine (le_nil 1 9 1 rfl).trans ?_
   simp only [updL_nil,updL_cons,delF_top,delF_upd,Nat.reduceEqDiff,reduceIte]
   simp only [opT_zero,strs_nil']
   refine Le.frameS (by first|rfl|(simp only [go_sem];try rfl)) ?_
   repeat' (first|exact leF_top _|exact (fun _=>LeR.refl _)|(with_reducible refine leF_sl ?_ ?_)|(refine leF_upd ?_ ?_))
   all_goals (first|exact LeR.top _|exact LeR.refl _|(refine LeR.of_eq ?_;(try simp only [go_sem]);try rfl)|((try simp only [go_sem]);try rfl))
  rintro ⟨⟨i,v⟩,hi⟩ K0
  simp only at hi
  rcases Nat.lt_or_ge i L.length with hc|hc
  ·have g3:decide ((i:Int)<(L.length:Int))=true:=decide_eq_true (by omega)
   have hb:=opT_len (L:=L) (i:=i) hi
   repeat' (first
    |(with_reducible first|refine nx ?_|refine t_seq fun K=>?_|refine t_br (fun hc=>?_) fun hc=>?_|refine t_bx ?_|apply And.intro|intro vr)
    |((with_reducible first|refine ny ?_|refine t_dwh (h:=fun K KL=>?_));intros;simp only [go_sem,kp108,geff,con127_f,g3,Int.toNat_natCast,entsV_length,entV_def,strs_length,strs_append1]))
   all_goals try exact nd
   simp only [←opT_succ hc]
   refine ⟨⟨⟨i+1,v+1⟩,by simp only;omega⟩,by first|(simp only;omega)|omega,?_⟩
   simp only [updL_nil,updL_cons,delF_top,delF_upd,Nat.reduceEqDiff,reduceIte]
   refine le_backD (by first|rfl|(simp only [go_sem];try rfl)) (by first|exact Nat.zero_le _|simp) (by first|rfl|simp [lowO,low_lit,low_sl,low_ref,low_arr,low_fnV]) ?_ ?_
   ·repeat' (first|exact low_top|(refine low_upd rfl ?_))
   repeat' (first|exact leF_top _|exact (fun _=>LeR.refl _)|(with_reducible refine leF_sl ?_ ?_)|(refine leF_upd ?_ ?_))
   all_goals (first|exact LeR.top _|exact LeR.refl _|(refine LeR.of_eq ?_;(try simp only [go_sem]);try rfl)|((try simp only [go_sem]);try rfl))
  ·have hie:i=L.length:=by omega
   have g3:decide ((L.length:Int)<(L.length:Int))=false:=decide_eq_false (by omega)
   have hb:=opT_len (L:=L) (i:=L.length) (by omega)
   repeat' (first
    |(with_reducible first|refine nx ?_|refine t_seq fun K=>?_|refine t_br (fun hc=>?_) fun hc=>?_|refine t_bx ?_|apply And.intro|intro vr)
    |((with_reducible first|refine ny ?_|refine t_dwh (h:=fun K KL=>?_));intros;simp only [go_sem,kp108,geff,con127_f,hie,g3,Int.toNat_natCast,entsV_length,entV_def,strs_length,strs_append1]))
   all_goals try exact nd
   all_goals (refine nl ?_;simp only [go_sem])
   rw [←hR]
   exact LeA.refl _
noncomputable def con108:PCon Tryz.prog where
  f:=108
  c:=fun
   |[]=>some (True,.sl false 1 (strs opNames))
   |_=>none
  ok:=by
   intro args p r hc hp
   split at hc
   ·cases hc;exact ops_pc
   ·cases hc
  fk:=fk108
theorem con108_f:con108.f=108:=rfl
theorem con108_c:con108.c []=some (True,.sl false 1 (strs opNames)):=rfl
set_option maxHeartbeats 2000000 in
theorem indexS_pc {l:List ByteArray} {s:ByteArray} (hl:l.length≤1000000):PC Tryz.prog 126 [.sl false 1 (strs l),.lit (.string s)] (.lit (.int .i64 (idxB (fun t=>eqS s t) l 0))):=by
  generalize hR:idxB (fun t=>eqS s t) l 0=R
  refine pcR F1_ok (kp126) Tryz.func126 [.tmp 4] (h:=fun KF=>?_)
  unfold F1
  repeat' (first
   |(with_reducible first|refine nx ?_|refine t_seq fun K=>?_|refine t_br (fun hc=>?_) fun hc=>?_|refine t_bx ?_|apply And.intro|intro vr)
   |((with_reducible first|refine ny ?_|refine t_dwh (h:=fun K KL=>?_));intros;simp only [go_sem,kp126,geff,strs_length]))
  all_goals try exact nd
  refine t_loopF (ι:={i:Nat // i≤l.length∧idxB (fun t=>eqS s t) (l.drop i) i=R}) (fun i=>[(8,.lit (.int .i64 i.1))]) (fun i=>[]) (fun i=>l.length - i.1) ⟨0,by omega,hR⟩ ?_ ?_
  ·exact lf
  rintro ⟨i,hi,hF⟩ K0
  rcases Nat.lt_or_ge i l.length with hc|hc
  ·rw [drop_getD ByteArray.empty hc,idxB] at hF
   have g3:decide ((i:Int)<(l.length:Int))=true:=decide_eq_true (by omega)
   repeat' (first
    |(with_reducible first|refine nx ?_|refine t_seq fun K=>?_|refine t_br (fun hc=>?_) fun hc=>?_|refine t_bx ?_|apply And.intro|intro vr)
    |((with_reducible first|refine ny ?_|refine t_dwh (h:=fun K KL=>?_));intros;simp only [go_sem,kp126,geff,g3,Int.toNat_natCast,strs_length]))
   all_goals try exact nd
   ·skip
    all_goals (refine nl ?_;simp only [go_sem])
    rw [if_pos hc] at hF
    rw [hF];exact LeA.refl _
   ·skip
    exact ⟨⟨i+1,by omega,by rw [if_neg (by rw [hc];decide)] at hF;rw [←hF];congr 1⟩,wf,lf⟩
  ·have hie:i=l.length:=by omega
   have g3:decide ((l.length:Int)<(l.length:Int))=false:=decide_eq_false (by omega)
   rw [hie,List.drop_eq_nil_of_le (by omega),idxB] at hF
   repeat' (first
    |(with_reducible first|refine nx ?_|refine t_seq fun K=>?_|refine t_br (fun hc=>?_) fun hc=>?_|refine t_bx ?_|apply And.intro|intro vr)
    |((with_reducible first|refine ny ?_|refine t_dwh (h:=fun K KL=>?_));intros;simp only [go_sem,kp126,geff,hie,g3,Int.toNat_natCast,strs_length]))
   all_goals try exact nd
   all_goals (refine nl ?_;simp only [go_sem])
   rw [hF];exact LeA.refl _
noncomputable def con126:PCon Tryz.prog where
  f:=126
  c:=fun
   |[xl,.lit (.string s)]=>match slS xl with|some l=>some (l.length≤1000000,.lit (.int .i64 (idxB (fun t=>eqS s t) l 0)))|_=>none
   |_=>none
  ok:=by
   intro args p r hc hp
   split at hc
   ·split at hc
    ·rename_i hl
     cases hc
     exact PC.weak (indexS_pc hp) ⟨slS_le hl,LeA.refl _,trivial⟩
    ·cases hc
   ·cases hc
  fk:=fk126
theorem con126_f:con126.f=126:=rfl
theorem con126_c {xl:AV} {s:ByteArray}:con126.c [xl,.lit (.string s)]=match slS xl with|some l=>some (l.length≤1000000,.lit (.int .i64 (idxB (fun t=>eqS s t) l 0)))|_=>none:=rfl
noncomputable def M3:Env:=envJ (P:=Tryz.prog) jk2 zer (fun _=>false) (fun _=>false) [con126] []
theorem M3_ok:EnvOk Tryz.prog M3:=envJOk zer_ok
theorem hasS_pc {l:List ByteArray} {s:ByteArray} (hl:l.length≤1000000):PC Tryz.prog 107 [.sl false 1 (strs l),.lit (.string s)] (.lit (.bool (l.any fun t=>eqS s t))):=by
  rw [←idxB_any _ l 0 (by omega)]
  refine pcR M3_ok (kp107) Tryz.func107 [.tmp 4] (h:=fun KF=>?_)
  unfold M3
  repeat' (first
   |(with_reducible first|refine nx ?_|refine t_seq fun K=>?_|refine t_br (fun hc=>?_) fun hc=>?_|refine t_bx ?_|apply And.intro|intro vr)
   |((with_reducible first|refine ny ?_|refine t_dwh (h:=fun K KL=>?_));intros;simp only [go_sem,kp107,geff,con126_f,con126_c,slS_sl]))
  all_goals try exact nd
  all_goals (refine nl ?_;simp only [go_sem])
  exact LeA.refl _
noncomputable def con107:PCon Tryz.prog where
  f:=107
  c:=fun
   |[xl,.lit (.string s)]=>match slS xl with|some l=>some (l.length≤1000000,.lit (.bool (l.any fun t=>eqS s t)))|_=>none
   |_=>none
  ok:=by
   intro args p r hc hp
   split at hc
   ·split at hc
    ·rename_i hl
     cases hc
     exact PC.weak (hasS_pc hp) ⟨slS_le hl,LeA.refl _,trivial⟩
    ·cases hc
   ·cases hc
  fk:=fk107
theorem con107_f:con107.f=107:=rfl
theorem con107_c {xl:AV} {s:ByteArray}:con107.c [xl,.lit (.string s)]=match slS xl with|some l=>some (l.length≤1000000,.lit (.bool (l.any fun t=>eqS s t)))|_=>none:=rfl
noncomputable def M4:Env:=envJ (P:=Tryz.prog) jk2 zer (fun _=>false) (fun _=>false) [con108,con107] []
theorem M4_ok:EnvOk Tryz.prog M4:=envJOk zer_ok
theorem is_pc {op:ByteArray}:PC Tryz.prog 74 [.lit (.string op)] (.lit (.bool (isS op))):=by
  have e:isS op=opNames.any fun t=>eqS op t:=by
    unfold isS
    congr 1
    funext t
    exact eqS_symm t op
  rw [e]
  have hl:opNames.length=13:=rfl
  refine pcR M4_ok (kp74) Tryz.func74 [.tmp 2] (h:=fun KF=>?_)
  unfold M4
  repeat' (first
   |(with_reducible first|refine nx ?_|refine t_seq fun K=>?_|refine t_br (fun hc=>?_) fun hc=>?_|refine t_bx ?_|apply And.intro|intro vr)
   |((with_reducible first|refine ny ?_|refine t_dwh (h:=fun K KL=>?_));intros;simp only [go_sem,kp74,geff,con108_f,con107_f,con108_c,con107_c,slS_sl]))
  all_goals try exact nd
  all_goals (refine nl ?_;simp only [go_sem])
  exact LeA.refl _
noncomputable def con74:PCon Tryz.prog where
  f:=74
  c:=fun
   |[.lit (.string op)]=>some (True,.lit (.bool (isS op)))
   |_=>none
  ok:=by
   intro args p r hc hp
   split at hc
   ·cases hc;exact is_pc
   ·cases hc
  fk:=fk74
theorem con74_f:con74.f=74:=rfl
theorem con74_c {op:ByteArray}:con74.c [.lit (.string op)]=some (True,.lit (.bool (isS op))):=rfl
end Go.Proofs.YtcpjahmajkhchaaGreat

namespace Go.Proofs.YtcpjahmajkhchaaGreat
open Go Go.Fw Go.RowKit Go.Shelf
attribute [local go_sem] Oper.semAt_some
theorem boxed_pc {f g:FuncId} {x:AV} {t:TypeId} (hx:x.cells=[x]) (h:∀ (C:Nat→Nat→Option Value) (v:Value) (w:World),RC C x v→v.oneCell'=true→
      Calls Tryz.prog f #[v] w fun e w'=>e= .returned (.func (.func g) #[] #[.pointer (some ⟨w.heap.size,0,none⟩)])∧w'=w.alloc (.cells #[v] t))
    (h1:∀ (C:Nat→Nat→Option Value) (v:Value),RC C x v→v.oneCell'=true):PC Tryz.prog f [x] (.fn (.func g) [] [.sref x 0]):=by
  intro C w vs hr hin
  obtain ⟨hl,hr⟩:=hr
  match vs,hl with
  |[v],_=>
  have hv:RC C x v:=hr 0 (by simp)
  have ho:=h1 C v hv
  refine (h C v w hv ho).mono ?_
  rintro e w' ⟨rfl,rfl⟩
  have hold:∀ k o u,C k o=some u→k<w.heap.size:=fun k o u hu=>World.block_lt_of_cell? w _ (hin k o u hu)
  have hm:More w (w.alloc (.cells #[v] t)):=More.push w _
  have hle:CLe C (fun k o=>if k=w.heap.size then (#[v]:Array Value)[o]? else C k o):=fun k o u hu=>by
    have:=hold k o u hu
    show (if k=w.heap.size then _ else _)=_
    rw [if_neg (by omega)];exact hu
  refine ⟨_,fun k o=>if k=w.heap.size then (#[v]:Array Value)[o]? else C k o,rfl,hle,?_,?_,hm,?_⟩
  ·refine .fn (.func g) [] [.sref x 0] [] [.pointer (some ⟨w.heap.size,0,none⟩)] rfl (by simp) rfl fun i hi=>?_
   have:i=0:=by simp at hi;omega
   subst this
   refine RC.sref x 0 w.heap.size 0 (fun _=>v) ?_ ?_ ?_
   ·intro j hj
    rw [hx] at hj
    have:j=0:=by simp at hj;omega
    subst this
    show (if w.heap.size=w.heap.size then _ else _)=_
    rw [if_pos rfl];rfl
   ·intro j hj;exact ho
   ·intro j hj
    rw [hx] at hj ⊢
    have:j=0:=by simp at hj;omega
    subst this
    exact hv.mono hle
  ·intro k o u hu
   simp only at hu
   split at hu
   ·rename_i hk
    subst hk
    have:o=0:=by
      rcases o with _|o
      ·rfl
      ·simp at hu
    subst this
    obtain rfl:v=u:=by simpa using hu
    exact (Boxed.new w t v).cell
   ·exact hm.cell (hin k o u hu)
  ·intro k hk j
   show (if k=w.heap.size then _ else _)=_
   rw [if_neg (by omega)]
set_option maxHeartbeats 1000000 in
theorem named_pc {s:ByteArray}:PC Tryz.prog 102 [.lit (.string s)] (.fn (.func 125) [] [.sref (.lit (.string s)) 0]):=by
  refine boxed_pc (t:=9) rfl (fun C v w hv _=>?_) (fun C v hv=>by rw [rc_lit hv];rfl)
  obtain rfl:=rc_lit hv
  refine (callsIn_wide (n:=1)).1 ?_
  refine callsIn_of_wp Tryz.func102 rfl trivial ?_ rfl
  simp only [Tryz.ntmps102,List.size_toArray,List.length_cons,List.length_nil,Nat.reduceAdd,Nat.reduceSub,Array.replicate_succ,Array.replicate_zero,List.push_toArray,List.append_toArray,List.nil_append,List.cons_append]
  gi_wp2
  go_ret
  exact ⟨rfl,rfl⟩
set_option maxHeartbeats 1000000 in
theorem fixed_pc {l:List Int}:PC Tryz.prog 97 [.sl false 1 (ints .i64 l)] (.fn (.func 117) [] [.sref (.sl false 1 (ints .i64 l)) 0]):=by
  refine boxed_pc (t:=23) rfl (fun C v w hv _=>?_) (fun C v hv=>by obtain ⟨a,b,c,rfl⟩:=rc_slice hv;rfl)
  obtain ⟨a,b,c,rfl⟩:=rc_slice hv
  refine (callsIn_wide (n:=1)).1 ?_
  refine callsIn_of_wp Tryz.func97 rfl trivial ?_ rfl
  simp only [Tryz.ntmps97,List.size_toArray,List.length_cons,List.length_nil,Nat.reduceAdd,Nat.reduceSub,Array.replicate_succ,Array.replicate_zero,List.push_toArray,List.append_toArray,List.nil_append,List.cons_append]
  gi_wp2
  go_ret
  exact ⟨rfl,rfl⟩
end Go.Proofs.YtcpjahmajkhchaaGreat

namespace Go.Proofs.YtcpjahmajkhchaaGreat
open Go Go.Fw
set_option maxRecDepth 20000
noncomputable def con102:PCon Tryz.prog where
  f:=102
  c:=fun
   |[.lit (.string s)]=>some (True,.fn (.func 125) [] [.sref (.lit (.string s)) 0])
   |_=>none
  ok:=by
   intro args p r hc hp
   split at hc
   ·cases hc;exact named_pc
   ·cases hc
  fk:=fk102
theorem con102_f:con102.f=102:=rfl
theorem con102_c {s:ByteArray}:con102.c [.lit (.string s)]=some (True,.fn (.func 125) [] [.sref (.lit (.string s)) 0]):=rfl
noncomputable def con97:PCon Tryz.prog where
  f:=97
  c:=fun
   |[xl]=>match slK .i64 xl with|some l=>some (True,.fn (.func 117) [] [.sref (.sl false 1 (ints .i64 l)) 0])|_=>none
   |_=>none
  ok:=by
   intro args p r hc hp
   split at hc
   ·split at hc
    ·rename_i hl
     cases hc
     exact PC.weak fixed_pc ⟨slK_le hl,trivial⟩
    ·cases hc
   ·cases hc
  fk:=fk97
theorem con97_f:con97.f=97:=rfl
theorem con97_c {xl:AV}:con97.c [xl]=match slK .i64 xl with|some l=>some (True,.fn (.func 117) [] [.sref (.sl false 1 (ints .i64 l)) 0])|_=>none:=rfl
def sFold:ByteArray:=⟨#[102,111,108,100]⟩
def sScan:ByteArray:=⟨#[115,99,97,110]⟩
def sSize:ByteArray:=⟨#[115,105,122,101]⟩
inductive Kd where
  |prim|struc|fold|scan|const|size
def namV (s:ByteArray):AV:= .fn (.func 125) [] [.sref (.lit (.string s)) 0]
def fixV (l:List Int):AV:= .fn (.func 117) [] [.sref (.sl false 1 (ints .i64 l)) 0]
def fun0 (f:FuncId):AV:= .fn (.func f) [] []
def kdV:Kd→AV
  |.prim=> .agg [fun0 95,fun0 96,fun0 98]
  |.struc=> .agg [fun0 74,fun0 99,fun0 100]
  |.fold=> .agg [namV sFold,fixV [0,1],fun0 103]
  |.scan=> .agg [namV sScan,fixV [1],fun0 104]
  |.const=> .agg [namV sConst,fixV [],fun0 105]
  |.size=> .agg [namV sSize,fixV [],fun0 106]
def kds:List Kd:=[.prim,.struc,.fold,.scan,.const,.size]
def kdsV (l:List Kd):List AV:=l.map kdV
theorem kdsV_length (l:List Kd):(kdsV l).length=l.length:=by simp [kdsV]
def jKd:AV:=kdV .prim
theorem kdsV_getJ (l:List Kd) (i:Nat):(kdsV l).getD i jKd=kdV (l.getD i .prim):=by
  simp only [jKd,kdsV,List.getD_eq_getElem?_getD,List.getElem?_map];cases l[i]? <;>rfl
def jkK:TypeId→AV:=fun t=>if t=92 then jKd else jkR t
theorem jkK_92:jkK 92=jKd:=rfl
theorem jkK_3:jkK 3= .lit (.int .i64 0):=rfl
theorem jkK_9:jkK 9= .lit (.string ByteArray.empty):=rfl
theorem jkK_23:jkK 23=jI:=rfl
theorem jkK_31:jkK 31=jA:=rfl
theorem jkK_78:jkK 78=jStp:=rfl
attribute [go_sem] con102_f con102_c con97_f con97_c jkK_92 jkK_3 jkK_9 jkK_23 jkK_31 jkK_78 kdsV_getJ kdsV_length
theorem szf89:szT Tryz.prog 89=1:=by kernel_rfl
theorem szf64:szT Tryz.prog 64=1:=by kernel_rfl
theorem szf90:szT Tryz.prog 90=1:=by kernel_rfl
theorem agf89:aggT Tryz.prog 89=some false:=by kernel_rfl
theorem agf64:aggT Tryz.prog 64=some false:=by kernel_rfl
theorem agf90:aggT Tryz.prog 90=some false:=by kernel_rfl
attribute [go_sem] szf89 szf64 szf90 agf89 agf64 agf90
noncomputable def B1:Env:=envJ (P:=Tryz.prog) jkK zer (fun _=>false) (fun _=>false) [con102,con97] []
theorem B1_ok:EnvOk Tryz.prog B1:=envJOk zer_ok
set_option maxHeartbeats 4000000 in
theorem kinds_pc:PC Tryz.prog 73 [] (.sl false 3 (kdsV kds)):=by
  refine pcR B1_ok (kp73) Tryz.func73 [.tmp 0] (h:=fun KF=>?_)
  unfold B1
  repeat' (first
   |(with_reducible first|refine nx ?_|refine t_seq fun K=>?_|refine t_br (fun hc=>?_) fun hc=>?_|refine t_bx ?_|apply And.intro|intro vr)
   |((with_reducible first|refine ny ?_|refine t_dwh (h:=fun K KL=>?_));intros;simp only [go_sem,kp73,geff,capC]))
  all_goals try exact nd
  all_goals (refine nl ?_;simp only [go_sem])
  refine LeA.sl rfl (by simp [kdsV,kds,kdV,AV.cells]) ?_
  show LeL _ _
  simp only [flat,kdsV,kds,kdV,List.map_cons,List.map_nil,List.flatMap_cons,List.flatMap_nil,cells_agg,List.cons_append,List.nil_append,fun0,namV,fixV]
  repeat' (first|exact LeL.nil|refine LeL.cons ?_ ?_)
  all_goals exact LeA.refl _
end Go.Proofs.YtcpjahmajkhchaaGreat

namespace Go.Proofs.YtcpjahmajkhchaaGreat
open Go Go.Fw
set_option maxRecDepth 20000
noncomputable def con73:PCon Tryz.prog where
  f:=73
  c:=fun
   |[]=>some (True,.sl false 3 (kdsV kds))
   |_=>none
  ok:=by
   intro args p r hc hp
   split at hc
   ·cases hc;exact kinds_pc
   ·cases hc
  fk:=fk73
theorem con73_f:con73.f=73:=rfl
theorem con73_c:con73.c []=some (True,.sl false 3 (kdsV kds)):=rfl
noncomputable def B2:Env:=envJ (P:=Tryz.prog) jkK zer (fun _=>false) (fun _=>false) [El.con65] []
theorem B2_ok:EnvOk Tryz.prog B2:=envJOk zer_ok
theorem named1_pc {op s:ByteArray}:PC Tryz.prog 125 [.lit (.string op),.sref (.lit (.string s)) 0] (.lit (.bool (eqS op s))):=by
  refine pcR B2_ok (kp125) Tryz.func125 [.tmp 3] (h:=fun KF=>?_)
  unfold B2
  repeat' (first
   |(with_reducible first|refine nx ?_|refine t_seq fun K=>?_|refine t_br (fun hc=>?_) fun hc=>?_|refine t_bx ?_|apply And.intro|intro vr)
   |((with_reducible first|refine ny ?_|refine t_dwh (h:=fun K KL=>?_));intros;simp only [go_sem,kp125,geff]))
  all_goals try exact nd
  all_goals (refine nl ?_;simp only [go_sem])
  exact LeA.refl _
noncomputable def con125:PCon Tryz.prog where
  f:=125
  c:=fun
   |[.lit (.string op),.sref (.lit (.string s)) 0]=>some (True,.lit (.bool (eqS op s)))
   |_=>none
  ok:=by
   intro args p r hc hp
   split at hc
   ·cases hc;exact named1_pc
   ·cases hc
  fk:=fk125
theorem con125_f:con125.f=125:=rfl
theorem con125_c {op s:ByteArray}:con125.c [.lit (.string op),.sref (.lit (.string s)) 0]=some (True,.lit (.bool (eqS op s))):=rfl
def fixS (l:List Int) (n:Int):List Int×Bool:=if n=(l.length:Int) then (l,true) else ([],false)
def rkV (p:List Int×Bool):AV:= .tup [.sl false 1 (ints .i64 p.1),.lit (.bool p.2)]
theorem fixed1_pc {op:ByteArray} {n:Int} {l:List Int}:PC Tryz.prog 117 [.lit (.string op),.lit (.int .i64 n),.sref (.sl false 1 (ints .i64 l)) 0] (rkV (fixS l n)):=by
  generalize hR:fixS l n=R
  unfold fixS at hR
  by_cases h:n=(l.length:Int)
  ·rw [if_pos h] at hR
   have h':(n !=(l.length:Int))=false:=by rw [bne_eq_false_iff_eq];exact h
   refine pcR B2_ok (kp117) Tryz.func117 [.tmp 5,.tmp 6] (h:=fun KF=>?_)
   unfold B2
   repeat' (first
    |(with_reducible first|refine nx ?_|refine t_seq fun K=>?_|refine t_br (fun hc=>?_) fun hc=>?_|refine t_bx ?_|apply And.intro|intro vr)
    |((with_reducible first|refine ny ?_|refine t_dwh (h:=fun K KL=>?_));intros;simp only [go_sem,kp117,geff,h']))
   all_goals try exact nd
   all_goals (refine nl ?_;simp only [go_sem])
   rw [←hR]
   exact LeA.refl _
  ·rw [if_neg h] at hR
   have h':(n !=(l.length:Int))=true:=bne_iff_ne.2 h
   refine pcR B2_ok (kp117) Tryz.func117 [.tmp 5,.tmp 6] (h:=fun KF=>?_)
   unfold B2
   repeat' (first
    |(with_reducible first|refine nx ?_|refine t_seq fun K=>?_|refine t_br (fun hc=>?_) fun hc=>?_|refine t_bx ?_|apply And.intro|intro vr)
    |((with_reducible first|refine ny ?_|refine t_dwh (h:=fun K KL=>?_));intros;simp only [go_sem,kp117,geff,h']))
   all_goals try exact nd
   all_goals (refine nl ?_;simp only [go_sem])
   rw [←hR]
   exact LeA.tup ⟨LeA.nil _ _,LeA.refl _,trivial⟩
noncomputable def con117:PCon Tryz.prog where
  f:=117
  c:=fun
   |[.lit (.string _),.lit (.int .i64 n),.sref (.sl false 1 xs) 0]=>(kOf .i64 xs).map fun l=>(True,rkV (fixS l n))
   |_=>none
  ok:=by
   intro args p r hc hp
   split at hc
   ·rename_i xs
    cases hk:kOf .i64 xs with
    |none=>rw [hk] at hc;cases hc
    |some l=>
     rw [hk] at hc;cases hc
     rw [kOf_inv hk]
     exact fixed1_pc
   ·cases hc
  fk:=fk117
theorem con117_f:con117.f=117:=rfl
theorem con117_c {op:ByteArray} {n:Int} {xs:List AV}:con117.c [.lit (.string op),.lit (.int .i64 n),.sref (.sl false 1 xs) 0]=(kOf .i64 xs).map fun l=>(True,rkV (fixS l n)):=rfl
attribute [go_sem] con125_f con125_c con117_f con117_c con73_f con73_c
theorem prim1_pc {op:ByteArray}:PC Tryz.prog 95 [.lit (.string op)] (.lit (.bool (El.typesS op).isSome)):=by
  cases hT:El.typesS op with
  |none=>
   refine pcR B2_ok (kp95) Tryz.func95 [.tmp 2] (h:=fun KF=>?_)
   unfold B2
   repeat' (first
    |(with_reducible first|refine nx ?_|refine t_seq fun K=>?_|refine t_br (fun hc=>?_) fun hc=>?_|refine t_bx ?_|apply And.intro|intro vr)
    |((with_reducible first|refine ny ?_|refine t_dwh (h:=fun K KL=>?_));intros;simp only [go_sem,kp95,geff,hT]))
   all_goals try exact nd
   all_goals (refine nl ?_;simp only [go_sem])
   exact LeA.refl _
  |some r=>
   refine pcR B2_ok (kp95) Tryz.func95 [.tmp 2] (h:=fun KF=>?_)
   unfold B2
   repeat' (first
    |(with_reducible first|refine nx ?_|refine t_seq fun K=>?_|refine t_br (fun hc=>?_) fun hc=>?_|refine t_bx ?_|apply And.intro|intro vr)
    |((with_reducible first|refine ny ?_|refine t_dwh (h:=fun K KL=>?_));intros;simp only [go_sem,kp95,geff,hT]))
   all_goals try exact nd
   all_goals (refine nl ?_;simp only [go_sem])
   exact LeA.refl _
noncomputable def con95:PCon Tryz.prog where
  f:=95
  c:=fun
   |[.lit (.string op)]=>some (True,.lit (.bool (El.typesS op).isSome))
   |_=>none
  ok:=by
   intro args p r hc hp
   split at hc
   ·cases hc;exact prim1_pc
   ·cases hc
  fk:=fk95
theorem con95_f:con95.f=95:=rfl
theorem con95_c {op:ByteArray}:con95.c [.lit (.string op)]=some (True,.lit (.bool (El.typesS op).isSome)):=rfl
attribute [go_sem] con95_f con95_c con74_f con74_c
def kindS (op:ByteArray):Option Kd:=
  if (El.typesS op).isSome=true then some .prim else if isS op=true then some .struc else if eqS op sFold=true then some .fold else if eqS op sScan=true then some .scan else if eqS op sConst=true then some .const else if eqS op sSize=true then some .size else none
def hasK (op:ByteArray):Kd→Bool
  |.prim=>(El.typesS op).isSome
  |.struc=>isS op
  |.fold=>eqS op sFold
  |.scan=>eqS op sScan
  |.const=>eqS op sConst
  |.size=>eqS op sSize
def findK (op:ByteArray):List Kd→Option Kd
  |[]=>none
  |k::t=>if hasK op k=true then some k else findK op t
theorem findK_kds {op:ByteArray}:findK op kds=kindS op:=rfl
def fdV (o:Option Kd):AV:=match o with
  |some k=> .tup [kdV k,.lit (.bool true)]
  |none=> .tup [.agg [.lit .nilFunc,.lit .nilFunc,.lit .nilFunc],.lit (.bool false)]
noncomputable def B3:Env:=envJ (P:=Tryz.prog) jkK zer (fun _=>false) (fun _=>false) [con73,con95,con74,con125] []
theorem B3_ok:EnvOk Tryz.prog B3:=envJOk zer_ok
attribute [go_sem] fun0 namV fixV
set_option maxHeartbeats 8000000 in
theorem kfind_pc {op:ByteArray}:PC Tryz.prog 51 [.lit (.string op)] (fdV (kindS op)):=by
  rw [←findK_kds]
  generalize hR:findK op kds=R
  refine pcR B3_ok (kp51) Tryz.func51 [.cell 2 92,.tmp 3] (h:=fun KF=>?_)
  unfold B3
  repeat' (first
   |(with_reducible first|refine nx ?_|refine t_seq fun K=>?_|refine t_br (fun hc=>?_) fun hc=>?_|refine t_bx ?_|apply And.intro|intro vr)
   |((with_reducible first|refine ny ?_|refine t_dwh (h:=fun K KL=>?_));intros;simp only [go_sem,kp51,geff]))
  all_goals try exact nd
  refine t_loopF (ι:={i:Nat // i≤6∧findK op (kds.drop i)=R}) (fun i=>[(8,.lit (.int .i64 i.1))]) (fun i=>[.box 92 [.lit .nilFunc,.lit .nilFunc,.lit .nilFunc]]) (fun i=>6 - i.1) ⟨0,by omega,hR⟩ ?_ ?_
  ·exact lf
  rintro ⟨i,hi,hF⟩ K0
  have hk6:kds.length=6:=rfl
  rcases Nat.lt_or_ge i 6 with hc|hc
  ·rw [drop_getD Kd.prim (show i<kds.length from hc),findK] at hF
   have g3:decide ((i:Int)<(kds.length:Int))=true:=decide_eq_true (by omega)
   generalize hs:kds.getD i Kd.prim=k at hF
   cases k with
   |prim=>
    cases h4:hasK op .prim with
    |true=>
     rw [if_pos h4] at hF
     simp only [hasK] at h4
     repeat' (first
      |(with_reducible first|refine nx ?_|refine t_seq fun K=>?_|refine t_br (fun hc=>?_) fun hc=>?_|refine t_bx ?_|apply And.intro|intro vr)
      |((with_reducible first|refine ny ?_|refine t_dwh (h:=fun K KL=>?_));intros;simp only [go_sem,kp51,geff,g3,hs,kdV,h4,Int.toNat_natCast,kdsV_length]))
     all_goals try exact nd
     all_goals (refine nl ?_;simp only [go_sem])
     rw [←hF]
     exact LeA.refl _
    |false=>
     rw [if_neg (by rw [h4];decide)] at hF
     simp only [hasK] at h4
     repeat' (first
      |(with_reducible first|refine nx ?_|refine t_seq fun K=>?_|refine t_br (fun hc=>?_) fun hc=>?_|refine t_bx ?_|apply And.intro|intro vr)
      |((with_reducible first|refine ny ?_|refine t_dwh (h:=fun K KL=>?_));intros;simp only [go_sem,kp51,geff,g3,hs,kdV,h4,Int.toNat_natCast,kdsV_length]))
     all_goals try exact nd
     refine ⟨⟨i+1,by omega,hF⟩,by first|(simp only;omega)|omega,?_⟩
     simp only [updL_nil,updL_cons,delF_top,delF_upd,Nat.reduceEqDiff,reduceIte]
     refine le_backD (by first|rfl|(simp only [go_sem];try rfl)) (by first|exact Nat.zero_le _|simp) (by first|rfl|simp [lowO,low_lit,low_sl,low_ref,low_arr]) ?_ ?_
     ·repeat' (first|exact low_top|(refine low_upd rfl ?_))
     repeat' (first|exact leF_top _|exact (fun _=>LeR.refl _)|(with_reducible refine leF_sl ?_ ?_)|(refine leF_upd ?_ ?_))
     all_goals (first|exact LeR.top _|exact LeR.refl _|(refine LeR.of_eq ?_;(try simp only [go_sem]);try rfl)|((try simp only [go_sem]);try rfl))
   |struc=>
    cases h4:hasK op .struc with
    |true=>
     rw [if_pos h4] at hF
     simp only [hasK] at h4
     repeat' (first
      |(with_reducible first|refine nx ?_|refine t_seq fun K=>?_|refine t_br (fun hc=>?_) fun hc=>?_|refine t_bx ?_|apply And.intro|intro vr)
      |((with_reducible first|refine ny ?_|refine t_dwh (h:=fun K KL=>?_));intros;simp only [go_sem,kp51,geff,g3,hs,kdV,h4,Int.toNat_natCast,kdsV_length]))
     all_goals try exact nd
     all_goals (refine nl ?_;simp only [go_sem])
     rw [←hF]
     exact LeA.refl _
    |false=>
     rw [if_neg (by rw [h4];decide)] at hF
     simp only [hasK] at h4
     repeat' (first
      |(with_reducible first|refine nx ?_|refine t_seq fun K=>?_|refine t_br (fun hc=>?_) fun hc=>?_|refine t_bx ?_|apply And.intro|intro vr)
      |((with_reducible first|refine ny ?_|refine t_dwh (h:=fun K KL=>?_));intros;simp only [go_sem,kp51,geff,g3,hs,kdV,h4,Int.toNat_natCast,kdsV_length]))
     all_goals try exact nd
     refine ⟨⟨i+1,by omega,hF⟩,by first|(simp only;omega)|omega,?_⟩
     simp only [updL_nil,updL_cons,delF_top,delF_upd,Nat.reduceEqDiff,reduceIte]
     refine le_backD (by first|rfl|(simp only [go_sem];try rfl)) (by first|exact Nat.zero_le _|simp) (by first|rfl|simp [lowO,low_lit,low_sl,low_ref,low_arr]) ?_ ?_
     ·repeat' (first|exact low_top|(refine low_upd rfl ?_))
     repeat' (first|exact leF_top _|exact (fun _=>LeR.refl _)|(with_reducible refine leF_sl ?_ ?_)|(refine leF_upd ?_ ?_))
     all_goals (first|exact LeR.top _|exact LeR.refl _|(refine LeR.of_eq ?_;(try simp only [go_sem]);try rfl)|((try simp only [go_sem]);try rfl))
   |fold=>
    cases h4:hasK op .fold with
    |true=>
     rw [if_pos h4] at hF
     simp only [hasK] at h4
     repeat' (first
      |(with_reducible first|refine nx ?_|refine t_seq fun K=>?_|refine t_br (fun hc=>?_) fun hc=>?_|refine t_bx ?_|apply And.intro|intro vr)
      |((with_reducible first|refine ny ?_|refine t_dwh (h:=fun K KL=>?_));intros;simp only [go_sem,kp51,geff,g3,hs,kdV,h4,Int.toNat_natCast,kdsV_length]))
     all_goals try exact nd
     all_goals (refine nl ?_;simp only [go_sem])
     rw [←hF]
     exact LeA.refl _
    |false=>
     rw [if_neg (by rw [h4];decide)] at hF
     simp only [hasK] at h4
     repeat' (first
      |(with_reducible first|refine nx ?_|refine t_seq fun K=>?_|refine t_br (fun hc=>?_) fun hc=>?_|refine t_bx ?_|apply And.intro|intro vr)
      |((with_reducible first|refine ny ?_|refine t_dwh (h:=fun K KL=>?_));intros;simp only [go_sem,kp51,geff,g3,hs,kdV,h4,Int.toNat_natCast,kdsV_length]))
     all_goals try exact nd
     refine ⟨⟨i+1,by omega,hF⟩,by first|(simp only;omega)|omega,?_⟩
     simp only [updL_nil,updL_cons,delF_top,delF_upd,Nat.reduceEqDiff,reduceIte]
     refine le_backD (by first|rfl|(simp only [go_sem];try rfl)) (by first|exact Nat.zero_le _|simp) (by first|rfl|simp [lowO,low_lit,low_sl,low_ref,low_arr]) ?_ ?_
     ·repeat' (first|exact low_top|(refine low_upd rfl ?_))
     repeat' (first|exact leF_top _|exact (fun _=>LeR.refl _)|(with_reducible refine leF_sl ?_ ?_)|(refine leF_upd ?_ ?_))
     all_goals (first|exact LeR.top _|exact LeR.refl _|(refine LeR.of_eq ?_;(try simp only [go_sem]);try rfl)|((try simp only [go_sem]);try rfl))
   |scan=>
    cases h4:hasK op .scan with
    |true=>
     rw [if_pos h4] at hF
     simp only [hasK] at h4
     repeat' (first
      |(with_reducible first|refine nx ?_|refine t_seq fun K=>?_|refine t_br (fun hc=>?_) fun hc=>?_|refine t_bx ?_|apply And.intro|intro vr)
      |((with_reducible first|refine ny ?_|refine t_dwh (h:=fun K KL=>?_));intros;simp only [go_sem,kp51,geff,g3,hs,kdV,h4,Int.toNat_natCast,kdsV_length]))
     all_goals try exact nd
     all_goals (refine nl ?_;simp only [go_sem])
     rw [←hF]
     exact LeA.refl _
    |false=>
     rw [if_neg (by rw [h4];decide)] at hF
     simp only [hasK] at h4
     repeat' (first
      |(with_reducible first|refine nx ?_|refine t_seq fun K=>?_|refine t_br (fun hc=>?_) fun hc=>?_|refine t_bx ?_|apply And.intro|intro vr)
      |((with_reducible first|refine ny ?_|refine t_dwh (h:=fun K KL=>?_));intros;simp only [go_sem,kp51,geff,g3,hs,kdV,h4,Int.toNat_natCast,kdsV_length]))
     all_goals try exact nd
     refine ⟨⟨i+1,by omega,hF⟩,by first|(simp only;omega)|omega,?_⟩
     simp only [updL_nil,updL_cons,delF_top,delF_upd,Nat.reduceEqDiff,reduceIte]
     refine le_backD (by first|rfl|(simp only [go_sem];try rfl)) (by first|exact Nat.zero_le _|simp) (by first|rfl|simp [lowO,low_lit,low_sl,low_ref,low_arr]) ?_ ?_
     ·repeat' (first|exact low_top|(refine low_upd rfl ?_))
     repeat' (first|exact leF_top _|exact (fun _=>LeR.refl _)|(with_reducible refine leF_sl ?_ ?_)|(refine leF_upd ?_ ?_))
     all_goals (first|exact LeR.top _|exact LeR.refl _|(refine LeR.of_eq ?_;(try simp only [go_sem]);try rfl)|((try simp only [go_sem]);try rfl))
   |const=>
    cases h4:hasK op .const with
    |true=>
     rw [if_pos h4] at hF
     simp only [hasK] at h4
     repeat' (first
      |(with_reducible first|refine nx ?_|refine t_seq fun K=>?_|refine t_br (fun hc=>?_) fun hc=>?_|refine t_bx ?_|apply And.intro|intro vr)
      |((with_reducible first|refine ny ?_|refine t_dwh (h:=fun K KL=>?_));intros;simp only [go_sem,kp51,geff,g3,hs,kdV,h4,Int.toNat_natCast,kdsV_length]))
     all_goals try exact nd
     all_goals (refine nl ?_;simp only [go_sem])
     rw [←hF]
     exact LeA.refl _
    |false=>
     rw [if_neg (by rw [h4];decide)] at hF
     simp only [hasK] at h4
     repeat' (first
      |(with_reducible first|refine nx ?_|refine t_seq fun K=>?_|refine t_br (fun hc=>?_) fun hc=>?_|refine t_bx ?_|apply And.intro|intro vr)
      |((with_reducible first|refine ny ?_|refine t_dwh (h:=fun K KL=>?_));intros;simp only [go_sem,kp51,geff,g3,hs,kdV,h4,Int.toNat_natCast,kdsV_length]))
     all_goals try exact nd
     refine ⟨⟨i+1,by omega,hF⟩,by first|(simp only;omega)|omega,?_⟩
     simp only [updL_nil,updL_cons,delF_top,delF_upd,Nat.reduceEqDiff,reduceIte]
     refine le_backD (by first|rfl|(simp only [go_sem];try rfl)) (by first|exact Nat.zero_le _|simp) (by first|rfl|simp [lowO,low_lit,low_sl,low_ref,low_arr]) ?_ ?_
     ·repeat' (first|exact low_top|(refine low_upd rfl ?_))
     repeat' (first|exact leF_top _|exact (fun _=>LeR.refl _)|(with_reducible refine leF_sl ?_ ?_)|(refine leF_upd ?_ ?_))
     all_goals (first|exact LeR.top _|exact LeR.refl _|(refine LeR.of_eq ?_;(try simp only [go_sem]);try rfl)|((try simp only [go_sem]);try rfl))
   |size=>
    cases h4:hasK op .size with
    |true=>
     rw [if_pos h4] at hF
     simp only [hasK] at h4
     repeat' (first
      |(with_reducible first|refine nx ?_|refine t_seq fun K=>?_|refine t_br (fun hc=>?_) fun hc=>?_|refine t_bx ?_|apply And.intro|intro vr)
      |((with_reducible first|refine ny ?_|refine t_dwh (h:=fun K KL=>?_));intros;simp only [go_sem,kp51,geff,g3,hs,kdV,h4,Int.toNat_natCast,kdsV_length]))
     all_goals try exact nd
     all_goals (refine nl ?_;simp only [go_sem])
     rw [←hF]
     exact LeA.refl _
    |false=>
     rw [if_neg (by rw [h4];decide)] at hF
     simp only [hasK] at h4
     repeat' (first
      |(with_reducible first|refine nx ?_|refine t_seq fun K=>?_|refine t_br (fun hc=>?_) fun hc=>?_|refine t_bx ?_|apply And.intro|intro vr)
      |((with_reducible first|refine ny ?_|refine t_dwh (h:=fun K KL=>?_));intros;simp only [go_sem,kp51,geff,g3,hs,kdV,h4,Int.toNat_natCast,kdsV_length]))
     all_goals try exact nd
     refine ⟨⟨i+1,by omega,hF⟩,by first|(simp only;omega)|omega,?_⟩
     simp only [updL_nil,updL_cons,delF_top,delF_upd,Nat.reduceEqDiff,reduceIte]
     refine le_backD (by first|rfl|(simp only [go_sem];try rfl)) (by first|exact Nat.zero_le _|simp) (by first|rfl|simp [lowO,low_lit,low_sl,low_ref,low_arr]) ?_ ?_
     ·repeat' (first|exact low_top|(refine low_upd rfl ?_))
     repeat' (first|exact leF_top _|exact (fun _=>LeR.refl _)|(with_reducible refine leF_sl ?_ ?_)|(refine leF_upd ?_ ?_))
     all_goals (first|exact LeR.top _|exact LeR.refl _|(refine LeR.of_eq ?_;(try simp only [go_sem]);try rfl)|((try simp only [go_sem]);try rfl))
  ·have g3:decide ((i:Int)<(kds.length:Int))=false:=decide_eq_false (by omega)
   rw [List.drop_eq_nil_of_le (by omega),findK] at hF
   repeat' (first
    |(with_reducible first|refine nx ?_|refine t_seq fun K=>?_|refine t_br (fun hc=>?_) fun hc=>?_|refine t_bx ?_|apply And.intro|intro vr)
    |((with_reducible first|refine ny ?_|refine t_dwh (h:=fun K KL=>?_));intros;simp only [go_sem,kp51,geff,g3,Int.toNat_natCast,kdsV_length]))
   all_goals try exact nd
   all_goals (refine nl ?_;simp only [go_sem])
   rw [←hF]
   exact LeA.refl _
noncomputable def con51:PCon Tryz.prog where
  f:=51
  c:=fun
   |[.lit (.string op)]=>some (True,fdV (kindS op))
   |_=>none
  ok:=by
   intro args p r hc hp
   split at hc
   ·cases hc;exact kfind_pc
   ·cases hc
  fk:=fk51
theorem con51_f:con51.f=51:=rfl
theorem con51_c {op:ByteArray}:con51.c [.lit (.string op)]=some (True,fdV (kindS op)):=rfl
attribute [go_sem] con51_f con51_c
end Go.Proofs.YtcpjahmajkhchaaGreat

namespace Go.Proofs.YtcpjahmajkhchaaGreat
open Go Go.Fw
set_option maxRecDepth 20000
structure Ins where
  op:ByteArray
  a1:List AV
  a2:List AV
  ax:List (List Int)
  a4:List AV
  num:Int
  arr:Arr
  fn:List Stp
  ck:Int
  t1:ByteArray
  t2:ByteArray
  t3:List AV
def insV (i:Ins):AV:= .agg [.lit (.string i.op),.sl false 1 i.a1,.sl false 2 i.a2,.sl false 1 (ils i.ax),.sl false 2 i.a4,.lit (.int .i64 i.num),.lit (.string i.arr.e),.sl false 1 (ints .i64 i.arr.d),.sl false 1 (ints .i64 i.arr.x),.sl false 3 (stps i.fn),.lit (.int .i64 i.ck),.lit (.string i.t1),.lit (.string i.t2),.sl false 2 i.t3]
def insOf:AV→Option Ins
  |.agg [.lit (.string op),x1,x2,x3,x4,.lit (.int .i64 num),.lit (.string e),xd,xx,xf,.lit (.int .i64 ck),.lit (.string t1),.lit (.string t2),x13]=>
   match slA 1 x1,slA 2 x2,ilsOf x3,slA 2 x4,slK .i64 xd,slK .i64 xx,stpsOf xf,slA 2 x13 with
   |some a1,some a2,some ax,some a4,some d,some x,some f,some t3=>some ⟨op,a1,a2,ax,a4,num,⟨e,d,x⟩,f,ck,t1,t2,t3⟩
   |_,_,_,_,_,_,_,_=>none
  |_=>none
theorem insOf_agg {op e t1 t2:ByteArray} {x1 x2 x3 x4 xd xx xf x13:AV} {num ck:Int}:insOf (.agg [.lit (.string op),x1,x2,x3,x4,.lit (.int .i64 num),.lit (.string e),xd,xx,xf,.lit (.int .i64 ck),.lit (.string t1),.lit (.string t2),x13])=
    match slA 1 x1,slA 2 x2,ilsOf x3,slA 2 x4,slK .i64 xd,slK .i64 xx,stpsOf xf,slA 2 x13 with
    |some a1,some a2,some ax,some a4,some d,some x,some f,some t3=>some ⟨op,a1,a2,ax,a4,num,⟨e,d,x⟩,f,ck,t1,t2,t3⟩
    |_,_,_,_,_,_,_,_=>none:=rfl
theorem slA_sl {b:Bool} {n:Nat} {xs:List AV}:slA n (.sl b n xs)=some xs:=by simp [slA]
theorem insOf_le {x:AV} {i:Ins} (h:insOf x=some i):LeA x (insV i):=by
  unfold insOf at h
  split at h
  ·split at h
   ·rename_i h1 h2 h3 h4 h5 h6 h7 h8
    cases h
    exact LeA.agg ⟨LeA.refl _,slA_le h1,slA_le h2,ilsOf_le h3,slA_le h4,LeA.refl _,LeA.refl _,slK_le h5,slK_le h6,stpsOf_le h7,LeA.refl _,LeA.refl _,LeA.refl _,slA_le h8,trivial⟩
   ·cases h
  ·cases h
def formedS (i:Ins) (n:Int):Int:=
  if (n !=(if eqS i.op sSize=true then 1 else if (!isS i.op)=true then 0 else n)||(i.num !=0&& !eqS i.op n_chunk)||(eqS i.op sConst&& !(ofE i.arr==0)))=true then 1 else 0
noncomputable def B4:Env:=envJ (P:=Tryz.prog) jkK zer (fun _=>false) (fun _=>false) [con74,con45] []
theorem B4_ok:EnvOk Tryz.prog B4:=envJOk zer_ok
set_option maxHeartbeats 4000000 in
theorem formed_pc {i:Ins} {l:List Int} (ho:okA i.arr) (hl:l.length≤1000000):PC Tryz.prog 52 [insV i,.sl false 1 (ints .i64 l)] (.lit (.int .i64 (formedS i l.length))):=by
  obtain ⟨o1,o2⟩:=ho
  simp only [insV]
  refine pcR B4_ok (kp52) Tryz.func52 [.tmp 4] (h:=fun KF=>?_)
  unfold B4
  repeat' (first
   |(with_reducible first|refine nx ?_|refine t_seq fun K=>?_|refine t_br (fun hc=>?_) fun hc=>?_|refine t_bx ?_|apply And.intro|intro vr)
   |((with_reducible first|refine ny ?_|refine t_dwh (h:=fun K KL=>?_));intros;simp only [go_sem,kp52,geff]))
  all_goals try exact nd
  all_goals (refine nl ?_;simp only [go_sem])
  all_goals refine LeA.of_eq ?_
  all_goals (unfold formedS;simp_all [sSize,n_chunk,sConst])
noncomputable def con52:PCon Tryz.prog where
  f:=52
  c:=fun
   |[xi,xl]=>match insOf xi,slK .i64 xl with|some i,some l=>some (okA i.arr∧l.length≤1000000,.lit (.int .i64 (formedS i l.length)))|_,_=>none
   |_=>none
  ok:=by
   intro args p r hc hp
   split at hc
   ·split at hc
    ·rename_i hi hl
     cases hc
     exact PC.weak ((fun hp:_∧_=>formed_pc hp.1 hp.2) hp) ⟨insOf_le hi,slK_le hl,trivial⟩
    ·cases hc
   ·cases hc
  fk:=fk52
theorem con52_f:con52.f=52:=rfl
theorem con52_c {xi:AV} {xl:AV}:con52.c [xi,xl]=match insOf xi,slK .i64 xl with|some i,some l=>some (okA i.arr∧l.length≤1000000,.lit (.int .i64 (formedS i l.length)))|_,_=>none:=rfl
attribute [go_sem] con52_f con52_c
end Go.Proofs.YtcpjahmajkhchaaGreat

namespace Go.Proofs.YtcpjahmajkhchaaGreat
open Go Go.Fw
set_option maxRecDepth 20000
def nps (op:ByteArray):Nat:=match El.typesS op with
  |some r=>r.ps.length
  |none=>0
noncomputable def B5:Env:=envJ (P:=Tryz.prog) jkK zer (fun _=>false) (fun _=>false) [El.con65,con97,con117] []
theorem B5_ok:EnvOk Tryz.prog B5:=envJOk zer_ok
set_option maxHeartbeats 4000000 in
theorem zeros1_pc {op:ByteArray} {n:Int}:PC Tryz.prog 96 [.lit (.string op),.lit (.int .i64 n)] (rkV (fixS (List.replicate (nps op) 0) n)):=by
  unfold nps
  cases hT:El.typesS op with
  |none=>
   simp only
   refine pcR B5_ok (kp96) Tryz.func96 [.tmp 4,.tmp 5] (h:=fun KF=>?_)
   unfold B5
   repeat' (first
    |(with_reducible first|refine nx ?_|refine t_seq fun K=>?_|refine t_br (fun hc=>?_) fun hc=>?_|refine t_bx ?_|apply And.intro|intro vr)
    |((with_reducible first|refine ny ?_|refine t_dwh (h:=fun K KL=>?_));intros;simp only [go_sem,kp96,geff,hT,rep_ints,kOf_ints,rkV]))
   all_goals try exact nd
   all_goals (refine nl ?_;simp only [go_sem])
   exact LeA.refl _
  |some r=>
   have hr:=types_len hT
   simp only
   refine pcR B5_ok (kp96) Tryz.func96 [.tmp 4,.tmp 5] (h:=fun KF=>?_)
   unfold B5
   repeat' (first
    |(with_reducible first|refine nx ?_|refine t_seq fun K=>?_|refine t_br (fun hc=>?_) fun hc=>?_|refine t_bx ?_|apply And.intro|intro vr)
    |((with_reducible first|refine ny ?_|refine t_dwh (h:=fun K KL=>?_));intros;simp only [go_sem,kp96,geff,hT,rep_ints,kOf_ints,rkV,strs_length,Int.toNat_natCast]))
   all_goals try exact nd
   all_goals (refine nl ?_;simp only [go_sem])
   exact LeA.refl _
noncomputable def con96:PCon Tryz.prog where
  f:=96
  c:=fun
   |[.lit (.string op),.lit (.int .i64 n)]=>some (True,rkV (fixS (List.replicate (nps op) 0) n))
   |_=>none
  ok:=by
   intro args p r hc hp
   split at hc
   ·cases hc;exact zeros1_pc
   ·cases hc
  fk:=fk96
theorem con96_f:con96.f=96:=rfl
theorem con96_c {op:ByteArray} {n:Int}:con96.c [.lit (.string op),.lit (.int .i64 n)]=some (True,rkV (fixS (List.replicate (nps op) 0) n)):=rfl
attribute [go_sem] con96_f con96_c
end Go.Proofs.YtcpjahmajkhchaaGreat

namespace Go.Proofs.YtcpjahmajkhchaaGreat
open Go Go.Fw
set_option maxRecDepth 20000
def elT (L:List Arr) (i:Nat):List ByteArray:=(L.take i).map (·.e)
def x0T (L:List Arr) (i:Nat):List Int:=(L.take i).map fun a=>a.x.getD 0 0
theorem take_getD {cs:List Arr} {i:Nat} (h:i<cs.length):cs.take (i+1)=cs.take i++[cs.getD i nilA]:=by
  rw [List.take_add_one,List.getElem?_eq_getElem h,List.getD_eq_getElem?_getD,List.getElem?_eq_getElem h];rfl
theorem elT_succ {L:List Arr} {i:Nat} (h:i<L.length):elT L (i+1)=elT L i++[(L.getD i nilA).e]:=by simp only [elT,take_getD h,List.map_append,List.map_cons,List.map_nil]
theorem x0T_succ {L:List Arr} {i:Nat} (h:i<L.length):x0T L (i+1)=x0T L i++[(L.getD i nilA).x.getD 0 0]:=by simp only [x0T,take_getD h,List.map_append,List.map_cons,List.map_nil]
theorem elT_len {L:List Arr} {i:Nat} (h:i≤L.length):(elT L i).length=i:=by simp [elT];omega
theorem x0T_len {L:List Arr} {i:Nat} (h:i≤L.length):(x0T L i).length=i:=by simp [x0T];omega
def scalS (op:ByteArray) (L:List Arr):Arr×Int:=match El.resS op (L.map (·.e)) with
  |none=>(nilA,12)
  |some t=>ofS ⟨t,[],[(El.applyS op (L.map fun a=>a.x.getD 0 0)).getD 0]⟩
def a3V (p:Arr×Bool×Int):AV:= .tup [arrV p.1,.lit (.bool p.2.1),.lit (.int .i64 p.2.2)]
theorem a3_of {e:ByteArray} {x y:AV} {b:Bool} {n:Int} {d w:List Int} {r:Arr×Bool×Int} (hx:slK .i64 x=some d) (hy:slK .i64 y=some w) (h:r=(⟨e,d,w⟩,b,n)):LeA (.tup [.agg [.lit (.string e),x,y],.lit (.bool b),.lit (.int .i64 n)]) (a3V r):=by
  subst h
  exact LeA.tup ⟨LeA.agg ⟨LeA.refl _,slK_le hx,slK_le hy,trivial⟩,LeA.refl _,LeA.refl _,trivial⟩
attribute [go_sem] arrs_length
noncomputable def B6:Env:=envJ (P:=Tryz.prog) jkK zer (fun _=>false) (fun _=>false) [El.con63,El.con41,con47] []
theorem B6_ok:EnvOk Tryz.prog B6:=envJOk zer_ok
set_option maxHeartbeats 8000000 in
theorem scalar_pc {i:Ins} {l:List Int} {L:List Arr} (hL:L.length≤1000000) (hx:∀ a∈L,1≤a.x.length):PC Tryz.prog 98 [insV i,.sl false 1 (ints .i64 l),.sl false 3 (arrs L)] (a3V ((scalS i.op L).1,false,(scalS i.op L).2)):=by
  generalize hR:scalS i.op L=R
  obtain ⟨op,a1,a2,ax,a4,num,⟨ae,ad,aX⟩,fn,ck,t1,t2,t3⟩:=i
  unfold scalS at hR
  simp only [insV]
  simp only at hR
  refine pcR B6_ok (kp98) Tryz.func98 [.cell 6 31,.tmp 7,.tmp 8] (h:=fun KF=>?_)
  unfold B6
  repeat' (first
   |(with_reducible first|refine nx ?_|refine t_seq fun K=>?_|refine t_br (fun hc=>?_) fun hc=>?_|refine t_bx ?_|apply And.intro|intro vr)|exact kpd
   |((with_reducible first|refine ny ?_|refine t_kLF ?_ ?_|refine t_drawE (id:=6) (fun _=>true) [(0,1),(1,1),(2,1),(3,1),(5,1),(6,1),(7,1),(8,1),(9,1),(10,1),(4,0),(11,0),(12,1),(13,1)] (by kernel_rfl) fun K=>?_|refine t_dwh (h:=fun K KL=>?_));intros;simp only [go_sem,kp98,geff]))
  all_goals try exact nd
  refine t_loopF (ι:={p:Nat×Nat×Nat // p.1≤L.length}) (fun i=>[(21,.lit (.int .i64 i.1.1)),(9,.arr 2 i.1.2.1),(10,.arr 3 i.1.2.2)]) (fun i=>[.box 56 [.lit (.string op),.sl false 1 a1,.sl false 2 a2,.sl false 1 (ils ax),.sl false 2 a4,.lit (.int .i64 num),.lit (.string ae),.sl false 1 (ints .i64 ad),.sl false 1 (ints .i64 aX),.sl false 3 (stps fn),.lit (.int .i64 ck),.lit (.string t1),.lit (.string t2),.sl false 2 t3],.box 31 [.lit (.string ByteArray.empty),.sl true 1 [],.sl true 1 []],.arr 9 1 (strs (elT L i.1.1)) i.1.2.1 false,.arr 3 1 (ints .i64 (x0T L i.1.1)) i.1.2.2 false]) (fun i=>L.length - i.1.1) ⟨(0,0,0),by simp⟩ ?_ ?_
  ·refine (le_nil 9 9 1 rfl).trans ?_
   refine (le_nil 10 3 1 rfl).trans ?_
   exact lf
  rintro ⟨⟨j,v,w⟩,hj⟩ K0
  simp only at hj
  have h1:=elT_len hj
  have h2:=x0T_len hj
  rcases Nat.lt_or_ge j L.length with hc|hc
  ·have g3:decide ((j:Int)<(L.length:Int))=true:=decide_eq_true (by omega)
   have hx1:=hx _ (getD_mem nilA hc)
   repeat' (first
    |(with_reducible first|refine nx ?_|refine t_seq fun K=>?_|refine t_br (fun hc=>?_) fun hc=>?_|refine t_bx ?_|apply And.intro|intro vr)|exact kpd
    |((with_reducible first|refine ny ?_|refine t_kLF ?_ ?_|refine t_drawE (id:=6) (fun _=>true) [(0,1),(1,1),(2,1),(3,1),(5,1),(6,1),(7,1),(8,1),(9,1),(10,1),(4,0),(11,0),(12,1),(13,1)] (by kernel_rfl) fun K=>?_|refine t_dwh (h:=fun K KL=>?_));intros;simp only [go_sem,kp98,geff,g3,arrV,Int.toNat_natCast,←elT_succ hc,←x0T_succ hc]))
   all_goals try exact nd
   refine ⟨⟨(j+1,v+1,w+1),by omega⟩,by first|(simp only;omega)|omega,?_⟩
   simp only [updL_nil,updL_cons,delF_top,delF_upd,Nat.reduceEqDiff,reduceIte]
   refine le_backD (by first|rfl|(simp only [go_sem];try rfl)) (by first|exact Nat.zero_le _|simp) (by first|rfl|simp [lowO,low_lit,low_sl,low_ref,low_arr]) ?_ ?_
   ·repeat' (first|exact low_top|(refine low_upd rfl ?_))
   repeat' (first|exact leF_top _|exact (fun _=>LeR.refl _)|(with_reducible refine leF_sl ?_ ?_)|(refine leF_upd ?_ ?_))
   all_goals (first|exact LeR.top _|exact LeR.refl _|(refine LeR.of_eq ?_;(try simp only [go_sem]);try rfl)|((try simp only [go_sem]);try rfl))
  ·have g3:decide ((j:Int)<(L.length:Int))=false:=decide_eq_false (by omega)
   have e1:elT L j=L.map (·.e):=by unfold elT;rw [List.take_of_length_le hc]
   have e2:x0T L j=L.map (fun a=>a.x.getD 0 0):=by unfold x0T;rw [List.take_of_length_le hc]
   have h3:(L.map (·.e)).length≤1000000:=by simpa using hL
   cases hA:El.resS op (L.map (·.e)) with
   |none=>
    rw [hA] at hR
    simp only at hR
    repeat' (first
     |(with_reducible first|refine nx ?_|refine t_seq fun K=>?_|refine t_br (fun hc=>?_) fun hc=>?_|refine t_bx ?_|apply And.intro|intro vr)|exact kpd
     |((with_reducible first|refine ny ?_|refine t_kLF ?_ ?_|refine t_drawE (id:=6) (fun _=>true) [(0,1),(1,1),(2,1),(3,1),(5,1),(6,1),(7,1),(8,1),(9,1),(10,1),(4,0),(11,0),(12,1),(13,1)] (by kernel_rfl) fun K=>?_|refine t_dwh (h:=fun K KL=>?_));intros;simp only [go_sem,kp98,geff,g3,e1,e2,hA,rsV_none,Int.toNat_natCast,Bool.not_false]))
    all_goals try exact nd
    all_goals (refine nl ?_;simp only [go_sem])
    exact a3_of rfl rfl (by rw [←hR];rfl)
   |some t=>
    rw [hA] at hR
    simp only at hR
    generalize hB:El.applyS op (L.map fun a=>a.x.getD 0 0)=B at hR
    generalize hO:ofS ⟨t,[],[B.getD 0]⟩=O at hR
    obtain ⟨oa,oe⟩:=O
    cases B with
    |none=>
     have hO':ofS ⟨t,[],[0]⟩=(oa,oe):=hO
     repeat' (first
      |(with_reducible first|refine nx ?_|refine t_seq fun K=>?_|refine t_br (fun hc=>?_) fun hc=>?_|refine t_bx ?_|apply And.intro|intro vr)|exact kpd
      |((with_reducible first|refine ny ?_|refine t_kLF ?_ ?_|refine t_drawE (id:=6) (fun _=>true) [(0,1),(1,1),(2,1),(3,1),(5,1),(6,1),(7,1),(8,1),(9,1),(10,1),(4,0),(11,0),(12,1),(13,1)] (by kernel_rfl) fun K=>?_|refine t_dwh (h:=fun K KL=>?_));intros;simp only [go_sem,kp98,geff,g3,e1,e2,hA,hB,hO',rsV_some,applyV_none,arrV,Int.toNat_natCast,Bool.not_true]))
     all_goals try exact nd
     all_goals (refine nl ?_;simp only [go_sem])
     exact a3_of slK_sl slK_sl (by rw [←hR])
    |some n=>
     have hO':ofS ⟨t,[],[n]⟩=(oa,oe):=hO
     repeat' (first
      |(with_reducible first|refine nx ?_|refine t_seq fun K=>?_|refine t_br (fun hc=>?_) fun hc=>?_|refine t_bx ?_|apply And.intro|intro vr)|exact kpd
      |((with_reducible first|refine ny ?_|refine t_kLF ?_ ?_|refine t_drawE (id:=6) (fun _=>true) [(0,1),(1,1),(2,1),(3,1),(5,1),(6,1),(7,1),(8,1),(9,1),(10,1),(4,0),(11,0),(12,1),(13,1)] (by kernel_rfl) fun K=>?_|refine t_dwh (h:=fun K KL=>?_));intros;simp only [go_sem,kp98,geff,g3,e1,e2,hA,hB,hO',rsV_some,applyV_some,arrV,Int.toNat_natCast,Bool.not_true]))
     all_goals try exact nd
     all_goals (refine nl ?_;simp only [go_sem])
     exact a3_of slK_sl slK_sl (by rw [←hR])
end Go.Proofs.YtcpjahmajkhchaaGreat

namespace Go.Proofs.YtcpjahmajkhchaaGreat
open Go Go.Fw
set_option maxRecDepth 20000
attribute [go_sem] con20_f con20_c con26_f con26_c
noncomputable def C1:Env:=envJ (P:=Tryz.prog) jkR zer (fun _=>false) (fun _=>false) [con22,con20] []
theorem C1_ok:EnvOk Tryz.prog C1:=envJOk zer_ok
def listA (l:List Int):Arr:=⟨sInt,[(l.length:Int)],l⟩
def scA (n:Int):Arr:=⟨sInt,[],[n]⟩
theorem arr_of {e:ByteArray} {x y:AV} {a:Arr} {d w:List Int} (hx:slK .i64 x=some d) (hy:slK .i64 y=some w) (h:a=⟨e,d,w⟩):LeA (.agg [.lit (.string e),x,y]) (arrV a):=by
  subst h;exact LeA.agg ⟨LeA.refl _,slK_le hx,slK_le hy,trivial⟩
theorem list_pc {l:List Int}:PC Tryz.prog 23 [.sl false 1 (ints .i64 l)] (arrV (listA l)):=by
  refine pcR C1_ok (kp23) Tryz.func23 [.cell 2 31] (h:=fun KF=>?_)
  unfold C1
  repeat' (first
   |(with_reducible first|refine nx ?_|refine t_seq fun K=>?_|refine t_br (fun hc=>?_) fun hc=>?_|refine t_bx ?_|apply And.intro|intro vr)
   |((with_reducible first|refine ny ?_|refine t_dwh (h:=fun K KL=>?_));intros;simp only [go_sem,kp23,geff]))
  all_goals try exact nd
  all_goals (refine nl ?_;simp only [go_sem])
  exact arr_of slK_one slK_sl rfl
noncomputable def con23:PCon Tryz.prog where
  f:=23
  c:=fun
   |[xl]=>match slK .i64 xl with|some l=>some (True,arrV (listA l))|_=>none
   |_=>none
  ok:=by
   intro args p r hc hp
   split at hc
   ·split at hc
    ·rename_i hl
     cases hc
     exact PC.weak list_pc ⟨slK_le hl,trivial⟩
    ·cases hc
   ·cases hc
  fk:=fk23
theorem con23_f:con23.f=23:=rfl
theorem con23_c {xl:AV}:con23.c [xl]=match slK .i64 xl with|some l=>some (True,arrV (listA l))|_=>none:=rfl
theorem scal_pc {n:Int}:PC Tryz.prog 24 [.lit (.int .i64 n)] (arrV (scA n)):=by
  refine pcR C1_ok (kp24) Tryz.func24 [.cell 2 31] (h:=fun KF=>?_)
  unfold C1
  repeat' (first
   |(with_reducible first|refine nx ?_|refine t_seq fun K=>?_|refine t_br (fun hc=>?_) fun hc=>?_|refine t_bx ?_|apply And.intro|intro vr)
   |((with_reducible first|refine ny ?_|refine t_dwh (h:=fun K KL=>?_));intros;simp only [go_sem,kp24,geff]))
  all_goals try exact nd
  all_goals (refine nl ?_;simp only [go_sem])
  exact arr_of rfl slK_one rfl
noncomputable def con24:PCon Tryz.prog where
  f:=24
  c:=fun
   |[.lit (.int .i64 n)]=>some (True,arrV (scA n))
   |_=>none
  ok:=by
   intro args p r hc hp
   split at hc
   ·cases hc;exact scal_pc
   ·cases hc
  fk:=fk24
theorem con24_f:con24.f=24:=rfl
theorem con24_c {n:Int}:con24.c [.lit (.int .i64 n)]=some (True,arrV (scA n)):=rfl
theorem samev_pc {a b:Arr} (ha:okA a):PC Tryz.prog 25 [arrV a,arrV b] (.lit (.bool (ofE a==0&&eqA a b))):=by
  obtain ⟨a1,a2⟩:=ha
  simp only [arrV]
  refine pcR C1_ok (kp25) Tryz.func25 [.tmp 4] (h:=fun KF=>?_)
  unfold C1
  repeat' (first
   |(with_reducible first|refine nx ?_|refine t_seq fun K=>?_|refine t_br (fun hc=>?_) fun hc=>?_|refine t_bx ?_|apply And.intro|intro vr)
   |((with_reducible first|refine ny ?_|refine t_dwh (h:=fun K KL=>?_));intros;simp only [go_sem,kp25,geff]))
  all_goals try exact nd
  all_goals try exact ⟨a1,a2⟩
  all_goals (refine nl ?_;simp only [go_sem])
  exact LeA.refl _
noncomputable def con25:PCon Tryz.prog where
  f:=25
  c:=fun
   |[xa,xb]=>match arrOf xa,arrOf xb with|some a,some b=>some (okA a,.lit (.bool (ofE a==0&&eqA a b)))|_,_=>none
   |_=>none
  ok:=by
   intro args p r hc hp
   split at hc
   ·split at hc
    ·rename_i ha hb
     cases hc
     exact PC.weak (samev_pc hp) ⟨arrOf_le ha,arrOf_le hb,trivial⟩
    ·cases hc
   ·cases hc
  fk:=fk25
theorem con25_f:con25.f=25:=rfl
theorem con25_c {xa:AV} {xb:AV}:con25.c [xa,xb]=match arrOf xa,arrOf xb with|some a,some b=>some (okA a,.lit (.bool (ofE a==0&&eqA a b)))|_,_=>none:=rfl
def fewS (s:Stp):Bool:= !(decide ((s.args.length:Int)>4)||decide ((s.op.size:Int)>20))
def fewC (c:List Stp):Bool:=c.all fewS&&decide ((c.length:Int)≤10)
theorem few_pc' {c:List Stp} (hm:c.length≤9223372036854775807):PC Tryz.prog 10 [.sl false 3 (stps c)] (.lit (.bool (fewC c))):=by
  generalize hR:fewC c=R
  unfold fewC at hR
  refine pcR C1_ok (kp10) Tryz.func10 [.tmp 2] (h:=fun KF=>?_)
  unfold C1
  repeat' (first
   |(with_reducible first|refine nx ?_|refine t_seq fun K=>?_|refine t_br (fun hc=>?_) fun hc=>?_|refine t_bx ?_|apply And.intro|intro vr)
   |((with_reducible first|refine ny ?_|refine t_dwh (h:=fun K KL=>?_));intros;simp only [go_sem,kp10,geff]))
  all_goals try exact nd
  refine t_loopF (ι:={i:Nat // i≤c.length∧(c.drop i).all fewS=c.all fewS}) (fun i=>[(3,.lit (.int .i64 i.1))]) (fun i=>[]) (fun i=>c.length - i.1) ⟨0,by omega,rfl⟩ ?_ ?_
  ·exact lf
  rintro ⟨i,hi,hF⟩ K0
  rcases Nat.lt_or_ge i c.length with hc|hc
  ·rw [drop_getD nilStp hc,List.all_cons] at hF
   have g3:decide ((i:Int)<(c.length:Int))=true:=decide_eq_true (by omega)
   generalize hs:c.getD i nilStp=s at hF
   cases h4:(decide ((s.args.length:Int)>4)||decide ((s.op.size:Int)>20)) with
   |true=>
    rw [show fewS s=false by unfold fewS;rw [h4];rfl,Bool.false_and] at hF
    repeat' (first
     |(with_reducible first|refine nx ?_|refine t_seq fun K=>?_|refine t_br (fun hc=>?_) fun hc=>?_|refine t_bx ?_|apply And.intro|intro vr)
     |((with_reducible first|refine ny ?_|refine t_dwh (h:=fun K KL=>?_));intros;simp only [go_sem,kp10,geff,g3,hs,h4,stpV,Int.toNat_natCast,stps_length]))
    all_goals try exact nd
    all_goals (refine nl ?_;simp only [go_sem])
    exact LeA.of_eq (by rw [←hR,←hF,Bool.false_and])
   |false=>
    rw [show fewS s=true by unfold fewS;rw [h4];rfl,Bool.true_and] at hF
    repeat' (first
     |(with_reducible first|refine nx ?_|refine t_seq fun K=>?_|refine t_br (fun hc=>?_) fun hc=>?_|refine t_bx ?_|apply And.intro|intro vr)
     |((with_reducible first|refine ny ?_|refine t_dwh (h:=fun K KL=>?_));intros;simp only [go_sem,kp10,geff,g3,hs,h4,stpV,Int.toNat_natCast,stps_length]))
    all_goals try exact nd
    exact ⟨⟨i+1,by omega,hF⟩,wf,lf⟩
  ·have g3:decide ((i:Int)<(c.length:Int))=false:=decide_eq_false (by omega)
   rw [List.drop_eq_nil_of_le hc,List.all_nil] at hF
   repeat' (first
    |(with_reducible first|refine nx ?_|refine t_seq fun K=>?_|refine t_br (fun hc=>?_) fun hc=>?_|refine t_bx ?_|apply And.intro|intro vr)
    |((with_reducible first|refine ny ?_|refine t_dwh (h:=fun K KL=>?_));intros;simp only [go_sem,kp10,geff,g3,Int.toNat_natCast,stps_length]))
   all_goals try exact nd
   all_goals (refine nl ?_;simp only [go_sem])
   exact LeA.of_eq (by rw [←hR,←hF,Bool.true_and])
noncomputable def con10:PCon Tryz.prog where
  f:=10
  c:=fun
   |[xc]=>match stpsOf xc with|some c=>some (c.length≤9223372036854775807,.lit (.bool (fewC c)))|_=>none
   |_=>none
  ok:=by
   intro args p r hc hp
   split at hc
   ·split at hc
    ·rename_i hc
     cases hc
     exact PC.weak (few_pc' hp) ⟨stpsOf_le hc,trivial⟩
    ·cases hc
   ·cases hc
  fk:=fk10
theorem con10_f:con10.f=10:=rfl
theorem con10_c {xc:AV}:con10.c [xc]=match stpsOf xc with|some c=>some (c.length≤9223372036854775807,.lit (.bool (fewC c)))|_=>none:=rfl
attribute [go_sem] con10_f con10_c con23_f con23_c con24_f con24_c con25_f con25_c
end Go.Proofs.YtcpjahmajkhchaaGreat

namespace Go.Proofs.YtcpjahmajkhchaaGreat
open Go Go.Fw
set_option maxRecDepth 20000
theorem all_succ {n:Int} {axes:List Int} {i:Nat} (h:∀ j,j<i→axOk n axes j=true) (hi:axOk n axes i=true):∀ j,j<i+1→axOk n axes j=true:=fun j hj=>by
  rcases Nat.lt_or_ge j i with h'|h'
  ·exact h j h'
  ·rw [show j=i by omega];exact hi
set_option maxRecDepth 20000 in
set_option maxHeartbeats 4000000 in
theorem pick_pc {list axes:List Int} (hl:list.length≤1000000) (ha:axes.length≤1000000):PC Tryz.prog 55 [.sl false 1 (ints .i64 list),.sl false 1 (ints .i64 axes)] (optV (pickS list axes)):=by
  refine pcO E0_ok (fun _=>[0,1,4,5,6,7,8,9,10,11,12,36]) Tryz.func55 (h:=fun KF=>?_)
  unfold E0
  repeat' (first
   |(with_reducible first|refine nx ?_|refine t_seq fun K=>?_|refine t_br (fun hc=>?_) fun hc=>?_|refine t_bx ?_|apply And.intro|intro vr)
   |((with_reducible first|refine ny ?_|refine t_dwh (h:=fun K KL=>?_));intros;simp only [go_sem,geff]))
  refine t_loop (ι:={i:Nat // i≤axes.length∧∀ j,j<i→axOk list.length axes j=true}×Nat) (fun i=>⟨upd (upd (upd (upd (upd (upd topF 11 (.lit (.int .i64 i.1.1))) 10 (.lit (.int .i64 axes.length))) 9 (.sl false 1 (ints .i64 axes))) 6 (.arr 0 i.2)) 1 (.sl false 1 (ints .i64 axes))) 0 (.sl false 1 (ints .i64 list)),[.arr 3 1 (ints .i64 (pickM list (axes.take i.1.1))) i.2 false]⟩) (fun i=>axes.length - i.1.1) (⟨0,by omega,by intro j hj;omega⟩,0) ?_ ?_
  ·refine (le_nil 6 3 1 rfl).trans ?_
   (refine Le.frame ?_;repeat' (first|exact leF_top _|(with_reducible refine leF_sl ?_ ?_)|(refine leF_upd (LeR.of_eq ?_) ?_)))<;>(try (simp only [go_sem];try rfl))
  ·rintro ⟨⟨i,hi,hF⟩,ver⟩ K0
   rcases Nat.lt_or_ge i axes.length with hc|hc
   ·have g1:decide ((i:Int)<(axes.length:Int))=true:=decide_eq_true (by omega)
    have g2:=ints_getD .i64 axes i hc
    have hplen:=pickM_len list (axes.take i)
    rw [List.length_take] at hplen
    have hok:axOk list.length axes i=(!decide (axes.getD i 0<0)&&(!decide (axes.getD i 0≥list.length)&& !(decide ((i:Int)>0)&&decide (axes.getD (i - 1) 0≥axes.getD i 0)))):=rfl
    have g4:(ints .i64 axes).getD (i - 1) .top= .lit (.int .i64 (axes.getD (i - 1) 0)):=ints_getD .i64 axes (i - 1) (by omega)
    have hi1:((i:Int) - 1).toNat=i - 1:=by omega
    have hinw:∀ (m:Nat),m≤1000000→inI64 ((m:Int) - 1):=fun m hm=>by unfold inI64;omega
    by_cases c1:axes.getD i 0<0
    ·have c1':decide (axes.getD i 0<0)=true:=decide_eq_true c1
     have hno:=axP_no hc (by rw [hok,c1'];rfl)
     repeat' (first
      |(with_reducible first|refine nx ?_|refine t_seq fun K=>?_|refine t_br (fun hc=>?_) fun hc=>?_|refine t_bx ?_|apply And.intro|intro vr)
      |((with_reducible first|refine ny ?_|refine t_dwh (h:=fun K KL=>?_));intros;simp only [go_sem,geff,g1,g2,c1',g4,hi1,Int.toNat_natCast]))
     all_goals try exact om
     refine end_ret rfl ?_
     simp only [fin,go_sem,pickS,if_neg hno,optV]
     exact LeA.refl _
    ·have c1':decide (axes.getD i 0<0)=false:=decide_eq_false c1
     by_cases c2:axes.getD i 0≥list.length
     ·have c2':decide (axes.getD i 0≥list.length)=true:=decide_eq_true c2
      have hno:=axP_no hc (by rw [hok,c2',Bool.not_true,Bool.false_and,Bool.and_false])
      repeat' (first
       |(with_reducible first|refine nx ?_|refine t_seq fun K=>?_|refine t_br (fun hc=>?_) fun hc=>?_|refine t_bx ?_|apply And.intro|intro vr)
       |((with_reducible first|refine ny ?_|refine t_dwh (h:=fun K KL=>?_));intros;simp only [go_sem,geff,g1,g2,c1',c2',g4,hi1,Int.toNat_natCast]))
      all_goals try exact om
      refine end_ret rfl ?_
      simp only [fin,go_sem,pickS,if_neg hno,optV]
      exact LeA.refl _
     ·have c2':decide (axes.getD i 0≥list.length)=false:=decide_eq_false c2
      by_cases c3:i>0
      ·have c3':decide ((i:Int)>0)=true:=decide_eq_true (by omega)
       by_cases c4:axes.getD (i - 1) 0≥axes.getD i 0
       ·have c4':decide (axes.getD (i - 1) 0≥axes.getD i 0)=true:=decide_eq_true c4
        have hno:=axP_no hc (by rw [hok,c1',c2',c3',c4'];rfl)
        repeat' (first
         |(with_reducible first|refine nx ?_|refine t_seq fun K=>?_|refine t_br (fun hc=>?_) fun hc=>?_|refine t_bx ?_|apply And.intro|intro vr)
         |((with_reducible first|refine ny ?_|refine t_dwh (h:=fun K KL=>?_));intros;simp only [go_sem,geff,g1,g2,c1',c2',c3',c4',g4,hi1,Int.toNat_natCast]))
        all_goals try exact om
        refine end_ret rfl ?_
        simp only [fin,go_sem,pickS,if_neg hno,optV]
        exact LeA.refl _
       ·have c4':decide (axes.getD (i - 1) 0≥axes.getD i 0)=false:=decide_eq_false c4
        have hyes:axOk list.length axes i=true:=by rw [hok,c1',c2',c3',c4'];rfl
        have hin:=axOk_in hyes
        have g5:=ints_getD .i64 list (axes.getD i 0).toNat (by omega)
        have g6:=pickM_take (list:=list) hc
        repeat' (first
         |(with_reducible first|refine nx ?_|refine t_seq fun K=>?_|refine t_br (fun hc=>?_) fun hc=>?_|refine t_bx ?_|apply And.intro|intro vr)
         |((with_reducible first|refine ny ?_|refine t_dwh (h:=fun K KL=>?_));intros;simp only [go_sem,geff,g1,g2,g5,g6,c1',c2',c3',c4',g4,hi1,Int.toNat_natCast]))
        all_goals try exact om
        refine ⟨(⟨i+1,by omega,all_succ hF hyes⟩,ver+1),by simp only;omega,?_⟩
        (refine Le.frame ?_;repeat' (first|exact leF_top _|(with_reducible refine leF_sl ?_ ?_)|(refine leF_upd (LeR.of_eq ?_) ?_)))<;>(try (simp only [go_sem];try rfl))
      ·have c3':decide ((i:Int)>0)=false:=decide_eq_false (by omega)
       have hyes:axOk list.length axes i=true:=by rw [hok,c1',c2',c3'];rfl
       have hin:=axOk_in hyes
       have g5:=ints_getD .i64 list (axes.getD i 0).toNat (by omega)
       have g6:=pickM_take (list:=list) hc
       repeat' (first
        |(with_reducible first|refine nx ?_|refine t_seq fun K=>?_|refine t_br (fun hc=>?_) fun hc=>?_|refine t_bx ?_|apply And.intro|intro vr)
        |((with_reducible first|refine ny ?_|refine t_dwh (h:=fun K KL=>?_));intros;simp only [go_sem,geff,g1,g2,g5,g6,c1',c2',c3',g4,hi1,Int.toNat_natCast]))
       all_goals try exact om
       refine ⟨(⟨i+1,by omega,all_succ hF hyes⟩,ver+1),by simp only;omega,?_⟩
       (refine Le.frame ?_;repeat' (first|exact leF_top _|(with_reducible refine leF_sl ?_ ?_)|(refine leF_upd (LeR.of_eq ?_) ?_)))<;>(try (simp only [go_sem];try rfl))
   ·have g1:decide ((i:Int)<(axes.length:Int))=false:=decide_eq_false (by omega)
    have hp:axP list.length axes:=fun j hj=>hF j (by omega)
    have htk:axes.take i=axes:=List.take_of_length_le hc
    repeat' (first
     |(with_reducible first|refine nx ?_|refine t_seq fun K=>?_|refine t_br (fun hc=>?_) fun hc=>?_|refine t_bx ?_|apply And.intro|intro vr)
     |((with_reducible first|refine ny ?_|refine t_dwh (h:=fun K KL=>?_));intros;simp only [go_sem,geff,g1]))
    refine end_ret rfl ?_
    simp only [fin,go_sem,pickS,if_pos hp,optV,htk]
    exact LeA.refl _
noncomputable def con55:PCon Tryz.prog where
  f:=55
  c:=fun
   |[xlist,xaxes]=>match slK .i64 xlist,slK .i64 xaxes with|some list,some axes=>some (list.length≤1000000∧axes.length≤1000000,optV (pickS list axes))|_,_=>none
   |_=>none
  ok:=by
   intro args p r hc hp
   split at hc
   ·split at hc
    ·rename_i hlist haxes
     cases hc
     exact PC.weak ((fun hp:_∧_=>pick_pc hp.1 hp.2) hp) ⟨slK_le hlist,slK_le haxes,trivial⟩
    ·cases hc
   ·cases hc
  fk:=fk55
theorem con55_f:con55.f=55:=rfl
theorem con55_c {xlist:AV} {xaxes:AV}:con55.c [xlist,xaxes]=match slK .i64 xlist,slK .i64 xaxes with|some list,some axes=>some (list.length≤1000000∧axes.length≤1000000,optV (pickS list axes))|_,_=>none:=rfl
end Go.Proofs.YtcpjahmajkhchaaGreat

namespace Go.Proofs.YtcpjahmajkhchaaGreat
open Go Go.Fw
set_option maxRecDepth 20000
noncomputable def E24:Env:=envOf (P:=Tryz.prog) zer (fun t=>t==35) (fun _=>false) [con55,con81,con45] []
theorem E24_ok:EnvOk Tryz.prog E24:=envOk zer_ok
theorem ofE_rank {a:Arr} (h:ofE a=0):a.d.length≤6:=(sizeS_ok (ofE_inv h).2.1).1
set_option maxRecDepth 20000 in
set_option maxHeartbeats 2000000 in
theorem check_pc {frame axes:List Int} {r:Int} {a:Arr} (hl:frame.length≤1000000) (hx:axes.length≤1000000) (hr:inI64 r) (ha:okA a):
    PC Tryz.prog 75 [.sl false 1 (ints .i64 frame),.sl false 1 (ints .i64 axes),.lit (.int .i64 r),arrV a] (.lit (.int .i64 (checkS frame axes r a))):=by
  have ha1:=ha.1
  have ha2:=ha.2
  unfold checkS
  cases hP:pickS frame axes with
  |none=>
   simp only
   refine pcO E24_ok (fun _=>[0,1,2,7,8,9,10,17,25,38]) Tryz.func75 (h:=fun KF=>?_)
   unfold E24
   repeat' (first
    |(with_reducible first|refine nx ?_|refine t_seq fun K=>?_|refine t_br (fun hc=>?_) fun hc=>?_|refine t_bx ?_|apply And.intro|intro vr)
    |((with_reducible first|refine ny ?_|refine t_dwh (h:=fun K KL=>?_));intros;simp only [go_sem,geff,con55_f,con55_c,con81_f,con45_f,con45_c,arrV_def,arrOf_agg,slK_sl,hP,optV,Bool.not_false,Bool.not_true]))
   all_goals try exact om
   refine end_ret rfl ?_
   simp only [fin,go_sem]
   exact LeA.refl _
  |some own=>
   simp only
   by_cases h0:ofE a=0
   ·have e0:(ofE a==0)=true:=by rw [h0];rfl
    have hrk:=ofE_rank h0
    rw [if_neg (by simpa using h0)]
    by_cases h1:r<0
    ·have h1':decide (r<0)=true:=decide_eq_true h1
     rw [if_pos (.inl h1)]
     refine pcO E24_ok (fun _=>[0,1,2,7,8,9,10,17,25,38]) Tryz.func75 (h:=fun KF=>?_)
     unfold E24
     repeat' (first
      |(with_reducible first|refine nx ?_|refine t_seq fun K=>?_|refine t_br (fun hc=>?_) fun hc=>?_|refine t_bx ?_|apply And.intro|intro vr)
      |((with_reducible first|refine ny ?_|refine t_dwh (h:=fun K KL=>?_));intros;simp only [go_sem,geff,con55_f,con55_c,con81_f,con45_f,con45_c,arrV_def,arrOf_agg,slK_sl,hP,optV,e0,h1',Bool.not_false,Bool.not_true]))
     all_goals try exact om
     refine end_ret rfl ?_
     simp only [fin,go_sem]
     exact LeA.refl _
    ·have h1':decide (r<0)=false:=decide_eq_false h1
     have hw:((a.d.length:Int) !=IntKind.i64.wrap (r+(axes.length:Int)))=((a.d.length:Int) !=r+(axes.length:Int)):=by
       rw [wrap64_eq]
       by_cases e:(a.d.length:Int)=r+axes.length
       ·rw [bne_eq_false_iff_eq.2 e,bne_eq_false_iff_eq];unfold inI64 at hr;omega
       ·rw [bne_iff_ne.2 e,bne_iff_ne];unfold inI64 at hr;omega
     by_cases h2:(a.d.length:Int)=r+axes.length
     ·have h2':((a.d.length:Int) !=r+(axes.length:Int))=false:=bne_eq_false_iff_eq.2 h2
      rw [if_neg (by omega)]
      by_cases h3:a.d.take axes.length=own
      ·have h3':decide (a.d.take axes.length=own)=true:=decide_eq_true h3
       rw [if_neg (by simpa using h3)]
       refine pcO E24_ok (fun _=>[0,1,2,7,8,9,10,17,25,38]) Tryz.func75 (h:=fun KF=>?_)
       unfold E24
       repeat' (first
        |(with_reducible first|refine nx ?_|refine t_seq fun K=>?_|refine t_br (fun hc=>?_) fun hc=>?_|refine t_bx ?_|apply And.intro|intro vr)
        |((with_reducible first|refine ny ?_|refine t_dwh (h:=fun K KL=>?_));intros;simp only [go_sem,geff,con55_f,con55_c,con81_f,con81_c,con45_f,con45_c,arrV_def,arrOf_agg,slK_sl,hP,optV,e0,h1',hw,h2',h3',Bool.not_false,Bool.not_true,Int.toNat_natCast,List.length_take]))
       all_goals try exact om
       refine end_ret rfl ?_
       simp only [fin,go_sem]
       exact LeA.refl _
      ·have h3':decide (a.d.take axes.length=own)=false:=decide_eq_false h3
       rw [if_pos h3]
       refine pcO E24_ok (fun _=>[0,1,2,7,8,9,10,17,25,38]) Tryz.func75 (h:=fun KF=>?_)
       unfold E24
       repeat' (first
        |(with_reducible first|refine nx ?_|refine t_seq fun K=>?_|refine t_br (fun hc=>?_) fun hc=>?_|refine t_bx ?_|apply And.intro|intro vr)
        |((with_reducible first|refine ny ?_|refine t_dwh (h:=fun K KL=>?_));intros;simp only [go_sem,geff,con55_f,con55_c,con81_f,con81_c,con45_f,con45_c,arrV_def,arrOf_agg,slK_sl,hP,optV,e0,h1',hw,h2',h3',Bool.not_false,Bool.not_true,Int.toNat_natCast,List.length_take]))
       all_goals try exact om
       refine end_ret rfl ?_
       simp only [fin,go_sem]
       exact LeA.refl _
     ·have h2':((a.d.length:Int) !=r+(axes.length:Int))=true:=bne_iff_ne.2 h2
      rw [if_pos (.inr h2)]
      refine pcO E24_ok (fun _=>[0,1,2,7,8,9,10,17,25,38]) Tryz.func75 (h:=fun KF=>?_)
      unfold E24
      repeat' (first
       |(with_reducible first|refine nx ?_|refine t_seq fun K=>?_|refine t_br (fun hc=>?_) fun hc=>?_|refine t_bx ?_|apply And.intro|intro vr)
       |((with_reducible first|refine ny ?_|refine t_dwh (h:=fun K KL=>?_));intros;simp only [go_sem,geff,con55_f,con55_c,con81_f,con45_f,con45_c,arrV_def,arrOf_agg,slK_sl,hP,optV,e0,h1',hw,h2',Bool.not_false,Bool.not_true]))
      all_goals try exact om
      refine end_ret rfl ?_
      simp only [fin,go_sem]
      exact LeA.refl _
   ·have e0:(ofE a==0)=false:=bne0 h0
    rw [if_pos h0]
    refine pcO E24_ok (fun _=>[0,1,2,7,8,9,10,17,25,38]) Tryz.func75 (h:=fun KF=>?_)
    unfold E24
    repeat' (first
     |(with_reducible first|refine nx ?_|refine t_seq fun K=>?_|refine t_br (fun hc=>?_) fun hc=>?_|refine t_bx ?_|apply And.intro|intro vr)
     |((with_reducible first|refine ny ?_|refine t_dwh (h:=fun K KL=>?_));intros;simp only [go_sem,geff,con55_f,con55_c,con81_f,con45_f,con45_c,arrV_def,arrOf_agg,slK_sl,hP,optV,e0,Bool.not_false,Bool.not_true]))
    all_goals try exact om
    refine end_ret rfl ?_
    simp only [fin,go_sem]
    exact LeA.refl _
noncomputable def con75:PCon Tryz.prog where
  f:=75
  c:=fun
   |[xframe,xaxes,.lit (.int .i64 r),xa]=>match slK .i64 xframe,slK .i64 xaxes,arrOf xa with|some frame,some axes,some a=>some (frame.length≤1000000∧axes.length≤1000000∧inI64 r∧okA a,.lit (.int .i64 (checkS frame axes r a)))|_,_,_=>none
   |_=>none
  ok:=by
   intro args p r hc hp
   split at hc
   ·split at hc
    ·rename_i hframe haxes ha
     cases hc
     exact PC.weak ((fun hp:_∧_∧_∧_=>check_pc hp.1 hp.2.1 hp.2.2.1 hp.2.2.2) hp) ⟨slK_le hframe,slK_le haxes,LeA.refl _,arrOf_le ha,trivial⟩
    ·cases hc
   ·cases hc
  fk:=fk75
theorem con75_f:con75.f=75:=rfl
theorem con75_c {xframe:AV} {xaxes:AV} {r:Int} {xa:AV}:con75.c [xframe,xaxes,.lit (.int .i64 r),xa]=match slK .i64 xframe,slK .i64 xaxes,arrOf xa with|some frame,some axes,some a=>some (frame.length≤1000000∧axes.length≤1000000∧inI64 r∧okA a,.lit (.int .i64 (checkS frame axes r a)))|_,_,_=>none:=rfl
noncomputable def E25:Env:=envOf (P:=Tryz.prog) zer (fun _=>false) (fun _=>false) [con69,con75] []
theorem E25_ok:EnvOk Tryz.prog E25:=envOk zer_ok
structure Lk (frame:List Int) (axs:List (List Int)) (rs:List Int) (l:List Arr) (G:Int) where
  i:Nat
  g:List AObj
  hi:i≤l.length
  hF:chkG frame (axs.drop i) (rs.drop i) (l.drop i)=G
set_option maxRecDepth 20000 in
set_option maxHeartbeats 4000000 in
theorem chk_pc {frame:List Int} {axs:List (List Int)} {rs:List Int} {l:List Arr} (hf:frame.length≤1000000) (hx:∀ x∈axs,x.length≤1000000) (hm:l.length≤1000000) (hr:∀ r∈rs,inI64 r) (hl:∀ a∈l,okA a):
    PC Tryz.prog 53 [.sl false 1 (ints .i64 frame),.sl false 1 (ils axs),.sl false 1 (ints .i64 rs),.sl false 3 (arrs l)] (.lit (.int .i64 (chkS frame axs rs l))):=by
  unfold chkS
  generalize hS:sizeS frame=s
  obtain ⟨sn,se⟩:=s
  simp only
  by_cases h1:se≠0∧se≠3
  ·have e1:(se !=0)=true:=bne_iff_ne.2 h1.1
   have e2:(se !=3)=true:=bne_iff_ne.2 h1.2
   rw [if_pos (.inl h1)]
   refine pcO E25_ok (fun _=>[0,1,2,3,8,10,11,12,13,38,40,41,42,43,44,60]) Tryz.func53 (h:=fun KF=>?_)
   unfold E25
   repeat' (first
    |(with_reducible first|refine nx ?_|refine t_seq fun K=>?_|refine t_br (fun hc=>?_) fun hc=>?_|refine t_bx ?_|apply And.intro|intro vr)
    |((with_reducible first|refine ny ?_|refine t_dwh (h:=fun K KL=>?_));intros;simp only [go_sem,geff,con69_f,con75_f,con69_c,arrs_length,ils_length,slK_sl,szV_def,hS,e1,e2]))
   all_goals try exact om
   refine end_ret rfl ?_
   simp only [fin,go_sem]
   exact LeA.refl _
  ·have h1':se=0∨se=3:=by omega
   by_cases h2:axs.length=l.length
   ·have e3:((axs.length:Int) !=(l.length:Int))=false:=by rw [bne_eq_false_iff_eq];omega
    by_cases h3:rs.length=l.length
    ·have e4:((rs.length:Int) !=(l.length:Int))=false:=by rw [bne_eq_false_iff_eq];omega
     rw [if_neg (by omega)]
     rcases h1' with rfl|rfl
     ·rw [if_neg (by simp)]
      generalize hG:chkG frame axs rs l=G
      refine pcO E25_ok (fun _=>[0,1,2,3,8,10,11,12,13,38,40,41,42,43,44,60]) Tryz.func53 (h:=fun KF=>?_)
      unfold E25
      repeat' (first
       |(with_reducible first|refine nx ?_|refine t_seq fun K=>?_|refine t_br (fun hc=>?_) fun hc=>?_|refine t_bx ?_|apply And.intro|intro vr)
       |((with_reducible first|refine ny ?_|refine t_dwh (h:=fun K KL=>?_));intros;simp only [go_sem,geff,con69_f,con75_f,con69_c,arrs_length,ils_length,slK_sl,szV_def,hS,e3,e4]))
      all_goals try exact om
      refine t_loop (ι:=Lk frame axs rs l G) (fun i=>⟨upd (upd (upd (upd (upd (upd topF 43 (.lit (.int .i64 i.i))) 42 (.lit (.int .i64 l.length))) 41 (.sl false 3 (arrs l))) 2 (.sl false 1 (ints .i64 rs))) 1 (.sl false 1 (ils axs))) 0 (.sl false 1 (ints .i64 frame)),i.g⟩) (fun i=>l.length - i.i) ⟨0,[],by omega,hG⟩ ?_ ?_
      ·skip
       (refine Le.frame ?_;repeat' (first|exact leF_top _|(with_reducible refine leF_sl ?_ ?_)|(refine leF_upd (LeR.of_eq ?_) ?_)))<;>(try (simp only [go_sem];try rfl))
      ·rintro ⟨i,g,hi,hF⟩ K0
       have k1:∀ (X:AObj),(g++[X])[g.length]? =some X:=fun X=>getA0 rfl
       have k2:∀ (X Y:AObj),(g++[X]).set g.length Y=g++[Y]:=fun X Y=>setA0 rfl
       rcases Nat.lt_or_ge i l.length with hc|hc
       ·have g1:decide ((i:Int)<(l.length:Int))=true:=decide_eq_true (by omega)
        have g2:=arrs_getD l i hc
        have g3:=ints_getD .i64 rs i (by omega)
        have g4:=ils_getD axs i (by omega)
        have ha:=hl _ (getD_mem nilA hc)
        have hr':=hr _ (getD_mem 0 (show i<rs.length by omega))
        have hx':=hx _ (getD_mem [] (show i<axs.length by omega))
        rw [drop_getD nilA hc,drop_getD 0 (show i<rs.length by omega),drop_getD [] (show i<axs.length by omega),chkG] at hF
        generalize l.getD i nilA=a at g2 hF ha
        generalize rs.getD i 0=r at g3 hF hr'
        generalize axs.getD i []=ax at g4 hF hx'
        generalize hC:checkS frame ax r a=c at hF
        by_cases c0:c=0
        ·subst c0
         rw [if_neg (by simp)] at hF
         repeat' (first
          |(with_reducible first|refine nx ?_|refine t_seq fun K=>?_|refine t_br (fun hc=>?_) fun hc=>?_|refine t_bx ?_|apply And.intro|intro vr)
          |((with_reducible first|refine ny ?_|refine t_dwh (h:=fun K KL=>?_));intros;simp only [go_sem,geff,con69_f,con75_f,con75_c,g1,g2,g3,g4,k1,k2,hC,arrs_length,ils_length,arrV_def,arrOf_agg,slK_sl,Int.toNat_natCast]))
         all_goals try exact om
         all_goals try first|exact ha|exact hr'|exact hx'
         refine ⟨⟨i+1,g++[.box 31 [.lit (.string a.e),.sl false 1 (ints .i64 a.d),.sl false 1 (ints .i64 a.x)]],by omega,hF⟩,by simp only;omega,?_⟩
         (refine Le.frame ?_;repeat' (first|exact leF_top _|(with_reducible refine leF_sl ?_ ?_)|(refine leF_upd (LeR.of_eq ?_) ?_)))<;>(try (simp only [go_sem];try rfl))
        ·have c1:(c !=0)=true:=bne_iff_ne.2 c0
         rw [if_pos c0] at hF
         subst hF
         repeat' (first
          |(with_reducible first|refine nx ?_|refine t_seq fun K=>?_|refine t_br (fun hc=>?_) fun hc=>?_|refine t_bx ?_|apply And.intro|intro vr)
          |((with_reducible first|refine ny ?_|refine t_dwh (h:=fun K KL=>?_));intros;simp only [go_sem,geff,con69_f,con75_f,con75_c,g1,g2,g3,g4,k1,k2,hC,c1,arrs_length,ils_length,arrV_def,arrOf_agg,slK_sl,Int.toNat_natCast]))
         all_goals try exact om
         all_goals try first|exact ha|exact hr'|exact hx'
         refine end_ret rfl ?_
         simp only [fin,go_sem]
         exact LeA.refl _
       ·have g1:decide ((i:Int)<(l.length:Int))=false:=decide_eq_false (by omega)
        rw [List.drop_eq_nil_of_le hc,chkG] at hF
        ·subst hF
         repeat' (first
          |(with_reducible first|refine nx ?_|refine t_seq fun K=>?_|refine t_br (fun hc=>?_) fun hc=>?_|refine t_bx ?_|apply And.intro|intro vr)
          |((with_reducible first|refine ny ?_|refine t_dwh (h:=fun K KL=>?_));intros;simp only [go_sem,geff,con69_f,con75_f,g1,arrs_length]))
         all_goals try exact om
         refine end_ret rfl ?_
         simp only [fin,go_sem]
         exact LeA.refl _
        ·intro _ _ _ _ _ _ _ _ h;cases h
     ·rw [if_pos (by decide)]
      refine pcO E25_ok (fun _=>[0,1,2,3,8,10,11,12,13,38,40,41,42,43,44,60]) Tryz.func53 (h:=fun KF=>?_)
      unfold E25
      repeat' (first
       |(with_reducible first|refine nx ?_|refine t_seq fun K=>?_|refine t_br (fun hc=>?_) fun hc=>?_|refine t_bx ?_|apply And.intro|intro vr)
       |((with_reducible first|refine ny ?_|refine t_dwh (h:=fun K KL=>?_));intros;simp only [go_sem,geff,con69_f,con75_f,con69_c,arrs_length,ils_length,slK_sl,szV_def,hS,e3,e4]))
      all_goals try exact om
      refine end_ret rfl ?_
      simp only [fin,go_sem]
      exact LeA.refl _
    ·have e4:((rs.length:Int) !=(l.length:Int))=true:=bne_iff_ne.2 (by omega)
     rw [if_pos (.inr (.inr h3))]
     rcases h1' with rfl|rfl
     ·skip
      refine pcO E25_ok (fun _=>[0,1,2,3,8,10,11,12,13,38,40,41,42,43,44,60]) Tryz.func53 (h:=fun KF=>?_)
      unfold E25
      repeat' (first
       |(with_reducible first|refine nx ?_|refine t_seq fun K=>?_|refine t_br (fun hc=>?_) fun hc=>?_|refine t_bx ?_|apply And.intro|intro vr)
       |((with_reducible first|refine ny ?_|refine t_dwh (h:=fun K KL=>?_));intros;simp only [go_sem,geff,con69_f,con75_f,con69_c,arrs_length,ils_length,slK_sl,szV_def,hS,e3,e4]))
      all_goals try exact om
      refine end_ret rfl ?_
      simp only [fin,go_sem]
      exact LeA.refl _
     ·skip
      refine pcO E25_ok (fun _=>[0,1,2,3,8,10,11,12,13,38,40,41,42,43,44,60]) Tryz.func53 (h:=fun KF=>?_)
      unfold E25
      repeat' (first
       |(with_reducible first|refine nx ?_|refine t_seq fun K=>?_|refine t_br (fun hc=>?_) fun hc=>?_|refine t_bx ?_|apply And.intro|intro vr)
       |((with_reducible first|refine ny ?_|refine t_dwh (h:=fun K KL=>?_));intros;simp only [go_sem,geff,con69_f,con75_f,con69_c,arrs_length,ils_length,slK_sl,szV_def,hS,e3,e4]))
      all_goals try exact om
      refine end_ret rfl ?_
      simp only [fin,go_sem]
      exact LeA.refl _
   ·have e3:((axs.length:Int) !=(l.length:Int))=true:=bne_iff_ne.2 (by omega)
    rw [if_pos (.inr (.inl h2))]
    rcases h1' with rfl|rfl
    ·skip
     refine pcO E25_ok (fun _=>[0,1,2,3,8,10,11,12,13,38,40,41,42,43,44,60]) Tryz.func53 (h:=fun KF=>?_)
     unfold E25
     repeat' (first
      |(with_reducible first|refine nx ?_|refine t_seq fun K=>?_|refine t_br (fun hc=>?_) fun hc=>?_|refine t_bx ?_|apply And.intro|intro vr)
      |((with_reducible first|refine ny ?_|refine t_dwh (h:=fun K KL=>?_));intros;simp only [go_sem,geff,con69_f,con75_f,con69_c,arrs_length,ils_length,slK_sl,szV_def,hS,e3]))
     all_goals try exact om
     refine end_ret rfl ?_
     simp only [fin,go_sem]
     exact LeA.refl _
    ·skip
     refine pcO E25_ok (fun _=>[0,1,2,3,8,10,11,12,13,38,40,41,42,43,44,60]) Tryz.func53 (h:=fun KF=>?_)
     unfold E25
     repeat' (first
      |(with_reducible first|refine nx ?_|refine t_seq fun K=>?_|refine t_br (fun hc=>?_) fun hc=>?_|refine t_bx ?_|apply And.intro|intro vr)
      |((with_reducible first|refine ny ?_|refine t_dwh (h:=fun K KL=>?_));intros;simp only [go_sem,geff,con69_f,con75_f,con69_c,arrs_length,ils_length,slK_sl,szV_def,hS,e3]))
     all_goals try exact om
     refine end_ret rfl ?_
     simp only [fin,go_sem]
     exact LeA.refl _
noncomputable def con53:PCon Tryz.prog where
  f:=53
  c:=fun
   |[xframe,xaxs,xrs,xl]=>match slK .i64 xframe,ilsOf xaxs,slK .i64 xrs,arrsOf xl with|some frame,some axs,some rs,some l=>some (frame.length≤1000000∧(∀ x∈axs,x.length≤1000000)∧l.length≤1000000∧(∀ r∈rs,inI64 r)∧(∀ a∈l,okA a),.lit (.int .i64 (chkS frame axs rs l)))|_,_,_,_=>none
   |_=>none
  ok:=by
   intro args p r hc hp
   split at hc
   ·split at hc
    ·rename_i hframe haxs hrs hl
     cases hc
     exact PC.weak ((fun hp:_∧_∧_∧_∧_=>chk_pc hp.1 hp.2.1 hp.2.2.1 hp.2.2.2.1 hp.2.2.2.2) hp) ⟨slK_le hframe,ilsOf_le haxs,slK_le hrs,arrsOf_le hl,trivial⟩
    ·cases hc
   ·cases hc
  fk:=fk53
theorem con53_f:con53.f=53:=rfl
theorem con53_c {xframe:AV} {xaxs:AV} {xrs:AV} {xl:AV}:con53.c [xframe,xaxs,xrs,xl]=match slK .i64 xframe,ilsOf xaxs,slK .i64 xrs,arrsOf xl with|some frame,some axs,some rs,some l=>some (frame.length≤1000000∧(∀ x∈axs,x.length≤1000000)∧l.length≤1000000∧(∀ r∈rs,inI64 r)∧(∀ a∈l,okA a),.lit (.int .i64 (chkS frame axs rs l)))|_,_,_,_=>none:=rfl
end Go.Proofs.YtcpjahmajkhchaaGreat

namespace Go.Proofs.YtcpjahmajkhchaaGreat
open Go Go.Fw
set_option maxRecDepth 20000
noncomputable def con98:PCon Tryz.prog where
  f:=98
  c:=fun
   |[xi,xl,xL]=>match insOf xi,slK .i64 xl,arrsOf xL with|some i,some l,some L=>some (L.length≤1000000∧∀ a∈L,1≤a.x.length,a3V ((scalS i.op L).1,false,(scalS i.op L).2))|_,_,_=>none
   |_=>none
  ok:=by
   intro args p r hc hp
   split at hc
   ·split at hc
    ·rename_i hi hl hL
     cases hc
     exact PC.weak ((fun hp:_∧_=>scalar_pc hp.1 hp.2) hp) ⟨insOf_le hi,slK_le hl,arrsOf_le hL,trivial⟩
    ·cases hc
   ·cases hc
  fk:=fk98
theorem con98_f:con98.f=98:=rfl
theorem con98_c {xi:AV} {xl:AV} {xL:AV}:con98.c [xi,xl,xL]=match insOf xi,slK .i64 xl,arrsOf xL with|some i,some l,some L=>some (L.length≤1000000∧∀ a∈L,1≤a.x.length,a3V ((scalS i.op L).1,false,(scalS i.op L).2))|_,_,_=>none:=rfl
noncomputable def con54:PCon Tryz.prog where
  f:=54
  c:=fun
   |[xfr]=>match slK .i64 xfr with|some fr=>some (fr.length≤1000000,inV (indicesS fr))|_=>none
   |_=>none
  ok:=by
   intro args p r hc hp
   split at hc
   ·split at hc
    ·rename_i hfr
     cases hc
     exact PC.weak (indices_pc hp) ⟨slK_le hfr,trivial⟩
    ·cases hc
   ·cases hc
  fk:=fk54
theorem con54_f:con54.f=54:=rfl
theorem con54_c {xfr:AV}:con54.c [xfr]=match slK .i64 xfr with|some fr=>some (fr.length≤1000000,inV (indicesS fr))|_=>none:=rfl
def ownC (ax:List (List Int)) (rk:List Int) (L:List Arr) (ix:List Int) (i:Nat):Arr:=(cellS (L.getD i nilA) (rk.getD i 0) ((pickS ix (ax.getD i [])).getD [])).1
def ownS (ax:List (List Int)) (rk:List Int) (L:List Arr) (ix:List Int) (n:Nat):List Arr:=(List.range n).map (ownC ax rk L ix)
theorem ownS_succ {ax:List (List Int)} {rk:List Int} {L:List Arr} {ix:List Int} {n:Nat}:ownS ax rk L ix (n+1)=ownS ax rk L ix n++[ownC ax rk L ix n]:=by simp [ownS,List.range_succ]
theorem ownS_len {ax:List (List Int)} {rk:List Int} {L:List Arr} {ix:List Int} {n:Nat}:(ownS ax rk L ix n).length=n:=by simp [ownS]
def insG (op:ByteArray) (ax:List (List Int)) (rk:List Int) (L:List Arr):List (List Int)→List Arr→List Arr×Int
  |[],acc=>(acc,0)
  |ix::t,acc=>if (scalS op (ownS ax rk L ix L.length)).2≠0 then ([],(scalS op (ownS ax rk L ix L.length)).2) else insG op ax rk L t (acc++[(scalS op (ownS ax rk L ix L.length)).1])
attribute [go_sem] ilsOf_sl stpsOf_sl con98_f con98_c con54_f con54_c con53_f con53_c con55_f con55_c con56_f con56_c con57_f con57_c insOf_agg slA_sl rkV a3V arrsOf_sl kOf_ints
structure Io (op:ByteArray) (ax:List (List Int)) (rk:List Int) (L:List Arr) (ixs:List (List Int)) (G:List Arr) where
  k:Nat
  v:Nat
  acc:List Arr
  hk:k≤ixs.length
  ha:acc.length=k
  hF:insG op ax rk L (ixs.drop k) acc=(G,0)
theorem optV_some {l:List Int}:optV (some l)= .tup [.sl false 1 (ints .i64 l),.lit (.bool true)]:=rfl
theorem arrs_app {l:List Arr} {e:ByteArray} {d x:List Int}:arrs l++[.agg [.lit (.string e),.sl false 1 (ints .i64 d),.sl false 1 (ints .i64 x)]]=arrs (l++[⟨e,d,x⟩]):=by simp [arrs,arrV]
noncomputable def D1:Env:=envJ (P:=Tryz.prog) jkK zer (fun _=>false) (fun _=>false) [con51,con96,con52,con53,con54,con55,con56,con98,con57] []
theorem D1_ok:EnvOk Tryz.prog D1:=envJOk zer_ok
set_option maxHeartbeats 8000000 in
theorem instr_ok {op:ByteArray} {a1 a2 a4 t3:List AV} {ax:List (List Int)} {num:Int} {ar:Arr} {fn:List Stp} {ck:Int} {t1 t2:ByteArray} {fr sz:List Int} {L acc:List Arr} {out:Arr} {n:Int}
    (hk:kindS op=some .prim) (hr:fixS (List.replicate (nps op) 0) L.length=(List.replicate (nps op) 0,true)) (hf:formedS ⟨op,a1,a2,ax,a4,num,ar,fn,ck,t1,t2,t3⟩ sz.length=0)
    (hc:chkS fr ax (List.replicate (nps op) 0) L=0) (hS:sizeS fr=(n,0)) (h1:1≤n) (hg:insG op ax (List.replicate (nps op) 0) L (inds fr n.toNat) []=(acc,0)) (hj:joinS fr acc (acc.getD 0 nilA)=(out,0))
    (o1:okA ar) (o2:sz.length≤1000000) (o3:∀ a∈L,okA a) (o4:∀ x∈ax,x.length≤1000000) (o5:L.length=nps op) (o6:ax.length=L.length)
    (o7:∀ ix∈inds fr n.toNat,∀ a∈ownS ax (List.replicate (nps op) 0) L ix L.length,1≤a.x.length) (o8:∀ a∈acc,okA a) (o9:∀ ix∈inds fr n.toNat,∀ k,∃ y,pickS ix (ax.getD k [])=some y):
    PC Tryz.prog 28 [insV ⟨op,a1,a2,ax,a4,num,ar,fn,ck,t1,t2,t3⟩,.sl false 1 (ints .i64 fr),.sl false 1 (ints .i64 sz),.sl false 3 (arrs L)] (a3V (out,false,0)):=by
  have hfl:=(sizeS_ok hS).1
  have hX:indicesS fr=(inds fr n.toNat,0):=by unfold indicesS;rw [hS];simp
  obtain ⟨ae,ad,aX⟩:=ar
  have hnp:nps op≤3:=by
    unfold nps
    cases hT:El.typesS op with
    |none=>simp
    |some r=>exact types_len hT
  simp only [insV]
  refine pcR D1_ok (kp28) Tryz.func28 [.cell 8 31,.tmp 9,.tmp 10] (h:=fun KF=>?_)
  unfold D1
  generalize hI:inds fr n.toNat=ixs at hX hg o7 o9
  have hil:∀ x∈ixs,x.length≤1000000:=fun x hx=>by
    rw [←hI] at hx
    obtain ⟨k,_,rfl⟩:=List.mem_map.1 hx
    unfold idxS
    split
    ·simp
    ·split
     ·simp
     ·simp [digR_len];omega
  have hxn:ixs.length≤4096:=by rw [←hI,inds_len];have:=(sizeS_ok hS).2.2.2;omega
  repeat' (first
   |(with_reducible first|refine nx ?_|refine t_seq fun K=>?_|refine t_br (fun hc=>?_) fun hc=>?_|refine t_bx ?_|apply And.intro|intro vr)|exact kpd
   |((with_reducible first|refine ny ?_|refine t_kLF ?_ ?_|refine t_drawE (id:=20) (fun i=>i==5) [(0,1),(1,1),(2,1),(3,1),(4,1),(5,1),(6,1),(7,1),(8,1),(9,1),(10,0),(11,0),(12,1)] (by kernel_rfl) fun K=>?_|refine t_dwh (h:=fun K KL=>?_));intros;simp only [go_sem,kp28,geff,hk,fdV,kdV,fun0,hr,hf,hc,hX,arrs_length,inV,ilsl_len]))
  all_goals try exact nd
  all_goals try exact o4 _ (by assumption)
  all_goals try exact o3 _ (by assumption)
  all_goals try (have q:=List.eq_of_mem_replicate (by assumption);unfold inI64;omega)
  refine t_loopF (ι:=Io op ax (List.replicate (nps op) 0) L ixs acc) (fun i=>[(79,.lit (.int .i64 i.k)),(17,.arr 3 i.v)]) (fun i=>[.box 56 [.lit (.string op),.sl false 1 a1,.sl false 2 a2,.sl false 1 (ils ax),.sl false 2 a4,.lit (.int .i64 num),.lit (.string ae),.sl false 1 (ints .i64 ad),.sl false 1 (ints .i64 aX),.sl false 3 (stps fn),.lit (.int .i64 ck),.lit (.string t1),.lit (.string t2),.sl false 2 t3],.box 31 [.lit (.string ByteArray.empty),.sl true 1 [],.sl true 1 []],.box 92 [.fn (.func 95) [] [],.fn (.func 96) [] [],.fn (.func 98) [] []],.arr 31 3 (arrs i.acc) i.v false]) (fun i=>ixs.length - i.k) ⟨0,0,[],by omega,rfl,hg⟩ ?_ ?_
  ·refine (le_nil 17 31 3 rfl).trans ?_
   exact lf
  rintro ⟨k,v,ac,hkk,hac,hF⟩ K0
  rcases Nat.lt_or_ge k ixs.length with hc1|hc1
  ·rw [drop_getD [] hc1,insG] at hF
   have g3:decide ((k:Int)<(ixs.length:Int))=true:=decide_eq_true (by omega)
   have hq7:=o7 _ (getD_mem [] hc1)
   have hq9:=o9 _ (getD_mem [] hc1)
   have hq1:=hil _ (getD_mem [] hc1)
   generalize hix:ixs.getD k []=ix at hF hq7 hq9 hq1
   by_cases he:(scalS op (ownS ax (List.replicate (nps op) 0) L ix L.length)).2=0
   ·rw [if_neg (by simpa using he)] at hF
    repeat' (first
     |(with_reducible first|refine nx ?_|refine t_seq fun K=>?_|refine t_br (fun hc=>?_) fun hc=>?_|refine t_bx ?_|apply And.intro|intro vr)|exact kpd
     |((with_reducible first|refine ny ?_|refine t_kLF ?_ ?_|refine t_drawE (id:=20) (fun i=>i==5) [(0,1),(1,1),(2,1),(3,1),(4,1),(5,1),(6,1),(7,1),(8,1),(9,1),(10,0),(11,0),(12,1)] (by kernel_rfl) fun K=>?_|refine t_dwh (h:=fun K KL=>?_));intros;simp only [go_sem,kp28,geff,g3,hix,ilsl_len,Int.toNat_natCast,arrs_length]))
    all_goals try exact nd
    refine t_loopF (ι:={p:Nat×Nat // p.1≤L.length}) (fun i=>[(85,.lit (.int .i64 i.1.1)),(20,.arr 4 i.1.2)]) (fun i=>[.box 56 [.lit (.string op),.sl false 1 a1,.sl false 2 a2,.sl false 1 (ils ax),.sl false 2 a4,.lit (.int .i64 num),.lit (.string ae),.sl false 1 (ints .i64 ad),.sl false 1 (ints .i64 aX),.sl false 3 (stps fn),.lit (.int .i64 ck),.lit (.string t1),.lit (.string t2),.sl false 2 t3],.box 31 [.lit (.string ByteArray.empty),.sl true 1 [],.sl true 1 []],.box 92 [.fn (.func 95) [] [],.fn (.func 96) [] [],.fn (.func 98) [] []],.arr 31 3 (arrs ac) v false,.arr 31 3 (arrs (ownS ax (List.replicate (nps op) 0) L ix i.1.1)) i.1.2 false]) (fun i=>L.length - i.1.1) ⟨(0,0),by simp⟩ ?_ ?_
    ·refine (le_nil 20 31 3 rfl).trans ?_
     exact lf
    rintro ⟨⟨j,w⟩,hj⟩ K1
    simp only at hj
    have how:=ownS_len (ax:=ax) (rk:=List.replicate (nps op) 0) (L:=L) (ix:=ix) (n:=j)
    rcases Nat.lt_or_ge j L.length with hc2|hc2
    ·have g4:decide ((j:Int)<(L.length:Int))=true:=decide_eq_true (by omega)
     have hja:=o3 _ (getD_mem nilA hc2)
     have hjx:=o4 _ (getD_mem ([]:List Int) (show j<ax.length by omega))
     obtain ⟨y,hy⟩:=hq9 j
     have hyl:y.length≤1000000:=by
       unfold pickS at hy
       split at hy
       ·cases hy
        show (pickM ix (ax.getD j [])).length≤1000000
        unfold pickM
        rw [List.length_map];omega
       ·cases hy
     have hrk:(List.replicate (nps op) (0:Int)).getD j 0=0:=by
       rw [List.getD_eq_getElem?_getD,List.getElem?_replicate];split<;>rfl
     have hsu:=ownS_succ (ax:=ax) (rk:=List.replicate (nps op) 0) (L:=L) (ix:=ix) (n:=j)
     have hoc:ownC ax (List.replicate (nps op) 0) L ix j=(cellS (L.getD j nilA) 0 y).1:=by unfold ownC;rw [hrk,hy];rfl
     rw [hoc] at hsu
     generalize hCe:cellS (L.getD j nilA) 0 y=ce at hsu
     obtain ⟨⟨ce1,cd1,cx1⟩,cee⟩:=ce
     have hCe':cellS ⟨(L.getD j nilA).e,(L.getD j nilA).d,(L.getD j nilA).x⟩ 0 y=(⟨ce1,cd1,cx1⟩,cee):=hCe
     simp only at hsu
     have hja':okA ⟨(L.getD j nilA).e,(L.getD j nilA).d,(L.getD j nilA).x⟩:=hja
     have hrl:(List.replicate (nps op) (0:Int)).length=nps op:=List.length_replicate
     have hi0:inI64 0:=by unfold inI64;omega
     repeat' (first
      |(with_reducible first|refine nx ?_|refine t_seq fun K=>?_|refine t_br (fun hc=>?_) fun hc=>?_|refine t_bx ?_|apply And.intro|intro vr)|exact kpd
      |((with_reducible first|refine ny ?_|refine t_kLF ?_ ?_|refine t_drawE (id:=20) (fun i=>i==5) [(0,1),(1,1),(2,1),(3,1),(4,1),(5,1),(6,1),(7,1),(8,1),(9,1),(10,0),(11,0),(12,1)] (by kernel_rfl) fun K=>?_|refine t_dwh (h:=fun K KL=>?_));intros;simp only [go_sem,kp28,geff,g4,hy,optV_some,hrk,hCe',arrV,arrs_app,←hsu,Int.toNat_natCast,arrs_length,ilsl_len,aeV_def]))
     all_goals try exact nd
     refine ⟨⟨(j+1,w+1),by omega⟩,by show L.length - (j+1)<L.length - j;omega,?_⟩
     simp only [updL_nil,updL_cons,delF_top,delF_upd,Nat.reduceEqDiff,reduceIte]
     refine le_two (σ:=[.box 56 [.lit (.string op),.sl false 1 a1,.sl false 2 a2,.sl false 1 (ils ax),.sl false 2 a4,.lit (.int .i64 num),.lit (.string ae),.sl false 1 (ints .i64 ad),.sl false 1 (ints .i64 aX),.sl false 3 (stps fn),.lit (.int .i64 ck),.lit (.string t1),.lit (.string t2),.sl false 2 t3],.box 31 [.lit (.string ByteArray.empty),.sl true 1 [],.sl true 1 []],.box 92 [.fn (.func 95) [] [],.fn (.func 96) [] [],.fn (.func 98) [] []],.arr 31 3 (arrs ac) v false,.arr 31 3 (arrs (ownS ax (List.replicate (nps op) 0) L ix (j+1))) (w+1) false,.box 31 [.lit (.string (L.getD j nilA).e),.sl false 1 (ints .i64 (L.getD j nilA).d),.sl false 1 (ints .i64 (L.getD j nilA).x)],.box 31 [.lit (.string ce1),.sl false 1 (ints .i64 cd1),.sl false 1 (ints .i64 cx1)]]) (l:=[.box 56 [.lit (.string op),.sl false 1 a1,.sl false 2 a2,.sl false 1 (ils ax),.sl false 2 a4,.lit (.int .i64 num),.lit (.string ae),.sl false 1 (ints .i64 ad),.sl false 1 (ints .i64 aX),.sl false 3 (stps fn),.lit (.int .i64 ck),.lit (.string t1),.lit (.string t2),.sl false 2 t3],.box 31 [.lit (.string ByteArray.empty),.sl true 1 [],.sl true 1 []],.box 92 [.fn (.func 95) [] [],.fn (.func 96) [] [],.fn (.func 98) [] []],.arr 31 3 (arrs ac) v false,.arr 31 3 (arrs (ownS ax (List.replicate (nps op) 0) L ix (j+1))) (w+1) false]) (a:= .box 31 [.lit (.string (L.getD j nilA).e),.sl false 1 (ints .i64 (L.getD j nilA).d),.sl false 1 (ints .i64 (L.getD j nilA).x)]) (b:= .box 31 [.lit (.string ce1),.sl false 1 (ints .i64 cd1),.sl false 1 (ints .i64 cx1)]) rfl (Nat.zero_le _) (fun m=>by simp [lowO,low1,low0]) (fun m=>rfl) ?_ ?_
     ·intro m hm
      repeat' (first|exact low_top|(refine low_upd ?_ ?_))
      all_goals (first|rfl|(simp only [low_arr,low_ref,decide_eq_true_eq];simp at hm;omega))
     repeat' (first|exact leF_top _|exact (fun _=>LeR.refl _)|(with_reducible refine leF_sl ?_ ?_)|(refine leF_upd ?_ ?_))
     all_goals (first|exact LeR.top _|exact LeR.refl _|(refine LeR.of_eq ?_;(try simp only [go_sem]);try rfl)|((try simp only [go_sem]);try rfl))
    ·have g4:decide ((j:Int)<(L.length:Int))=false:=decide_eq_false (by omega)
     have ej:j=L.length:=by omega
     subst ej
     generalize hSc:scalS op (ownS ax (List.replicate (nps op) 0) L ix L.length)=sc at he hF
     obtain ⟨⟨se,sd,sx⟩,see⟩:=sc
     simp only at he hF
     subst he
     have e00:((0:Int) !=0)=false:=rfl
     repeat' (first
      |(with_reducible first|refine nx ?_|refine t_seq fun K=>?_|refine t_br (fun hc=>?_) fun hc=>?_|refine t_bx ?_|apply And.intro|intro vr)|exact kpd
      |((with_reducible first|refine ny ?_|refine t_kLF ?_ ?_|refine t_drawE (id:=20) (fun i=>i==5) [(0,1),(1,1),(2,1),(3,1),(4,1),(5,1),(6,1),(7,1),(8,1),(9,1),(10,0),(11,0),(12,1)] (by kernel_rfl) fun K=>?_|refine t_dwh (h:=fun K KL=>?_));intros;simp only [go_sem,kp28,geff,g4,hSc,e00,arrs_app,arrV,fun0,Int.toNat_natCast,arrs_length]))
     all_goals try exact nd
     all_goals try exact hq7 _ (by assumption)
     refine ⟨⟨k+1,v+1,ac++[⟨se,sd,sx⟩],by omega,by simp;omega,hF⟩,by show ixs.length - (k+1)<ixs.length - k;omega,?_⟩
     simp only [updL_nil,updL_cons,delF_top,delF_upd,Nat.reduceEqDiff,reduceIte]
     refine le_two (σ:=[.box 56 [.lit (.string op),.sl false 1 a1,.sl false 2 a2,.sl false 1 (ils ax),.sl false 2 a4,.lit (.int .i64 num),.lit (.string ae),.sl false 1 (ints .i64 ad),.sl false 1 (ints .i64 aX),.sl false 3 (stps fn),.lit (.int .i64 ck),.lit (.string t1),.lit (.string t2),.sl false 2 t3],.box 31 [.lit (.string ByteArray.empty),.sl true 1 [],.sl true 1 []],.box 92 [.fn (.func 95) [] [],.fn (.func 96) [] [],.fn (.func 98) [] []],.arr 31 3 (arrs (ac++[⟨se,sd,sx⟩])) (v+1) false,.arr 31 3 (arrs (ownS ax (List.replicate (nps op) 0) L ix L.length)) w true,.box 31 [.lit (.string se),.sl false 1 (ints .i64 sd),.sl false 1 (ints .i64 sx)]]) (l:=[.box 56 [.lit (.string op),.sl false 1 a1,.sl false 2 a2,.sl false 1 (ils ax),.sl false 2 a4,.lit (.int .i64 num),.lit (.string ae),.sl false 1 (ints .i64 ad),.sl false 1 (ints .i64 aX),.sl false 3 (stps fn),.lit (.int .i64 ck),.lit (.string t1),.lit (.string t2),.sl false 2 t3],.box 31 [.lit (.string ByteArray.empty),.sl true 1 [],.sl true 1 []],.box 92 [.fn (.func 95) [] [],.fn (.func 96) [] [],.fn (.func 98) [] []],.arr 31 3 (arrs (ac++[⟨se,sd,sx⟩])) (v+1) false]) (a:= .arr 31 3 (arrs (ownS ax (List.replicate (nps op) 0) L ix L.length)) w true) (b:= .box 31 [.lit (.string se),.sl false 1 (ints .i64 sd),.sl false 1 (ints .i64 sx)]) rfl (Nat.zero_le _) (fun m=>by simp [lowO,low1,low0]) (fun m=>rfl) ?_ ?_
     ·intro m hm
      repeat' (first|exact low_top|(refine low_upd ?_ ?_))
      all_goals (first|rfl|(simp only [low_arr,low_ref,decide_eq_true_eq];simp at hm;omega))
     repeat' (first|exact leF_top _|exact (fun _=>LeR.refl _)|(with_reducible refine leF_sl ?_ ?_)|(refine leF_upd ?_ ?_))
     all_goals (first|exact LeR.top _|exact LeR.refl _|(refine LeR.of_eq ?_;(try simp only [go_sem]);try rfl)|((try simp only [go_sem]);try rfl))
   ·rw [if_pos he] at hF
    exact absurd (congrArg Prod.snd hF) he
  ·have g3:decide ((k:Int)<(ixs.length:Int))=false:=decide_eq_false (by omega)
   rw [List.drop_eq_nil_of_le hc1,insG] at hF
   have eac:ac=acc:=congrArg Prod.fst hF
   subst eac
   have hal:1≤ac.length:=by rw [hac];have:ixs.length=n.toNat:=by rw [←hI,inds_len]
                            omega
   have g5:decide ((ac.length:Int)>0)=true:=decide_eq_true (by omega)
   have hj':joinS fr ac ⟨(ac.getD 0 nilA).e,(ac.getD 0 nilA).d,(ac.getD 0 nilA).x⟩=(out,0):=hj
   have e00:((0:Int) !=0)=false:=rfl
   have o80:okA ⟨(ac.getD 0 nilA).e,(ac.getD 0 nilA).d,(ac.getD 0 nilA).x⟩:=o8 _ (getD_mem nilA (by omega))
   repeat' (first
    |(with_reducible first|refine nx ?_|refine t_seq fun K=>?_|refine t_br (fun hc=>?_) fun hc=>?_|refine t_bx ?_|apply And.intro|intro vr)|exact kpd
    |((with_reducible first|refine ny ?_|refine t_kLF ?_ ?_|refine t_drawE (id:=20) (fun i=>i==5) [(0,1),(1,1),(2,1),(3,1),(4,1),(5,1),(6,1),(7,1),(8,1),(9,1),(10,0),(11,0),(12,1)] (by kernel_rfl) fun K=>?_|refine t_dwh (h:=fun K KL=>?_));intros;simp only [go_sem,kp28,geff,g3,g5,hj',e00,arrV,Int.toNat_natCast,arrs_length,yes]))
   all_goals try exact nd
   all_goals try exact o8 _ (by assumption)
   all_goals (refine nl ?_;simp only [go_sem])
   exact a3_of slK_sl slK_sl rfl
end Go.Proofs.YtcpjahmajkhchaaGreat

namespace Go.Proofs.YtcpjahmajkhchaaGreat
open Go Go.Fw
set_option maxRecDepth 20000
def accI (i:Ins) (fr:List Int) (L:List Arr):List Arr:=(insG i.op i.ax (List.replicate (nps i.op) 0) L (inds fr (sizeS fr).1.toNat) []).1
def okI (i:Ins) (fr sz:List Int) (L:List Arr):Prop:=
  kindS i.op=some .prim∧nps i.op=L.length∧formedS i sz.length=0∧chkS fr i.ax (List.replicate (nps i.op) 0) L=0∧(sizeS fr).2=0∧1≤(sizeS fr).1∧
  (insG i.op i.ax (List.replicate (nps i.op) 0) L (inds fr (sizeS fr).1.toNat) []).2=0∧(joinS fr (accI i fr L) ((accI i fr L).getD 0 nilA)).2=0∧okA i.arr∧sz.length≤1000000∧(∀ a∈L,okA a)∧(∀ x∈i.ax,x.length≤1000000)∧i.ax.length=L.length∧
  (∀ ix∈inds fr (sizeS fr).1.toNat,∀ a∈ownS i.ax (List.replicate (nps i.op) 0) L ix L.length,1≤a.x.length)∧(∀ a∈accI i fr L,okA a)∧(∀ ix∈inds fr (sizeS fr).1.toNat,∀ k,∃ y,pickS ix (i.ax.getD k [])=some y)
theorem instrI_pc {i:Ins} {fr sz:List Int} {L:List Arr} (h:okI i fr sz L):PC Tryz.prog 28 [insV i,.sl false 1 (ints .i64 fr),.sl false 1 (ints .i64 sz),.sl false 3 (arrs L)] (a3V ((joinS fr (accI i fr L) ((accI i fr L).getD 0 nilA)).1,false,0)):=by
  obtain ⟨h1,h2,h3,h4,h5,h6,h7,h8,h9,h10,h11,h12,h13,h14,h15,h16⟩:=h
  obtain ⟨op,a1,a2,ax,a4,num,ar,fn,ck,t1,t2,t3⟩:=i
  exact instr_ok (n:=(sizeS fr).1) h1 (by unfold fixS;rw [if_pos (by first|(simp [h2] at*;done)|(simp [h2] at*;omega))]) h3 h4 (Prod.ext rfl h5) h6 (Prod.ext rfl h7) (Prod.ext rfl h8) h9 h10 h11 h12 h2.symm h13 h14 h15 h16
noncomputable def con28:PCon Tryz.prog where
  f:=28
  c:=fun
   |[xi,xfr,xsz,xL]=>match insOf xi,slK .i64 xfr,slK .i64 xsz,arrsOf xL with|some i,some fr,some sz,some L=>some (okI i fr sz L,a3V ((joinS fr (accI i fr L) ((accI i fr L).getD 0 nilA)).1,false,0))|_,_,_,_=>none
   |_=>none
  ok:=by
   intro args p r hc hp
   split at hc
   ·split at hc
    ·rename_i hi hfr hsz hL
     cases hc
     exact PC.weak (instrI_pc hp) ⟨insOf_le hi,slK_le hfr,slK_le hsz,arrsOf_le hL,trivial⟩
    ·cases hc
   ·cases hc
  fk:=fk28
theorem con28_f:con28.f=28:=rfl
theorem con28_c {xi:AV} {xfr:AV} {xsz:AV} {xL:AV}:con28.c [xi,xfr,xsz,xL]=match insOf xi,slK .i64 xfr,slK .i64 xsz,arrsOf xL with|some i,some fr,some sz,some L=>some (okI i fr sz L,a3V ((joinS fr (accI i fr L) ((accI i fr L).getD 0 nilA)).1,false,0))|_,_,_,_=>none:=rfl
attribute [go_sem] con28_f con28_c
end Go.Proofs.YtcpjahmajkhchaaGreat

namespace Go.Proofs.YtcpjahmajkhchaaGreat
open Go Go.Fw
set_option maxRecDepth 20000
def cSub:List Stp:=[⟨⟨#[115,117,98]⟩,0,[0,1]⟩]
def cAdd:List Stp:=[⟨⟨#[97,100,100]⟩,0,[0,1]⟩]
def iAdd:Ins:=⟨⟨#[97,100,100]⟩,[],[],[[0],[1]],[],0,nilA,[],0,⟨#[]⟩,⟨#[]⟩,[]⟩
theorem aw1:primS ⟨#[115,117,98]⟩=(cSub,true):=by kernel_rfl
theorem aw2:primS ⟨#[97,100,100]⟩=(cAdd,true):=by kernel_rfl
theorem aw3:foldS cSub (scA 10) (listA [1,2,3])=(scA 4,0):=by kernel_rfl
theorem aw4:scanP cAdd (listA [1,2,3])=(listA [1,3,6],0):=by kernel_rfl
theorem aw5:joinS [2,3] (accI iAdd [2,3] [listA [10,20],listA [1,2,3]]) ((accI iAdd [2,3] [listA [10,20],listA [1,2,3]]).getD 0 nilA)=(⟨sInt,[2,3],[11,12,13,21,22,23]⟩,0):=by kernel_rfl
theorem aw6:validC cAdd 2=true:=by kernel_rfl
theorem aw9:(ofE (scA 4)==0&&eqA (scA 4) (scA 4))=true:=by kernel_rfl
theorem aw10:(ofE (listA [1,3,6])==0&&eqA (listA [1,3,6]) (listA [1,3,6]))=true:=by kernel_rfl
theorem arr_eta (a:Arr):(⟨a.e,a.d,a.x⟩:Arr)=a:=rfl
theorem okl (l:List Int) (h:l.length≤1000000):okA (listA l):=⟨by simp [listA],h⟩
theorem oks (n:Int):okA (scA n):=⟨by simp [scA],by simp [scA]⟩
theorem arrV_def' {a:Arr}:arrV a= .agg [.lit (.string a.e),.sl false 1 (ints .i64 a.d),.sl false 1 (ints .i64 a.x)]:=rfl
theorem ilsO2 {b b1 b2:Bool} {x y:Int}:ilsOf (.sl b 1 [.sl b1 1 [.lit (.int .i64 x)],.sl b2 1 [.lit (.int .i64 y)]])=some [[x],[y]]:=rfl
theorem stpsO0 {b:Bool}:stpsOf (.sl b 3 [])=some []:=rfl
theorem iA:(⟨⟨#[97,100,100]⟩,[],[],[[0],[1]],[],0,⟨ByteArray.empty,[],[]⟩,[],0,ByteArray.empty,ByteArray.empty,[]⟩:Ins)=iAdd:=rfl
theorem o1:kindS iAdd.op=some .prim:=by kernel_rfl
theorem o2:nps iAdd.op=2:=by kernel_rfl
theorem o3:formedS iAdd 0=0:=by kernel_rfl
theorem o4:chkS [2,3] iAdd.ax (List.replicate (nps iAdd.op) 0) [listA [10,20],listA [1,2,3]]=0:=by kernel_rfl
theorem o5:sizeS [2,3]=(6,0):=by kernel_rfl
def xs6:List (List Int):=[[0,0],[0,1],[0,2],[1,0],[1,1],[1,2]]
theorem o6:inds [2,3] (sizeS [2,3]).1.toNat=xs6:=by kernel_rfl
def G6:List Arr:=[scA 11,scA 12,scA 13,scA 21,scA 22,scA 23]
theorem o7:insG iAdd.op iAdd.ax (List.replicate (nps iAdd.op) 0) [listA [10,20],listA [1,2,3]] (inds [2,3] (sizeS [2,3]).1.toNat) []=(G6,0):=by kernel_rfl
def own6 (ix:List Int):List Arr:=ownS iAdd.ax (List.replicate (nps iAdd.op) 0) [listA [10,20],listA [1,2,3]] ix 2
theorem o8:(xs6.all fun ix=>(own6 ix).all fun a=>decide (1≤a.x.length))=true:=by kernel_rfl
theorem o9:(xs6.all fun ix=>(pickS ix [0]).isSome&&(pickS ix [1]).isSome&&(pickS ix []).isSome)=true:=by kernel_rfl
theorem ok1:okI iAdd [2,3] [] [listA [10,20],listA [1,2,3]]:=by
  have hac:accI iAdd [2,3] [listA [10,20],listA [1,2,3]]=G6:=by unfold accI;rw [o7]
  refine ⟨o1,o2,o3,o4,by rw [o5],by rw [o5];decide,by rw [o7],by rw [hac];kernel_rfl,⟨by decide,by decide⟩,by decide,?_,by decide,by decide,?_,?_,?_⟩
  ·intro a ha
   rcases List.mem_cons.1 ha with rfl|ha
   ·exact okl _ (by decide)
   ·rcases List.mem_cons.1 ha with rfl|ha
    ·exact okl _ (by decide)
    ·cases ha
  ·rw [o6]
   intro ix hx a ha
   exact of_decide_eq_true (List.all_eq_true.1 (List.all_eq_true.1 o8 ix hx) a ha)
  ·rw [hac]
   intro a ha
   simp only [G6,List.mem_cons,List.not_mem_nil,or_false] at ha
   rcases ha with rfl|rfl|rfl|rfl|rfl|rfl<;>exact oks _
  ·rw [o6]
   intro ix hx k
   have h:=List.all_eq_true.1 o9 ix hx
   simp only [Bool.and_eq_true,Option.isSome_iff_exists] at h
   match k with
   |0=>exact h.1.1
   |1=>exact h.1.2
   |k+2=>exact h.2
noncomputable def N1:Env:=envJ (P:=Tryz.prog) jkK zer (fun _=>false) (fun _=>false) [con34,con16,con18,con23,con24,con28,con25,con26,con13] []
theorem N1_ok:EnvOk Tryz.prog N1:=envJOk zer_ok
set_option maxHeartbeats 8000000 in
theorem awake_pc:PC Tryz.prog 9 [] (.lit (.bool true)):=by
  have k1:=okl [1,2,3] (by simp)
  have k2:=oks 10
  have k3:=oks 4
  have k4:=okl [1,3,6] (by simp)
  have k5:okC cAdd:=⟨by decide,by decide⟩
  have k6:okC cSub:=⟨by decide,by decide⟩
  have h5:=ok1
  refine pcR N1_ok (kp9) Tryz.func9 [.tmp 0] (h:=fun KF=>?_)
  unfold N1
  repeat' (first
   |(with_reducible first|refine nx ?_|refine t_seq fun K=>?_|refine t_br (fun hc=>?_) fun hc=>?_|refine t_bx ?_|apply And.intro|intro vr)|exact kpd
   |((with_reducible first|refine ny ?_|refine t_kLF ?_ ?_|refine t_drawE (id:=6) (fun _=>true) [(0,1),(1,1),(2,1),(3,1),(4,1),(5,1),(6,1),(7,1),(8,1),(9,1),(10,1),(11,1),(12,1),(13,1),(14,1),(15,1),(16,1),(17,1),(18,1),(19,1),(20,1),(21,1),(22,1),(23,1),(24,1),(25,1),(26,1),(27,1),(28,1),(29,1),(30,1),(31,1),(32,1),(33,1),(34,1),(35,1),(36,1),(37,1),(38,1),(39,1),(40,1),(41,1)] (by kernel_rfl) fun K=>?_|refine t_dwh (h:=fun K KL=>?_));intros;simp only [go_sem,kp9,geff,con34_f,con16_f,con18_f,con23_f,con24_f,con28_f,con25_f,con26_f,con13_f,con34_c,con16_c,con18_c,con23_c,con24_c,con28_c,con25_c,con26_c,con13_c,slK_sl,slK_cons,slK_emp,slK_nil,arrsOf_x,arrL_cons,arrL_nil,arrOf_agg,arrV_def',ilsO2,stpsO0,iA,aw1,aw2,aw3,aw4,aw5,aw6,aw9,aw10,Option.map_some,arr_eta,prV,yes]))
  all_goals try (first|exact h5|exact k1|exact k2|exact k3|exact k4|exact k5|exact k6|exact k1.1|exact k1.2|exact k2.1|exact k2.2)
  all_goals try exact nd
  all_goals (refine nl ?_;simp only [go_sem])
  exact LeA.refl _
noncomputable def con9:PCon Tryz.prog where
  f:=9
  c:=fun
   |[]=>some (True,.lit (.bool true))
   |_=>none
  ok:=by
   intro args p r hc hp
   split at hc
   ·cases hc;exact awake_pc
   ·cases hc
  fk:=fk9
theorem con9_f:con9.f=9:=rfl
theorem con9_c:con9.c []=some (True,.lit (.bool true)):=rfl
attribute [go_sem] con9_f con9_c
end Go.Proofs.YtcpjahmajkhchaaGreat

namespace Go.Proofs.YtcpjahmajkhchaaGreat
open Go Go.Fw
set_option maxRecDepth 20000
theorem ft78:fieldTs Tryz.prog 78=[9,3,23]:=by kernel_rfl
theorem shv_stp {x:AV} (h:ShV Tryz.prog 78 x):∃ a:Stp,x=stpV a:=by
  obtain ⟨c,rfl,hc⟩:=shv_agg ag78 h
  obtain ⟨p,q,r,rfl,hp,hq,hr⟩:=sh_three ft78 hc
  obtain ⟨s,rfl,hs⟩:=sh_str u9 hp
  obtain ⟨n,rfl,hn⟩:=sh_int u3 hq
  obtain ⟨w,rfl,hw,hw'⟩:=sh_ints u23 u3 sz3 hr
  exact ⟨⟨s,n,w⟩,rfl⟩
theorem list_stps:∀ {ys:List AV},(∀ y∈ys,∃ a,y=stpV a)→∃ l:List Stp,ys=stps l
  |[],_=>⟨[],rfl⟩
  |y::ys,h=>by
   obtain ⟨n,rfl⟩:=h y (by simp)
   obtain ⟨l,rfl⟩:=list_stps (ys:=ys) fun z hz=>h z (by simp [hz])
   exact ⟨n::l,rfl⟩
theorem shv_stps {x:AV} (h:ShV Tryz.prog 22 x):∃ l:List Stp,x= .sl false 3 (stps l)∧l.length≤maxLen:=by
  obtain ⟨ys,rfl,hl,hy⟩:=shv_slice u22 h
  obtain ⟨l,rfl⟩:=list_stps fun y hm=>shv_stp (hy y hm)
  exact ⟨l,by rw [sz78],by simpa [stps_length] using hl⟩
theorem fewC_ok {c:List Stp} (h:fewC c=true):okC c∧c.length≤10:=by
  simp only [fewC,Bool.and_eq_true,List.all_eq_true,decide_eq_true_eq] at h
  refine ⟨⟨by omega,fun s hs=>?_⟩,by omega⟩
  have:=h.1 s hs
  simp only [fewS,Bool.not_eq_true',Bool.or_eq_false_iff,decide_eq_false_iff_not] at this
  omega
end Go.Proofs.YtcpjahmajkhchaaGreat

namespace Go.Proofs.YtcpjahmajkhchaaGreat.El
open Go.Proofs.YtcpjahmajkhchaaGreat
open Go Go.Fw
set_option maxRecDepth 20000
theorem minel' {a b:Int} (ha:el a) (hb:el b):el (minI a b):=by unfold minI;split<;>assumption
theorem maxel' {a b:Int} (ha:el a) (hb:el b):el (maxI a b):=by unfold maxI;split<;>assumption
theorem truel (b:Bool):el (tru b):=by unfold tru el;split<;>omega
theorem tru01 (b:Bool):tru b=0∨tru b=1:=by unfold tru;split<;>omega
theorem el01 {a:Int} (h:a=0∨a=1):el a:=by unfold el;omega
theorem min01 {a b:Int} (ha:a=0∨a=1) (hb:b=0∨b=1):minI a b=0∨minI a b=1:=by unfold minI;split<;>assumption
theorem max01 {a b:Int} (ha:a=0∨a=1) (hb:b=0∨b=1):maxI a b=0∨maxI a b=1:=by unfold maxI;split<;>assumption
theorem model {a b:Int} (_:el a) (hb:el b):el (if b=0 then 0 else a - b*flo a b):=by
  split
  ·unfold el;omega
  ·rename_i h
   have:=flo_spec (a:=a) h
   unfold el at*
   omega
theorem vS_el {i:Nat} {xs:List Int} (hi:i<22) (h:okL i xs):el (vS i xs)∧(eqS (rowsL.getD i default).rs sBool=true→vS i xs=0∨vS i xs=1):=by
  have:i=0∨i=1∨i=2∨i=3∨i=4∨i=5∨i=6∨i=7∨i=8∨i=9∨i=10∨i=11∨i=12∨i=13∨i=14∨i=15∨i=16∨i=17∨i=18∨i=19∨i=20∨i=21:=by omega
  rcases this with rfl|rfl|rfl|rfl|rfl|rfl|rfl|rfl|rfl|rfl|rfl|rfl|rfl|rfl|rfl|rfl|rfl|rfl|rfl|rfl|rfl|rfl
  ·obtain ⟨a,b,rfl,h0,h1⟩:=okL_0.1 h;exact ⟨w32_el _,fun e=>by cases e⟩
  ·obtain ⟨a,b,rfl,h0,h1⟩:=okL_1.1 h;exact ⟨w32_el _,fun e=>by cases e⟩
  ·obtain ⟨a,b,rfl,h0,h1⟩:=okL_2.1 h;exact ⟨w32_el _,fun e=>by cases e⟩
  ·obtain ⟨a,b,rfl,h0,h1⟩:=okL_3.1 h;exact ⟨w32_el _,fun e=>by cases e⟩
  ·obtain ⟨a,b,rfl,h0,h1⟩:=okL_4.1 h;exact ⟨model h0 h1,fun e=>by cases e⟩
  ·obtain ⟨a,b,rfl,h0,h1⟩:=okL_5.1 h;exact ⟨minel' h0 h1,fun e=>by cases e⟩
  ·obtain ⟨a,b,rfl,h0,h1⟩:=okL_6.1 h;exact ⟨maxel' h0 h1,fun e=>by cases e⟩
  ·obtain ⟨a,rfl,h0⟩:=okL_7.1 h;exact ⟨w32_el _,fun e=>by cases e⟩
  ·obtain ⟨a,rfl,h0⟩:=okL_8.1 h;exact ⟨w32_el _,fun e=>by cases e⟩
  ·obtain ⟨a,rfl,h0⟩:=okL_9.1 h;exact ⟨by show el (sgn a);unfold sgn el;split<;>(try split)<;>omega,fun e=>by cases e⟩
  ·obtain ⟨a,b,rfl,h0,h1⟩:=okL_10.1 h;exact ⟨truel _,fun _=>tru01 _⟩
  ·obtain ⟨a,b,rfl,h0,h1⟩:=okL_11.1 h;exact ⟨truel _,fun _=>tru01 _⟩
  ·obtain ⟨a,b,rfl,h0,h1⟩:=okL_12.1 h;exact ⟨truel _,fun _=>tru01 _⟩
  ·obtain ⟨a,b,rfl,h0,h1⟩:=okL_13.1 h;exact ⟨truel _,fun _=>tru01 _⟩
  ·obtain ⟨a,b,rfl,h0,h1⟩:=okL_14.1 h;exact ⟨truel _,fun _=>tru01 _⟩
  ·obtain ⟨a,b,rfl,h0,h1⟩:=okL_15.1 h;exact ⟨truel _,fun _=>tru01 _⟩
  ·obtain ⟨a,b,rfl,h0,h1⟩:=okL_16.1 h;exact ⟨el01 (min01 h0 h1),fun _=>min01 h0 h1⟩
  ·obtain ⟨a,b,rfl,h0,h1⟩:=okL_17.1 h;exact ⟨el01 (max01 h0 h1),fun _=>max01 h0 h1⟩
  ·obtain ⟨a,b,rfl,h0,h1⟩:=okL_18.1 h
   have:vS 18 [a,b]=0∨vS 18 [a,b]=1:=by simp only [vS];split<;>omega
   exact ⟨el01 this,fun _=>this⟩
  ·obtain ⟨a,rfl,h0⟩:=okL_19.1 h
   have:vS 19 [a]=0∨vS 19 [a]=1:=by simp only [vS];omega
   exact ⟨el01 this,fun _=>this⟩
  ·obtain ⟨a,b,c,rfl,h0,h1,h2⟩:=okL_20.1 h
   refine ⟨?_,fun e=>by cases e⟩
   simp only [vS]
   split<;>assumption
  ·obtain ⟨a,rfl,h0⟩:=okL_21.1 h;exact ⟨el01 h0,fun e=>by cases e⟩
theorem vld_el {t:ByteArray} {n:Int} (h:vld t n=true):(eqS t sInt=true∨eqS t sBool=true)∧el n:=by
  unfold vld at h
  split at h
  ·rename_i h1
   exact ⟨.inl h1,of_decide_eq_true (p:= -2147483648≤n∧n≤2147483647) h⟩
  ·split at h
   ·rename_i h1
    exact ⟨.inr h1,el01 (of_decide_eq_true (p:=n=0∨n=1) h)⟩
   ·cases h
theorem vld_int' {n:Int} (h:el n):vld sInt n=true:=vld_int.2 h
theorem go_ok:∀ (ps ts:List ByteArray) (xs:List Int) (a b:ByteArray),goS ps ts a=some b→ts.length=ps.length→xs.length=ts.length→
    (∀ i,i<ts.length→vld (ts.getD i ⟨#[]⟩) (xs.getD i 0)=true)→okA ps xs=true
  |[],_,xs,_,_,_,_,_,_=>by cases xs<;>rfl
  |_::_,[],_,_,_,_,h,_,_=>by simp at h
  |_::_,_::_,[],_,_,_,_,h,_=>by simp at h
  |p::ps,t::ts,x::xs,a,b,h,hl,hx,hv=>by
   have hv0:=hv 0 (by simp)
   have hv1:∀ i,i<ts.length→vld (ts.getD i ⟨#[]⟩) (xs.getD i 0)=true:=fun i hi=>by
     have:=hv (i+1) (by simpa using hi)
     simpa using this
   simp only [List.getD_cons_zero] at hv0
   have rec1:∀ a',goS ps ts a'=some b→okA ps xs=true:=fun a' h'=>go_ok ps ts xs a' b h' (by simpa using hl) (by simpa using hx) hv1
   show (vld (elT p) x&&okA ps xs)=true
   rw [Bool.and_eq_true]
   unfold goS at h
   split at h
   ·cases h
   ·split at h
    ·rename_i hp
     have:elT p=sInt:=by unfold elT;exact if_pos hp
     refine ⟨by rw [this];exact vld_int' (vld_el hv0).2,?_⟩
     split at h
     ·exact rec1 _ h
     ·split at h
      ·exact rec1 _ h
      ·cases h
    ·rename_i hp
     split at h
     ·rename_i ht
      have e:=eqS_iff.1 ht
      have:elT p=p:=by unfold elT;exact if_neg hp
      exact ⟨by rw [this,←e];exact hv0,rec1 _ h⟩
     ·cases h
theorem rows_rs:∀ i,i<22→i≠20→(rowsL.getD i default).rs=sInt∨(rowsL.getD i default).rs=sBool:=by
  intro i hi h
  have:i=0∨i=1∨i=2∨i=3∨i=4∨i=5∨i=6∨i=7∨i=8∨i=9∨i=10∨i=11∨i=12∨i=13∨i=14∨i=15∨i=16∨i=17∨i=18∨i=19∨i=21:=by omega
  rcases this with rfl|rfl|rfl|rfl|rfl|rfl|rfl|rfl|rfl|rfl|rfl|rfl|rfl|rfl|rfl|rfl|rfl|rfl|rfl|rfl|rfl
  all_goals first|exact .inl rfl|exact .inr rfl
theorem go_A {ps ts:List ByteArray} {t a:ByteArray}:goS (sA::ps) (t::ts) a=if eqS t ⟨#[105,110,116]⟩=false∧eqS t ⟨#[98,111,111,108]⟩=false then none else if eqS a ⟨#[]⟩=true then goS ps ts t else if eqS t a=true then goS ps ts a else none:=by
  rw [goS,if_pos (show eqS sA ⟨#[65]⟩=true from rfl)]
theorem go_sel {t0 t1 t2 b:ByteArray} (h:goS [sBool,sA,sA] [t0,t1,t2] ⟨#[]⟩=some b):t1=b∧t2=b:=by
  rw [goS] at h
  split at h
  ·cases h
  rw [if_neg (show ¬ eqS sBool ⟨#[65]⟩=true by decide)] at h
  split at h
  rotate_left
  ·cases h
  rw [go_A] at h
  split at h
  ·cases h
  rename_i hn
  rw [if_pos (show eqS (⟨#[]⟩:ByteArray) ⟨#[]⟩=true from rfl),go_A] at h
  split at h
  ·cases h
  split at h
  ·rename_i he
   have:=eqS_iff.1 he
   subst this
   exact absurd ⟨rfl,rfl⟩ hn
  ·split at h
   ·rename_i h2
    have h3:=eqS_iff.1 h2
    have h4:t1=b:=by simpa [goS] using h
    exact ⟨h4,h3.trans h4⟩
   ·cases h
theorem res_apply {op t:ByteArray} {ts:List ByteArray} {xs:List Int} (h:resS op ts=some t) (hx:xs.length=ts.length) (hv:∀ i,i<ts.length→vld (ts.getD i ⟨#[]⟩) (xs.getD i 0)=true):∃ n,applyS op xs=some n∧vld t n=true:=by
  rcases ix_cases op with ⟨i,hi, -,hix,ht⟩|⟨-,ht⟩
  rotate_left
  ·unfold resS at h;rw [ht] at h;cases h
  unfold resS at h
  rw [ht] at h
  simp only at h
  split at h
  rotate_left
  ·cases h
  rename_i hl
  cases hg:goS (rowsL.getD i default).ps ts ⟨#[]⟩ with
  |none=>rw [hg] at h;cases h
  |some b=>
   rw [hg] at h
   simp only [Option.map_some,Option.some.injEq] at h
   have hok:okL i xs:=⟨by rw [hx,hl];rfl,go_ok _ _ _ _ _ hg hl hx hv⟩
   refine ⟨vS i xs,by unfold applyS;rw [hix];exact if_pos (okB_iff.2 hok),?_⟩
   by_cases h20:i=20
   ·subst h20
    obtain ⟨x,y,z,rfl,h0,h1,h2⟩:=okL_20.1 hok
    have e1:(rowsL.getD 20 default).ps=[sBool,sA,sA]:=rfl
    rw [e1] at hg hl
    match ts,hl with
    |[t0,t1,t2],_=>
     obtain ⟨k1,k2⟩:=go_sel hg
     have e2:(if eqS (rowsL.getD 20 default).rs ⟨#[65]⟩=true then b else (rowsL.getD 20 default).rs)=b:=if_pos rfl
     rw [e2] at h
     have v1:=hv 1 (by simp)
     have v2:=hv 2 (by simp)
     simp only [List.getD_cons_succ,List.getD_cons_zero] at v1 v2
     rw [k1,h] at v1
     rw [k2,h] at v2
     simp only [vS]
     split<;>assumption
   ·obtain ⟨m1,m2⟩:=vS_el hi hok
    have hr:t=(rowsL.getD i default).rs:=by
      rw [←h]
      refine if_neg ?_
      rcases rows_rs i hi h20 with e|e<;>(rw [e];decide)
    rw [hr]
    rcases rows_rs i hi h20 with e|e
    ·rw [e];exact vld_int' m1
    ·rw [e];exact vld_bool.2 (m2 (by rw [e];rfl))
end Go.Proofs.YtcpjahmajkhchaaGreat.El
namespace Go.Proofs.YtcpjahmajkhchaaGreat
open Go Go.Fw
def okTV (ts:List ByteArray) (vs:List Int):Prop:=vs.length=ts.length∧∀ i,i<ts.length→vld (ts.getD i ⟨#[]⟩) (vs.getD i 0)=true
theorem getD_app {α:Type} (l:List α) (x d:α) (i:Nat):(l++[x]).getD i d=if i<l.length then l.getD i d else if i=l.length then x else d:=by
  simp only [List.getD_eq_getElem?_getD]
  split
  ·rename_i h;rw [List.getElem?_append_left h]
  ·rename_i h
   rw [List.getElem?_append_right (by omega)]
   split
   ·rename_i e;subst e;simp
   ·rw [List.getElem?_eq_none (by simp;omega)];rfl
theorem okTV_app {ts:List ByteArray} {vs:List Int} {t:ByteArray} {n:Int} (h:okTV ts vs) (hv:vld t n=true):okTV (ts++[t]) (vs++[n]):=by
  obtain ⟨h1,h2⟩:=h
  refine ⟨by simp [h1],fun i hi=>?_⟩
  rw [getD_app,getD_app,h1]
  split
  ·exact h2 i (by assumption)
  ·have:i=ts.length:=by simp at hi;omega
   rw [if_pos this,if_pos this];exact hv
theorem okTV_pick {ts:List ByteArray} {vs:List Int} {ats:List Int} (h:okTV ts vs) (ha:ats.all (inR ts.length)=true):okTV (pickB ts ats) (pickI vs ats):=by
  refine ⟨by simp [pickB,pickI],fun i hi=>?_⟩
  have hi':i<ats.length:=by simpa [pickB] using hi
  have e1:(pickB ts ats).getD i ⟨#[]⟩=ts.getD (ats.getD i 0).toNat ⟨#[]⟩:=by simp [pickB,List.getD,hi']
  have e2:(pickI vs ats).getD i 0=vs.getD (ats.getD i 0).toNat 0:=by simp [pickI,List.getD,hi']
  rw [e1,e2]
  have:=List.all_eq_true.1 ha (ats.getD i 0) (by rw [List.getD_eq_getElem?_getD,List.getElem?_eq_getElem hi'];exact List.getElem_mem hi')
  simp only [inR,Bool.and_eq_true,decide_eq_true_eq] at this
  exact h.2 _ (by omega)
theorem step_val {s:Stp} {ts:List ByteArray} {vs:List Int} {t:ByteArray} (h:okTV ts vs) (hs:validS s ts.length=true) (ht:stepT s ts=some t):∃ n,stepS s vs=some n∧vld t n=true:=by
  unfold validS at hs
  unfold stepT at ht
  unfold stepS isNum
  by_cases h1:eqS s.op sConst=true
  ·rw [if_pos h1] at hs ht
   cases ht
   simp only [Bool.and_eq_true] at hs
   exact ⟨s.num,by rw [h1];rfl,hs.2⟩
  ·rw [if_neg h1] at hs ht
   by_cases h2:eqS s.op sTruth=true
   ·rw [if_pos h2] at hs ht
    cases ht
    simp only [Bool.and_eq_true] at hs
    exact ⟨s.num,by rw [h2,Bool.or_true];rfl,hs.2⟩
   ·rw [if_neg h2] at hs ht
    have h3:(eqS s.op sConst||eqS s.op sTruth)=false:=by rw [Bool.eq_false_iff.2 h1,Bool.eq_false_iff.2 h2];rfl
    rw [if_neg (by rw [h3];decide)]
    cases hT:El.typesS s.op with
    |none=>rw [hT] at hs;cases hs
    |some r=>
     rw [hT] at hs
     simp only [Bool.and_eq_true] at hs
     obtain ⟨k1,k2⟩:=okTV_pick h hs.1.1
     exact El.res_apply ht k1 k2
theorem run_val:∀ (c:List Stp) (ts ts':List ByteArray) (vs:List Int),okTV ts vs→allV c ts.length=true→typG c ts=some ts'→∃ vs',runG c vs=some vs'∧okTV ts' vs'∧ts'.length=ts.length+c.length
  |[],ts,ts',vs,h,_,ht=>by cases ht;exact ⟨vs,rfl,h,rfl⟩
  |s::c,ts,ts',vs,h,ha,ht=>by
   simp only [allV,Bool.and_eq_true] at ha
   unfold typG at ht
   cases hs:stepT s ts with
   |none=>rw [hs] at ht;cases ht
   |some t=>
    rw [hs] at ht
    simp only at ht
    obtain ⟨n,hn,hv⟩:=step_val h ha.1 hs
    obtain ⟨vs',k1,k2,k3⟩:=run_val c (ts++[t]) ts' (vs++[n]) (okTV_app h hv) (by have:=ha.2;rw [List.length_append,List.length_singleton];exact this) ht
    exact ⟨vs',by unfold runG;rw [hn];exact k1,k2,by simp at k3 ⊢;omega⟩
theorem badN_pos {c:List Stp} {n:Int} (h:badN c n=false) (h0:0≤n):0<n+c.length:=by
  simp only [badN,Bool.or_eq_false_iff,beq_eq_false_iff_ne] at h
  omega
theorem typ_run {c:List Stp} {ts:List ByteArray} {vs:List Int} (h:okTV ts vs) (ht:(typS c ts).2=true):(runS c vs).2=true∧vld (typS c ts).1 (runS c vs).1=true:=by
  unfold typS at ht ⊢
  cases hv:validC c ts.length with
  |false=>rw [if_pos hv] at ht;cases ht
  |true=>
   rw [if_neg (by rw [hv];decide)] at ht
   rw [if_neg (by decide)]
   have hb:badN c ts.length=false:=by
     cases hb:badN c ts.length with
     |false=>rfl
     |true=>unfold validC at hv;rw [if_pos hb] at hv;cases hv
   have hall:allV c ts.length=true:=by
     unfold validC at hv;rw [if_neg (by rw [hb];decide)] at hv;exact hv
   have hp:=badN_pos hb (by omega)
   split at ht
   ·cases ht
   ·rename_i hty
    rw [if_neg hty]
    cases hG:typG c ts with
    |none=>rw [hG] at ht;cases ht
    |some l=>
     obtain ⟨vs',k1,k2,k3⟩:=run_val c ts l vs h hall hG
     have e:runS c vs=(lastI vs',true):=by
       unfold runS
       rw [h.1,if_neg (by rw [hv];decide),if_neg,k1]
       intro hany
       obtain ⟨n,hn,hn'⟩:=List.any_eq_true.1 hany
       obtain ⟨i,hi,rfl⟩:=List.mem_iff_getElem.1 hn
       have:=h.2 i (by rw [←h.1];exact hi)
       rw [List.getD_eq_getElem?_getD,List.getD_eq_getElem?_getD,List.getElem?_eq_getElem hi] at this
       have:=El.vld_int' (El.vld_el this).2
       rw [show vs[i]=(some vs[i]).getD 0 from rfl] at hn'
       rw [show vld sInt ((some vs[i]).getD 0)=true from this] at hn'
       cases hn'
     rw [e]
     refine ⟨rfl,?_⟩
     show vld (lastB l) (lastI vs')=true
     unfold lastB lastI
     rw [k2.1]
     exact k2.2 _ (by omega)
end Go.Proofs.YtcpjahmajkhchaaGreat

namespace Go.Proofs.YtcpjahmajkhchaaGreat
open Go Go.Fw
set_option maxRecDepth 20000
theorem and_one (n:Int):andI .i64 n 1=0∨andI .i64 n 1=1:=by
  show IntKind.i64.wrap ((BitVec.ofInt 64 n&&&BitVec.ofInt 64 1).toNat:Int)=0∨IntKind.i64.wrap ((BitVec.ofInt 64 n&&&BitVec.ofInt 64 1).toNat:Int)=1
  have h:(BitVec.ofInt 64 n&&&BitVec.ofInt 64 1).toNat=(BitVec.ofInt 64 n).toNat % 2:=by
    rw [BitVec.toNat_and,show (BitVec.ofInt 64 1).toNat=1 by decide,Nat.and_one_is_mod]
  rw [h]
  rcases Nat.mod_two_eq_zero_or_one (BitVec.ofInt 64 n).toNat with e|e
  ·left;rw [e];decide
  ·right;rw [e];decide
def argA (a b c:Int) (i:Nat):Int:=if ((i:Int).tmod 3).toNat=0 then a else if ((i:Int).tmod 3).toNat=1 then b else c
def argV (t:ByteArray) (n:Int):Int:=if eqS t ⟨#[98,111,111,108]⟩=true then andI .i64 (El.w32 n) 1 else El.w32 n
def argsN (ts:List ByteArray) (a b c:Int) (n:Nat):List Int:=(List.range n).map fun i=>argV (ts.getD i ByteArray.empty) (argA a b c i)
theorem argsN_succ {ts:List ByteArray} {a b c:Int} {n:Nat}:argsN ts a b c (n+1)=argsN ts a b c n++[argV (ts.getD n ByteArray.empty) (argA a b c n)]:=by simp [argsN,List.range_succ]
theorem argsN_len {ts:List ByteArray} {a b c:Int} {n:Nat}:(argsN ts a b c n).length=n:=by simp [argsN]
theorem argV_el (t:ByteArray) (n:Int):El.vld El.sInt (argV t n)=true:=by
  refine El.vld_int' ?_
  unfold argV
  split
  ·exact El.el01 (and_one _)
  ·exact El.w32_el _
theorem argV_vld {t:ByteArray} {n:Int} (h:tyOk t=true):vld t (argV t n)=true:=by
  simp only [tyOk,Bool.or_eq_true] at h
  rcases h with h|h
  ·rw [eqS_iff.1 h]
   exact argV_el _ _
  ·rw [eqS_iff.1 h]
   unfold argV
   rw [if_pos (show eqS (⟨#[98,111,111,108]⟩:ByteArray) ⟨#[98,111,111,108]⟩=true from rfl)]
   exact El.vld_bool.2 (and_one _)
theorem typ_ok {c:List Stp} {ts:List ByteArray} (h:(typS c ts).2=true):∀ t∈ts,tyOk t=true:=by
  intro t ht
  cases hk:tyOk t with
  |true=>rfl
  |false=>
   unfold typS at h
   split at h
   ·cases h
   ·rw [if_pos (List.any_eq_true.2 ⟨t,ht,by rw [hk];rfl⟩)] at h
    cases h
theorem argsN_ok {c:List Stp} {ts:List ByteArray} {a b d:Int} (h:(typS c ts).2=true):okTV ts (argsN ts a b d ts.length):=by
  refine ⟨argsN_len,fun i hi=>?_⟩
  have e:(argsN ts a b d ts.length).getD i 0=argV (ts.getD i ByteArray.empty) (argA a b d i):=by simp [argsN,List.getD,hi]
  rw [e]
  refine argV_vld (typ_ok h _ ?_)
  rw [List.getD_eq_getElem?_getD,List.getElem?_eq_getElem hi]
  exact List.getElem_mem hi
theorem pick_iota {l:List Int}:pickI l (iota l.length)=l:=by
  apply List.ext_getElem
  ·simp [pickI,iota]
  ·intro i h1 h2
   simp [pickI,iota,List.getD,h2]
theorem not_num {op:ByteArray} {r:El.Rw} (h:El.typesS op=some r):eqS op sConst=false∧eqS op sTruth=false:=by
  constructor
  ·cases hc:eqS op sConst with
   |false=>rfl
   |true=>rw [eqS_iff.1 hc] at h;cases h
  ·cases hc:eqS op sTruth with
   |false=>rfl
   |true=>rw [eqS_iff.1 hc] at h;cases h
theorem prim_run {op:ByteArray} {r:El.Rw} {xs:List Int} (h:El.typesS op=some r) (hl:xs.length=r.ps.length) (hv:∀ n∈xs,El.vld El.sInt n=true):
    runS [⟨op,0,iota r.ps.length⟩] xs=((El.applyS op xs).getD 0,(El.applyS op xs).isSome):=by
  obtain ⟨n1,n2⟩:=not_num h
  have h3:=types_len h
  have hvc:validC [⟨op,0,iota r.ps.length⟩] xs.length=true:=by
    have hb:badN [(⟨op,0,iota r.ps.length⟩:Stp)] xs.length=false:=by
      unfold badN
      simp only [List.length_cons,List.length_nil,Bool.or_eq_false_iff,decide_eq_false_iff_not,beq_eq_false_iff_ne]
      omega
    unfold validC
    rw [if_neg (by rw [hb];decide)]
    simp only [allV,Bool.and_true]
    unfold validS
    simp only
    rw [if_neg (by rw [n1];decide),if_neg (by rw [n2];decide),h]
    simp only [iota_len,beq_self_eq_true,Bool.and_true]
    refine List.all_eq_true.2 fun a ha=>?_
    obtain ⟨k,hk,rfl⟩:=List.mem_map.1 ha
    have:=List.mem_range.1 hk
    simp only [inR,Bool.and_eq_true,decide_eq_true_eq]
    omega
  unfold runS
  rw [if_neg (by rw [hvc];decide),if_neg]
  ·have hs:stepS ⟨op,0,iota r.ps.length⟩ xs=El.applyS op xs:=by
     unfold stepS isNum
     simp only
     rw [if_neg (by rw [n1,n2];decide),←hl,pick_iota]
   simp only [runG,hs]
   cases El.applyS op xs with
   |none=>rfl
   |some n=>
    simp only [runG,Option.getD_some,Option.isSome_some]
    unfold lastI
    simp
  ·intro ha
   obtain ⟨n,hn,hn'⟩:=List.any_eq_true.1 ha
   rw [show vld sInt n=true from hv n hn] at hn';cases hn'
theorem argsN_el {ts:List ByteArray} {a b d:Int} {m:Nat}:∀ n∈argsN ts a b d m,El.vld El.sInt n=true:=by
  intro n hn
  obtain ⟨i,_,rfl⟩:=List.mem_map.1 hn
  exact argV_el _ _
end Go.Proofs.YtcpjahmajkhchaaGreat

namespace Go.Proofs.YtcpjahmajkhchaaGreat.St
open Go.Proofs.YtcpjahmajkhchaaGreat
open Go Go.Fw
set_option maxRecDepth 20000
noncomputable def F6:Env:=envJ (P:=Tryz.prog) jk2 zer (fun _=>false) (fun _=>true) [con118] []
theorem F6_ok:EnvOk Tryz.prog F6:=envJOk zer_ok
end Go.Proofs.YtcpjahmajkhchaaGreat.St

namespace Go.Proofs.YtcpjahmajkhchaaGreat.St
open Go.Proofs.YtcpjahmajkhchaaGreat
open Go Go.Fw
set_option maxRecDepth 20000
def rkV (r:List Int×Bool):AV:= .tup [.sl false 1 (ints .i64 r.1),.lit (.bool r.2)]
theorem rk_of {x:AV} {n:Bool} {l:List Int} {r:List Int×Bool} (h:slK .i64 x=some l) (e:r=(l,n)):LeA (.tup [x,.lit (.bool n)]) (rkV r):=by
  subst e;exact LeA.tup ⟨slK_le h,LeA.refl _,trivial⟩
def ranksI (op:ByteArray) (n:Int):List Int×Bool:=if (findS op n).2=false∨((findS op n).1.ranks.length:Int)≠n then ([],false) else ((findS op n).1.ranks,true)
set_option maxHeartbeats 2000000 in
theorem ranks_pc {op:ByteArray} {n:Int} (hn:n≤1000000):PC Tryz.prog 99 [.lit (.string op),.lit (.int .i64 n)] (rkV (ranksI op n)):=by
  generalize hR:ranksI op n=R
  unfold ranksI at hR
  generalize hF:findS op n=r at hR
  obtain ⟨⟨s,b,rk,o,p⟩,ok⟩:=r
  rcases o with _|g1<;>rcases p with _|g2
  all_goals simp only at hR
  ·skip
   refine pcR F6_ok (fun _=>[0,1,4,5,6,7,22]) Tryz.func99 [.tmp 4,.tmp 5] (h:=fun KF=>?_)
   unfold F6
   repeat' (first
    |(with_reducible first|refine nx ?_|refine t_seq fun K=>?_|refine t_bx ?_|apply And.intro|intro vr)
    |((with_reducible refine t_cond fun A B=>?_);simp only [go_sem,geff_true,geff_false,con118_f,con118_c,hF,eV_def,entV_def,fnV_none,fnV_some];first|(with_reducible refine A.h ?_)|(with_reducible refine B.h ?_)|(refine And.intro (fun hc=>A.h ?_) (fun hc=>B.h ?_)))
    |((with_reducible first|refine ny ?_|refine t_dwh (h:=fun K KL=>?_));intros;simp only [go_sem,geff_true,geff_false,con118_f,con118_c,hF,eV_def,entV_def,fnV_none,fnV_some])
    |((with_reducible refine t_geffS (fun hg=>?_) (fun hg=>?_))<;>((try simp only [Bool.not_eq_true',Bool.not_eq_false',Bool.and_eq_true,Bool.or_eq_false_iff] at hg);simp only [hg,go_sem,geff_true,geff_false,con118_f,con118_c,hF,eV_def,entV_def,fnV_none,fnV_some])))
   all_goals try exact nd
   all_goals (refine nl ?_;simp only [go_sem])
   all_goals refine rk_of (by first|exact slK_sl|rfl) ?_
   all_goals rw [←hR]
   all_goals simp_all
  ·skip
   refine pcR F6_ok (fun _=>[0,1,4,5,6,7,22]) Tryz.func99 [.tmp 4,.tmp 5] (h:=fun KF=>?_)
   unfold F6
   repeat' (first
    |(with_reducible first|refine nx ?_|refine t_seq fun K=>?_|refine t_bx ?_|apply And.intro|intro vr)
    |((with_reducible refine t_cond fun A B=>?_);simp only [go_sem,geff_true,geff_false,con118_f,con118_c,hF,eV_def,entV_def,fnV_none,fnV_some];first|(with_reducible refine A.h ?_)|(with_reducible refine B.h ?_)|(refine And.intro (fun hc=>A.h ?_) (fun hc=>B.h ?_)))
    |((with_reducible first|refine ny ?_|refine t_dwh (h:=fun K KL=>?_));intros;simp only [go_sem,geff_true,geff_false,con118_f,con118_c,hF,eV_def,entV_def,fnV_none,fnV_some])
    |((with_reducible refine t_geffS (fun hg=>?_) (fun hg=>?_))<;>((try simp only [Bool.not_eq_true',Bool.not_eq_false',Bool.and_eq_true,Bool.or_eq_false_iff] at hg);simp only [hg,go_sem,geff_true,geff_false,con118_f,con118_c,hF,eV_def,entV_def,fnV_none,fnV_some])))
   all_goals try exact nd
   all_goals (refine nl ?_;simp only [go_sem])
   all_goals refine rk_of (by first|exact slK_sl|rfl) ?_
   all_goals rw [←hR]
   all_goals simp_all
  ·skip
   refine pcR F6_ok (fun _=>[0,1,4,5,6,7,22]) Tryz.func99 [.tmp 4,.tmp 5] (h:=fun KF=>?_)
   unfold F6
   repeat' (first
    |(with_reducible first|refine nx ?_|refine t_seq fun K=>?_|refine t_bx ?_|apply And.intro|intro vr)
    |((with_reducible refine t_cond fun A B=>?_);simp only [go_sem,geff_true,geff_false,con118_f,con118_c,hF,eV_def,entV_def,fnV_none,fnV_some];first|(with_reducible refine A.h ?_)|(with_reducible refine B.h ?_)|(refine And.intro (fun hc=>A.h ?_) (fun hc=>B.h ?_)))
    |((with_reducible first|refine ny ?_|refine t_dwh (h:=fun K KL=>?_));intros;simp only [go_sem,geff_true,geff_false,con118_f,con118_c,hF,eV_def,entV_def,fnV_none,fnV_some])
    |((with_reducible refine t_geffS (fun hg=>?_) (fun hg=>?_))<;>((try simp only [Bool.not_eq_true',Bool.not_eq_false',Bool.and_eq_true,Bool.or_eq_false_iff] at hg);simp only [hg,go_sem,geff_true,geff_false,con118_f,con118_c,hF,eV_def,entV_def,fnV_none,fnV_some])))
   all_goals try exact nd
   all_goals (refine nl ?_;simp only [go_sem])
   all_goals refine rk_of (by first|exact slK_sl|rfl) ?_
   all_goals rw [←hR]
   all_goals simp_all
  ·skip
   refine pcR F6_ok (fun _=>[0,1,4,5,6,7,22]) Tryz.func99 [.tmp 4,.tmp 5] (h:=fun KF=>?_)
   unfold F6
   repeat' (first
    |(with_reducible first|refine nx ?_|refine t_seq fun K=>?_|refine t_bx ?_|apply And.intro|intro vr)
    |((with_reducible refine t_cond fun A B=>?_);simp only [go_sem,geff_true,geff_false,con118_f,con118_c,hF,eV_def,entV_def,fnV_none,fnV_some];first|(with_reducible refine A.h ?_)|(with_reducible refine B.h ?_)|(refine And.intro (fun hc=>A.h ?_) (fun hc=>B.h ?_)))
    |((with_reducible first|refine ny ?_|refine t_dwh (h:=fun K KL=>?_));intros;simp only [go_sem,geff_true,geff_false,con118_f,con118_c,hF,eV_def,entV_def,fnV_none,fnV_some])
    |((with_reducible refine t_geffS (fun hg=>?_) (fun hg=>?_))<;>((try simp only [Bool.not_eq_true',Bool.not_eq_false',Bool.and_eq_true,Bool.or_eq_false_iff] at hg);simp only [hg,go_sem,geff_true,geff_false,con118_f,con118_c,hF,eV_def,entV_def,fnV_none,fnV_some])))
   all_goals try exact nd
   all_goals (refine nl ?_;simp only [go_sem])
   all_goals refine rk_of (by first|exact slK_sl|rfl) ?_
   all_goals rw [←hR]
   all_goals simp_all
noncomputable def con99:PCon Tryz.prog where
  f:=99
  c:=fun
   |[.lit (.string op),.lit (.int .i64 n)]=>some (n≤1000000,rkV (ranksI op n))
   |_=>none
  ok:=by
   intro args p r hc hp
   split at hc
   ·cases hc;exact (ranks_pc hp)
   ·cases hc
  fk:=fk99
end Go.Proofs.YtcpjahmajkhchaaGreat.St

namespace Go.Proofs.YtcpjahmajkhchaaGreat.St
open Go.Proofs.YtcpjahmajkhchaaGreat
open Go Go.Fw
set_option maxRecDepth 20000
end Go.Proofs.YtcpjahmajkhchaaGreat.St

namespace Go.Proofs.YtcpjahmajkhchaaGreat.St
open Go.Proofs.YtcpjahmajkhchaaGreat
open Go Go.Fw
set_option maxRecDepth 20000
end Go.Proofs.YtcpjahmajkhchaaGreat.St

namespace Go.Proofs.YtcpjahmajkhchaaGreat.St
open Go.Proofs.YtcpjahmajkhchaaGreat
open Go Go.Fw
set_option maxRecDepth 20000
theorem z0_0:eqS n_iota ⟨#[105,111,116,97]⟩=true:=rfl
theorem z0_1:eqS n_iota ⟨#[102,105,108,108]⟩=false:=rfl
theorem z0_2:eqS n_iota ⟨#[116,97,107,101]⟩=false:=rfl
theorem z0_3:eqS n_iota ⟨#[100,114,111,112]⟩=false:=rfl
theorem z0_4:eqS n_iota ⟨#[114,101,118,101,114,115,101]⟩=false:=rfl
theorem z0_5:eqS n_iota ⟨#[97,112,112,101,110,100]⟩=false:=rfl
theorem z0_6:eqS n_iota ⟨#[116,114,97,110,115,112,111,115,101]⟩=false:=rfl
theorem z0_7:eqS n_iota ⟨#[100,105,97,103,111,110,97,108]⟩=false:=rfl
theorem z0_8:eqS n_iota ⟨#[119,105,110,100,111,119,115]⟩=false:=rfl
theorem z0_9:eqS n_iota ⟨#[99,104,117,110,107]⟩=false:=rfl
theorem z0_10:eqS n_iota ⟨#[105,110,100,101,120]⟩=false:=rfl
theorem z0_11:eqS n_iota ⟨#[117,112,100,97,116,101]⟩=false:=rfl
theorem z0_12:eqS n_iota ⟨#[112,97,99,107]⟩=false:=rfl
theorem z1_0:eqS n_fill ⟨#[105,111,116,97]⟩=false:=rfl
theorem z1_1:eqS n_fill ⟨#[102,105,108,108]⟩=true:=rfl
theorem z1_2:eqS n_fill ⟨#[116,97,107,101]⟩=false:=rfl
theorem z1_3:eqS n_fill ⟨#[100,114,111,112]⟩=false:=rfl
theorem z1_4:eqS n_fill ⟨#[114,101,118,101,114,115,101]⟩=false:=rfl
theorem z1_5:eqS n_fill ⟨#[97,112,112,101,110,100]⟩=false:=rfl
theorem z1_6:eqS n_fill ⟨#[116,114,97,110,115,112,111,115,101]⟩=false:=rfl
theorem z1_7:eqS n_fill ⟨#[100,105,97,103,111,110,97,108]⟩=false:=rfl
theorem z1_8:eqS n_fill ⟨#[119,105,110,100,111,119,115]⟩=false:=rfl
theorem z1_9:eqS n_fill ⟨#[99,104,117,110,107]⟩=false:=rfl
theorem z1_10:eqS n_fill ⟨#[105,110,100,101,120]⟩=false:=rfl
theorem z1_11:eqS n_fill ⟨#[117,112,100,97,116,101]⟩=false:=rfl
theorem z1_12:eqS n_fill ⟨#[112,97,99,107]⟩=false:=rfl
theorem z2_0:eqS n_take ⟨#[105,111,116,97]⟩=false:=rfl
theorem z2_1:eqS n_take ⟨#[102,105,108,108]⟩=false:=rfl
theorem z2_2:eqS n_take ⟨#[116,97,107,101]⟩=true:=rfl
theorem z2_3:eqS n_take ⟨#[100,114,111,112]⟩=false:=rfl
theorem z2_4:eqS n_take ⟨#[114,101,118,101,114,115,101]⟩=false:=rfl
theorem z2_5:eqS n_take ⟨#[97,112,112,101,110,100]⟩=false:=rfl
theorem z2_6:eqS n_take ⟨#[116,114,97,110,115,112,111,115,101]⟩=false:=rfl
theorem z2_7:eqS n_take ⟨#[100,105,97,103,111,110,97,108]⟩=false:=rfl
theorem z2_8:eqS n_take ⟨#[119,105,110,100,111,119,115]⟩=false:=rfl
theorem z2_9:eqS n_take ⟨#[99,104,117,110,107]⟩=false:=rfl
theorem z2_10:eqS n_take ⟨#[105,110,100,101,120]⟩=false:=rfl
theorem z2_11:eqS n_take ⟨#[117,112,100,97,116,101]⟩=false:=rfl
theorem z2_12:eqS n_take ⟨#[112,97,99,107]⟩=false:=rfl
theorem z3_0:eqS n_drop ⟨#[105,111,116,97]⟩=false:=rfl
theorem z3_1:eqS n_drop ⟨#[102,105,108,108]⟩=false:=rfl
theorem z3_2:eqS n_drop ⟨#[116,97,107,101]⟩=false:=rfl
theorem z3_3:eqS n_drop ⟨#[100,114,111,112]⟩=true:=rfl
theorem z3_4:eqS n_drop ⟨#[114,101,118,101,114,115,101]⟩=false:=rfl
theorem z3_5:eqS n_drop ⟨#[97,112,112,101,110,100]⟩=false:=rfl
theorem z3_6:eqS n_drop ⟨#[116,114,97,110,115,112,111,115,101]⟩=false:=rfl
theorem z3_7:eqS n_drop ⟨#[100,105,97,103,111,110,97,108]⟩=false:=rfl
theorem z3_8:eqS n_drop ⟨#[119,105,110,100,111,119,115]⟩=false:=rfl
theorem z3_9:eqS n_drop ⟨#[99,104,117,110,107]⟩=false:=rfl
theorem z3_10:eqS n_drop ⟨#[105,110,100,101,120]⟩=false:=rfl
theorem z3_11:eqS n_drop ⟨#[117,112,100,97,116,101]⟩=false:=rfl
theorem z3_12:eqS n_drop ⟨#[112,97,99,107]⟩=false:=rfl
theorem z4_0:eqS n_reverse ⟨#[105,111,116,97]⟩=false:=rfl
theorem z4_1:eqS n_reverse ⟨#[102,105,108,108]⟩=false:=rfl
theorem z4_2:eqS n_reverse ⟨#[116,97,107,101]⟩=false:=rfl
theorem z4_3:eqS n_reverse ⟨#[100,114,111,112]⟩=false:=rfl
theorem z4_4:eqS n_reverse ⟨#[114,101,118,101,114,115,101]⟩=true:=rfl
theorem z4_5:eqS n_reverse ⟨#[97,112,112,101,110,100]⟩=false:=rfl
theorem z4_6:eqS n_reverse ⟨#[116,114,97,110,115,112,111,115,101]⟩=false:=rfl
theorem z4_7:eqS n_reverse ⟨#[100,105,97,103,111,110,97,108]⟩=false:=rfl
theorem z4_8:eqS n_reverse ⟨#[119,105,110,100,111,119,115]⟩=false:=rfl
theorem z4_9:eqS n_reverse ⟨#[99,104,117,110,107]⟩=false:=rfl
theorem z4_10:eqS n_reverse ⟨#[105,110,100,101,120]⟩=false:=rfl
theorem z4_11:eqS n_reverse ⟨#[117,112,100,97,116,101]⟩=false:=rfl
theorem z4_12:eqS n_reverse ⟨#[112,97,99,107]⟩=false:=rfl
theorem z5_0:eqS n_append ⟨#[105,111,116,97]⟩=false:=rfl
theorem z5_1:eqS n_append ⟨#[102,105,108,108]⟩=false:=rfl
theorem z5_2:eqS n_append ⟨#[116,97,107,101]⟩=false:=rfl
theorem z5_3:eqS n_append ⟨#[100,114,111,112]⟩=false:=rfl
theorem z5_4:eqS n_append ⟨#[114,101,118,101,114,115,101]⟩=false:=rfl
theorem z5_5:eqS n_append ⟨#[97,112,112,101,110,100]⟩=true:=rfl
theorem z5_6:eqS n_append ⟨#[116,114,97,110,115,112,111,115,101]⟩=false:=rfl
theorem z5_7:eqS n_append ⟨#[100,105,97,103,111,110,97,108]⟩=false:=rfl
theorem z5_8:eqS n_append ⟨#[119,105,110,100,111,119,115]⟩=false:=rfl
theorem z5_9:eqS n_append ⟨#[99,104,117,110,107]⟩=false:=rfl
theorem z5_10:eqS n_append ⟨#[105,110,100,101,120]⟩=false:=rfl
theorem z5_11:eqS n_append ⟨#[117,112,100,97,116,101]⟩=false:=rfl
theorem z5_12:eqS n_append ⟨#[112,97,99,107]⟩=false:=rfl
theorem z6_0:eqS n_transpose ⟨#[105,111,116,97]⟩=false:=rfl
theorem z6_1:eqS n_transpose ⟨#[102,105,108,108]⟩=false:=rfl
theorem z6_2:eqS n_transpose ⟨#[116,97,107,101]⟩=false:=rfl
theorem z6_3:eqS n_transpose ⟨#[100,114,111,112]⟩=false:=rfl
theorem z6_4:eqS n_transpose ⟨#[114,101,118,101,114,115,101]⟩=false:=rfl
theorem z6_5:eqS n_transpose ⟨#[97,112,112,101,110,100]⟩=false:=rfl
theorem z6_6:eqS n_transpose ⟨#[116,114,97,110,115,112,111,115,101]⟩=true:=rfl
theorem z6_7:eqS n_transpose ⟨#[100,105,97,103,111,110,97,108]⟩=false:=rfl
theorem z6_8:eqS n_transpose ⟨#[119,105,110,100,111,119,115]⟩=false:=rfl
theorem z6_9:eqS n_transpose ⟨#[99,104,117,110,107]⟩=false:=rfl
theorem z6_10:eqS n_transpose ⟨#[105,110,100,101,120]⟩=false:=rfl
theorem z6_11:eqS n_transpose ⟨#[117,112,100,97,116,101]⟩=false:=rfl
theorem z6_12:eqS n_transpose ⟨#[112,97,99,107]⟩=false:=rfl
theorem z7_0:eqS n_diagonal ⟨#[105,111,116,97]⟩=false:=rfl
theorem z7_1:eqS n_diagonal ⟨#[102,105,108,108]⟩=false:=rfl
theorem z7_2:eqS n_diagonal ⟨#[116,97,107,101]⟩=false:=rfl
theorem z7_3:eqS n_diagonal ⟨#[100,114,111,112]⟩=false:=rfl
theorem z7_4:eqS n_diagonal ⟨#[114,101,118,101,114,115,101]⟩=false:=rfl
theorem z7_5:eqS n_diagonal ⟨#[97,112,112,101,110,100]⟩=false:=rfl
theorem z7_6:eqS n_diagonal ⟨#[116,114,97,110,115,112,111,115,101]⟩=false:=rfl
theorem z7_7:eqS n_diagonal ⟨#[100,105,97,103,111,110,97,108]⟩=true:=rfl
theorem z7_8:eqS n_diagonal ⟨#[119,105,110,100,111,119,115]⟩=false:=rfl
theorem z7_9:eqS n_diagonal ⟨#[99,104,117,110,107]⟩=false:=rfl
theorem z7_10:eqS n_diagonal ⟨#[105,110,100,101,120]⟩=false:=rfl
theorem z7_11:eqS n_diagonal ⟨#[117,112,100,97,116,101]⟩=false:=rfl
theorem z7_12:eqS n_diagonal ⟨#[112,97,99,107]⟩=false:=rfl
theorem z8_0:eqS n_windows ⟨#[105,111,116,97]⟩=false:=rfl
theorem z8_1:eqS n_windows ⟨#[102,105,108,108]⟩=false:=rfl
theorem z8_2:eqS n_windows ⟨#[116,97,107,101]⟩=false:=rfl
theorem z8_3:eqS n_windows ⟨#[100,114,111,112]⟩=false:=rfl
theorem z8_4:eqS n_windows ⟨#[114,101,118,101,114,115,101]⟩=false:=rfl
theorem z8_5:eqS n_windows ⟨#[97,112,112,101,110,100]⟩=false:=rfl
theorem z8_6:eqS n_windows ⟨#[116,114,97,110,115,112,111,115,101]⟩=false:=rfl
theorem z8_7:eqS n_windows ⟨#[100,105,97,103,111,110,97,108]⟩=false:=rfl
theorem z8_8:eqS n_windows ⟨#[119,105,110,100,111,119,115]⟩=true:=rfl
theorem z8_9:eqS n_windows ⟨#[99,104,117,110,107]⟩=false:=rfl
theorem z8_10:eqS n_windows ⟨#[105,110,100,101,120]⟩=false:=rfl
theorem z8_11:eqS n_windows ⟨#[117,112,100,97,116,101]⟩=false:=rfl
theorem z8_12:eqS n_windows ⟨#[112,97,99,107]⟩=false:=rfl
theorem z9_0:eqS n_chunk ⟨#[105,111,116,97]⟩=false:=rfl
theorem z9_1:eqS n_chunk ⟨#[102,105,108,108]⟩=false:=rfl
theorem z9_2:eqS n_chunk ⟨#[116,97,107,101]⟩=false:=rfl
theorem z9_3:eqS n_chunk ⟨#[100,114,111,112]⟩=false:=rfl
theorem z9_4:eqS n_chunk ⟨#[114,101,118,101,114,115,101]⟩=false:=rfl
theorem z9_5:eqS n_chunk ⟨#[97,112,112,101,110,100]⟩=false:=rfl
theorem z9_6:eqS n_chunk ⟨#[116,114,97,110,115,112,111,115,101]⟩=false:=rfl
theorem z9_7:eqS n_chunk ⟨#[100,105,97,103,111,110,97,108]⟩=false:=rfl
theorem z9_8:eqS n_chunk ⟨#[119,105,110,100,111,119,115]⟩=false:=rfl
theorem z9_9:eqS n_chunk ⟨#[99,104,117,110,107]⟩=true:=rfl
theorem z9_10:eqS n_chunk ⟨#[105,110,100,101,120]⟩=false:=rfl
theorem z9_11:eqS n_chunk ⟨#[117,112,100,97,116,101]⟩=false:=rfl
theorem z9_12:eqS n_chunk ⟨#[112,97,99,107]⟩=false:=rfl
theorem z10_0:eqS n_index ⟨#[105,111,116,97]⟩=false:=rfl
theorem z10_1:eqS n_index ⟨#[102,105,108,108]⟩=false:=rfl
theorem z10_2:eqS n_index ⟨#[116,97,107,101]⟩=false:=rfl
theorem z10_3:eqS n_index ⟨#[100,114,111,112]⟩=false:=rfl
theorem z10_4:eqS n_index ⟨#[114,101,118,101,114,115,101]⟩=false:=rfl
theorem z10_5:eqS n_index ⟨#[97,112,112,101,110,100]⟩=false:=rfl
theorem z10_6:eqS n_index ⟨#[116,114,97,110,115,112,111,115,101]⟩=false:=rfl
theorem z10_7:eqS n_index ⟨#[100,105,97,103,111,110,97,108]⟩=false:=rfl
theorem z10_8:eqS n_index ⟨#[119,105,110,100,111,119,115]⟩=false:=rfl
theorem z10_9:eqS n_index ⟨#[99,104,117,110,107]⟩=false:=rfl
theorem z10_10:eqS n_index ⟨#[105,110,100,101,120]⟩=true:=rfl
theorem z10_11:eqS n_index ⟨#[117,112,100,97,116,101]⟩=false:=rfl
theorem z10_12:eqS n_index ⟨#[112,97,99,107]⟩=false:=rfl
theorem z11_0:eqS n_update ⟨#[105,111,116,97]⟩=false:=rfl
theorem z11_1:eqS n_update ⟨#[102,105,108,108]⟩=false:=rfl
theorem z11_2:eqS n_update ⟨#[116,97,107,101]⟩=false:=rfl
theorem z11_3:eqS n_update ⟨#[100,114,111,112]⟩=false:=rfl
theorem z11_4:eqS n_update ⟨#[114,101,118,101,114,115,101]⟩=false:=rfl
theorem z11_5:eqS n_update ⟨#[97,112,112,101,110,100]⟩=false:=rfl
theorem z11_6:eqS n_update ⟨#[116,114,97,110,115,112,111,115,101]⟩=false:=rfl
theorem z11_7:eqS n_update ⟨#[100,105,97,103,111,110,97,108]⟩=false:=rfl
theorem z11_8:eqS n_update ⟨#[119,105,110,100,111,119,115]⟩=false:=rfl
theorem z11_9:eqS n_update ⟨#[99,104,117,110,107]⟩=false:=rfl
theorem z11_10:eqS n_update ⟨#[105,110,100,101,120]⟩=false:=rfl
theorem z11_11:eqS n_update ⟨#[117,112,100,97,116,101]⟩=true:=rfl
theorem z11_12:eqS n_update ⟨#[112,97,99,107]⟩=false:=rfl
theorem z12_0:eqS n_pack ⟨#[105,111,116,97]⟩=false:=rfl
theorem z12_1:eqS n_pack ⟨#[102,105,108,108]⟩=false:=rfl
theorem z12_2:eqS n_pack ⟨#[116,97,107,101]⟩=false:=rfl
theorem z12_3:eqS n_pack ⟨#[100,114,111,112]⟩=false:=rfl
theorem z12_4:eqS n_pack ⟨#[114,101,118,101,114,115,101]⟩=false:=rfl
theorem z12_5:eqS n_pack ⟨#[97,112,112,101,110,100]⟩=false:=rfl
theorem z12_6:eqS n_pack ⟨#[116,114,97,110,115,112,111,115,101]⟩=false:=rfl
theorem z12_7:eqS n_pack ⟨#[100,105,97,103,111,110,97,108]⟩=false:=rfl
theorem z12_8:eqS n_pack ⟨#[119,105,110,100,111,119,115]⟩=false:=rfl
theorem z12_9:eqS n_pack ⟨#[99,104,117,110,107]⟩=false:=rfl
theorem z12_10:eqS n_pack ⟨#[105,110,100,101,120]⟩=false:=rfl
theorem z12_11:eqS n_pack ⟨#[117,112,100,97,116,101]⟩=false:=rfl
theorem z12_12:eqS n_pack ⟨#[112,97,99,107]⟩=true:=rfl
theorem op_cases (op:ByteArray):op=n_iota∨op=n_fill∨op=n_take∨op=n_drop∨op=n_reverse∨op=n_append∨op=n_transpose∨op=n_diagonal∨op=n_windows∨op=n_chunk∨op=n_index∨op=n_update∨op=n_pack∨(eqS op ⟨#[105,111,116,97]⟩=false∧eqS op ⟨#[102,105,108,108]⟩=false∧eqS op ⟨#[116,97,107,101]⟩=false∧eqS op ⟨#[100,114,111,112]⟩=false∧eqS op ⟨#[114,101,118,101,114,115,101]⟩=false∧eqS op ⟨#[97,112,112,101,110,100]⟩=false∧eqS op ⟨#[116,114,97,110,115,112,111,115,101]⟩=false∧eqS op ⟨#[100,105,97,103,111,110,97,108]⟩=false∧eqS op ⟨#[119,105,110,100,111,119,115]⟩=false∧eqS op ⟨#[99,104,117,110,107]⟩=false∧eqS op ⟨#[105,110,100,101,120]⟩=false∧eqS op ⟨#[117,112,100,97,116,101]⟩=false∧eqS op ⟨#[112,97,99,107]⟩=false):=by
  by_cases h0:op=n_iota
  ·exact .inl h0
  by_cases h1:op=n_fill
  ·exact .inr (.inl h1)
  by_cases h2:op=n_take
  ·exact .inr (.inr (.inl h2))
  by_cases h3:op=n_drop
  ·exact .inr (.inr (.inr (.inl h3)))
  by_cases h4:op=n_reverse
  ·exact .inr (.inr (.inr (.inr (.inl h4))))
  by_cases h5:op=n_append
  ·exact .inr (.inr (.inr (.inr (.inr (.inl h5)))))
  by_cases h6:op=n_transpose
  ·exact .inr (.inr (.inr (.inr (.inr (.inr (.inl h6))))))
  by_cases h7:op=n_diagonal
  ·exact .inr (.inr (.inr (.inr (.inr (.inr (.inr (.inl h7)))))))
  by_cases h8:op=n_windows
  ·exact .inr (.inr (.inr (.inr (.inr (.inr (.inr (.inr (.inl h8))))))))
  by_cases h9:op=n_chunk
  ·exact .inr (.inr (.inr (.inr (.inr (.inr (.inr (.inr (.inr (.inl h9)))))))))
  by_cases h10:op=n_index
  ·exact .inr (.inr (.inr (.inr (.inr (.inr (.inr (.inr (.inr (.inr (.inl h10))))))))))
  by_cases h11:op=n_update
  ·exact .inr (.inr (.inr (.inr (.inr (.inr (.inr (.inr (.inr (.inr (.inr (.inl h11)))))))))))
  by_cases h12:op=n_pack
  ·exact .inr (.inr (.inr (.inr (.inr (.inr (.inr (.inr (.inr (.inr (.inr (.inr (.inl h12))))))))))))
  exact .inr (.inr (.inr (.inr (.inr (.inr (.inr (.inr (.inr (.inr (.inr (.inr (.inr (⟨Bool.eq_false_iff.2 fun e=>h0 (eqS_iff.1 e),Bool.eq_false_iff.2 fun e=>h1 (eqS_iff.1 e),Bool.eq_false_iff.2 fun e=>h2 (eqS_iff.1 e),Bool.eq_false_iff.2 fun e=>h3 (eqS_iff.1 e),Bool.eq_false_iff.2 fun e=>h4 (eqS_iff.1 e),Bool.eq_false_iff.2 fun e=>h5 (eqS_iff.1 e),Bool.eq_false_iff.2 fun e=>h6 (eqS_iff.1 e),Bool.eq_false_iff.2 fun e=>h7 (eqS_iff.1 e),Bool.eq_false_iff.2 fun e=>h8 (eqS_iff.1 e),Bool.eq_false_iff.2 fun e=>h9 (eqS_iff.1 e),Bool.eq_false_iff.2 fun e=>h10 (eqS_iff.1 e),Bool.eq_false_iff.2 fun e=>h11 (eqS_iff.1 e),Bool.eq_false_iff.2 fun e=>h12 (eqS_iff.1 e)⟩)))))))))))))
def opI (op:ByteArray):Nat:=if eqS op n_iota=true then 0 else if eqS op n_fill=true then 1 else if eqS op n_take=true then 2 else if eqS op n_drop=true then 3 else if eqS op n_reverse=true then 4 else if eqS op n_append=true then 5 else if eqS op n_transpose=true then 6 else if eqS op n_diagonal=true then 7 else if eqS op n_windows=true then 8 else if eqS op n_chunk=true then 9 else if eqS op n_index=true then 10 else if eqS op n_update=true then 11 else if eqS op n_pack=true then 12 else 13
theorem opI_iota:opI n_iota=0:=rfl
theorem opI_fill:opI n_fill=1:=rfl
theorem opI_take:opI n_take=2:=rfl
theorem opI_drop:opI n_drop=3:=rfl
theorem opI_reverse:opI n_reverse=4:=rfl
theorem opI_append:opI n_append=5:=rfl
theorem opI_transpose:opI n_transpose=6:=rfl
theorem opI_diagonal:opI n_diagonal=7:=rfl
theorem opI_windows:opI n_windows=8:=rfl
theorem opI_chunk:opI n_chunk=9:=rfl
theorem opI_index:opI n_index=10:=rfl
theorem opI_update:opI n_update=11:=rfl
theorem opI_pack:opI n_pack=12:=rfl
theorem opI_no {op:ByteArray} (h:eqS op ⟨#[105,111,116,97]⟩=false∧eqS op ⟨#[102,105,108,108]⟩=false∧eqS op ⟨#[116,97,107,101]⟩=false∧eqS op ⟨#[100,114,111,112]⟩=false∧eqS op ⟨#[114,101,118,101,114,115,101]⟩=false∧eqS op ⟨#[97,112,112,101,110,100]⟩=false∧eqS op ⟨#[116,114,97,110,115,112,111,115,101]⟩=false∧eqS op ⟨#[100,105,97,103,111,110,97,108]⟩=false∧eqS op ⟨#[119,105,110,100,111,119,115]⟩=false∧eqS op ⟨#[99,104,117,110,107]⟩=false∧eqS op ⟨#[105,110,100,101,120]⟩=false∧eqS op ⟨#[117,112,100,97,116,101]⟩=false∧eqS op ⟨#[112,97,99,107]⟩=false):opI op=13:=by
  obtain ⟨q0,q1,q2,q3,q4,q5,q6,q7,q8,q9,q10,q11,q12⟩:=h
  unfold opI
  rw [if_neg (by rw [show eqS op n_iota=false from q0];decide),if_neg (by rw [show eqS op n_fill=false from q1];decide),if_neg (by rw [show eqS op n_take=false from q2];decide),if_neg (by rw [show eqS op n_drop=false from q3];decide),if_neg (by rw [show eqS op n_reverse=false from q4];decide),if_neg (by rw [show eqS op n_append=false from q5];decide),if_neg (by rw [show eqS op n_transpose=false from q6];decide),if_neg (by rw [show eqS op n_diagonal=false from q7];decide),if_neg (by rw [show eqS op n_windows=false from q8];decide),if_neg (by rw [show eqS op n_chunk=false from q9];decide),if_neg (by rw [show eqS op n_index=false from q10];decide),if_neg (by rw [show eqS op n_update=false from q11];decide),if_neg (by rw [show eqS op n_pack=false from q12];decide)]
def rankL:Nat→Int→Option (List Int)
  |0,_=>some []
  |1,_=>some [0]
  |2,_|3,_|4,_|8,_|9,_=>some [1]
  |5,_=>some [1,1]
  |6,_|7,_=>some [2]
  |10,_=>some [1,0]
  |11,_=>some [1,0,0]
  |12,n=>if 1≤n∧n≤4096 then some (List.replicate n.toNat 0) else none
  |_,_=>none
def ranksQ (op:ByteArray) (n:Int):List Int×Bool:=match rankL (opI op) n with
  |some l=>if (l.length:Int)≠n then ([],false) else (l,true)
  |none=>([],false)
set_option maxRecDepth 20000 in
set_option maxHeartbeats 8000000 in
theorem rranks_pc {op:ByteArray} {n:Int}:PC Tryz.prog 59 [.lit (.string op),.lit (.int .i64 n)] (rkV (ranksQ op n)):=by
  rcases op_cases op with rfl|rfl|rfl|rfl|rfl|rfl|rfl|rfl|rfl|rfl|rfl|rfl|rfl|hno
  ·skip
   unfold ranksQ
   rw [opI_iota]
   refine pcR F1_ok (fun _=>[0,1,4,5,6,7,8,10,13,20,23,27,30,33,40,46]) Tryz.func59 [.tmp 4,.tmp 5] (h:=fun KF=>?_)
   unfold F1
   repeat' (first
    |(with_reducible first|refine nx ?_|refine t_seq fun K=>?_|refine t_br (fun hc=>?_) fun hc=>?_|refine t_bx ?_|apply And.intro|intro vr)
    |((with_reducible first|refine ny ?_|refine t_dwh (h:=fun K KL=>?_));intros;simp only [go_sem,geff,z0_0,z0_1,z0_2,z0_3,z0_4,z0_5,z0_6,z0_7,z0_8,z0_9,z0_10,z0_11,z0_12,ints_replicate]))
   all_goals try exact nd
   all_goals (refine nl ?_;simp only [go_sem])
   all_goals refine rk_of (by first|exact slK_sl|rfl) ?_
   all_goals simp only [rankL]
   all_goals (first|rfl|(simp_all;done)|(simp_all;omega)|(rw [if_neg (by simpa using hc)]))
  ·skip
   unfold ranksQ
   rw [opI_fill]
   refine pcR F1_ok (fun _=>[0,1,4,5,6,7,8,10,13,20,23,27,30,33,40,46]) Tryz.func59 [.tmp 4,.tmp 5] (h:=fun KF=>?_)
   unfold F1
   repeat' (first
    |(with_reducible first|refine nx ?_|refine t_seq fun K=>?_|refine t_br (fun hc=>?_) fun hc=>?_|refine t_bx ?_|apply And.intro|intro vr)
    |((with_reducible first|refine ny ?_|refine t_dwh (h:=fun K KL=>?_));intros;simp only [go_sem,geff,z1_0,z1_1,z1_2,z1_3,z1_4,z1_5,z1_6,z1_7,z1_8,z1_9,z1_10,z1_11,z1_12,ints_replicate]))
   all_goals try exact nd
   all_goals (refine nl ?_;simp only [go_sem])
   all_goals refine rk_of (by first|exact slK_sl|rfl) ?_
   all_goals simp only [rankL]
   all_goals (first|rfl|(simp_all;done)|(simp_all;omega)|(rw [if_neg (by simpa using hc)]))
  ·skip
   unfold ranksQ
   rw [opI_take]
   refine pcR F1_ok (fun _=>[0,1,4,5,6,7,8,10,13,20,23,27,30,33,40,46]) Tryz.func59 [.tmp 4,.tmp 5] (h:=fun KF=>?_)
   unfold F1
   repeat' (first
    |(with_reducible first|refine nx ?_|refine t_seq fun K=>?_|refine t_br (fun hc=>?_) fun hc=>?_|refine t_bx ?_|apply And.intro|intro vr)
    |((with_reducible first|refine ny ?_|refine t_dwh (h:=fun K KL=>?_));intros;simp only [go_sem,geff,z2_0,z2_1,z2_2,z2_3,z2_4,z2_5,z2_6,z2_7,z2_8,z2_9,z2_10,z2_11,z2_12,ints_replicate]))
   all_goals try exact nd
   all_goals (refine nl ?_;simp only [go_sem])
   all_goals refine rk_of (by first|exact slK_sl|rfl) ?_
   all_goals simp only [rankL]
   all_goals (first|rfl|(simp_all;done)|(simp_all;omega)|(rw [if_neg (by simpa using hc)]))
  ·skip
   unfold ranksQ
   rw [opI_drop]
   refine pcR F1_ok (fun _=>[0,1,4,5,6,7,8,10,13,20,23,27,30,33,40,46]) Tryz.func59 [.tmp 4,.tmp 5] (h:=fun KF=>?_)
   unfold F1
   repeat' (first
    |(with_reducible first|refine nx ?_|refine t_seq fun K=>?_|refine t_br (fun hc=>?_) fun hc=>?_|refine t_bx ?_|apply And.intro|intro vr)
    |((with_reducible first|refine ny ?_|refine t_dwh (h:=fun K KL=>?_));intros;simp only [go_sem,geff,z3_0,z3_1,z3_2,z3_3,z3_4,z3_5,z3_6,z3_7,z3_8,z3_9,z3_10,z3_11,z3_12,ints_replicate]))
   all_goals try exact nd
   all_goals (refine nl ?_;simp only [go_sem])
   all_goals refine rk_of (by first|exact slK_sl|rfl) ?_
   all_goals simp only [rankL]
   all_goals (first|rfl|(simp_all;done)|(simp_all;omega)|(rw [if_neg (by simpa using hc)]))
  ·skip
   unfold ranksQ
   rw [opI_reverse]
   refine pcR F1_ok (fun _=>[0,1,4,5,6,7,8,10,13,20,23,27,30,33,40,46]) Tryz.func59 [.tmp 4,.tmp 5] (h:=fun KF=>?_)
   unfold F1
   repeat' (first
    |(with_reducible first|refine nx ?_|refine t_seq fun K=>?_|refine t_br (fun hc=>?_) fun hc=>?_|refine t_bx ?_|apply And.intro|intro vr)
    |((with_reducible first|refine ny ?_|refine t_dwh (h:=fun K KL=>?_));intros;simp only [go_sem,geff,z4_0,z4_1,z4_2,z4_3,z4_4,z4_5,z4_6,z4_7,z4_8,z4_9,z4_10,z4_11,z4_12,ints_replicate]))
   all_goals try exact nd
   all_goals (refine nl ?_;simp only [go_sem])
   all_goals refine rk_of (by first|exact slK_sl|rfl) ?_
   all_goals simp only [rankL]
   all_goals (first|rfl|(simp_all;done)|(simp_all;omega)|(rw [if_neg (by simpa using hc)]))
  ·skip
   unfold ranksQ
   rw [opI_append]
   refine pcR F1_ok (fun _=>[0,1,4,5,6,7,8,10,13,20,23,27,30,33,40,46]) Tryz.func59 [.tmp 4,.tmp 5] (h:=fun KF=>?_)
   unfold F1
   repeat' (first
    |(with_reducible first|refine nx ?_|refine t_seq fun K=>?_|refine t_br (fun hc=>?_) fun hc=>?_|refine t_bx ?_|apply And.intro|intro vr)
    |((with_reducible first|refine ny ?_|refine t_dwh (h:=fun K KL=>?_));intros;simp only [go_sem,geff,z5_0,z5_1,z5_2,z5_3,z5_4,z5_5,z5_6,z5_7,z5_8,z5_9,z5_10,z5_11,z5_12,ints_replicate]))
   all_goals try exact nd
   all_goals (refine nl ?_;simp only [go_sem])
   all_goals refine rk_of (by first|exact slK_sl|rfl) ?_
   all_goals simp only [rankL]
   all_goals (first|rfl|(simp_all;done)|(simp_all;omega)|(rw [if_neg (by simpa using hc)]))
  ·skip
   unfold ranksQ
   rw [opI_transpose]
   refine pcR F1_ok (fun _=>[0,1,4,5,6,7,8,10,13,20,23,27,30,33,40,46]) Tryz.func59 [.tmp 4,.tmp 5] (h:=fun KF=>?_)
   unfold F1
   repeat' (first
    |(with_reducible first|refine nx ?_|refine t_seq fun K=>?_|refine t_br (fun hc=>?_) fun hc=>?_|refine t_bx ?_|apply And.intro|intro vr)
    |((with_reducible first|refine ny ?_|refine t_dwh (h:=fun K KL=>?_));intros;simp only [go_sem,geff,z6_0,z6_1,z6_2,z6_3,z6_4,z6_5,z6_6,z6_7,z6_8,z6_9,z6_10,z6_11,z6_12,ints_replicate]))
   all_goals try exact nd
   all_goals (refine nl ?_;simp only [go_sem])
   all_goals refine rk_of (by first|exact slK_sl|rfl) ?_
   all_goals simp only [rankL]
   all_goals (first|rfl|(simp_all;done)|(simp_all;omega)|(rw [if_neg (by simpa using hc)]))
  ·skip
   unfold ranksQ
   rw [opI_diagonal]
   refine pcR F1_ok (fun _=>[0,1,4,5,6,7,8,10,13,20,23,27,30,33,40,46]) Tryz.func59 [.tmp 4,.tmp 5] (h:=fun KF=>?_)
   unfold F1
   repeat' (first
    |(with_reducible first|refine nx ?_|refine t_seq fun K=>?_|refine t_br (fun hc=>?_) fun hc=>?_|refine t_bx ?_|apply And.intro|intro vr)
    |((with_reducible first|refine ny ?_|refine t_dwh (h:=fun K KL=>?_));intros;simp only [go_sem,geff,z7_0,z7_1,z7_2,z7_3,z7_4,z7_5,z7_6,z7_7,z7_8,z7_9,z7_10,z7_11,z7_12,ints_replicate]))
   all_goals try exact nd
   all_goals (refine nl ?_;simp only [go_sem])
   all_goals refine rk_of (by first|exact slK_sl|rfl) ?_
   all_goals simp only [rankL]
   all_goals (first|rfl|(simp_all;done)|(simp_all;omega)|(rw [if_neg (by simpa using hc)]))
  ·skip
   unfold ranksQ
   rw [opI_windows]
   refine pcR F1_ok (fun _=>[0,1,4,5,6,7,8,10,13,20,23,27,30,33,40,46]) Tryz.func59 [.tmp 4,.tmp 5] (h:=fun KF=>?_)
   unfold F1
   repeat' (first
    |(with_reducible first|refine nx ?_|refine t_seq fun K=>?_|refine t_br (fun hc=>?_) fun hc=>?_|refine t_bx ?_|apply And.intro|intro vr)
    |((with_reducible first|refine ny ?_|refine t_dwh (h:=fun K KL=>?_));intros;simp only [go_sem,geff,z8_0,z8_1,z8_2,z8_3,z8_4,z8_5,z8_6,z8_7,z8_8,z8_9,z8_10,z8_11,z8_12,ints_replicate]))
   all_goals try exact nd
   all_goals (refine nl ?_;simp only [go_sem])
   all_goals refine rk_of (by first|exact slK_sl|rfl) ?_
   all_goals simp only [rankL]
   all_goals (first|rfl|(simp_all;done)|(simp_all;omega)|(rw [if_neg (by simpa using hc)]))
  ·skip
   unfold ranksQ
   rw [opI_chunk]
   refine pcR F1_ok (fun _=>[0,1,4,5,6,7,8,10,13,20,23,27,30,33,40,46]) Tryz.func59 [.tmp 4,.tmp 5] (h:=fun KF=>?_)
   unfold F1
   repeat' (first
    |(with_reducible first|refine nx ?_|refine t_seq fun K=>?_|refine t_br (fun hc=>?_) fun hc=>?_|refine t_bx ?_|apply And.intro|intro vr)
    |((with_reducible first|refine ny ?_|refine t_dwh (h:=fun K KL=>?_));intros;simp only [go_sem,geff,z9_0,z9_1,z9_2,z9_3,z9_4,z9_5,z9_6,z9_7,z9_8,z9_9,z9_10,z9_11,z9_12,ints_replicate]))
   all_goals try exact nd
   all_goals (refine nl ?_;simp only [go_sem])
   all_goals refine rk_of (by first|exact slK_sl|rfl) ?_
   all_goals simp only [rankL]
   all_goals (first|rfl|(simp_all;done)|(simp_all;omega)|(rw [if_neg (by simpa using hc)]))
  ·skip
   unfold ranksQ
   rw [opI_index]
   refine pcR F1_ok (fun _=>[0,1,4,5,6,7,8,10,13,20,23,27,30,33,40,46]) Tryz.func59 [.tmp 4,.tmp 5] (h:=fun KF=>?_)
   unfold F1
   repeat' (first
    |(with_reducible first|refine nx ?_|refine t_seq fun K=>?_|refine t_br (fun hc=>?_) fun hc=>?_|refine t_bx ?_|apply And.intro|intro vr)
    |((with_reducible first|refine ny ?_|refine t_dwh (h:=fun K KL=>?_));intros;simp only [go_sem,geff,z10_0,z10_1,z10_2,z10_3,z10_4,z10_5,z10_6,z10_7,z10_8,z10_9,z10_10,z10_11,z10_12,ints_replicate]))
   all_goals try exact nd
   all_goals (refine nl ?_;simp only [go_sem])
   all_goals refine rk_of (by first|exact slK_sl|rfl) ?_
   all_goals simp only [rankL]
   all_goals (first|rfl|(simp_all;done)|(simp_all;omega)|(rw [if_neg (by simpa using hc)]))
  ·skip
   unfold ranksQ
   rw [opI_update]
   refine pcR F1_ok (fun _=>[0,1,4,5,6,7,8,10,13,20,23,27,30,33,40,46]) Tryz.func59 [.tmp 4,.tmp 5] (h:=fun KF=>?_)
   unfold F1
   repeat' (first
    |(with_reducible first|refine nx ?_|refine t_seq fun K=>?_|refine t_br (fun hc=>?_) fun hc=>?_|refine t_bx ?_|apply And.intro|intro vr)
    |((with_reducible first|refine ny ?_|refine t_dwh (h:=fun K KL=>?_));intros;simp only [go_sem,geff,z11_0,z11_1,z11_2,z11_3,z11_4,z11_5,z11_6,z11_7,z11_8,z11_9,z11_10,z11_11,z11_12,ints_replicate]))
   all_goals try exact nd
   all_goals (refine nl ?_;simp only [go_sem])
   all_goals refine rk_of (by first|exact slK_sl|rfl) ?_
   all_goals simp only [rankL]
   all_goals (first|rfl|(simp_all;done)|(simp_all;omega)|(rw [if_neg (by simpa using hc)]))
  ·skip
   unfold ranksQ
   rw [opI_pack]
   refine pcR F1_ok (fun _=>[0,1,4,5,6,7,8,10,13,20,23,27,30,33,40,46]) Tryz.func59 [.tmp 4,.tmp 5] (h:=fun KF=>?_)
   unfold F1
   repeat' (first
    |(with_reducible first|refine nx ?_|refine t_seq fun K=>?_|refine t_br (fun hc=>?_) fun hc=>?_|refine t_bx ?_|apply And.intro|intro vr)
    |((with_reducible first|refine ny ?_|refine t_dwh (h:=fun K KL=>?_));intros;simp only [go_sem,geff,z12_0,z12_1,z12_2,z12_3,z12_4,z12_5,z12_6,z12_7,z12_8,z12_9,z12_10,z12_11,z12_12,ints_replicate]))
   all_goals try exact nd
   all_goals (refine nl ?_;simp only [go_sem])
   all_goals refine rk_of (by first|exact slK_sl|rfl) ?_
   all_goals simp only [rankL]
   all_goals (first|rfl|(simp_all;done)|(simp_all;omega)|(rw [if_neg (by simpa using hc)]))
  ·obtain ⟨q0,q1,q2,q3,q4,q5,q6,q7,q8,q9,q10,q11,q12⟩:=hno
   unfold ranksQ
   rw [opI_no ⟨q0,q1,q2,q3,q4,q5,q6,q7,q8,q9,q10,q11,q12⟩]
   refine pcR F1_ok (fun _=>[0,1,4,5,6,7,8,10,13,20,23,27,30,33,40,46]) Tryz.func59 [.tmp 4,.tmp 5] (h:=fun KF=>?_)
   unfold F1
   repeat' (first
    |(with_reducible first|refine nx ?_|refine t_seq fun K=>?_|refine t_br (fun hc=>?_) fun hc=>?_|refine t_bx ?_|apply And.intro|intro vr)
    |((with_reducible first|refine ny ?_|refine t_dwh (h:=fun K KL=>?_));intros;simp only [go_sem,geff,q0,q1,q2,q3,q4,q5,q6,q7,q8,q9,q10,q11,q12,ints_replicate]))
   all_goals try exact nd
   all_goals (refine nl ?_;simp only [go_sem])
   all_goals refine rk_of (by first|exact slK_sl|rfl) ?_
   all_goals simp only [rankL]
   all_goals (first|rfl|(simp_all;done)|(simp_all;omega)|(rw [if_neg (by simpa using hc)]))
noncomputable def con59:PCon Tryz.prog where
  f:=59
  c:=fun
   |[.lit (.string op),.lit (.int .i64 n)]=>some (True,rkV (ranksQ op n))
   |_=>none
  ok:=by
   intro args p r hc hp
   split at hc
   ·cases hc;exact rranks_pc
   ·cases hc
  fk:=fk59
end Go.Proofs.YtcpjahmajkhchaaGreat.St

namespace Go.Proofs.YtcpjahmajkhchaaGreat.St
open Go.Proofs.YtcpjahmajkhchaaGreat
open Go Go.Fw
set_option maxRecDepth 20000
end Go.Proofs.YtcpjahmajkhchaaGreat.St

namespace Go.Proofs.YtcpjahmajkhchaaGreat.St
open Go.Proofs.YtcpjahmajkhchaaGreat
open Go Go.Fw
set_option maxRecDepth 20000
theorem ranks_eq {op:ByteArray} {n:Int} (h0:0≤n) (hn:n≤4096):ranksQ op n=ranksI op n:=by
  rcases op_cases op with rfl|rfl|rfl|rfl|rfl|rfl|rfl|rfl|rfl|rfl|rfl|rfl|rfl|hno
  ·have e2:findS n_iota n=(ents.getD 0 ent0,true):=rfl
   unfold ranksQ ranksI
   rw [e2,opI_iota]
   simp only [rankL,ents,List.getD_cons_zero,List.getD_cons_succ]
   simp
  ·have e2:findS n_fill n=(ents.getD 1 ent0,true):=rfl
   unfold ranksQ ranksI
   rw [e2,opI_fill]
   simp only [rankL,ents,List.getD_cons_zero,List.getD_cons_succ]
   simp
  ·have e2:findS n_take n=(ents.getD 2 ent0,true):=rfl
   unfold ranksQ ranksI
   rw [e2,opI_take]
   simp only [rankL,ents,List.getD_cons_zero,List.getD_cons_succ]
   simp
  ·have e2:findS n_drop n=(ents.getD 3 ent0,true):=rfl
   unfold ranksQ ranksI
   rw [e2,opI_drop]
   simp only [rankL,ents,List.getD_cons_zero,List.getD_cons_succ]
   simp
  ·have e2:findS n_reverse n=(ents.getD 4 ent0,true):=rfl
   unfold ranksQ ranksI
   rw [e2,opI_reverse]
   simp only [rankL,ents,List.getD_cons_zero,List.getD_cons_succ]
   simp
  ·have e2:findS n_append n=(ents.getD 5 ent0,true):=rfl
   unfold ranksQ ranksI
   rw [e2,opI_append]
   simp only [rankL,ents,List.getD_cons_zero,List.getD_cons_succ]
   simp
  ·have e2:findS n_transpose n=(ents.getD 6 ent0,true):=rfl
   unfold ranksQ ranksI
   rw [e2,opI_transpose]
   simp only [rankL,ents,List.getD_cons_zero,List.getD_cons_succ]
   simp
  ·have e2:findS n_diagonal n=(ents.getD 7 ent0,true):=rfl
   unfold ranksQ ranksI
   rw [e2,opI_diagonal]
   simp only [rankL,ents,List.getD_cons_zero,List.getD_cons_succ]
   simp
  ·have e2:findS n_windows n=(ents.getD 8 ent0,true):=rfl
   unfold ranksQ ranksI
   rw [e2,opI_windows]
   simp only [rankL,ents,List.getD_cons_zero,List.getD_cons_succ]
   simp
  ·have e2:findS n_chunk n=(ents.getD 9 ent0,true):=rfl
   unfold ranksQ ranksI
   rw [e2,opI_chunk]
   simp only [rankL,ents,List.getD_cons_zero,List.getD_cons_succ]
   simp
  ·have e2:findS n_index n=(ents.getD 10 ent0,true):=rfl
   unfold ranksQ ranksI
   rw [e2,opI_index]
   simp only [rankL,ents,List.getD_cons_zero,List.getD_cons_succ]
   simp
  ·have e2:findS n_update n=(ents.getD 11 ent0,true):=rfl
   unfold ranksQ ranksI
   rw [e2,opI_update]
   simp only [rankL,ents,List.getD_cons_zero,List.getD_cons_succ]
   simp
  ·have e2:findS n_pack n=(packE n,true):=rfl
   unfold ranksQ ranksI
   rw [e2,opI_pack]
   simp only [rankL,packE]
   by_cases h1:1≤n
   ·have hm:maxI n 1=n:=by unfold maxI;rw [if_neg (by omega)]
    rw [if_pos ⟨h1,hn⟩]
    simp only [hm]
    simp
   ·have hm:maxI n 1=1:=by unfold maxI;rw [if_pos (by omega)]
    rw [if_neg (by omega)]
    simp only [hm]
    rw [if_pos (by right;simp;omega)]
  ·unfold ranksQ ranksI
   rw [opI_no hno]
   have e2:(findS op n).2=false:=by
     obtain ⟨q0,q1,q2,q3,q4,q5,q6,q7,q8,q9,q10,q11,q12⟩:=hno
     simp only [findS,findG,ents,eqS_symm _ op]
     simp only [n_iota,n_fill,n_take,n_drop,n_reverse,n_append,n_transpose,n_diagonal,n_windows,n_chunk,n_index,n_update,n_pack,q0,q1,q2,q3,q4,q5,q6,q7,q8,q9,q10,q11,q12]
     rfl
   rw [if_pos (.inl e2)]
   rfl
end Go.Proofs.YtcpjahmajkhchaaGreat.St

namespace Go.Proofs.YtcpjahmajkhchaaGreat
open Go Go.Fw
set_option maxRecDepth 20000
def rksK (op:ByteArray) (n:Int):Kd→List Int×Bool
  |.prim=>fixS (List.replicate (nps op) 0) n
  |.struc=>St.ranksI op n
  |.fold=>fixS [0,1] n
  |.scan=>fixS [1] n
  |.const=>fixS [] n
  |.size=>fixS [] n
def rksS (op:ByteArray) (n:Int):List Int×Bool:=match kindS op with
  |some k=>rksK op n k
  |none=>([],false)
theorem con59V {op:ByteArray} {n:Int}:St.con59.c [.lit (.string op),.lit (.int .i64 n)]=some (True,rkV (St.ranksQ op n)):=rfl
theorem con99V {op:ByteArray} {n:Int}:St.con99.c [.lit (.string op),.lit (.int .i64 n)]=some (n≤1000000,rkV (St.ranksI op n)):=rfl
theorem con59g:St.con59.f=59:=rfl
theorem con99g:St.con99.f=99:=rfl
theorem con117V {op:ByteArray} {n:Int} {l:List Int}:con117.c [.lit (.string op),.lit (.int .i64 n),.sref (.sl false 1 (ints .i64 l)) 0]=some (True,rkV (fixS l n)):=by rw [con117_c,kOf_ints];rfl
attribute [go_sem] con59V con99V con59g con99g con117V rkV
noncomputable def MR1:Env:=envJ (P:=Tryz.prog) jkK zer (fun _=>false) (fun _=>false) [con51,con96,con117,St.con99] []
theorem MR1_ok:EnvOk Tryz.prog MR1:=envJOk zer_ok
theorem rk_of {x:AV} {b:Bool} {r:List Int} {p:List Int×Bool} (hx:slK .i64 x=some r) (h:p=(r,b)):LeA (.tup [x,.lit (.bool b)]) (rkV p):=by
  subst h
  exact LeA.tup ⟨slK_le hx,LeA.refl _,trivial⟩
set_option maxHeartbeats 8000000 in
theorem ranks_pc {op:ByteArray} {n:Int} (hn:n≤1000000):PC Tryz.prog 36 [.lit (.string op),.lit (.int .i64 n)] (rkV (rksS op n)):=by
  generalize hR:rksS op n=R
  unfold rksS at hR
  cases hk:kindS op with
  |none=>
   rw [hk] at hR
   refine pcR MR1_ok (kp36) Tryz.func36 [.tmp 4,.tmp 5] (h:=fun KF=>?_)
   unfold MR1
   repeat' (first
    |(with_reducible first|refine nx ?_|refine t_seq fun K=>?_|refine t_br (fun hc=>?_) fun hc=>?_|refine t_bx ?_|apply And.intro|intro vr)
    |((with_reducible first|refine ny ?_|refine t_dwh (h:=fun K KL=>?_));intros;simp only [go_sem,kp36,geff,hk,fdV,Bool.not_false]))
   all_goals try exact nd
   all_goals (refine nl ?_;simp only [go_sem])
   exact rk_of rfl hR.symm
  |some k=>
   rw [hk] at hR
   simp only at hR
   subst hR
   cases k<;>simp only [rksK]
   ·skip
    refine pcR MR1_ok (kp36) Tryz.func36 [.tmp 4,.tmp 5] (h:=fun KF=>?_)
    unfold MR1
    repeat' (first
     |(with_reducible first|refine nx ?_|refine t_seq fun K=>?_|refine t_br (fun hc=>?_) fun hc=>?_|refine t_bx ?_|apply And.intro|intro vr)
     |((with_reducible first|refine ny ?_|refine t_dwh (h:=fun K KL=>?_));intros;simp only [go_sem,kp36,geff,hk,fdV,kdV,Bool.not_true]))
    all_goals try exact nd
    all_goals (refine nl ?_;simp only [go_sem])
    exact LeA.refl _
   ·skip
    refine pcR MR1_ok (kp36) Tryz.func36 [.tmp 4,.tmp 5] (h:=fun KF=>?_)
    unfold MR1
    repeat' (first
     |(with_reducible first|refine nx ?_|refine t_seq fun K=>?_|refine t_br (fun hc=>?_) fun hc=>?_|refine t_bx ?_|apply And.intro|intro vr)
     |((with_reducible first|refine ny ?_|refine t_dwh (h:=fun K KL=>?_));intros;simp only [go_sem,kp36,geff,hk,fdV,kdV,Bool.not_true]))
    all_goals try exact nd
    all_goals (refine nl ?_;simp only [go_sem])
    exact LeA.refl _
   ·skip
    refine pcR MR1_ok (kp36) Tryz.func36 [.tmp 4,.tmp 5] (h:=fun KF=>?_)
    unfold MR1
    repeat' (first
     |(with_reducible first|refine nx ?_|refine t_seq fun K=>?_|refine t_br (fun hc=>?_) fun hc=>?_|refine t_bx ?_|apply And.intro|intro vr)
     |((with_reducible first|refine ny ?_|refine t_dwh (h:=fun K KL=>?_));intros;simp only [go_sem,kp36,geff,hk,fdV,kdV,Bool.not_true,fixV]))
    all_goals try exact nd
    all_goals (refine nl ?_;simp only [go_sem])
    exact LeA.refl _
   ·skip
    refine pcR MR1_ok (kp36) Tryz.func36 [.tmp 4,.tmp 5] (h:=fun KF=>?_)
    unfold MR1
    repeat' (first
     |(with_reducible first|refine nx ?_|refine t_seq fun K=>?_|refine t_br (fun hc=>?_) fun hc=>?_|refine t_bx ?_|apply And.intro|intro vr)
     |((with_reducible first|refine ny ?_|refine t_dwh (h:=fun K KL=>?_));intros;simp only [go_sem,kp36,geff,hk,fdV,kdV,Bool.not_true,fixV]))
    all_goals try exact nd
    all_goals (refine nl ?_;simp only [go_sem])
    exact LeA.refl _
   ·skip
    refine pcR MR1_ok (kp36) Tryz.func36 [.tmp 4,.tmp 5] (h:=fun KF=>?_)
    unfold MR1
    repeat' (first
     |(with_reducible first|refine nx ?_|refine t_seq fun K=>?_|refine t_br (fun hc=>?_) fun hc=>?_|refine t_bx ?_|apply And.intro|intro vr)
     |((with_reducible first|refine ny ?_|refine t_dwh (h:=fun K KL=>?_));intros;simp only [go_sem,kp36,geff,hk,fdV,kdV,Bool.not_true,fixV]))
    all_goals try exact nd
    all_goals (refine nl ?_;simp only [go_sem])
    exact LeA.refl _
   ·skip
    refine pcR MR1_ok (kp36) Tryz.func36 [.tmp 4,.tmp 5] (h:=fun KF=>?_)
    unfold MR1
    repeat' (first
     |(with_reducible first|refine nx ?_|refine t_seq fun K=>?_|refine t_br (fun hc=>?_) fun hc=>?_|refine t_bx ?_|apply And.intro|intro vr)
     |((with_reducible first|refine ny ?_|refine t_dwh (h:=fun K KL=>?_));intros;simp only [go_sem,kp36,geff,hk,fdV,kdV,Bool.not_true,fixV]))
    all_goals try exact nd
    all_goals (refine nl ?_;simp only [go_sem])
    exact LeA.refl _
noncomputable def con36:PCon Tryz.prog where
  f:=36
  c:=fun
   |[.lit (.string op),.lit (.int .i64 n)]=>some (n≤1000000,rkV (rksS op n))
   |_=>none
  ok:=by
   intro args p r hc hp
   split at hc
   ·cases hc;exact (ranks_pc hp)
   ·cases hc
  fk:=fk36
theorem con36_f:con36.f=36:=rfl
theorem con36_c {op:ByteArray} {n:Int}:con36.c [.lit (.string op),.lit (.int .i64 n)]=some (n≤1000000,rkV (rksS op n)):=rfl
attribute [go_sem] con36_f con36_c
def rksR (op:ByteArray) (n:Int):List Int×Bool:=
  if eqS op sConst=true then ([],n==0) else if eqS op sSize=true then ([],n==0)
  else if eqS op sFold=true then (if n=2 then ([0,1],true) else ([],false))
  else if eqS op sScan=true then (if n=1 then ([1],true) else ([],false))
  else match El.typesS op with
    |some r=>if n=(r.ps.length:Int) then (List.replicate r.ps.length 0,true) else ([],false)
    |none=>St.ranksQ op n
noncomputable def MR2:Env:=envJ (P:=Tryz.prog) jkK zer (fun _=>false) (fun _=>false) [El.con44,St.con59] []
theorem MR2_ok:EnvOk Tryz.prog MR2:=envJOk zer_ok
set_option maxHeartbeats 8000000 in
theorem rranks_pc {op:ByteArray} {n:Int}:PC Tryz.prog 29 [.lit (.string op),.lit (.int .i64 n)] (rkV (rksR op n)):=by
  generalize hR:rksR op n=R
  unfold rksR at hR
  cases h1:eqS op sConst with
  |true=>
   have h1':eqS op ⟨#[99,111,110,115,116]⟩=true:=h1
   rw [if_pos h1] at hR
   refine pcR MR2_ok (kp29) Tryz.func29 [.tmp 4,.tmp 5] (h:=fun KF=>?_)
   unfold MR2
   repeat' (first
    |(with_reducible first|refine nx ?_|refine t_seq fun K=>?_|refine t_br (fun hc=>?_) fun hc=>?_|refine t_bx ?_|apply And.intro|intro vr)
    |((with_reducible first|refine ny ?_|refine t_dwh (h:=fun K KL=>?_));intros;simp only [go_sem,kp29,geff,h1']))
   all_goals try exact nd
   all_goals (refine nl ?_;simp only [go_sem])
   exact rk_of rfl hR.symm
  |false=>
  have h1':eqS op ⟨#[99,111,110,115,116]⟩=false:=h1
  rw [if_neg (by rw [h1];decide)] at hR
  cases h2:eqS op sSize with
  |true=>
   have h2':eqS op ⟨#[115,105,122,101]⟩=true:=h2
   rw [if_pos h2] at hR
   refine pcR MR2_ok (kp29) Tryz.func29 [.tmp 4,.tmp 5] (h:=fun KF=>?_)
   unfold MR2
   repeat' (first
    |(with_reducible first|refine nx ?_|refine t_seq fun K=>?_|refine t_br (fun hc=>?_) fun hc=>?_|refine t_bx ?_|apply And.intro|intro vr)
    |((with_reducible first|refine ny ?_|refine t_dwh (h:=fun K KL=>?_));intros;simp only [go_sem,kp29,geff,h1',h2']))
   all_goals try exact nd
   all_goals (refine nl ?_;simp only [go_sem])
   exact rk_of rfl hR.symm
  |false=>
  have h2':eqS op ⟨#[115,105,122,101]⟩=false:=h2
  rw [if_neg (by rw [h2];decide)] at hR
  cases h3:eqS op sFold with
  |true=>
   have h3':eqS op ⟨#[102,111,108,100]⟩=true:=h3
   rw [if_pos h3] at hR
   refine pcR MR2_ok (kp29) Tryz.func29 [.tmp 4,.tmp 5] (h:=fun KF=>?_)
   unfold MR2
   repeat' (first
    |(with_reducible first|refine nx ?_|refine t_seq fun K=>?_|refine t_br (fun hc=>?_) fun hc=>?_|refine t_bx ?_|apply And.intro|intro vr)
    |((with_reducible first|refine ny ?_|refine t_dwh (h:=fun K KL=>?_));intros;simp only [go_sem,kp29,geff,h1',h2',h3']))
   all_goals try exact nd
   all_goals (refine nl ?_;simp only [go_sem])
   all_goals refine rk_of (by first|exact slK_two|rfl) ?_
   all_goals rw [←hR]
   all_goals (first|rw [if_pos (by simpa using hc)]|rw [if_neg (by simpa using hc)])
  |false=>
  have h3':eqS op ⟨#[102,111,108,100]⟩=false:=h3
  rw [if_neg (by rw [h3];decide)] at hR
  cases h4:eqS op sScan with
  |true=>
   have h4':eqS op ⟨#[115,99,97,110]⟩=true:=h4
   rw [if_pos h4] at hR
   refine pcR MR2_ok (kp29) Tryz.func29 [.tmp 4,.tmp 5] (h:=fun KF=>?_)
   unfold MR2
   repeat' (first
    |(with_reducible first|refine nx ?_|refine t_seq fun K=>?_|refine t_br (fun hc=>?_) fun hc=>?_|refine t_bx ?_|apply And.intro|intro vr)
    |((with_reducible first|refine ny ?_|refine t_dwh (h:=fun K KL=>?_));intros;simp only [go_sem,kp29,geff,h1',h2',h3',h4']))
   all_goals try exact nd
   all_goals (refine nl ?_;simp only [go_sem])
   all_goals refine rk_of (by first|exact slK_one|rfl) ?_
   all_goals rw [←hR]
   all_goals (first|rw [if_pos (by simpa using hc)]|rw [if_neg (by simpa using hc)])
  |false=>
  have h4':eqS op ⟨#[115,99,97,110]⟩=false:=h4
  rw [if_neg (by rw [h4];decide)] at hR
  cases hT:El.typesS op with
  |none=>
   rw [hT] at hR
   subst hR
   refine pcR MR2_ok (kp29) Tryz.func29 [.tmp 4,.tmp 5] (h:=fun KF=>?_)
   unfold MR2
   repeat' (first
    |(with_reducible first|refine nx ?_|refine t_seq fun K=>?_|refine t_br (fun hc=>?_) fun hc=>?_|refine t_bx ?_|apply And.intro|intro vr)
    |((with_reducible first|refine ny ?_|refine t_dwh (h:=fun K KL=>?_));intros;simp only [go_sem,kp29,geff,h1',h2',h3',h4',hT]))
   all_goals try exact nd
   all_goals (refine nl ?_;simp only [go_sem])
   exact LeA.refl _
  |some r=>
   rw [hT] at hR
   simp only at hR
   have hr:=types_len hT
   by_cases hn:n=(r.ps.length:Int)
   ·rw [if_pos hn] at hR
    subst hn
    subst hR
    refine pcR MR2_ok (kp29) Tryz.func29 [.tmp 4,.tmp 5] (h:=fun KF=>?_)
    unfold MR2
    repeat' (first
     |(with_reducible first|refine nx ?_|refine t_seq fun K=>?_|refine t_br (fun hc=>?_) fun hc=>?_|refine t_bx ?_|apply And.intro|intro vr)
     |((with_reducible first|refine ny ?_|refine t_dwh (h:=fun K KL=>?_));intros;simp only [go_sem,kp29,geff,h1',h2',h3',h4',hT,strs_length,beq_self_eq_true,rep_ints,Int.toNat_natCast]))
    all_goals try exact nd
    all_goals (refine nl ?_;simp only [go_sem])
    exact rk_of slK_sl rfl
   ·rw [if_neg hn] at hR
    have hn':(n==(r.ps.length:Int))=false:=beq_eq_false_iff_ne.2 hn
    refine pcR MR2_ok (kp29) Tryz.func29 [.tmp 4,.tmp 5] (h:=fun KF=>?_)
    unfold MR2
    repeat' (first
     |(with_reducible first|refine nx ?_|refine t_seq fun K=>?_|refine t_br (fun hc=>?_) fun hc=>?_|refine t_bx ?_|apply And.intro|intro vr)
     |((with_reducible first|refine ny ?_|refine t_dwh (h:=fun K KL=>?_));intros;simp only [go_sem,kp29,geff,h1',h2',h3',h4',hT,strs_length,hn']))
    all_goals try exact nd
    all_goals (refine nl ?_;simp only [go_sem])
    exact rk_of rfl hR.symm
noncomputable def con29:PCon Tryz.prog where
  f:=29
  c:=fun
   |[.lit (.string op),.lit (.int .i64 n)]=>some (True,rkV (rksR op n))
   |_=>none
  ok:=by
   intro args p r hc hp
   split at hc
   ·cases hc;exact rranks_pc
   ·cases hc
  fk:=fk29
theorem con29_f:con29.f=29:=rfl
theorem con29_c {op:ByteArray} {n:Int}:con29.c [.lit (.string op),.lit (.int .i64 n)]=some (True,rkV (rksR op n)):=rfl
attribute [go_sem] con29_f con29_c
theorem opI_notS {op:ByteArray} (h:isS op=false):St.opI op=13:=by
  simp only [isS,opNames,List.any_cons,List.any_nil,Bool.or_false,Bool.or_eq_false_iff] at h
  obtain ⟨q0,q1,q2,q3,q4,q5,q6,q7,q8,q9,q10,q11,q12⟩:=h
  rw [eqS_symm] at q0 q1 q2 q3 q4 q5 q6 q7 q8 q9 q10 q11 q12
  exact St.opI_no ⟨q0,q1,q2,q3,q4,q5,q6,q7,q8,q9,q10,q11,q12⟩
theorem ranks_same {op:ByteArray} {n:Int} (h0:0≤n) (hn:n≤4096):rksR op n=rksS op n:=by
  unfold rksR
  by_cases h1:eqS op sConst=true
  ·rw [if_pos h1,eqS_iff.1 h1]
   show _=fixS [] n
   unfold fixS
   by_cases hz:n=0
   ·subst hz;rfl
   ·rw [if_neg (by simpa using hz),beq_eq_false_iff_ne.2 hz]
  rw [if_neg h1]
  by_cases h2:eqS op sSize=true
  ·rw [if_pos h2,eqS_iff.1 h2]
   show _=fixS [] n
   unfold fixS
   by_cases hz:n=0
   ·subst hz;rfl
   ·rw [if_neg (by simpa using hz),beq_eq_false_iff_ne.2 hz]
  rw [if_neg h2]
  by_cases h3:eqS op sFold=true
  ·rw [if_pos h3,eqS_iff.1 h3];rfl
  rw [if_neg h3]
  by_cases h4:eqS op sScan=true
  ·rw [if_pos h4,eqS_iff.1 h4];rfl
  rw [if_neg h4]
  unfold rksS kindS
  cases hT:El.typesS op with
  |some r=>
   simp only [Option.isSome_some,if_true]
   show _=fixS (List.replicate (nps op) 0) n
   unfold nps fixS
   rw [hT]
   simp only [List.length_replicate]
  |none=>
   simp only [Option.isSome_none,Bool.false_eq_true,if_false,h1,h2,h3,h4]
   cases hs:isS op with
   |true=>exact St.ranks_eq h0 hn
   |false=>
    simp only [Bool.false_eq_true,if_false]
    unfold St.ranksQ
    rw [opI_notS hs];rfl
end Go.Proofs.YtcpjahmajkhchaaGreat

namespace Go.Proofs.YtcpjahmajkhchaaGreat
open Go Go.Fw
set_option maxRecDepth 20000
theorem applyV_get {o:Option Int}:El.applyV o= .tup [.lit (.int .i64 (o.getD 0)),.lit (.bool o.isSome)]:=by cases o<;>rfl
theorem fix_le {l:List Int} {n:Int}:(fixS l n).1=[]∨((fixS l n).1.length:Int)=n:=by
  unfold fixS
  split
  ·rename_i h;exact .inr h.symm
  ·exact .inl rfl
theorem rks_le {op:ByteArray} {n:Int}:(rksS op n).1=[]∨((rksS op n).1.length:Int)=n:=by
  unfold rksS
  split
  ·rename_i k _
   cases k
   ·exact fix_le
   ·show (St.ranksI op n).1=[]∨((St.ranksI op n).1.length:Int)=n
    unfold St.ranksI
    split
    ·exact .inl rfl
    ·rename_i h
     exact .inr (Decidable.byContradiction fun e=>h (.inr e))
   ·exact fix_le
   ·exact fix_le
   ·exact fix_le
   ·exact fix_le
  ·exact .inl rfl
attribute [go_sem] El.con37_f El.con37_c El.con39_f El.con39_c
noncomputable def L8:Env:=envJ (P:=Tryz.prog) jkR zer (fun _=>false) (fun _=>false) [con9,con10,con33,con21,con34,con35,con36,con29,con26,El.con37,con11,El.con38,El.con39] []
theorem L8_ok:EnvOk Tryz.prog L8:=envJOk zer_ok
set_option maxHeartbeats 8000000 in
theorem types_law_pc {c:List Stp} {ts:List ByteArray} {a0 a1 a2:Int} {op:ByteArray} (hl:c.length≤9223372036854775807):
    PC Tryz.prog 8 [.sl false 3 (stps c),.agg [.sl false 1 (strs ts),.lit (.int .i64 a0),.lit (.int .i64 a1),.lit (.int .i64 a2)],.lit (.string op)] (.lit (.bool true)):=by
  cases hg:(!fewC c||decide ((ts.length:Int)>5)||decide ((op.size:Int)>20)) with
  |true=>
   refine pcR L8_ok (kp8) Tryz.func8 [.tmp 6] (h:=fun KF=>?_)
   unfold L8
   repeat' (first
    |(with_reducible first|refine nx ?_|refine t_seq fun K=>?_|refine t_br (fun hc=>?_) fun hc=>?_|refine t_bx ?_|apply And.intro|intro vr)
    |((with_reducible first|refine ny ?_|refine t_dwh (h:=fun K KL=>?_));intros;simp only [go_sem,kp8,geff,hg,strs_length]))
   all_goals try exact nd
   all_goals (refine nl ?_;simp only [go_sem])
   all_goals exact LeA.refl _
  |false=>
   have hg':=hg
   simp only [Bool.or_eq_false_iff,Bool.not_eq_false',decide_eq_false_iff_not] at hg'
   obtain ⟨⟨g1,g2⟩, -⟩:=hg'
   have k1:=(fewC_ok g1).1
   have hrk:=ranks_same (op:=op) (n:=(ts.length:Int)) (by omega) (by omega)
   have hty:=argsN_ok (c:=c) (ts:=ts) (a:=a0) (b:=a1) (d:=a2)
   generalize hA:argsN ts a0 a1 a2 ts.length=Ag at hty
   have hAl:Ag.length=ts.length:=by rw [←hA,argsN_len]
   have hq:((typS c ts).2&&(!(runS c Ag).2|| !El.vld (typS c ts).1 (runS c Ag).1))=false:=by
     cases h:(typS c ts).2 with
     |false=>rfl
     |true=>
      obtain ⟨q1,q2⟩:=typ_run (hty h) h
      rw [show El.vld (typS c ts).1 (runS c Ag).1=true from q2,q1];rfl
   have hds:=dself (rksS op ts.length).1
   have hrl:(rksS op ts.length).1.length≤1000000:=by
     rcases rks_le (op:=op) (n:=(ts.length:Int)) with e|e
     ·rw [e];simp
     ·omega
   refine pcR L8_ok (kp8) Tryz.func8 [.tmp 6] (h:=fun KF=>?_)
   unfold L8
   repeat' (first
    |(with_reducible first|refine nx ?_|refine t_seq fun K=>?_|refine t_br (fun hc=>?_) fun hc=>?_|refine t_bx ?_|apply And.intro|intro vr)
    |((with_reducible first|refine ny ?_|refine t_dwh (h:=fun K KL=>?_));intros;simp only [go_sem,kp8,geff,hg,hrk,hds,strs_length,typV,prV,rkV,eqS_refl,bne_self_eq_false,Bool.not_true,Bool.or_false]))
   all_goals try (first|exact k1|exact k1.1|exact k1.2|exact hrl)
   all_goals try exact nd
   refine t_loopF (ι:={p:Nat×Nat // p.1≤ts.length}) (fun i=>[(119,.lit (.int .i64 i.1.1)),(19,.arr 1 i.1.2)]) (fun i=>[.box 71 [.sl false 1 (strs ts),.lit (.int .i64 a0),.lit (.int .i64 a1),.lit (.int .i64 a2)],.arr 3 1 (ints .i64 (argsN ts a0 a1 a2 i.1.1)) i.1.2 false]) (fun i=>ts.length - i.1.1) ⟨(0,0),by simp⟩ ?_ ?_
   ·refine (le_nil 19 3 1 rfl).trans ?_
    exact lf
   rintro ⟨⟨i,v⟩,hi⟩ K0
   simp only at hi
   have hal:=argsN_len (ts:=ts) (a:=a0) (b:=a1) (c:=a2) (n:=i)
   rcases Nat.lt_or_ge i ts.length with hc|hc
   ·have g3:decide ((i:Int)<(ts.length:Int))=true:=decide_eq_true (by omega)
    have hs:=argsN_succ (ts:=ts) (a:=a0) (b:=a1) (c:=a2) (n:=i)
    obtain ⟨m,hm⟩:∃ m:Nat,((i:Int).tmod 3).toNat=m:=⟨_,rfl⟩
    have hm0:0≤(i:Int).tmod 3:=Int.tmod_nonneg 3 (by omega)
    have hm3:(i:Int).tmod 3<3:=Int.tmod_lt_of_pos _ (by omega)
    have hmm:m=0∨m=1∨m=2:=by omega
    cases hb:eqS (ts.getD i ByteArray.empty) ⟨#[98,111,111,108]⟩ with
    |true=>
     have e1:∀ n,argV (ts.getD i ByteArray.empty) n=andI .i64 (El.w32 n) 1:=fun n=>if_pos hb
     rw [e1] at hs
     rcases hmm with rfl|rfl|rfl
     ·have e2:argA a0 a1 a2 i=a0:=by unfold argA;rw [hm];rfl
      rw [e2] at hs
      repeat' (first
       |(with_reducible first|refine nx ?_|refine t_seq fun K=>?_|refine t_br (fun hc=>?_) fun hc=>?_|refine t_bx ?_|apply And.intro|intro vr)
       |((with_reducible first|refine ny ?_|refine t_dwh (h:=fun K KL=>?_));intros;simp only [go_sem,kp8,geff,g3,hb,hm,Int.toNat_natCast,strs_length,←hs]))
      all_goals try exact nd
      exact ⟨⟨(i+1,v+1),by omega⟩,wf,lf⟩
     ·have e2:argA a0 a1 a2 i=a1:=by unfold argA;rw [hm];rfl
      rw [e2] at hs
      repeat' (first
       |(with_reducible first|refine nx ?_|refine t_seq fun K=>?_|refine t_br (fun hc=>?_) fun hc=>?_|refine t_bx ?_|apply And.intro|intro vr)
       |((with_reducible first|refine ny ?_|refine t_dwh (h:=fun K KL=>?_));intros;simp only [go_sem,kp8,geff,g3,hb,hm,Int.toNat_natCast,strs_length,←hs]))
      all_goals try exact nd
      exact ⟨⟨(i+1,v+1),by omega⟩,wf,lf⟩
     ·have e2:argA a0 a1 a2 i=a2:=by unfold argA;rw [hm];rfl
      rw [e2] at hs
      repeat' (first
       |(with_reducible first|refine nx ?_|refine t_seq fun K=>?_|refine t_br (fun hc=>?_) fun hc=>?_|refine t_bx ?_|apply And.intro|intro vr)
       |((with_reducible first|refine ny ?_|refine t_dwh (h:=fun K KL=>?_));intros;simp only [go_sem,kp8,geff,g3,hb,hm,Int.toNat_natCast,strs_length,←hs]))
      all_goals try exact nd
      exact ⟨⟨(i+1,v+1),by omega⟩,wf,lf⟩
    |false=>
     have e1:∀ n,argV (ts.getD i ByteArray.empty) n=El.w32 n:=fun n=>if_neg (by rw [hb];decide)
     rw [e1] at hs
     rcases hmm with rfl|rfl|rfl
     ·have e2:argA a0 a1 a2 i=a0:=by unfold argA;rw [hm];rfl
      rw [e2] at hs
      repeat' (first
       |(with_reducible first|refine nx ?_|refine t_seq fun K=>?_|refine t_br (fun hc=>?_) fun hc=>?_|refine t_bx ?_|apply And.intro|intro vr)
       |((with_reducible first|refine ny ?_|refine t_dwh (h:=fun K KL=>?_));intros;simp only [go_sem,kp8,geff,g3,hb,hm,Int.toNat_natCast,strs_length,←hs]))
      all_goals try exact nd
      exact ⟨⟨(i+1,v+1),by omega⟩,wf,lf⟩
     ·have e2:argA a0 a1 a2 i=a1:=by unfold argA;rw [hm];rfl
      rw [e2] at hs
      repeat' (first
       |(with_reducible first|refine nx ?_|refine t_seq fun K=>?_|refine t_br (fun hc=>?_) fun hc=>?_|refine t_bx ?_|apply And.intro|intro vr)
       |((with_reducible first|refine ny ?_|refine t_dwh (h:=fun K KL=>?_));intros;simp only [go_sem,kp8,geff,g3,hb,hm,Int.toNat_natCast,strs_length,←hs]))
      all_goals try exact nd
      exact ⟨⟨(i+1,v+1),by omega⟩,wf,lf⟩
     ·have e2:argA a0 a1 a2 i=a2:=by unfold argA;rw [hm];rfl
      rw [e2] at hs
      repeat' (first
       |(with_reducible first|refine nx ?_|refine t_seq fun K=>?_|refine t_br (fun hc=>?_) fun hc=>?_|refine t_bx ?_|apply And.intro|intro vr)
       |((with_reducible first|refine ny ?_|refine t_dwh (h:=fun K KL=>?_));intros;simp only [go_sem,kp8,geff,g3,hb,hm,Int.toNat_natCast,strs_length,←hs]))
      all_goals try exact nd
      exact ⟨⟨(i+1,v+1),by omega⟩,wf,lf⟩
   ·have g3:decide ((i:Int)<(ts.length:Int))=false:=decide_eq_false (by omega)
    have ei:i=ts.length:=by omega
    have hA':argsN ts a0 a1 a2 i=Ag:=by rw [ei];exact hA
    cases hT:El.typesS op with
    |none=>
     have hp:primS op=([],false):=by unfold primS;rw [hT]
     repeat' (first
      |(with_reducible first|refine nx ?_|refine t_seq fun K=>?_|refine t_br (fun hc=>?_) fun hc=>?_|refine t_bx ?_|apply And.intro|intro vr)
      |((with_reducible first|refine ny ?_|refine t_dwh (h:=fun K KL=>?_));intros;simp only [go_sem,kp8,geff,g3,hA',hq,hp,Bool.not_false]))
     all_goals try exact nd
     all_goals (refine nl ?_;simp only [go_sem])
     exact LeA.refl _
    |some r=>
     have hp:primS op=([⟨op,0,iota r.ps.length⟩],true):=by unfold primS;rw [hT]
     have h3:=types_len hT
     have k2:okC [⟨op,0,iota r.ps.length⟩]:=⟨by simp,fun s hs=>by rw [List.mem_singleton.1 hs];simp only [iota_len];omega⟩
     repeat' (first
      |(with_reducible first|refine nx ?_|refine t_seq fun K=>?_|refine t_br (fun hc=>?_) fun hc=>?_|refine t_bx ?_|apply And.intro|intro vr)
      |((with_reducible first|refine ny ?_|refine t_dwh (h:=fun K KL=>?_));intros;simp only [go_sem,kp8,geff,g3,hA',hq,hp,Bool.not_true,Int.toNat_natCast,stpV,runV,applyV_get,List.getD_cons_zero]))
     all_goals try (first|exact k2.1|exact k2.2)
     all_goals try exact nd
     all_goals (refine nl ?_;simp only [go_sem])
     refine LeA.of_eq (congrArg (fun b=>AV.lit (.bool b)) ?_)
     rw [iota_len]
     rcases Nat.lt_trichotomy Ag.length r.ps.length with h|h|h
     ·rw [decide_eq_true (p:=(Ag.length:Int)<(r.ps.length:Int)) (by omega)];rfl
     ·rw [prim_run hT h (by rw [←hA];exact argsN_el)];simp
     ·rw [decide_eq_true (p:=(Ag.length:Int)>(r.ps.length:Int)) (by omega),Bool.or_true];rfl
theorem ft71:fieldTs Tryz.prog 71=[42,69]:=by kernel_rfl
theorem types_law:∀ xs,ShL Tryz.prog Tryz.f8.params.toList xs→PC Tryz.prog 8 xs (.lit (.bool true))
  |[x,y,z],h=>by
   obtain ⟨c,rfl,hc⟩:=shv_stps h.1
   obtain ⟨d,rfl,hd⟩:=shv_agg ag71 h.2.1
   obtain ⟨p,q,rfl,hp,hq⟩:=sh_two ft71 hd
   obtain ⟨ts,rfl, -, -⟩:=sh_strs u42 u9 sz9 hp
   obtain ⟨xss,rfl,hl,hx⟩:=sh_array u69 hq
   obtain ⟨op,rfl, -⟩:=shv_str u9 h.2.2.1
   match xss,hl,hx with
   |[x0,x1,x2],_,hx=>
    obtain ⟨a,rfl,_⟩:=sh_int u3 (hx x0 (by simp))
    obtain ⟨b,rfl,_⟩:=sh_int u3 (hx x1 (by simp))
    obtain ⟨e,rfl,_⟩:=sh_int u3 (hx x2 (by simp))
    exact types_law_pc hc
  |[],h=>h.elim
  |[_],h=>h.2.elim
  |[_,_],h=>h.2.2.elim
  |_::_::_::_::_,h=>h.2.2.2.elim
end Go.Proofs.YtcpjahmajkhchaaGreat
