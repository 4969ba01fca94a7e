import Derived.Shelf.Strings.Builder1
import Derived.Shelf.Strings.Builder2
import Derived.Shelf.Strings.OnBuilder
import Derived.Shelf.Strings.BuilderF
import Derived.Shelf.Strings.BuilderK
import Derived.Shelf.Utf8.RuneCount
import Derived.Shelf.Strings.Builder2Cap
import Derived.Shelf.Strconv.Atoi
import Derived.Shelf.Strconv.Itoa0
import Derived.Shelf.Strconv.Itoa1
import Derived.Shelf.LaysM
import Derived.Shelf.Strconv.Itoa2
import Derived.Shelf.Strconv.Itoa3
import Derived.Shelf.Strconv.AtoiErrFast
import Derived.Shelf.Strconv.ParseIntEmpty
import Derived.Shelf.Strconv.AtoiFail
import Derived.Shelf.Strconv.Clone
import Derived.Shelf.Strconv.SyntaxError
import Derived.Shelf.LaysC
import Derived.Shelf.Strconv.ToError
import Derived.Shelf.Strconv.AtoiErr
import Derived.Shelf.Strconv.ErrVar
import Derived.Shelf.Strconv.Lower
import Derived.Shelf.Strconv.ParseUint10
import Derived.Shelf.Strconv.ParseUint10Empty
import Derived.Shelf.Strconv.ParseUint10Any
import Derived.Shelf.Strconv.ParseInt10
import Derived.Shelf.Strconv.AtoiLong
import Derived.Shelf.Strconv.AtoiInnerAll
import Derived.Shelf.Strconv.RangeError
import Derived.Shelf.Strconv.ToErrorRange
import Derived.Shelf.Strconv.AtoiAll
import Derived.Shelf.Strconv.ErrVarAll
import Derived.Shelf.Strconv.ParseUintEmpty
import Derived.Shelf.Strconv.ParseUint10b64
import Derived.Shelf.Strings.Search1
import Derived.Shelf.Strings.Search2
import Derived.Shelf.Strings.Search3
import Derived.Shelf.Strings.Cut
import Derived.Shelf.Strings.Count
import Derived.Shelf.Strings.Shaped
import Derived.Shelf.Unicode.DecodeSlow
import Derived.Test.YtohiagaclfaolaaGreatDoorProg
import Derived.Test.YtohiagaclfaolaaGreatDoorSC
import Derived.LoopTactic
import Derived.Test.YtohiagaclfaolaaGreatDoorSB
import Derived.Test.YtohiagaclfaolaaGreatDoorSA
import Derived.Test.YtohiagaclfaolaaGreatDoorRows
import Derived.OpenShut

set_option linter.all false

namespace Go.Proofs
open Go.Shelf
def Tryz.lays169_ren:Go.Shelf.Ren:=⟨fun|169=>49|n=>n,fun|70=>78|9=>9|0=>0|72=>80|37=>27|127=>119|3=>3|5=>5|n=>n,fun|n=>n⟩
theorem Tryz.lays169:Go.Proofs.Lays.n169 Tryz.prog Tryz.lays169_ren:={
  mixed:=by kernel_rfl
  f169:=Tryz.func49.trans (congrArg some (by kernel_rfl))
  t0:=Tryz.underlying0
  a0:=Tryz.isAgg0
  z0:=Tryz.sizeOf0
  v0:=Tryz.zeroValue0
  t3:=Tryz.underlying3
  a3:=Tryz.isAgg3
  z3:=Tryz.sizeOf3
  v3:=Tryz.zeroValue3
  t9:=Tryz.underlying9
  a9:=Tryz.isAgg9
  z9:=Tryz.sizeOf9
  v9:=Tryz.zeroValue9
  t37:=Tryz.underlying27
  a37:=Tryz.isAgg27
  z37:=Tryz.sizeOf27
  v37:=Tryz.zeroValue27
  t70:=Tryz.underlying78
  a70:=Tryz.isAgg78
  z70:=Tryz.sizeOf78
  v70:=Tryz.zeroValue78
  t72:=Tryz.underlying80
  a72:=Tryz.isAgg80
  z72:=Tryz.sizeOf80
  v72:=Tryz.zeroValue80
  t127:=Tryz.underlying119
  a127:=Tryz.isAgg119
  z127:=Tryz.sizeOf119
  v127:=Tryz.zeroValue119}
theorem Tryz.Builder_Extra_169:Builder.Extra Tryz.prog Tryz.lays169_ren:={
  sizeBuilder:=by kernel_rfl
  liesBuilder:=by kernel_rfl
  t5:=Tryz.underlying5
  a5:=Tryz.isAgg5
  z5:=Tryz.sizeOf5
  v5:=Tryz.zeroValue5
  infoByte:=by kernel_rfl
  cellsByte:=by kernel_rfl
  sizeByte:=by kernel_rfl
  neB5:=by decide}
open Go.RowKit in
theorem Tryz.Builder_String_any_f (B b:Nat) (l:List UInt8) (w:World) (h:Lib.IsBuilderF 80 5 B b (Lib.byteCells l) w) (hBw:B≤w.heap.size):
    Calls Tryz.prog 49 #[.pointer (some ⟨b,0,none⟩)] w fun e w'=>e= .returned (.string ⟨l.toArray⟩)∧(Lib.IsBuilderF 80 5 B b (Lib.byteCells l) w'∧Below B w w'):=Any.Builder_String_any_f Tryz.lays169 Tryz.Builder_Extra_169 B b l w h hBw
end Go.Proofs

namespace Go.Proofs.YtohiagaclfaolaaGreatDoor.Tx
open Go.Proofs.YtohiagaclfaolaaGreatDoor
open Go Go.Fw Go.RowKit Bm
set_option maxRecDepth 20000
def opCs (x:Ins):List AV:=[.lit (.int .i64 x.code),.lit (.string x.prim),.lit (.int .i64 x.a),.lit (.int .i64 x.b),.lit (.int .i64 x.c),.lit (.int .i64 x.d)]
theorem flat_ops:∀ (l:List Ins) (n j:Nat),n<l.length→j<6→(flat (opsV l)).getD (6*n+j) .top=(opCs (l.getD n nilI)).getD j .top
  |x::l,0,j,_,hj=>by
   show ((opCs x)++flat (opsV l)).getD (6*0+j) .top=_
   rw [Nat.mul_zero,Nat.zero_add,List.getD_eq_getElem?_getD,List.getElem?_append_left (by simp [opCs];omega),←List.getD_eq_getElem?_getD];rfl
  |x::l,n+1,j,hn,hj=>by
   show ((opCs x)++flat (opsV l)).getD (6*(n+1)+j) .top=_
   have e:6*(n+1)+j - (opCs x).length=6*n+j:=by simp [opCs];omega
   rw [List.getD_eq_getElem?_getD,List.getElem?_append_right (by simp [opCs];omega),e,←List.getD_eq_getElem?_getD,flat_ops l n j (by simpa using hn) hj];rfl
theorem flat_opsL:∀ l:List Ins,(flat (opsV l)).length=6*l.length
  |[]=>rfl
  |x::l=>by
   show ((opCs x)++flat (opsV l)).length=_
   rw [List.length_append,flat_opsL l];simp [opCs];omega
structure OpsAt (C:Nat→Nat→Option Value) (l:List Ins) (v:Value) where
  a:Option Addr
  cap:Nat
  v:v= .slice a l.length cap
  le:l.length≤cap
  max:cap≤maxLen
  at_:∀ n,n<l.length→∃ b off,a=some ⟨b,off,none⟩∧C b (off+6*n)=some (.int .i64 (l.getD n nilI).code)∧C b (off+6*n+1)=some (.string (l.getD n nilI).prim)∧
    C b (off+6*n+2)=some (.int .i64 (l.getD n nilI).a)∧C b (off+6*n+3)=some (.int .i64 (l.getD n nilI).b)∧C b (off+6*n+4)=some (.int .i64 (l.getD n nilI).c)∧C b (off+6*n+5)=some (.int .i64 (l.getD n nilI).d)
theorem ops_at {C:Nat→Nat→Option Value} {l:List Ins} {v:Value} (h:RC C (.sl false 6 (opsV l)) v):Nonempty (OpsAt C l v):=by
  generalize hX:opsV l=X at h
  cases h with
  |nil full sz p=>
   have:l=[]:=by
     cases l with
     |nil=>rfl
     |cons x l=>cases hX
   subst this
   exact ⟨⟨p,0,rfl,Nat.le_refl _,Nat.zero_le _,fun n hn=>by simp at hn⟩⟩
  |sl full sz X b off cap f hc hm hf hw hC h1 hR=>
   subst hX
   have hlen:(opsV l).length=l.length:=opsV_length l
   have hfl:=flat_opsL l
   have key:∀ n j x,n<l.length→j<6→(opCs (l.getD n nilI)).getD j .top= .lit x→C b (off+6*n+j)=some x:=fun n j x hn hj hx=>by
     have hlt:6*n+j<(flat (opsV l)).length:=by rw [hfl];omega
     have hr:=hR (6*n+j) hlt
     rw [flat_ops l n j hn hj,hx] at hr
     rw [Nat.add_assoc,hC _ hlt,rc_lit hr]
   exact ⟨⟨some ⟨b,off,none⟩,cap,by rw [hlen],by omega,hm,fun n hn=>⟨b,off,rfl,key n 0 _ hn (by omega) rfl,key n 1 _ hn (by omega) rfl,key n 2 _ hn (by omega) rfl,key n 3 _ hn (by omega) rfl,key n 4 _ hn (by omega) rfl,key n 5 _ hn (by omega) rfl⟩⟩⟩
theorem rc_opV {C:Nat→Nat→Option Value} (x:Ins):RC C (opV x) (opVal x):=by
  obtain ⟨k,p,a,b,c,d⟩:=x
  refine RC.agg [.lit (.int .i64 k),.lit (.string p),.lit (.int .i64 a),.lit (.int .i64 b),.lit (.int .i64 c),.lit (.int .i64 d)] [.int .i64 k,.string p,.int .i64 a,.int .i64 b,.int .i64 c,.int .i64 d] rfl (fun i hi=>?_) fun i hi=>?_
  ·match i,hi with
   |0,_=>rfl
   |1,_=>rfl
   |2,_=>rfl
   |3,_=>rfl
   |4,_=>rfl
   |5,_=>rfl
  ·match i,hi with
   |0,_=>exact .lit _
   |1,_=>exact .lit _
   |2,_=>exact .lit _
   |3,_=>exact .lit _
   |4,_=>exact .lit _
   |5,_=>exact .lit _
theorem pc_calls {f:FuncId} {args:List AV} {vs:List Value} {r:Value} (h:PC Tryz.prog f args (.lit r)) (hl:RL (fun _ _=>none) args vs) (w:World) (hT:Tabs w):Calls Tryz.prog f vs.toArray w fun e w'=>e= .returned r∧Below w.heap.size w w':=by
  refine (h (fun _ _=>none) w vs hl ⟨(fun _ _ _ h=>by cases h),hT⟩).mono ?_
  rintro e w' ⟨v,C',rfl,_,h2,_,h4,_⟩
  rw [rc_lit h2];exact ⟨rfl,h4.below⟩
theorem right_calls (x:Ins) (n:Int) (w:World) (hT:Tabs w):Calls Tryz.prog 45 #[opVal x,.int .i64 n] w fun e w'=>e= .returned (.bool (rightS x n))∧Below w.heap.size w w':=
  pc_calls (vs:=[opVal x,.int .i64 n]) right_pc ⟨rfl,fun i hi=>by
    match i,hi with
    |0,_=>exact rc_opV x
    |1,_=>exact .lit _⟩ w hT
theorem line_calls {x:Ins} (hr:rightS x 200=true) (w:World) (hT:Tabs w):Calls Tryz.prog 48 #[opVal x] w fun e w'=>e= .returned (.string (bs (lineB x)))∧Below w.heap.size w w':=
  pc_calls (vs:=[opVal x]) (line_pc (sm_right hr)) ⟨rfl,fun i hi=>by
    match i,hi with
    |0,_=>exact rc_opV x⟩ w hT
theorem isB_below {B b:Nat} {l:List Value} {w w':World} (h:Lib.IsBuilderF 80 5 B b l w) (hb:Below w.heap.size w w'):Lib.IsBuilderF 80 5 B b l w':=by
  have hg:w.grownBy w' none:=⟨hb.os,hb.tape,hb.output,hb.size,fun k hk _=>hb.block k hk⟩
  have key:∀ p,Lib.BuilderAtF 80 5 B b p l w→Lib.BuilderAtF 80 5 B b p l w':=by
    rintro p ⟨hB,v,hbk,hown,hne⟩
    refine ⟨hB,v,?_,hown.kept hg ?_,hne⟩
    ·rw [hb.block b (Array.getElem?_eq_some_iff.1 hbk).1];exact hbk
    ·cases hv:v.ownBlock with
     |none=>exact .inl rfl
     |some k=>exact .inr (by simp)
  exact h.elim (fun h=> .inl (key _ h)) fun h=> .inr (key _ h)
theorem cells6 {w:World} {g:Nat} {a0 a1 a2 a3 a4 a5:Value} {t:TypeId} {fz:Nat×Nat} (h:w.heap[g]? =some (.cells #[a0,a1,a2,a3,a4,a5] t fz)):w.cell? ⟨g,0,none⟩=some a0∧w.cell? ⟨g,1,none⟩=some a1∧w.cell? ⟨g,2,none⟩=some a2∧w.cell? ⟨g,3,none⟩=some a3∧w.cell? ⟨g,4,none⟩=some a4∧w.cell? ⟨g,5,none⟩=some a5:=by
  simp [World.cell?,h]
theorem byteCells_bs (l m:List UInt8):Lib.byteCells l++Lib.strCells (bs m)=Lib.byteCells (l++m):=by
  rw [Lib.strCells_eq,data_bs];simp [Lib.byteCells]
def allR (l:List Ins):Prop:=∀ x∈l,rightS x 200=true
theorem text_len:∀ {l:List Ins},allR l→(textB l).length≤139*l.length
  |[],_=>by simp [textB]
  |x::l,h=>by
   obtain ⟨f,hx⟩:=right_rti (h x (by simp))
   have:=line_len hx
   have ih:=text_len (l:=l) fun y hy=>h y (by simp [hy])
   have e:textB (x::l)=lineB x++10::textB l:=by simp [textB]
   rw [e,List.length_append,List.length_cons,List.length_cons]
   omega
theorem below_weak {B B':Nat} {a b:World} (h:Below B' a b) (hB:B≤B'):Below B a b:=⟨h.os,h.tape,h.output,h.size,fun k hk=>h.block k (Nat.lt_of_lt_of_le hk hB)⟩
set_option maxHeartbeats 4000000 in
theorem print_ok {l:List Ins} {v:Value} {C:Nat→Nat→Option Value} {w:World} (hv:RC C (.sl false 6 (opsV l)) v) (hin:inW C w) (hl:l.length≤1000) (hall:allR l):
    Calls Tryz.prog 17 #[v] w fun e w'=>e= .returned (.tuple #[.string (bs (textB l)),.int .i64 0])∧Below w.heap.size w w':=by
  obtain ⟨⟨a,cap,rfl,hle,hmax,hat⟩⟩:=ops_at hv
  have h0:Lib.IsBuilderF 80 5 w.heap.size w.heap.size [] (w.alloc (.cells #[.pointer none,.slice none 0 0] 80)):=Lib.IsBuilderF.of (Lib.fresh_isBuilder 80 5 w)
  have b0:Below w.heap.size w (w.alloc (.cells #[.pointer none,.slice none 0 0] 80)):=(Below.refl _ w).alloc (Nat.le_refl _) _
  go_enter Tryz.func17,Tryz.ntmps17
  go_wp2
  go_loopw [9] (fun i wr=>∃ n:Nat,n≤l.length∧i= .int .i64 n∧Lib.IsBuilderF 80 5 w.heap.size w.heap.size (Lib.byteCells (textB (l.take n))) wr∧Below w.heap.size w wr) (fun i _=>l.length - (intOf i).toNat)
  case atStart=>exact ⟨0,by omega,rfl,h0,b0⟩
  case round=>
    obtain ⟨n,hn,rfl,hB,hb⟩:=hrel
    by_cases hlt:n<l.length
    ·obtain ⟨bk,off,rfl,e0,e1,e2,e3,e4,e5⟩:=hat n hlt
     have hm:=More.of_below hb
     rw [Nat.mul_comm 6 n] at e0 e1 e2 e3 e4 e5
     have d0:=hm.cell (hin.1 _ _ _ e0)
     have d1:=hm.cell (hin.1 _ _ _ e1)
     have d2:=hm.cell (hin.1 _ _ _ e2)
     have d3:=hm.cell (hin.1 _ _ _ e3)
     have d4:=hm.cell (hin.1 _ _ _ e4)
     have d5:=hm.cell (hin.1 _ _ _ e5)
     have hx:=hall (l.getD n nilI) (by rw [List.getD_eq_getElem?_getD,List.getElem?_eq_getElem hlt];exact List.getElem_mem _)
     have hsx:textB (l.take (n+1))=textB (l.take n)++(lineB (l.getD n nilI)++[10]):=by
       rw [List.take_add_one,List.getElem?_eq_getElem hlt,List.getD_eq_getElem?_getD,List.getElem?_eq_getElem hlt];simp only [textB,List.flatMap_append,Option.toList_some,List.flatMap_cons,List.flatMap_nil,List.append_nil,Option.getD_some]
     generalize l.getD n nilI=x at*
     obtain ⟨k,p,xa,xb,xc,xd⟩:=x
     simp only at d0 d1 d2 d3 d4 d5
     clear e0 e1 e2 e3 e4 e5
     have hTr:Tabs wr:=tabs_up (tabs_in hin) hb
     have ba:Below wr.heap.size wr (wr.alloc (.cells #[.int .i64 k,.string p,.int .i64 xa,.int .i64 xb,.int .i64 xc,.int .i64 xd] 50)):=(Below.refl _ wr).alloc (Nat.le_refl _) _
     have hTa:=tabs_up hTr ba
     have hR:=right_calls ⟨k,p,xa,xb,xc,xd⟩ 200 _ hTa
     rw [hx] at hR
     go_wp2_with (go_at_call 45;refine hR.mono ?_)
     rintro e w2 ⟨rfl,b2⟩
     have hn2:w2.heap[wr.heap.size]? =some (.cells #[.int .i64 k,.string p,.int .i64 xa,.int .i64 xb,.int .i64 xc,.int .i64 xd] 50 (0,0)):=by
       rw [b2.block _ (by simp)]
       show (wr.heap.push _)[wr.heap.size]? =_
       rw [Array.getElem?_push,if_pos rfl]
     obtain ⟨f0,f1,f2,f3,f4,f5⟩:=cells6 hn2
     have hL:=line_calls hx w2 (tabs_up hTa b2)
     go_wp2_with (go_at_call 48;refine hL.mono ?_)
     rintro e w3 ⟨rfl,b3⟩
     have br:=below_trans2 (below_trans2 ba b2) b3
     have hB3:=isB_below hB br
     obtain ⟨f,hrt⟩:=right_rti hx
     have hll:=line_len hrt
     have htl:(textB (l.take n)).length≤139*1000:=by
       have:=text_len (l:=l.take n) fun y hy=>hall y (List.mem_of_mem_take hy)
       rw [List.length_take] at this
       omega
     have hsz:=hb.size
     have hsz3:=br.size
     go_wp2_with (go_at_call 47;refine (write_calls hB3 ?q1 ?q2).mono ?_)
     case q1=>rw [Lib.byteCells_length,bs_size,List.length_append,List.length_singleton];omega
     case q2=>omega
     rintro e w4 ⟨rfl,h4,b4⟩
     rw [byteCells_bs,←hsx] at h4
     have b5:Below w.heap.size w w4:=(hb.trans (below_weak br hsz)).trans b4
     go_wp2
     go_roundw
     case rel=>exact ⟨n+1,by omega,by go_num,.inr h4,b5⟩
     case measure=>simp [intOf];omega
    ·have hnl:n=l.length:=by omega
     subst hnl
     rw [List.take_length] at hB
     have hsz:=hb.size
     have g1: ¬ (5000:Int)<(l.length:Int):=by omega
     go_wp2_with (go_at_call 49;refine (Tryz.Builder_String_any_f w.heap.size w.heap.size _ _ hB (by omega)).mono ?_)
     rintro e w' rfl _ b2
     go_wp2
     go_ret2
     exact ⟨rfl,hb.trans b2⟩
set_option maxHeartbeats 4000000 in
theorem print_bad {l:List Ins} {m:Nat} {v:Value} {C:Nat→Nat→Option Value} {w:World} (hv:RC C (.sl false 6 (opsV l)) v) (hin:inW C w) (hl:l.length≤1000) (hm0:m<l.length) (hgood:allR (l.take m)) (hbad:rightS (l.getD m nilI) 200=false):
    Calls Tryz.prog 17 #[v] w fun e w'=>e= .returned (.tuple #[.string (bs []),.int .i64 22])∧Below w.heap.size w w':=by
  obtain ⟨⟨a,cap,rfl,hle,hmax,hat⟩⟩:=ops_at hv
  have h0:Lib.IsBuilderF 80 5 w.heap.size w.heap.size [] (w.alloc (.cells #[.pointer none,.slice none 0 0] 80)):=Lib.IsBuilderF.of (Lib.fresh_isBuilder 80 5 w)
  have b0:Below w.heap.size w (w.alloc (.cells #[.pointer none,.slice none 0 0] 80)):=(Below.refl _ w).alloc (Nat.le_refl _) _
  go_enter Tryz.func17,Tryz.ntmps17
  go_wp2
  go_loopw [9] (fun i wr=>∃ n:Nat,n≤m∧i= .int .i64 n∧Lib.IsBuilderF 80 5 w.heap.size w.heap.size (Lib.byteCells (textB (l.take n))) wr∧Below w.heap.size w wr) (fun i _=>m - (intOf i).toNat)
  case atStart=>exact ⟨0,by omega,rfl,h0,b0⟩
  case round=>
    obtain ⟨n,hn,rfl,hB,hb⟩:=hrel
    have hlt:n<l.length:=by omega
    by_cases hlm:n<m
    ·obtain ⟨bk,off,rfl,e0,e1,e2,e3,e4,e5⟩:=hat n hlt
     have hm:=More.of_below hb
     rw [Nat.mul_comm 6 n] at e0 e1 e2 e3 e4 e5
     have d0:=hm.cell (hin.1 _ _ _ e0)
     have d1:=hm.cell (hin.1 _ _ _ e1)
     have d2:=hm.cell (hin.1 _ _ _ e2)
     have d3:=hm.cell (hin.1 _ _ _ e3)
     have d4:=hm.cell (hin.1 _ _ _ e4)
     have d5:=hm.cell (hin.1 _ _ _ e5)
     have hx:=hgood (l.getD n nilI) (by rw [List.getD_eq_getElem?_getD,List.getElem?_eq_getElem hlt];exact List.mem_take_iff_getElem.2 ⟨n,by omega,rfl⟩)
     have hsx:textB (l.take (n+1))=textB (l.take n)++(lineB (l.getD n nilI)++[10]):=by
       rw [List.take_add_one,List.getElem?_eq_getElem hlt,List.getD_eq_getElem?_getD,List.getElem?_eq_getElem hlt];simp only [textB,List.flatMap_append,Option.toList_some,List.flatMap_cons,List.flatMap_nil,List.append_nil,Option.getD_some]
     generalize l.getD n nilI=x at*
     obtain ⟨k,p,xa,xb,xc,xd⟩:=x
     simp only at d0 d1 d2 d3 d4 d5
     clear e0 e1 e2 e3 e4 e5
     have hTr:Tabs wr:=tabs_up (tabs_in hin) hb
     have ba:Below wr.heap.size wr (wr.alloc (.cells #[.int .i64 k,.string p,.int .i64 xa,.int .i64 xb,.int .i64 xc,.int .i64 xd] 50)):=(Below.refl _ wr).alloc (Nat.le_refl _) _
     have hTa:=tabs_up hTr ba
     have hR:=right_calls ⟨k,p,xa,xb,xc,xd⟩ 200 _ hTa
     rw [hx] at hR
     go_wp2_with (go_at_call 45;refine hR.mono ?_)
     rintro e w2 ⟨rfl,b2⟩
     have hn2:w2.heap[wr.heap.size]? =some (.cells #[.int .i64 k,.string p,.int .i64 xa,.int .i64 xb,.int .i64 xc,.int .i64 xd] 50 (0,0)):=by
       rw [b2.block _ (by simp)]
       show (wr.heap.push _)[wr.heap.size]? =_
       rw [Array.getElem?_push,if_pos rfl]
     obtain ⟨f0,f1,f2,f3,f4,f5⟩:=cells6 hn2
     have hL:=line_calls hx w2 (tabs_up hTa b2)
     go_wp2_with (go_at_call 48;refine hL.mono ?_)
     rintro e w3 ⟨rfl,b3⟩
     have br:=below_trans2 (below_trans2 ba b2) b3
     have hB3:=isB_below hB br
     obtain ⟨f,hrt⟩:=right_rti hx
     have hll:=line_len hrt
     have htl:(textB (l.take n)).length≤139*1000:=by
       have:=text_len (l:=l.take n) fun y hy=>hgood y ((List.take_sublist_take_left (by omega)).subset hy)
       rw [List.length_take] at this
       omega
     have hsz:=hb.size
     have hsz3:=br.size
     go_wp2_with (go_at_call 47;refine (write_calls hB3 ?q1 ?q2).mono ?_)
     case q1=>rw [Lib.byteCells_length,bs_size,List.length_append,List.length_singleton];omega
     case q2=>omega
     rintro e w4 ⟨rfl,h4,b4⟩
     rw [byteCells_bs,←hsx] at h4
     have b5:Below w.heap.size w w4:=(hb.trans (below_weak br hsz)).trans b4
     go_wp2
     go_roundw
     case rel=>exact ⟨n+1,by omega,by go_num,.inr h4,b5⟩
     case measure=>simp [intOf];omega
    ·obtain rfl:n=m:=by omega
     obtain ⟨bk,off,rfl,e0,e1,e2,e3,e4,e5⟩:=hat n hlt
     have hm:=More.of_below hb
     rw [Nat.mul_comm 6 n] at e0 e1 e2 e3 e4 e5
     have d0:=hm.cell (hin.1 _ _ _ e0)
     have d1:=hm.cell (hin.1 _ _ _ e1)
     have d2:=hm.cell (hin.1 _ _ _ e2)
     have d3:=hm.cell (hin.1 _ _ _ e3)
     have d4:=hm.cell (hin.1 _ _ _ e4)
     have d5:=hm.cell (hin.1 _ _ _ e5)
     generalize l.getD n nilI=x at*
     obtain ⟨k,p,xa,xb,xc,xd⟩:=x
     simp only at d0 d1 d2 d3 d4 d5
     clear e0 e1 e2 e3 e4 e5
     have hTr:Tabs wr:=tabs_up (tabs_in hin) hb
     have ba:Below wr.heap.size wr (wr.alloc (.cells #[.int .i64 k,.string p,.int .i64 xa,.int .i64 xb,.int .i64 xc,.int .i64 xd] 50)):=(Below.refl _ wr).alloc (Nat.le_refl _) _
     have hTa:=tabs_up hTr ba
     have hR:=right_calls ⟨k,p,xa,xb,xc,xd⟩ 200 _ hTa
     rw [hbad] at hR
     have hsz:=hb.size
     go_wp2_with (go_at_call 45;refine hR.mono ?_)
     rintro e w2 ⟨rfl,b2⟩
     go_wp2
     go_ret2
     exact ⟨rfl,hb.trans (below_weak (below_trans2 ba b2) hsz)⟩
def printV (l:List Ins):AV:=if (l.all fun x=>rightS x 200)=true then .tup [.lit (.string (bs (textB l))),.lit (.int .i64 0)] else .tup [.lit (.string (bs [])),.lit (.int .i64 22)]
theorem first_bad:∀ {l:List Ins},(l.all fun x=>rightS x 200)=false→∃ m,m<l.length∧allR (l.take m)∧rightS (l.getD m nilI) 200=false
  |[],h=>by cases h
  |x::l,h=>by
   cases hx:rightS x 200 with
   |false=>exact ⟨0,by simp,fun y hy=>by simp at hy,hx⟩
   |true=>
    rw [List.all_cons,hx,Bool.true_and] at h
    obtain ⟨m,h1,h2,h3⟩:=first_bad h
    refine ⟨m+1,by simpa using h1,fun y hy=>?_,h3⟩
    rw [List.take_succ_cons] at hy
    rcases List.mem_cons.1 hy with rfl|hy
    ·exact hx
    ·exact h2 y hy
theorem tup2_rc {C:Nat→Nat→Option Value} (a b:Value):RC C (.tup [.lit a,.lit b]) (.tuple #[a,b]):=RC.tup [.lit a,.lit b] [a,b] rfl fun i hi=>by
  match i,hi with
  |0,_=>exact .lit _
  |1,_=>exact .lit _
theorem print_pc {l:List Ins} (hl:l.length≤1000):PC Tryz.prog 17 [.sl false 6 (opsV l)] (printV l):=by
  intro C w vs hvl hin
  obtain ⟨h1,h2⟩:=hvl
  match vs,h1 with
  |[v],_=>
   have hv:RC C (.sl false 6 (opsV l)) v:=h2 0 (by simp)
   unfold printV
   cases ha:(l.all fun x=>rightS x 200) with
   |true=>
    have hall:allR l:=fun x hx=>by rw [List.all_eq_true] at ha;exact ha x hx
    refine (print_ok hv hin hl hall).mono ?_
    rintro e w' ⟨rfl,hb⟩
    have hm:=More.of_below hb
    exact ⟨_,C,rfl,CLe.refl _,tup2_rc _ _,⟨fun k o u hu=>hm.cell (hin.1 k o u hu),hin.2.up hm.block⟩,hm,fun _ _ _=>rfl⟩
   |false=>
    obtain ⟨m,m1,m2,m3⟩:=first_bad ha
    refine (print_bad hv hin hl m1 m2 m3).mono ?_
    rintro e w' ⟨rfl,hb⟩
    have hm:=More.of_below hb
    exact ⟨_,C,rfl,CLe.refl _,tup2_rc _ _,⟨fun k o u hu=>hm.cell (hin.1 k o u hu),hin.2.up hm.block⟩,hm,fun _ _ _=>rfl⟩
end Go.Proofs.YtohiagaclfaolaaGreatDoor.Tx

namespace Go.Proofs.YtohiagaclfaolaaGreatDoor.Tx
open Go.Proofs.YtohiagaclfaolaaGreatDoor
open Go Go.Fw Bm
set_option maxRecDepth 20000
noncomputable def con54:PCon Tryz.prog where
  f:=54
  c:=fun
   |[.lit (.string s)]=>some ((ul s).length≤100000,rreadV (ul s))
   |_=>none
  ok:=by
   intro args p r hc hp
   split at hc
   ·rename_i s
    obtain ⟨l,rfl⟩:=bs_ex s
    cases hc;rw [ul_bs] at*;exact rread_pc hp
   ·cases hc
  fk:=fk54
theorem con54_f:con54.f=54:=rfl
theorem con54_c {l:List UInt8}:con54.c [.lit (.string (bs l))]=some (l.length≤100000,rreadV l):=by
  show some ((ul (bs l)).length≤100000,rreadV (ul (bs l)))=_
  rw [ul_bs]
attribute [go_sem] con54_f con54_c
noncomputable def Y16:Env:=envJ (P:=Tryz.prog) jkV zer (fun _=>false) (fun _=>false) [con50,con51,con54] []
theorem Y16_ok:EnvOk Tryz.prog Y16:=envJOk zer_ok
theorem pre_at {a r:List UInt8} {k:Nat} (h:k<a.length):bt (a++r) k=((a.getD k 0).toNat:Int):=by
  unfold bt
  rw [List.getD_eq_getElem?_getD,List.getElem?_append_left h,←List.getD_eq_getElem?_getD]
theorem not10 {a:List UInt8} (h:(10:UInt8) ∉ a) {k:Nat} (hk:k<a.length):(((a.getD k 0).toNat:Int) !=10)=true:=by
  rw [bne_iff_ne]
  intro e
  apply h
  have:a.getD k 0=10:=UInt8.toNat_inj.1 (by have h10:(10:UInt8).toNat=10:=rfl;omega)
  rw [←this,List.getD_eq_getElem?_getD,List.getElem?_eq_getElem hk];exact List.getElem_mem _
set_option maxHeartbeats 16000000 in
theorem rparse_pc {s:List UInt8} (hs:s.length≤4990):PC Tryz.prog 21 [.lit (.string (bs s))] (parseV (parseS s)):=by
  generalize hR:parseS s=R
  unfold parseS at hR
  refine pcR Y16_ok (kp21) Tryz.func21 [.tmp 2,.tmp 3,.tmp 4] (h:=fun KF=>?_)
  unfold Y16
  repeat' (first
   |(with_reducible first|refine nx ?_|refine t_seq fun K=>?_|refine t_br (fun hc=>?_) fun hc=>?_|refine t_bx ?_|apply And.intro|intro vr)
   |((with_reducible first|refine ny ?_|refine t_dwh (h:=fun K KL=>?_));intros;simp only [go_sem,kp21,geff]))
  all_goals try exact nd
  refine t_loopF (ι:=Pz s R) (fun i=>[(0,.lit (.string (bs i.rest))),(2,.arr 0 i.v)]) (fun i=>[.arr 50 6 (opsV i.acc) i.v false]) (fun i=>i.rest.length) ⟨s,[],0,s.length+1,by omega,by simp,hR⟩ ?_ ?_
  ·refine (le_nil 2 50 6 rfl).trans ?_
   exact lf
  rintro ⟨rest,acc,v,n,hn,hl,hF⟩ K0
  obtain ⟨n,rfl⟩:∃ m,n=m+1:=⟨n - 1,by omega⟩
  have hol:(opsV acc).length=acc.length:=opsV_length acc
  have hq:(((acc.length:Nat):Int)==5000)=false:=by simp;omega
  have hrl:rest.length≤100000:=by omega
  simp only [parseG] at hF
  by_cases hr:rest=[]
  ·subst hr
   rw [if_pos rfl] at hF
   have hn0:(([]:List UInt8)==[])=true:=rfl
   repeat' (first
    |(with_reducible first|refine nx ?_|refine t_seq fun K=>?_|refine t_br (fun hc=>?_) fun hc=>?_|refine t_bx ?_|apply And.intro|intro vr)
    |((with_reducible first|refine ny ?_|refine t_dwh (h:=fun K KL=>?_));intros;simp only [go_sem,kp21,geff,hn0,yes]))
   all_goals try exact nd
   all_goals (refine nl ?_;simp only [go_sem])
   exact le_ok hF
  ·rw [if_neg hr] at hF
   have hn0:(rest==[])=false:=by simpa using hr
   cases hc:cutS 10 rest with
   |none=>
    rw [hc] at hF
    simp only at hF
    obtain ⟨_,h3⟩:=cutS_none hc
    repeat' (first
     |(with_reducible first|refine nx ?_|refine t_seq fun K=>?_|refine t_br (fun hc=>?_) fun hc=>?_|refine t_bx ?_|apply And.intro|intro vr)
     |((with_reducible first|refine ny ?_|refine t_dwh (h:=fun K KL=>?_));intros;simp only [go_sem,kp21,geff,hn0,yes]))
    all_goals try exact nd
    refine t_loopF (ι:={k:Nat // k≤rest.length}) (fun i=>[(5,.lit (.int .i64 (i.1:Int)))]) (fun i=>[.arr 50 6 (opsV acc) v false]) (fun i=>rest.length - i.1) ⟨0,by omega⟩ ?_ ?_
    ·exact lf
    rintro ⟨k,hk⟩ K1
    rcases Nat.lt_or_ge k rest.length with hkc|hkc
    ·have g1:decide ((k:Int)<(rest.length:Int))=true:=decide_eq_true (by omega)
     have hbt:bt rest k=((rest.getD k 0).toNat:Int):=rfl
     have g2:(bt rest k !=10)=true:=by rw [hbt];exact not10 h3 hkc
     repeat' (first
      |(with_reducible first|refine nx ?_|refine t_seq fun K=>?_|refine t_br (fun hc=>?_) fun hc=>?_|refine t_bx ?_|apply And.intro|intro vr)
      |((with_reducible first|refine ny ?_|refine t_dwh (h:=fun K KL=>?_));intros;simp only [go_sem,kp21,geff,g1,g2,Int.toNat_natCast,yes]))
     all_goals try exact nd
     exact ⟨⟨k+1,by omega⟩,wf,lf⟩
    ·obtain rfl:k=rest.length:=by omega
     have g1:decide ((rest.length:Int)<(rest.length:Int))=false:=decide_eq_false (by omega)
     have g3:((rest.length:Int)==(rest.length:Int))=true:=by simp
     obtain ⟨y,b,hy,_,_⟩:=rreadV_spec rest
     obtain ⟨yk,yp,ya,yb,yc,yd⟩:=y
     have hy2:rreadV rest= .tup [.agg [.lit (.int .i64 yk),.lit (.string yp),.lit (.int .i64 ya),.lit (.int .i64 yb),.lit (.int .i64 yc),.lit (.int .i64 yd)],.lit (.bool b)]:=hy
     repeat' (first
      |(with_reducible first|refine nx ?_|refine t_seq fun K=>?_|refine t_br (fun hc=>?_) fun hc=>?_|refine t_bx ?_|apply And.intro|intro vr)
      |((with_reducible first|refine ny ?_|refine t_dwh (h:=fun K KL=>?_));intros;simp only [go_sem,kp21,geff,g1,g3,hy2,hol,Int.toNat_natCast,yes]))
     all_goals try exact nd
     all_goals (refine nl ?_;simp only [go_sem])
     exact le_err hF
   |some w=>
    obtain ⟨a0,b0⟩:=w
    rw [hc] at hF
    obtain ⟨_,h2,h3⟩:=cutS_some hc
    have hl2:rest.length=a0.length+(b0.length+1):=by rw [h2];simp
    have hal:a0.length≤100000:=by omega
    simp only at hF
    repeat' (first
     |(with_reducible first|refine nx ?_|refine t_seq fun K=>?_|refine t_br (fun hc=>?_) fun hc=>?_|refine t_bx ?_|apply And.intro|intro vr)
     |((with_reducible first|refine ny ?_|refine t_dwh (h:=fun K KL=>?_));intros;simp only [go_sem,kp21,geff,hn0,yes]))
    all_goals try exact nd
    refine t_loopF (ι:={k:Nat // k≤a0.length}) (fun i=>[(5,.lit (.int .i64 (i.1:Int)))]) (fun i=>[.arr 50 6 (opsV acc) v false]) (fun i=>a0.length - i.1) ⟨0,by omega⟩ ?_ ?_
    ·exact lf
    rintro ⟨k,hk⟩ K1
    have g1:decide ((k:Int)<(rest.length:Int))=true:=decide_eq_true (by omega)
    rcases Nat.lt_or_ge k a0.length with hkc|hkc
    ·have hbt:bt rest k=((a0.getD k 0).toNat:Int):=by rw [h2];exact pre_at hkc
     have g2:(bt rest k !=10)=true:=by rw [hbt];exact not10 h3 hkc
     repeat' (first
      |(with_reducible first|refine nx ?_|refine t_seq fun K=>?_|refine t_br (fun hc=>?_) fun hc=>?_|refine t_bx ?_|apply And.intro|intro vr)
      |((with_reducible first|refine ny ?_|refine t_dwh (h:=fun K KL=>?_));intros;simp only [go_sem,kp21,geff,g1,g2,Int.toNat_natCast,yes]))
     all_goals try exact nd
     exact ⟨⟨k+1,by omega⟩,wf,lf⟩
    ·obtain rfl:k=a0.length:=by omega
     have g2:(bt rest a0.length !=10)=false:=by
       unfold bt
       rw [h2,List.getD_eq_getElem?_getD,List.getElem?_append_right (Nat.le_refl _),Nat.sub_self];rfl
     have g3:((a0.length:Int)==(rest.length:Int))=false:=by simp;omega
     have e1:List.take a0.length rest=a0:=by rw [h2];simp
     have e2:List.drop (a0.length+1) rest=b0:=by rw [h2];simp
     have e3:((a0.length:Int)+1).toNat=a0.length+1:=by omega
     have e4:List.take rest.length rest=rest:=List.take_length
     obtain ⟨y,b,hy,hy1,hy0⟩:=rreadV_spec a0
     obtain ⟨yk,yp,ya,yb,yc,yd⟩:=y
     have hy2:rreadV a0= .tup [.agg [.lit (.int .i64 yk),.lit (.string yp),.lit (.int .i64 ya),.lit (.int .i64 yb),.lit (.int .i64 yc),.lit (.int .i64 yd)],.lit (.bool b)]:=hy
     rw [←read_eq a0] at hF
     cases b with
     |false=>
      rw [hy0 rfl] at hF
      repeat' (first
       |(with_reducible first|refine nx ?_|refine t_seq fun K=>?_|refine t_br (fun hc=>?_) fun hc=>?_|refine t_bx ?_|apply And.intro|intro vr)
       |((with_reducible first|refine ny ?_|refine t_dwh (h:=fun K KL=>?_));intros;simp only [go_sem,kp21,geff,g1,g2,g3,e1,hy2,hol,Int.toNat_natCast,yes]))
      all_goals try exact nd
      all_goals (refine nl ?_;simp only [go_sem])
      exact le_err hF
     |true=>
      rw [hy1 rfl] at hF
      have hap:=opsV_app1 acc yk ya yb yc yd yp
      repeat' (first
       |(with_reducible first|refine nx ?_|refine t_seq fun K=>?_|refine t_br (fun hc=>?_) fun hc=>?_|refine t_bx ?_|apply And.intro|intro vr)
       |((with_reducible first|refine ny ?_|refine t_dwh (h:=fun K KL=>?_));intros;simp only [go_sem,kp21,geff,g1,g2,g3,e1,e2,e3,e4,hy2,hol,hq,hap,Int.toNat_natCast,yes]))
      all_goals try exact nd
      refine ⟨⟨b0,acc++[⟨yk,yp,ya,yb,yc,yd⟩],v+1,n,by omega,by rw [List.length_append,List.length_singleton];omega,hF⟩,by simp only;omega,?_⟩
      try simp only [updL_nil,updL_cons,delF_top,delF_upd,Nat.reduceEqDiff,reduceIte]
      refine le_backD (by first|rfl|(simp only [go_sem];try rfl)) (by first|exact Nat.zero_le _|simp) (by first|rfl|simp [lowO,low_lit,low_sl,low_ref,low_arr,low_sub,low_mp]) ?_ ?_
      ·repeat' (first|exact low_top|(refine low_upd rfl ?_))
      repeat' (first|exact leF_top _|exact (fun _=>LeR.refl _)|(with_reducible refine leF_sl ?_ ?_)|(refine leF_upd ?_ ?_))
      all_goals (first|exact LeR.top _|exact LeR.refl _|(refine LeR.of_eq ?_;(try simp only [go_sem]);try rfl)|((try simp only [go_sem]);try rfl))
theorem eqS_self (p:ByteArray):eqS p p=true:=by simp [eqS]
theorem drop_getO {l:List Ins} {i:Nat} (h:i<l.length):l.take (i+1)=l.take i++[l.getD i nilI]:=by
  rw [List.take_add_one,List.getElem?_eq_getElem h,List.getD_eq_getElem?_getD,List.getElem?_eq_getElem h];rfl
set_option maxHeartbeats 4000000 in
theorem rprint_pc {l:List Ins} (hl:l.length≤1000):PC Tryz.prog 18 [.sl false 6 (opsV l)] (printV l):=by
  unfold printV
  have hol:(opsV l).length=l.length:=opsV_length l
  have z5:decide ((l.length:Int)>5000)=false:=decide_eq_false (by omega)
  generalize hR:(if (l.all fun x=>rightS x 200)=true then AV.tup [.lit (.string (bs (textB l))),.lit (.int .i64 0)] else .tup [.lit (.string (bs [])),.lit (.int .i64 22)])=R
  refine pcR Y16_ok (kp18) Tryz.func18 [.tmp 2,.tmp 3] (h:=fun KF=>?_)
  unfold Y16
  repeat' (first
   |(with_reducible first|refine nx ?_|refine t_seq fun K=>?_|refine t_br (fun hc=>?_) fun hc=>?_|refine t_bx ?_|apply And.intro|intro vr)
   |((with_reducible first|refine ny ?_|refine t_dwh (h:=fun K KL=>?_));intros;simp only [go_sem,kp18,geff]))
  all_goals try exact nd
  refine t_loopF (ι:={i:Nat // i≤l.length∧allR (l.take i)}) (fun i=>[(4,.lit (.int .i64 (i.1:Int)))]) (fun i=>[]) (fun i=>l.length - i.1) ⟨0,by omega,fun y hy=>by simp at hy⟩ ?_ ?_
  ·exact lf
  rintro ⟨i,hi,hall⟩ K0
  rcases Nat.lt_or_ge i l.length with hc|hc
  ·have g1:decide ((i:Int)<(l.length:Int))=true:=decide_eq_true (by omega)
   have htk:=drop_getO hc
   have hmem:l.getD i nilI∈l:=by rw [List.getD_eq_getElem?_getD,List.getElem?_eq_getElem hc];exact List.getElem_mem _
   generalize hx:l.getD i nilI=x at htk hmem
   cases hr:rightS x 200 with
   |false=>
    have hf:(l.all fun x=>rightS x 200)=false:=by rw [List.all_eq_false];exact ⟨x,hmem,by rw [hr];decide⟩
    rw [hf,if_neg (by decide)] at hR
    obtain ⟨k,p,a,b,c,d⟩:=x
    repeat' (first
     |(with_reducible first|refine nx ?_|refine t_seq fun K=>?_|refine t_br (fun hc=>?_) fun hc=>?_|refine t_bx ?_|apply And.intro|intro vr)
     |((with_reducible first|refine ny ?_|refine t_dwh (h:=fun K KL=>?_));intros;simp only [go_sem,kp18,geff,g1,hol,hx,hr,Int.toNat_natCast,yes]))
    all_goals try exact nd
    all_goals (refine nl ?_;simp only [go_sem])
    exact LeA.of_eq (by rw [←hR])
   |true=>
    have hall2:allR (l.take (i+1)):=by
      rw [htk]
      intro y hy
      rcases List.mem_append.1 hy with hy|hy
      ·exact hall y hy
      ·simp only [List.mem_singleton] at hy;subst hy;exact hr
    obtain ⟨k,p,a,b,c,d⟩:=x
    repeat' (first
     |(with_reducible first|refine nx ?_|refine t_seq fun K=>?_|refine t_br (fun hc=>?_) fun hc=>?_|refine t_bx ?_|apply And.intro|intro vr)
     |((with_reducible first|refine ny ?_|refine t_dwh (h:=fun K KL=>?_));intros;simp only [go_sem,kp18,geff,g1,hol,hx,hr,Int.toNat_natCast,yes]))
    all_goals try exact nd
    exact ⟨⟨i+1,by omega,hall2⟩,wf,lf⟩
  ·obtain rfl:i=l.length:=by omega
   rw [List.take_length] at hall
   have hf:(l.all fun x=>rightS x 200)=true:=by rw [List.all_eq_true];exact hall
   rw [hf,if_pos rfl] at hR
   have g1:decide ((l.length:Int)<(l.length:Int))=false:=decide_eq_false (by omega)
   repeat' (first
    |(with_reducible first|refine nx ?_|refine t_seq fun K=>?_|refine t_br (fun hc=>?_) fun hc=>?_|refine t_bx ?_|apply And.intro|intro vr)
    |((with_reducible first|refine ny ?_|refine t_dwh (h:=fun K KL=>?_));intros;simp only [go_sem,kp18,geff,g1,hol,z5]))
   all_goals try exact nd
   refine t_loopF (ι:={i:Nat // i≤l.length}) (fun i=>[(6,.lit (.int .i64 (i.1:Int))),(5,.lit (.string (bs (textB (l.take i.1)))))]) (fun i=>[]) (fun i=>l.length - i.1) ⟨0,by omega⟩ ?_ ?_
   ·exact lf
   rintro ⟨i,hi⟩ K1
   rcases Nat.lt_or_ge i l.length with hc|hc
   ·have g2:decide ((i:Int)<(l.length:Int))=true:=decide_eq_true (by omega)
    have htk:=drop_getO hc
    have hmem:l.getD i nilI∈l:=by rw [List.getD_eq_getElem?_getD,List.getElem?_eq_getElem hc];exact List.getElem_mem _
    have hr:=hall _ hmem
    have hlen:(textB (l.take i)).length≤139*1000:=by
      have:=text_len (l:=l.take i) fun y hy=>hall y (List.mem_of_mem_take hy)
      rw [List.length_take] at this
      omega
    generalize hx:l.getD i nilI=x at htk hr
    have hts:textB (l.take i)++(lineB x++[10])=textB (l.take (i+1)):=by rw [htk];simp [textB]
    obtain ⟨f,hrt⟩:=right_rti hr
    have hll:=line_len hrt
    obtain ⟨k,p,a,b,c,d⟩:=x
    repeat' (first
     |(with_reducible first|refine nx ?_|refine t_seq fun K=>?_|refine t_br (fun hc=>?_) fun hc=>?_|refine t_bx ?_|apply And.intro|intro vr)
     |((with_reducible first|refine ny ?_|refine t_dwh (h:=fun K KL=>?_));intros;simp only [go_sem,kp18,geff,g2,hol,hx,hts,Int.toNat_natCast,List.length_append,List.length_cons,List.length_nil,yes]))
    all_goals try exact nd
    exact ⟨⟨i+1,by omega⟩,wf,lf⟩
   ·obtain rfl:i=l.length:=by omega
    have g2:decide ((l.length:Int)<(l.length:Int))=false:=decide_eq_false (by omega)
    have hte:textB (l.take l.length)=textB l:=by rw [List.take_length]
    repeat' (first
     |(with_reducible first|refine nx ?_|refine t_seq fun K=>?_|refine t_br (fun hc=>?_) fun hc=>?_|refine t_bx ?_|apply And.intro|intro vr)
     |((with_reducible first|refine ny ?_|refine t_dwh (h:=fun K KL=>?_));intros;simp only [go_sem,kp18,geff,g2,hol,hte]))
    all_goals try exact nd
    all_goals (refine nl ?_;simp only [go_sem])
    exact LeA.of_eq (by rw [←hR])
set_option maxHeartbeats 4000000 in
theorem sameops_pc {l:List Ins} (hl:l.length≤1000000):PC Tryz.prog 20 [.sl false 6 (opsV l),.sl false 6 (opsV l)] (.lit (.bool true)):=by
  have hol:(opsV l).length=l.length:=opsV_length l
  have g0:((l.length:Int) !=(l.length:Int))=false:=by simp
  refine pcR Y16_ok (kp20) Tryz.func20 [.tmp 4] (h:=fun KF=>?_)
  unfold Y16
  repeat' (first
   |(with_reducible first|refine nx ?_|refine t_seq fun K=>?_|refine t_br (fun hc=>?_) fun hc=>?_|refine t_bx ?_|apply And.intro|intro vr)
   |((with_reducible first|refine ny ?_|refine t_dwh (h:=fun K KL=>?_));intros;simp only [go_sem,kp20,geff,hol,g0]))
  all_goals try exact nd
  refine t_loopF (ι:={i:Nat // i≤l.length}) (fun i=>[(5,.lit (.int .i64 (i.1:Int)))]) (fun i=>[]) (fun i=>l.length - i.1) ⟨0,by omega⟩ ?_ ?_
  ·exact lf
  rintro ⟨i,hi⟩ K0
  rcases Nat.lt_or_ge i l.length with hc|hc
  ·have g2:decide ((i:Int)<(l.length:Int))=true:=decide_eq_true (by omega)
   generalize hx:l.getD i nilI=x
   obtain ⟨k,p,a,b,c,d⟩:=x
   repeat' (first
    |(with_reducible first|refine nx ?_|refine t_seq fun K=>?_|refine t_br (fun hc=>?_) fun hc=>?_|refine t_bx ?_|apply And.intro|intro vr)
    |((with_reducible first|refine ny ?_|refine t_dwh (h:=fun K KL=>?_));intros;simp only [go_sem,kp20,geff,g2,hol,hx,eqS_self,beq_self_eq_true,Bool.and_self,Bool.not_true,Int.toNat_natCast,yes]))
   all_goals try exact nd
   exact ⟨⟨i+1,by omega⟩,wf,lf⟩
  ·obtain rfl:i=l.length:=by omega
   have g2:decide ((l.length:Int)<(l.length:Int))=false:=decide_eq_false (by omega)
   repeat' (first
    |(with_reducible first|refine nx ?_|refine t_seq fun K=>?_|refine t_br (fun hc=>?_) fun hc=>?_|refine t_bx ?_|apply And.intro|intro vr)
    |((with_reducible first|refine ny ?_|refine t_dwh (h:=fun K KL=>?_));intros;simp only [go_sem,kp20,geff,g2,hol]))
   all_goals try exact nd
   all_goals (refine nl ?_;simp only [go_sem])
   exact LeA.refl _
end Go.Proofs.YtohiagaclfaolaaGreatDoor.Tx

namespace Go.Proofs.YtohiagaclfaolaaGreatDoor.Tx
open Go.Proofs.YtohiagaclfaolaaGreatDoor
open Go Go.Fw Bm
set_option maxRecDepth 20000
def in0:Ins:=⟨1,ByteArray.empty,1,4,0,0⟩
def in1:Ins:=⟨10,ByteArray.empty,0,2,1,1⟩
def in2:Ins:=⟨13,ByteArray.empty,0,0,0,0⟩
def insL:List Ins:=[in0,in1,in2]
def tx0:List UInt8:=[99,111,110,115,116,32,114,49,32,52,10,102,111,114,32,114,48,32,114,50,32,114,49,32,49,10,101,110,100,10]
theorem tx_text:textB insL=tx0:=by decide+kernel
theorem ins_right:∀ x∈insL,rightS x 200=true:=by
  intro x hx
  simp only [insL,List.mem_cons,List.mem_nil_iff,or_false] at hx
  rcases hx with rfl|rfl|rfl<;>decide+kernel
theorem parse_of {l:List Ins} (h:∀ x∈l,rightS x 200=true):parseS (textB l)=(l,0,0):=by
  unfold parseS
  rw [parse_text l _ [] h (by omega),List.nil_append]
theorem parse_tx:parseS tx0=(insL,0,0):=by rw [←tx_text];exact parse_of ins_right
noncomputable def con19:PCon Tryz.prog where
  f:=19
  c:=fun
   |[.lit (.string s)]=>some ((ul s).length≤4990,parseV (parseS (ul s)))
   |_=>none
  ok:=by
   intro args p r hc hp
   split at hc
   ·rename_i s
    obtain ⟨l,rfl⟩:=bs_ex s
    cases hc;rw [ul_bs] at*;exact parse_pc hp
   ·cases hc
  fk:=fk19
theorem con19_f:con19.f=19:=rfl
theorem con19_c {l:List UInt8}:con19.c [.lit (.string (bs l))]=some (l.length≤4990,parseV (parseS l)):=by
  show some ((ul (bs l)).length≤4990,parseV (parseS (ul (bs l))))=_
  rw [ul_bs]
theorem con19_0:con19.c [.lit (.string ⟨#[99,111,110,115,116,32,114,49,32,52,10,102,111,114,32,114,48,32,114,50,32,114,49,32,49,10,101,110,100,10]⟩)]=some (tx0.length≤4990,.tup [.sl false 6 (opsV insL),.lit (.int .i64 0),.lit (.int .i64 0)]):=by
  have h:=con19_c (l:=tx0)
  rw [parse_tx] at h
  exact h
theorem tx0_len:tx0.length≤4990:=by decide
theorem ok0:OkB ⟨0,0,[],[],[],[]⟩:=by
  constructor<;>simp
theorem valid0:validS ⟨0,0,[],[],[],[]⟩=true:=by decide+kernel
noncomputable def con18z:PCon Tryz.prog where
  f:=14
  c:=fun
   |[.agg [.lit (.int .i64 0),.lit (.int .i64 0),.sl _ 6 [],.sl _ 2 [],.sl _ 2 [],.sl _ 3 []]]=>some (True,.lit (.bool true))
   |_=>none
  ok:=by
   intro args p r hc hp
   split at hc
   ·cases hc
    have h:=bvalid_pc ok0 ⟨by decide,by decide⟩
    rw [valid0] at h
    exact PC.weak h ⟨LeA.agg ⟨LeA.refl _,LeA.refl _,LeA.full _ _ _,LeA.full _ _ _,LeA.full _ _ _,LeA.full _ _ _,trivial⟩,trivial⟩
   ·cases hc
  fk:=fk14
theorem con18z_f:con18z.f=14:=rfl
theorem con18z_c {a b c d:Bool}:con18z.c [.agg [.lit (.int .i64 0),.lit (.int .i64 0),.sl a 6 [],.sl b 2 [],.sl c 2 [],.sl d 3 []]]=some (True,.lit (.bool true)):=rfl
attribute [go_sem] con19_f con19_0 con18z_f con18z_c
theorem match0:matchV insL= .tup [.sl false 1 (ints .i64 [0,2,2]),.lit (.bool true)]:=by
  unfold matchV;rw [show matchS insL=some [0,2,2] by decide+kernel]
def elsI:Ins:=⟨12,ByteArray.empty,0,0,0,0⟩
theorem match1:matchV [elsI]= .tup [.sl false 1 [],.lit (.bool false)]:=by
  unfold matchV;rw [show matchS [elsI]=none by decide+kernel]
theorem els_of {b:Bool}:opsOf (.sl b 6 [.agg [.lit (.int .i64 12),.lit (.string (bs [])),.lit (.int .i64 0),.lit (.int .i64 0),.lit (.int .i64 0),.lit (.int .i64 0)]])=some [elsI]:=rfl
theorem insL_len:insL.length=3:=rfl
theorem ins_at:opV (insL.getD 1 nilI)= .agg [.lit (.int .i64 10),.lit (.string (bs [])),.lit (.int .i64 0),.lit (.int .i64 2),.lit (.int .i64 1),.lit (.int .i64 1)]:=rfl
theorem k022 {b:Bool}:slK .i64 (.sl b 1 [.lit (.int .i64 0),.lit (.int .i64 2),.lit (.int .i64 2)])=some [0,2,2]:=rfl
attribute [go_sem] con23_f con23_c con22_f con22_c k022
noncomputable def Ya:Env:=envJ (P:=Tryz.prog) jkV zer (fun _=>false) (fun _=>false) [con19,con22,con23,con18z] []
theorem Ya_ok:EnvOk Tryz.prog Ya:=envJOk zer_ok
set_option maxHeartbeats 8000000 in
theorem awake_pc:PC Tryz.prog 6 [] (.lit (.bool true)):=by
  have hn:(([]:List UInt8)==[])=true:=rfl
  have h3:(((3:Nat):Int)==3)=true:=rfl
  have h022:decide (([0,2,2]:List Int)=[0,2,2])=true:=rfl
  have hl1:([0,2,2]:List Int).length≤1000000:=by decide
  have hl2:insL.length≤1000000:=by decide
  have hl3:[elsI].length≤1000000:=by decide
  have hl4:=tx0_len
  refine pcR Ya_ok (kp6) Tryz.func6 [.tmp 0] (h:=fun KF=>?_)
  unfold Ya
  repeat' (first
   |(with_reducible first|refine nx ?_|refine t_seq fun K=>?_|refine t_br (fun hc=>?_) fun hc=>?_|refine t_bx ?_|apply And.intro|intro vr)
   |((with_reducible first|refine ny ?_|refine t_dwh (h:=fun K KL=>?_));intros;simp only [go_sem,kp6,geff,match0,els_of,match1,insL_len,ins_at,h3,h022,hn,yes]))
  all_goals try exact nd
  all_goals (refine nl ?_;simp only [go_sem])
  exact LeA.refl _
structure FewP (l:List Ins):Prop where
  len:l.length≤maxLen
  prims:∀ o∈l,o.prim.size≤maxLen
theorem fewo_pc3 {l:List Ins} {n:Int} (h:FewP l):PC Tryz.prog 16 [.sl false 6 (opsV l),.lit (.int .i64 n)] (.lit (.bool (fewO n l))):=fewo_pc h.len h.prims
noncomputable def con16:PCon Tryz.prog where
  f:=16
  c:=fun
   |[xl,.lit (.int .i64 n)]=>match opsOf xl with|some l=>some (FewP l,.lit (.bool (fewO n l)))|_=>none
   |_=>none
  ok:=by
   intro args p r hc hp
   split at hc
   ·split at hc
    ·rename_i hl
     cases hc
     exact PC.weak (fewo_pc3 hp) ⟨opsOf_le hl,LeA.refl _,trivial⟩
    ·cases hc
   ·cases hc
  fk:=fk16
theorem con16_f:con16.f=16:=rfl
theorem con16_c {xl:AV} {n:Int}:con16.c [xl,.lit (.int .i64 n)]=match opsOf xl with|some l=>some (FewP l,.lit (.bool (fewO n l)))|_=>none:=rfl
noncomputable def con6:PCon Tryz.prog where
  f:=6
  c:=fun
   |[]=>some (True,.lit (.bool true))
   |_=>none
  ok:=by
   intro args p r hc hp
   split at hc
   ·cases hc;exact awake_pc
   ·cases hc
  fk:=fk6
theorem con6_f:con6.f=6:=rfl
theorem con6_c:con6.c []=some (True,.lit (.bool true)):=rfl
noncomputable def con17:PCon Tryz.prog where
  f:=17
  c:=fun
   |[xl]=>match opsOf xl with|some l=>some (l.length≤1000,printV l)|_=>none
   |_=>none
  ok:=by
   intro args p r hc hp
   split at hc
   ·split at hc
    ·rename_i hl
     cases hc
     exact PC.weak (print_pc hp) ⟨opsOf_le hl,trivial⟩
    ·cases hc
   ·cases hc
  fk:=fk17
theorem con17_f:con17.f=17:=rfl
theorem con17_c {xl:AV}:con17.c [xl]=match opsOf xl with|some l=>some (l.length≤1000,printV l)|_=>none:=rfl
noncomputable def con18:PCon Tryz.prog where
  f:=18
  c:=fun
   |[xl]=>match opsOf xl with|some l=>some (l.length≤1000,printV l)|_=>none
   |_=>none
  ok:=by
   intro args p r hc hp
   split at hc
   ·split at hc
    ·rename_i hl
     cases hc
     exact PC.weak (rprint_pc hp) ⟨opsOf_le hl,trivial⟩
    ·cases hc
   ·cases hc
  fk:=fk18
theorem con18_f:con18.f=18:=rfl
theorem con18_c {xl:AV}:con18.c [xl]=match opsOf xl with|some l=>some (l.length≤1000,printV l)|_=>none:=rfl
noncomputable def con20:PCon Tryz.prog where
  f:=20
  c:=fun
   |[x,y]=>match opsOf x,opsOf y with
    |some a,some b=>some (a.length≤1000000∧a=b,.lit (.bool true))
    |_,_=>none
   |_=>none
  ok:=by
   intro args p r hc hp
   split at hc
   ·split at hc
    ·rename_i h1 h2
     cases hc
     obtain ⟨hl,rfl⟩:=hp
     exact PC.weak (sameops_pc hl) ⟨opsOf_le h1,opsOf_le h2,trivial⟩
    ·cases hc
   ·cases hc
  fk:=fk20
theorem con20_f:con20.f=20:=rfl
theorem con20_c {x y:AV}:con20.c [x,y]=match opsOf x,opsOf y with
      |some a,some b=>some (a.length≤1000000∧a=b,.lit (.bool true))
      |_,_=>none:=rfl
noncomputable def con21:PCon Tryz.prog where
  f:=21
  c:=fun
   |[.lit (.string s)]=>some ((ul s).length≤4990,parseV (parseS (ul s)))
   |_=>none
  ok:=by
   intro args p r hc hp
   split at hc
   ·rename_i s
    obtain ⟨l,rfl⟩:=bs_ex s
    cases hc;rw [ul_bs] at*;exact rparse_pc hp
   ·cases hc
  fk:=fk21
theorem con21_f:con21.f=21:=rfl
theorem con21_c {l:List UInt8}:con21.c [.lit (.string (bs l))]=some (l.length≤4990,parseV (parseS l)):=by
  show some ((ul (bs l)).length≤4990,parseV (parseS (ul (bs l))))=_
  rw [ul_bs]
attribute [go_sem] con6_f con6_c con16_f con16_c con17_f con17_c con18_f con18_c con19_c con20_f con20_c con21_f con21_c
theorem few_len {n:Nat} {l:List Ins} (h:fewO n l=true):l.length≤n:=by
  simp only [fewO,Bool.and_eq_true,decide_eq_true_eq] at h;omega
theorem parse_err:∀ (n:Nat) (s:List UInt8) (acc u:List Ins) (i h:Int),parseG n s acc=(u,i,h)→h≠0→u=[]
  |0,_,_,u,i,h,e,hh=>by simp only [parseG,Prod.mk.injEq] at e;exact absurd e.2.2.symm hh
  |n+1,s,acc,u,i,h,e,hh=>by
   simp only [parseG] at e
   split at e
   ·simp only [Prod.mk.injEq] at e;exact absurd e.2.2.symm hh
   ·split at e
    ·simp only [Prod.mk.injEq] at e;exact e.1.symm
    ·split at e
     ·simp only [Prod.mk.injEq] at e;exact e.1.symm
     ·exact parse_err n _ _ u i h e hh
theorem parse_ok {s:List UInt8} {u:List Ins} {i:Int} (e:parseS s=(u,i,0)):textB u=s∧i=0∧(∀ x∈u,rightS x 200=true)∧u.length≤s.length:=by
  obtain ⟨l,h1,h2,h3,h4,h5⟩:=text_parse _ s [] u i e (by omega)
  rw [List.nil_append] at h1
  subst h1
  exact ⟨h2,h3,h4,h5⟩
theorem print_all {l:List Ins} (h:(l.all fun x=>rightS x 200)=true):printV l= .tup [.lit (.string (bs (textB l))),.lit (.int .i64 0)]:=by unfold printV;rw [if_pos h]
theorem print_not {l:List Ins} (h:(l.all fun x=>rightS x 200)=false):printV l= .tup [.lit (.string (bs [])),.lit (.int .i64 22)]:=by unfold printV;rw [if_neg (by rw [h];decide)]
theorem parseV_eq {s:List UInt8} {u:List Ins} {i h:Int} (e:parseS s=(u,i,h)):parseV (parseS s)= .tup [.sl false 6 (opsV u),.lit (.int .i64 i),.lit (.int .i64 h)]:=by unfold parseV;rw [e]
noncomputable def Y17:Env:=envJ (P:=Tryz.prog) jkV zer (fun _=>false) (fun _=>false) [con6,con16,con17,con18,con19,con20,con21] []
theorem Y17_ok:EnvOk Tryz.prog Y17:=envJOk zer_ok
theorem parse_nil:parseS []=([],0,0):=rfl
set_option maxHeartbeats 16000000 in
theorem law5_bs {l:List Ins} {t:List UInt8} (hll:l.length≤maxLen) (hp:∀ o∈l,o.prim.size≤maxLen) (ht:t.length≤maxLen):PC Tryz.prog 5 [.sl false 6 (opsV l),.lit (.string (bs t))] (.lit (.bool true)):=by
  have hfp:FewP l:=⟨hll,hp⟩
  cases hF:fewO 30 l with
  |false=>
   refine pcR Y17_ok (kp5) Tryz.func5 [.tmp 4] (h:=fun KF=>?_)
   unfold Y17
   repeat' (first
    |(with_reducible first|refine nx ?_|refine t_seq fun K=>?_|refine t_br (fun hc=>?_) fun hc=>?_|refine t_bx ?_|apply And.intro|intro vr)
    |((with_reducible first|refine ny ?_|refine t_dwh (h:=fun K KL=>?_));intros;simp only [go_sem,kp5,geff,hF,Bool.not_true,Bool.not_false,yes]))
   all_goals try exact nd
   all_goals (refine nl ?_;simp only [go_sem])
   exact LeA.refl _
  |true=>
   have h30:=few_len (n:=30) hF
   by_cases h4:t.length>400
   ·have k1:decide ((t.length:Int)>400)=true:=decide_eq_true (by omega)
    refine pcR Y17_ok (kp5) Tryz.func5 [.tmp 4] (h:=fun KF=>?_)
    unfold Y17
    repeat' (first
     |(with_reducible first|refine nx ?_|refine t_seq fun K=>?_|refine t_br (fun hc=>?_) fun hc=>?_|refine t_bx ?_|apply And.intro|intro vr)
     |((with_reducible first|refine ny ?_|refine t_dwh (h:=fun K KL=>?_));intros;simp only [go_sem,kp5,geff,hF,k1,Bool.not_true,Bool.not_false,yes]))
    all_goals try exact nd
    all_goals (refine nl ?_;simp only [go_sem])
    exact LeA.refl _
   ·have k1:decide ((t.length:Int)>400)=false:=decide_eq_false (by omega)
    have ht2:t.length≤4990:=by omega
    have hl2:l.length≤1000:=by omega
    have hl3:l.length≤1000000:=by omega
    obtain ⟨⟨u,i,h⟩,hR⟩:∃ R,parseS t=R:=⟨_,rfl⟩
    have hPt:=parseV_eq hR
    have hpn:=parseV_eq parse_nil
    have hU:(h=0∧textB u=t∧(u.all fun x=>rightS x 200)=true∧u.length≤1000)∨(h≠0∧u=[]):=by
      by_cases h0:h=0
      ·subst h0
       obtain ⟨e1,e2,e3,e4⟩:=parse_ok hR
       exact .inl ⟨rfl,e1,by rw [List.all_eq_true];exact e3,by omega⟩
      ·exact .inr ⟨h0,parse_err _ _ _ u i h hR h0⟩
    have hbl:∀ z:List UInt8,(z==z)=true:=fun z=>by simp
    have hbi:∀ z:Int,(z==z)=true:=fun z=>by simp
    have hbn:∀ z:Int,(z !=z)=false:=fun z=>by simp
    have hun:([]:List Ins).length≤1000:=by decide
    have hun2:([]:List Ins).length≤1000000:=by decide
    have hnl:([]:List UInt8).length≤4990:=by decide
    have p0:=print_all (l:=[]) rfl
    cases ha:(l.all fun x=>rightS x 200) with
    |true=>
     have hall:allR l:=fun x hx=>by rw [List.all_eq_true] at ha;exact ha x hx
     have hV:=print_all ha
     have hPl:=parseV_eq (parse_of hall)
     have htl:(textB l).length≤4990:=by have:=text_len hall;omega
     rcases hU with ⟨rfl,e1,e2,e3⟩|⟨h0,rfl⟩
     ·have hVu:=print_all e2
      rw [e1] at hVu
      have hu6:u.length≤1000000:=by omega
      refine pcR Y17_ok (kp5) Tryz.func5 [.tmp 4] (h:=fun KF=>?_)
      unfold Y17
      repeat' (first
       |(with_reducible first|refine nx ?_|refine t_seq fun K=>?_|refine t_br (fun hc=>?_) fun hc=>?_|refine t_bx ?_|apply And.intro|intro vr)
       |((with_reducible first|refine ny ?_|refine t_dwh (h:=fun K KL=>?_));intros;simp only [go_sem,kp5,geff,hF,k1,hV,hPl,hPt,hVu,hbl,hbi,hbn,Bool.not_true,Bool.not_false,yes]))
      all_goals try exact nd
      all_goals (refine nl ?_;simp only [go_sem])
      exact LeA.refl _
     ·have hz:(h==0)=false:=by simpa using h0
      have hz2:(h !=0)=true:=by simpa using h0
      refine pcR Y17_ok (kp5) Tryz.func5 [.tmp 4] (h:=fun KF=>?_)
      unfold Y17
      repeat' (first
       |(with_reducible first|refine nx ?_|refine t_seq fun K=>?_|refine t_br (fun hc=>?_) fun hc=>?_|refine t_bx ?_|apply And.intro|intro vr)
       |((with_reducible first|refine ny ?_|refine t_dwh (h:=fun K KL=>?_));intros;simp only [go_sem,kp5,geff,hF,k1,hV,hPl,hPt,p0,hbl,hbi,hbn,hz,hz2,Bool.not_true,Bool.not_false,yes]))
      all_goals try exact nd
      all_goals (refine nl ?_;simp only [go_sem])
      exact LeA.refl _
    |false=>
     have hV:=print_not ha
     rcases hU with ⟨rfl,e1,e2,e3⟩|⟨h0,rfl⟩
     ·have hVu:=print_all e2
      rw [e1] at hVu
      have hu6:u.length≤1000000:=by omega
      refine pcR Y17_ok (kp5) Tryz.func5 [.tmp 4] (h:=fun KF=>?_)
      unfold Y17
      repeat' (first
       |(with_reducible first|refine nx ?_|refine t_seq fun K=>?_|refine t_br (fun hc=>?_) fun hc=>?_|refine t_bx ?_|apply And.intro|intro vr)
       |((with_reducible first|refine ny ?_|refine t_dwh (h:=fun K KL=>?_));intros;simp only [go_sem,kp5,geff,hF,k1,hV,hpn,hPt,hVu,hbl,hbi,hbn,Bool.not_true,Bool.not_false,yes]))
      all_goals try exact nd
      all_goals (refine nl ?_;simp only [go_sem])
      exact LeA.refl _
     ·have hz:(h==0)=false:=by simpa using h0
      have hz2:(h !=0)=true:=by simpa using h0
      refine pcR Y17_ok (kp5) Tryz.func5 [.tmp 4] (h:=fun KF=>?_)
      unfold Y17
      repeat' (first
       |(with_reducible first|refine nx ?_|refine t_seq fun K=>?_|refine t_br (fun hc=>?_) fun hc=>?_|refine t_bx ?_|apply And.intro|intro vr)
       |((with_reducible first|refine ny ?_|refine t_dwh (h:=fun K KL=>?_));intros;simp only [go_sem,kp5,geff,hF,k1,hV,hpn,hPt,p0,hbl,hbi,hbn,hz,hz2,Bool.not_true,Bool.not_false,yes]))
      all_goals try exact nd
      all_goals (refine nl ?_;simp only [go_sem])
      exact LeA.refl _
theorem law5_pc {l:List Ins} {s:ByteArray} (hll:l.length≤maxLen) (hp:∀ o∈l,o.prim.size≤maxLen) (ht:s.size≤maxLen):PC Tryz.prog 5 [.sl false 6 (opsV l),.lit (.string s)] (.lit (.bool true)):=by
  obtain ⟨t,rfl⟩:=bs_ex s
  exact law5_bs hll hp (by rw [bs_size] at ht;exact ht)
end Go.Proofs.YtohiagaclfaolaaGreatDoor.Tx

namespace Go.Proofs.YtohiagaclfaolaaGreatDoor.Tx
open Go.Proofs.YtohiagaclfaolaaGreatDoor
open Go Go.Fw
set_option maxRecDepth 20000
theorem trod_if {H:Type} {enc:TypeId×Value→H} {P:Program} {w:World} {base:Nat} {sp:Nat→Bool} {held:Bool} {fuel:Nat} {t:TypeId} {ms:Array (String×TypeId)} {cs:List Value} {n:String} {d:DataW H} {p:List MemPlace}
    (ht:P.underlying t=some (.interface ms)) (h:DataW.trod enc P w base sp held fuel t cs=some (.iface n d,p)):∃ u v,cs=[.iface u v]:=by
  cases fuel with
  |zero=>simp [DataW.trod] at h
  |succ fuel=>
   simp only [DataW.trod,ht] at h
   split at h
   all_goals first
     |exact ⟨_,_,rfl⟩
     |(rename_i hx;cases hx;done)
     |skip
   all_goals cases h
theorem tabs_of {W:World} (h:laidMet Tryz.prog Rows.bytecodeValidRow.laid W):Tabs W:=by
  obtain ⟨ps,h,_⟩:=h
  obtain ⟨g1,t1,c1,f1,p1,q1,_,_,_,_,h,_⟩:=h
  obtain ⟨g2,t2,c2,f2,p2,q2,_,_,_,_,h,_⟩:=h
  obtain ⟨g3,t3,c3,f3,p3,q3,a3,b3,v3,d3,h,_⟩:=h
  obtain ⟨g4,t4,c4,f4,p4,q4,_,_,_,_,h,_⟩:=h
  obtain ⟨g5,t5,c5,f5,p5,q5,a5,b5,v5,d5,h,_⟩:=h
  obtain ⟨g6,t6,c6,f6,p6,q6,a6,b6,v6,d6,h,_⟩:=h
  obtain rfl:=Option.some.inj ((show Tryz.prog.globalNamed "internal/strconv.uint64pow10"=some 1 by kernel_rfl).symm.trans a3)
  obtain rfl:=Option.some.inj ((show (Tryz.prog.globals[1]?).map (·.type)=some 172 by kernel_rfl).symm.trans b3)
  obtain rfl:=Option.some.inj ((show Tryz.prog.globalNamed "strconv.ErrRange"=some 3 by kernel_rfl).symm.trans a5)
  obtain rfl:=Option.some.inj ((show (Tryz.prog.globals[3]?).map (·.type)=some 82 by kernel_rfl).symm.trans b5)
  obtain rfl:=Option.some.inj ((show Tryz.prog.globalNamed "strconv.ErrSyntax"=some 2 by kernel_rfl).symm.trans a6)
  obtain rfl:=Option.some.inj ((show (Tryz.prog.globals[2]?).map (·.type)=some 82 by kernel_rfl).symm.trans b6)
  obtain ⟨ms,hm⟩:∃ ms,Tryz.prog.underlying 82=some (.interface ms):=⟨_,Tryz.underlying82⟩
  obtain ⟨u5,w5,e5⟩:=trod_if hm d5
  obtain ⟨u6,w6,e6⟩:=trod_if hm d6
  have hd:DataW.trod (fun _=>()) Tryz.prog W 0 (fun _=>true) false f3 172 c3.toList=some (Lib.tabData .u64 Lib.pow10Tab,p3):=by
    rw [d3];exact congrArg (fun z=>some (z,p3)) (by kernel_rfl)
  refine ⟨?_,⟨u6,w6,?_⟩,⟨u5,w5,?_⟩⟩
  ·unfold Lib.TabIs
   rw [v3,←Lib.cells_of_tab Tryz.underlying172 Tryz.underlying95 (by kernel_rfl) (by kernel_rfl) hd]
  ·rw [v6,←e6]
  ·rw [v5,←e5]
end Go.Proofs.YtohiagaclfaolaaGreatDoor.Tx
