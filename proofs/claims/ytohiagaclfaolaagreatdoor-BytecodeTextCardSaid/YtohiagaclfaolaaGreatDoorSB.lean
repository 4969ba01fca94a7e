import Derived.Test.YtohiagaclfaolaaGreatDoorSA
import Derived.Lib.AppendZeros
import Derived.Lib.Walk
import Derived.Lib.Slices
import Derived.Lib.Bytealg

set_option linter.all false

namespace Go.Proofs.YtohiagaclfaolaaGreatDoor
open Go Go.Fw Bm
set_option maxRecDepth 20000
def opV (x:Ins):AV:= .agg [.lit (.int .i64 x.code),.lit (.string x.prim),.lit (.int .i64 x.a),.lit (.int .i64 x.b),.lit (.int .i64 x.c),.lit (.int .i64 x.d)]
def opsV (l:List Ins):List AV:=l.map opV
theorem opsV_length (l:List Ins):(opsV l).length=l.length:=by simp [opsV]
def jOp:AV:=opV nilI
theorem opsV_getJ (l:List Ins) (i:Nat):(opsV l).getD i jOp=opV (l.getD i nilI):=by
  simp only [opsV,jOp,List.getD_eq_getElem?_getD,List.getElem?_map];cases l[i]? <;>rfl
def opOf:AV→Option Ins
  |.agg [.lit (.int .i64 k),.lit (.string p),.lit (.int .i64 a),.lit (.int .i64 b),.lit (.int .i64 c),.lit (.int .i64 d)]=>some ⟨k,p,a,b,c,d⟩
  |_=>none
theorem opOf_agg {k a b c d:Int} {p:ByteArray}:opOf (.agg [.lit (.int .i64 k),.lit (.string p),.lit (.int .i64 a),.lit (.int .i64 b),.lit (.int .i64 c),.lit (.int .i64 d)])=some ⟨k,p,a,b,c,d⟩:=rfl
theorem opOf_V (x:Ins):opOf (opV x)=some x:=rfl
theorem opOf_inv {x:AV} {s:Ins} (h:opOf x=some s):x=opV s:=by
  unfold opOf at h
  split at h
  ·cases h;rfl
  ·cases h
theorem opOf_le {x:AV} {s:Ins} (h:opOf x=some s):LeA x (opV s):=by rw [opOf_inv h];exact LeA.refl _
def opL:List AV→Option (List Ins)
  |[]=>some []
  |x::xs=>match opOf x,opL xs with
   |some s,some l=>some (s::l)
   |_,_=>none
theorem opL_ops:∀ l:List Ins,opL (opsV l)=some l
  |[]=>rfl
  |s::l=>by
   show opL (opV s::opsV l)=_
   rw [opL,opOf_V,opL_ops l]
theorem opL_inv:∀ {xs:List AV} {l:List Ins},opL xs=some l→xs=opsV l
  |[],l,h=>by cases h;rfl
  |x::xs,l,h=>by
   unfold opL at h
   split at h
   ·rename_i s l' h1 h2
    cases h
    rw [opOf_inv h1,opL_inv h2];rfl
   ·cases h
def opsOf (x:AV):Option (List Ins):=(slA 6 x).bind opL
theorem opsOf_leR {x:AV} {l:List Ins} (h:opsOf x=some l):LeR x (.sl false 6 (opsV l)):=slA_leR (by
  unfold opsOf at h
  cases hx:slA 6 x with
  |none=>rw [hx] at h;cases h
  |some xs=>rw [hx] at h;rw [←opL_inv h])
theorem opsOf_le {x:AV} {l:List Ins} (h:opsOf x=some l):LeA x (.sl false 6 (opsV l)):=slA_le (by
  unfold opsOf at h
  cases hx:slA 6 x with
  |none=>rw [hx] at h;cases h
  |some xs=>rw [hx] at h;rw [←opL_inv h])
theorem opsOf_sl {b:Bool} {l:List Ins}:opsOf (.sl b 6 (opsV l))=some l:=by simp [opsOf,slA,opL_ops]
def plV (p:Int×Int):AV:= .agg [.lit (.int .i64 p.1),.lit (.int .i64 p.2)]
def plsV (l:List (Int×Int)):List AV:=l.map plV
theorem plsV_length (l:List (Int×Int)):(plsV l).length=l.length:=by simp [plsV]
def jPl:AV:=plV (0,0)
theorem plsV_getJ (l:List (Int×Int)) (i:Nat):(plsV l).getD i jPl=plV (l.getD i (0,0)):=by
  simp only [plsV,jPl,List.getD_eq_getElem?_getD,List.getElem?_map];cases l[i]? <;>rfl
def plOf:AV→Option (Int×Int)
  |.agg [.lit (.int .i64 a),.lit (.int .i64 b)]=>some (a,b)
  |_=>none
theorem plOf_inv {x:AV} {s:Int×Int} (h:plOf x=some s):x=plV s:=by
  unfold plOf at h
  split at h
  ·cases h;rfl
  ·cases h
def plL:List AV→Option (List (Int×Int))
  |[]=>some []
  |x::xs=>match plOf x,plL xs with
   |some s,some l=>some (s::l)
   |_,_=>none
theorem plL_pls:∀ l:List (Int×Int),plL (plsV l)=some l
  |[]=>rfl
  |s::l=>by
   show plL (plV s::plsV l)=_
   rw [plL,show plOf (plV s)=some s from rfl,plL_pls l]
theorem plL_inv:∀ {xs:List AV} {l:List (Int×Int)},plL xs=some l→xs=plsV l
  |[],l,h=>by cases h;rfl
  |x::xs,l,h=>by
   unfold plL at h
   split at h
   ·rename_i s l' h1 h2
    cases h
    rw [plOf_inv h1,plL_inv h2];rfl
   ·cases h
def plsOf (x:AV):Option (List (Int×Int)):=(slA 2 x).bind plL
theorem plsOf_sl {b:Bool} {l:List (Int×Int)}:plsOf (.sl b 2 (plsV l))=some l:=by simp [plsOf,slA,plL_pls]
def jkV:TypeId→AV:=fun t=>if t=50 then jOp else if t=58 then jPl else jk t
theorem jkV_50:jkV 50=jOp:=rfl
theorem jkV_58:jkV 58=jPl:=rfl
theorem jkV_3:jkV 3= .lit (.int .i64 0):=rfl
theorem jkV_9:jkV 9= .lit (.string ByteArray.empty):=rfl
theorem jkV_46:jkV 46=jI:=rfl
theorem jkV_53:jkV 53=jA:=rfl
theorem typesV_some {r:El.Rw}:El.typesV (some r)= .tup [.sl false 1 (strs r.ps),.lit (.string r.rs),.lit (.bool true)]:=rfl
theorem typesV_none:El.typesV none= .tup [.lit (.slice none 0 0),.lit (.string ⟨#[]⟩),.lit (.bool false)]:=rfl
attribute [go_sem] jkV_50 jkV_58 jkV_3 jkV_9 jkV_46 jkV_53 opsV_getJ opsV_length plsV_getJ plsV_length typesV_some typesV_none opOf_agg
end Go.Proofs.YtohiagaclfaolaaGreatDoor

namespace Go.Proofs.YtohiagaclfaolaaGreatDoor
open Go Go.Fw Bm
set_option maxRecDepth 20000
def frB (f:List Bool):ByteArray:=⟨(f.map fun b=>if b=true then (114:UInt8) else 110).toArray⟩
def formV (x:Ins):AV:=match formS x with
  |some f=> .tup [.lit (.string (frB f)),.lit (.bool true)]
  |none=> .tup [.lit (.string (if x.code=5 then frB [true] else frB [])),.lit (.bool false)]
theorem typesS_len {op:ByteArray} {r:El.Rw} (h:El.typesS op=some r):r.ps.length=1∨r.ps.length=2∨r.ps.length=3:=by
  have hm:r∈El.rowsL:=List.mem_of_find?_eq_some h
  have:∀ r∈El.rowsL,r.ps.length=1∨r.ps.length=2∨r.ps.length=3:=by decide
  exact this r hm
theorem szR4:(#[114,114,114,114]:Array UInt8).size=4:=rfl
theorem ci1:(1:Int)+((1:Nat):Int)=2:=rfl
theorem ci2:(1:Int)+((2:Nat):Int)=3:=rfl
theorem ci3:(1:Int)+((3:Nat):Int)=4:=rfl
theorem mi1:minI 4 1=1:=rfl
theorem mi2:minI 4 2=2:=rfl
theorem mi3:minI 4 3=3:=rfl
theorem mi4:minI 4 4=4:=rfl
attribute [go_sem] ci1 ci2 ci3 szR4 mi1 mi2 mi3 mi4
noncomputable def V1:Env:=envJ (P:=Tryz.prog) jkV zer (fun _=>false) (fun _=>false) [El.con105] []
theorem V1_ok:EnvOk Tryz.prog V1:=envJOk zer_ok
attribute [go_sem] El.con105_f El.con105_c El.con101_f El.con101_c
set_option maxHeartbeats 4000000 in
theorem form_pc {x:Ins}:PC Tryz.prog 83 [opV x] (formV x):=by
  obtain ⟨k,p,a,b,c,d⟩:=x
  simp only [opV]
  generalize hR:formV ⟨k,p,a,b,c,d⟩=R
  by_cases h5:k=5
  ·subst h5
   cases hT:El.typesS p with
   |none=>
    refine pcR V1_ok (kp83) Tryz.func83 [.tmp 2,.tmp 3] (h:=fun KF=>?_)
    unfold V1
    repeat' (first
     |(with_reducible first|refine nx ?_|refine t_seq fun K=>?_|refine t_br (fun hc=>?_) fun hc=>?_|refine t_bx ?_|apply And.intro|intro vr)
     |((with_reducible first|refine ny ?_|refine t_dwh (h:=fun K KL=>?_));intros;simp only [go_sem,kp83,geff,hT]))
    all_goals try (first|(with_reducible assumption)|(intros;(try simp only [Bool.and_eq_true,Bool.or_eq_true,Bool.or_eq_false_iff,Bool.not_eq_true',Bool.not_eq_false',decide_eq_true_eq,decide_eq_false_iff_not,beq_iff_eq,beq_eq_false_iff_ne,bne_iff_ne,bne_eq_false_iff_eq,ne_eq,inI64,List.size_toArray,List.length_cons,List.length_nil] at*)<;>omega)|(intros;(with_reducible first|refine impB_ofR ?_|refine and_ofB ?_ ?_)<;>with_reducible first|assumption|(refine impB_ofR ?_;assumption))|((try simp only [Bool.and_eq_true] at vr);simp only [impB,vr,Bool.or_true,Bool.true_or,Bool.and_self,Bool.not_true,Bool.not_false,Bool.and_true];done))
    all_goals (refine nl ?_;simp only [go_sem])
    exact LeA.of_eq (by rw [←hR];simp [formV,formS,hT,frB];rfl)
   |some r=>
    have hfin:∀ n:Nat,r.ps.length=n→LeA (.tup [.lit (.string (frB (List.replicate (1+n) true))),.lit (.bool true)]) R:=fun n hn=>LeA.of_eq (by rw [←hR];simp only [formV,formS,hT,Option.map_some,hn];rfl)
    rcases typesS_len hT with hl|hl|hl
    all_goals
      have e:=hfin _ hl
      refine pcR V1_ok (kp83) Tryz.func83 [.tmp 2,.tmp 3] (h:=fun KF=>?_)
      unfold V1
      repeat' (first
       |(with_reducible first|refine nx ?_|refine t_seq fun K=>?_|refine t_br (fun hc=>?_) fun hc=>?_|refine t_bx ?_|apply And.intro|intro vr)
       |((with_reducible first|refine ny ?_|refine t_dwh (h:=fun K KL=>?_));intros;simp only [go_sem,kp83,geff,hT,hl,Int.reduceAdd]))
      all_goals try (first|(with_reducible assumption)|(intros;(try simp only [Bool.and_eq_true,Bool.or_eq_true,Bool.or_eq_false_iff,Bool.not_eq_true',Bool.not_eq_false',decide_eq_true_eq,decide_eq_false_iff_not,beq_iff_eq,beq_eq_false_iff_ne,bne_iff_ne,bne_eq_false_iff_eq,ne_eq,inI64,List.size_toArray,List.length_cons,List.length_nil] at*)<;>omega)|(intros;(with_reducible first|refine impB_ofR ?_|refine and_ofB ?_ ?_)<;>with_reducible first|assumption|(refine impB_ofR ?_;assumption))|((try simp only [Bool.and_eq_true] at vr);simp only [impB,vr,Bool.or_true,Bool.true_or,Bool.and_self,Bool.not_true,Bool.not_false,Bool.and_true];done))
      all_goals (refine nl ?_;simp only [go_sem])
      exact e
  ·skip
   refine pcR V1_ok (kp83) Tryz.func83 [.tmp 2,.tmp 3] (h:=fun KF=>?_)
   unfold V1
   repeat' (first
    |(with_reducible first|refine nx ?_|refine t_seq fun K=>?_|refine t_br (fun hc=>?_) fun hc=>?_|refine t_bx ?_|apply And.intro|intro vr)
    |((with_reducible first|refine ny ?_|refine t_dwh (h:=fun K KL=>?_));intros;simp only [go_sem,kp83,geff]))
   all_goals try exact nd
   all_goals (refine nl ?_;simp only [go_sem])
   all_goals (refine LeA.of_eq ?_;rw [←hR];simp_all [formV,formS,frB])
noncomputable def con83:PCon Tryz.prog where
  f:=83
  c:=fun
   |[xx]=>match opOf xx with|some x=>some (True,formV x)|_=>none
   |_=>none
  ok:=by
   intro args p r hc hp
   split at hc
   ·split at hc
    ·rename_i hx
     cases hc
     exact PC.weak form_pc ⟨opOf_le hx,trivial⟩
    ·cases hc
   ·cases hc
  fk:=fk83
theorem con83_f:con83.f=83:=rfl
theorem con83_c {xx:AV}:con83.c [xx]=match opOf xx with|some x=>some (True,formV x)|_=>none:=rfl
end Go.Proofs.YtohiagaclfaolaaGreatDoor

namespace Go.Proofs.YtohiagaclfaolaaGreatDoor
open Go Go.Fw Bm
set_option maxRecDepth 20000
noncomputable def V2:Env:=envJ (P:=Tryz.prog) jkV zer (fun _=>false) (fun _=>false) [] []
theorem V2_ok:EnvOk Tryz.prog V2:=envJOk zer_ok
attribute [go_sem] con83_f con83_c
def oprV (x:Ins):AV:= .agg [.lit (.int .i64 x.a),.lit (.int .i64 x.b),.lit (.int .i64 x.c),.lit (.int .i64 x.d)]
set_option maxHeartbeats 4000000 in
theorem ropr_pc {x:Ins}:PC Tryz.prog 84 [opV x] (oprV x):=by
  simp only [opV]
  refine pcR V2_ok (kp84) Tryz.func84 [.cell 2 114] (h:=fun KF=>?_)
  unfold V2
  repeat' (first
   |(with_reducible first|refine nx ?_|refine t_seq fun K=>?_|refine t_br (fun hc=>?_) fun hc=>?_|refine t_bx ?_|apply And.intro|intro vr)
   |((with_reducible first|refine ny ?_|refine t_dwh (h:=fun K KL=>?_));intros;simp only [go_sem,kp84,geff]))
  all_goals try exact nd
  all_goals (refine nl ?_;simp only [go_sem])
  exact LeA.refl _
set_option maxHeartbeats 4000000 in
theorem opr_pc {x:Ins}:PC Tryz.prog 77 [opV x] (oprV x):=by
  simp only [opV]
  refine pcR V2_ok (kp77) Tryz.func77 [.cell 2 114] (h:=fun KF=>?_)
  unfold V2
  repeat' (first
   |(with_reducible first|refine nx ?_|refine t_seq fun K=>?_|refine t_br (fun hc=>?_) fun hc=>?_|refine t_bx ?_|apply And.intro|intro vr)
   |((with_reducible first|refine ny ?_|refine t_dwh (h:=fun K KL=>?_));intros;simp only [go_sem,kp77,geff]))
  all_goals try exact nd
  all_goals (refine nl ?_;simp only [go_sem])
  exact LeA.refl _
def wrtV (x:Ins):AV:= .tup [.lit (.int .i64 (if wrtB x.code=true then x.a else 0)),.lit (.bool (wrtB x.code))]
def kindOk (k n regs:Int):Bool:=
  if k=0 then decide (0≤n)&&decide (n<regs)
  else if k=1 then decide (-maxC≤n)&&decide (n≤maxC)
  else if k=2 then decide (-maxA≤n)&&decide (n≤maxA)
  else if k=3 then decide (1≤n)&&decide (n≤1000000)
  else decide (1≤n)&&decide (n≤maxA)
set_option maxHeartbeats 4000000 in
theorem within_pc {k n regs:Int}:PC Tryz.prog 78 [.lit (.int .i64 k),.lit (.int .i64 n),.lit (.int .i64 regs)] (.lit (.bool (kindOk k n regs))):=by
  generalize hR:kindOk k n regs=R
  refine pcR V2_ok (kp78) Tryz.func78 [.tmp 6] (h:=fun KF=>?_)
  unfold V2
  repeat' (first
   |(with_reducible first|refine nx ?_|refine t_seq fun K=>?_|refine t_br (fun hc=>?_) fun hc=>?_|refine t_bx ?_|apply And.intro|intro vr)
   |((with_reducible first|refine ny ?_|refine t_dwh (h:=fun K KL=>?_));intros;simp only [go_sem,kp78,geff]))
  all_goals try exact nd
  all_goals (refine nl ?_;simp only [go_sem])
  all_goals (refine LeA.of_eq ?_;subst hR;first|(simp_all [kindOk,maxC,maxA];done)|(simp_all [kindOk,maxC,maxA];rfl))
noncomputable def con84:PCon Tryz.prog where
  f:=84
  c:=fun
   |[xx]=>match opOf xx with|some x=>some (True,oprV x)|_=>none
   |_=>none
  ok:=by
   intro args p r hc hp
   split at hc
   ·split at hc
    ·rename_i hx
     cases hc
     exact PC.weak ropr_pc ⟨opOf_le hx,trivial⟩
    ·cases hc
   ·cases hc
  fk:=fk84
theorem con84_f:con84.f=84:=rfl
theorem con84_c {xx:AV}:con84.c [xx]=match opOf xx with|some x=>some (True,oprV x)|_=>none:=rfl
noncomputable def con77:PCon Tryz.prog where
  f:=77
  c:=fun
   |[xx]=>match opOf xx with|some x=>some (True,oprV x)|_=>none
   |_=>none
  ok:=by
   intro args p r hc hp
   split at hc
   ·split at hc
    ·rename_i hx
     cases hc
     exact PC.weak opr_pc ⟨opOf_le hx,trivial⟩
    ·cases hc
   ·cases hc
  fk:=fk77
theorem con77_f:con77.f=77:=rfl
theorem con77_c {xx:AV}:con77.c [xx]=match opOf xx with|some x=>some (True,oprV x)|_=>none:=rfl
noncomputable def con78:PCon Tryz.prog where
  f:=78
  c:=fun
   |[.lit (.int .i64 k),.lit (.int .i64 n),.lit (.int .i64 r)]=>some (True,.lit (.bool (kindOk k n r)))
   |_=>none
  ok:=by
   intro args p r hc hp
   split at hc
   ·cases hc;exact within_pc
   ·cases hc
  fk:=fk78
theorem con78_f:con78.f=78:=rfl
theorem con78_c {k:Int} {n:Int} {r:Int}:con78.c [.lit (.int .i64 k),.lit (.int .i64 n),.lit (.int .i64 r)]=some (True,.lit (.bool (kindOk k n r))):=rfl
theorem oprV_mk {k a b c d:Int} {p:ByteArray}:oprV ⟨k,p,a,b,c,d⟩= .agg [.lit (.int .i64 a),.lit (.int .i64 b),.lit (.int .i64 c),.lit (.int .i64 d)]:=rfl
theorem wrtV_mk {k a b c d:Int} {p:ByteArray}:wrtV ⟨k,p,a,b,c,d⟩= .tup [.lit (.int .i64 (if wrtB k=true then a else 0)),.lit (.bool (wrtB k))]:=rfl
attribute [go_sem] oprV_mk wrtV_mk con84_f con84_c con77_f con77_c con78_f con78_c
end Go.Proofs.YtohiagaclfaolaaGreatDoor

namespace Go.Proofs.YtohiagaclfaolaaGreatDoor
open Go Go.Fw Bm
set_option maxRecDepth 20000
theorem formV_some {x:Ins} {f:List Bool} (h:formS x=some f):formV x= .tup [.lit (.string (frB f)),.lit (.bool true)]:=by unfold formV;rw [h]
theorem formV_none {x:Ins} (h:formS x=none):formV x= .tup [.lit (.string (if x.code=5 then frB [true] else frB [])),.lit (.bool false)]:=by unfold formV;rw [h]
theorem formS_len {x:Ins} {f:List Bool} (h:formS x=some f):f.length≤4:=by
  unfold formS at h
  split at h
  ·cases h;decide
  ·split at h
   ·cases h;decide
   ·split at h
    ·cases h;decide
    ·split at h
     ·cases hT:El.typesS x.prim with
      |none=>rw [hT] at h;cases h
      |some r=>
       rw [hT] at h
       cases h
       have:=typesS_len hT
       simp only [List.length_replicate];omega
     ·split at h
      ·cases h;decide
      ·split at h
       ·cases h;decide
       ·split at h
        ·cases h;decide
        ·split at h
         ·cases h;decide
         ·cases h
theorem frB_size (f:List Bool):(frB f).size=f.length:=by simp [frB,ByteArray.size]
theorem frB_at (f:List Bool) (i:Nat) (h:i<f.length):strAt (frB f) i=if f.getD i false=true then 114 else 110:=by
  simp only [strAt,frB,List.getD_eq_getElem?_getD,List.getElem?_map,List.getElem?_eq_getElem h,Option.map_some,Option.getD_some]
  split<;>rfl
theorem decAnd {p q:Prop} [Decidable p] [Decidable q] [Decidable (p∧q)]:(decide p&&decide q)=decide (p∧q):=by
  by_cases h:p<;>by_cases k:q<;>simp [h,k]
theorem stepP {P:Nat→Prop} {i:Nat} (h:∀ j,j<i→P j) (k:P i):∀ j,j<i+1→P j:=fun j hj=>by
  rcases (show j<i∨j=i by omega) with h1|rfl
  ·exact h j h1
  ·exact k
noncomputable def V3:Env:=envJ (P:=Tryz.prog) jkV zer (fun _=>false) (fun _=>false) [con83,con84] []
theorem V3_ok:EnvOk Tryz.prog V3:=envJOk zer_ok
set_option maxHeartbeats 8000000 in
theorem rright_pc {x:Ins} {regs:Int}:PC Tryz.prog 50 [opV x,.lit (.int .i64 regs)] (.lit (.bool (rightS x regs))):=by
  obtain ⟨k,p,a,b,c,d⟩:=x
  simp only [opV]
  generalize hR:rightS ⟨k,p,a,b,c,d⟩ regs=R
  cases hF:formS ⟨k,p,a,b,c,d⟩ with
  |none=>
   have hV:=formV_none hF
   refine pcR V3_ok (kp50) Tryz.func50 [.tmp 4] (h:=fun KF=>?_)
   unfold V3
   repeat' (first
    |(with_reducible first|refine nx ?_|refine t_seq fun K=>?_|refine t_br (fun hc=>?_) fun hc=>?_|refine t_bx ?_|apply And.intro|intro vr)
    |((with_reducible first|refine ny ?_|refine t_dwh (h:=fun K KL=>?_));intros;simp only [go_sem,kp50,geff,hV]))
   all_goals try exact nd
   all_goals (refine nl ?_;simp only [go_sem])
   all_goals (refine LeA.of_eq ?_;rw [←hR];simp [rightS,hF])
  |some f=>
   have hV:=formV_some hF
   have hl:=formS_len hF
   have hsz:=frB_size f
   have hsz':(frB f).data.size=f.length:=hsz
   have hRR:R=((decide (k=5)||decide (p.data.toList=[]))&&(oprOk f regs 0 a&&oprOk f regs 1 b&&oprOk f regs 2 c&&oprOk f regs 3 d)&&restOk ⟨k,p,a,b,c,d⟩):=by rw [←hR];simp only [rightS,hF]
   refine pcR V3_ok (kp50) Tryz.func50 [.tmp 4] (h:=fun KF=>?_)
   unfold V3
   repeat' (first
    |(with_reducible first|refine nx ?_|refine t_seq fun K=>?_|refine t_br (fun hc=>?_) fun hc=>?_|refine t_bx ?_|apply And.intro|intro vr)
    |((with_reducible first|refine ny ?_|refine t_dwh (h:=fun K KL=>?_));intros;simp only [go_sem,kp50,geff,hV]))
   all_goals try exact nd
   ·skip
    all_goals (refine nl ?_;simp only [go_sem])
    refine LeA.of_eq ?_
    rw [hRR]
    simp_all [eqS]
   ·have hpk:(decide (k=5)||decide (p.data.toList=[]))=true:=by
      have h1:=hc
      simp only [eqS,Bool.and_eq_false_iff,bne_eq_false_iff_eq,Bool.not_eq_false',beq_iff_eq] at h1
      rcases h1 with h1|h1
      ·simp [h1]
      ·rw [h1];simp
    refine t_loopF (ι:={i:Nat // i≤4∧∀ j,j<i→oprOk f regs j ([a,b,c,d].getD j 0)=true}) (fun i=>[(8,.lit (.int .i64 i.1))]) (fun i=>[.box 50 [.lit (.int .i64 k),.lit (.string p),.lit (.int .i64 a),.lit (.int .i64 b),.lit (.int .i64 c),.lit (.int .i64 d)],.box 114 [.lit (.int .i64 a),.lit (.int .i64 b),.lit (.int .i64 c),.lit (.int .i64 d)]]) (fun i=>4 - i.1) ⟨0,by omega,by omega⟩ ?_ ?_
    ·exact lf
    rintro ⟨i,hi,hP⟩ K0
    rcases (show i=0∨i=1∨i=2∨i=3∨i=4 by omega) with rfl|rfl|rfl|rfl|rfl
    ·have h0:((((0:Nat):Int)):Int)=0:=rfl
     rcases Nat.lt_or_ge 0 f.length with hlt|hlt
     ·have g1:decide ((0:Int)≥(f.length:Int))=false:=decide_eq_false (by omega)
      cases hr:f.getD 0 false with
      |true=>
       have g2:strAt (frB f) 0=114:=by rw [frB_at f 0 hlt,hr];rfl
       have hq:oprOk f regs 0 a=decide (0≤a∧a<regs):=by unfold oprOk;rw [if_neg (by omega),hr,if_pos rfl]
       repeat' (first
        |(with_reducible first|refine nx ?_|refine t_seq fun K=>?_|refine t_br (fun hc=>?_) fun hc=>?_|refine t_bx ?_|apply And.intro|intro vr)
        |((with_reducible first|refine ny ?_|refine t_dwh (h:=fun K KL=>?_));intros;simp only [go_sem,kp50,geff,hsz,h0,g1,g2]))
       all_goals try exact nd
       ·skip
        all_goals (refine nl ?_;simp only [go_sem])
        have hno:oprOk f regs 0 a=false:=by rw [hq];exact decide_eq_false (fun h=>by simp only [Bool.or_eq_true,decide_eq_true_eq] at hc;omega)
        exact LeA.of_eq (by rw [hRR,hno];simp)
       ·have hok:oprOk f regs 0 ([a,b,c,d].getD 0 0)=true:=by
          show oprOk f regs 0 a=true
          rw [hq];exact decide_eq_true (by simp only [Bool.or_eq_false_iff,decide_eq_false_iff_not] at hc;omega)
        exact ⟨⟨0+1,by omega,stepP hP hok⟩,wf,lf⟩
      |false=>
       have g2:strAt (frB f) 0=110:=by rw [frB_at f 0 hlt,hr];rfl
       have hok:oprOk f regs 0 ([a,b,c,d].getD 0 0)=true:=by unfold oprOk;rw [if_neg (by omega),hr,if_neg (by decide)]
       repeat' (first
        |(with_reducible first|refine nx ?_|refine t_seq fun K=>?_|refine t_br (fun hc=>?_) fun hc=>?_|refine t_bx ?_|apply And.intro|intro vr)
        |((with_reducible first|refine ny ?_|refine t_dwh (h:=fun K KL=>?_));intros;simp only [go_sem,kp50,geff,hsz,h0,g1,g2]))
       all_goals try exact nd
       exact ⟨⟨0+1,by omega,stepP hP hok⟩,wf,lf⟩
     ·have g1:decide ((0:Int)≥(f.length:Int))=true:=decide_eq_true (by omega)
      have hq:oprOk f regs 0 a=decide (a=0):=by unfold oprOk;rw [if_pos (by omega)]
      repeat' (first
       |(with_reducible first|refine nx ?_|refine t_seq fun K=>?_|refine t_br (fun hc=>?_) fun hc=>?_|refine t_bx ?_|apply And.intro|intro vr)
       |((with_reducible first|refine ny ?_|refine t_dwh (h:=fun K KL=>?_));intros;simp only [go_sem,kp50,geff,hsz,h0,g1]))
      all_goals try exact nd
      ·skip
       all_goals (refine nl ?_;simp only [go_sem])
       have hno:oprOk f regs 0 a=false:=by rw [hq];exact decide_eq_false (by simpa using hc)
       exact LeA.of_eq (by rw [hRR,hno];simp)
      ·have hok:oprOk f regs 0 ([a,b,c,d].getD 0 0)=true:=by
         show oprOk f regs 0 a=true
         rw [hq];exact decide_eq_true (by simpa using hc)
       exact ⟨⟨0+1,by omega,stepP hP hok⟩,wf,lf⟩
    ·have h0:((((1:Nat):Int)):Int)=1:=rfl
     rcases Nat.lt_or_ge 1 f.length with hlt|hlt
     ·have g1:decide ((1:Int)≥(f.length:Int))=false:=decide_eq_false (by omega)
      cases hr:f.getD 1 false with
      |true=>
       have g2:strAt (frB f) 1=114:=by rw [frB_at f 1 hlt,hr];rfl
       have hq:oprOk f regs 1 b=decide (0≤b∧b<regs):=by unfold oprOk;rw [if_neg (by omega),hr,if_pos rfl]
       repeat' (first
        |(with_reducible first|refine nx ?_|refine t_seq fun K=>?_|refine t_br (fun hc=>?_) fun hc=>?_|refine t_bx ?_|apply And.intro|intro vr)
        |((with_reducible first|refine ny ?_|refine t_dwh (h:=fun K KL=>?_));intros;simp only [go_sem,kp50,geff,hsz,h0,g1,g2]))
       all_goals try exact nd
       ·skip
        all_goals (refine nl ?_;simp only [go_sem])
        have hno:oprOk f regs 1 b=false:=by rw [hq];exact decide_eq_false (fun h=>by simp only [Bool.or_eq_true,decide_eq_true_eq] at hc;omega)
        exact LeA.of_eq (by rw [hRR,hno];simp)
       ·have hok:oprOk f regs 1 ([a,b,c,d].getD 1 0)=true:=by
          show oprOk f regs 1 b=true
          rw [hq];exact decide_eq_true (by simp only [Bool.or_eq_false_iff,decide_eq_false_iff_not] at hc;omega)
        exact ⟨⟨1+1,by omega,stepP hP hok⟩,wf,lf⟩
      |false=>
       have g2:strAt (frB f) 1=110:=by rw [frB_at f 1 hlt,hr];rfl
       have hok:oprOk f regs 1 ([a,b,c,d].getD 1 0)=true:=by unfold oprOk;rw [if_neg (by omega),hr,if_neg (by decide)]
       repeat' (first
        |(with_reducible first|refine nx ?_|refine t_seq fun K=>?_|refine t_br (fun hc=>?_) fun hc=>?_|refine t_bx ?_|apply And.intro|intro vr)
        |((with_reducible first|refine ny ?_|refine t_dwh (h:=fun K KL=>?_));intros;simp only [go_sem,kp50,geff,hsz,h0,g1,g2]))
       all_goals try exact nd
       exact ⟨⟨1+1,by omega,stepP hP hok⟩,wf,lf⟩
     ·have g1:decide ((1:Int)≥(f.length:Int))=true:=decide_eq_true (by omega)
      have hq:oprOk f regs 1 b=decide (b=0):=by unfold oprOk;rw [if_pos (by omega)]
      repeat' (first
       |(with_reducible first|refine nx ?_|refine t_seq fun K=>?_|refine t_br (fun hc=>?_) fun hc=>?_|refine t_bx ?_|apply And.intro|intro vr)
       |((with_reducible first|refine ny ?_|refine t_dwh (h:=fun K KL=>?_));intros;simp only [go_sem,kp50,geff,hsz,h0,g1]))
      all_goals try exact nd
      ·skip
       all_goals (refine nl ?_;simp only [go_sem])
       have hno:oprOk f regs 1 b=false:=by rw [hq];exact decide_eq_false (by simpa using hc)
       exact LeA.of_eq (by rw [hRR,hno];simp)
      ·have hok:oprOk f regs 1 ([a,b,c,d].getD 1 0)=true:=by
         show oprOk f regs 1 b=true
         rw [hq];exact decide_eq_true (by simpa using hc)
       exact ⟨⟨1+1,by omega,stepP hP hok⟩,wf,lf⟩
    ·have h0:((((2:Nat):Int)):Int)=2:=rfl
     rcases Nat.lt_or_ge 2 f.length with hlt|hlt
     ·have g1:decide ((2:Int)≥(f.length:Int))=false:=decide_eq_false (by omega)
      cases hr:f.getD 2 false with
      |true=>
       have g2:strAt (frB f) 2=114:=by rw [frB_at f 2 hlt,hr];rfl
       have hq:oprOk f regs 2 c=decide (0≤c∧c<regs):=by unfold oprOk;rw [if_neg (by omega),hr,if_pos rfl]
       repeat' (first
        |(with_reducible first|refine nx ?_|refine t_seq fun K=>?_|refine t_br (fun hc=>?_) fun hc=>?_|refine t_bx ?_|apply And.intro|intro vr)
        |((with_reducible first|refine ny ?_|refine t_dwh (h:=fun K KL=>?_));intros;simp only [go_sem,kp50,geff,hsz,h0,g1,g2]))
       all_goals try exact nd
       ·skip
        all_goals (refine nl ?_;simp only [go_sem])
        have hno:oprOk f regs 2 c=false:=by rw [hq];exact decide_eq_false (fun h=>by simp only [Bool.or_eq_true,decide_eq_true_eq] at hc;omega)
        exact LeA.of_eq (by rw [hRR,hno];simp)
       ·have hok:oprOk f regs 2 ([a,b,c,d].getD 2 0)=true:=by
          show oprOk f regs 2 c=true
          rw [hq];exact decide_eq_true (by simp only [Bool.or_eq_false_iff,decide_eq_false_iff_not] at hc;omega)
        exact ⟨⟨2+1,by omega,stepP hP hok⟩,wf,lf⟩
      |false=>
       have g2:strAt (frB f) 2=110:=by rw [frB_at f 2 hlt,hr];rfl
       have hok:oprOk f regs 2 ([a,b,c,d].getD 2 0)=true:=by unfold oprOk;rw [if_neg (by omega),hr,if_neg (by decide)]
       repeat' (first
        |(with_reducible first|refine nx ?_|refine t_seq fun K=>?_|refine t_br (fun hc=>?_) fun hc=>?_|refine t_bx ?_|apply And.intro|intro vr)
        |((with_reducible first|refine ny ?_|refine t_dwh (h:=fun K KL=>?_));intros;simp only [go_sem,kp50,geff,hsz,h0,g1,g2]))
       all_goals try exact nd
       exact ⟨⟨2+1,by omega,stepP hP hok⟩,wf,lf⟩
     ·have g1:decide ((2:Int)≥(f.length:Int))=true:=decide_eq_true (by omega)
      have hq:oprOk f regs 2 c=decide (c=0):=by unfold oprOk;rw [if_pos (by omega)]
      repeat' (first
       |(with_reducible first|refine nx ?_|refine t_seq fun K=>?_|refine t_br (fun hc=>?_) fun hc=>?_|refine t_bx ?_|apply And.intro|intro vr)
       |((with_reducible first|refine ny ?_|refine t_dwh (h:=fun K KL=>?_));intros;simp only [go_sem,kp50,geff,hsz,h0,g1]))
      all_goals try exact nd
      ·skip
       all_goals (refine nl ?_;simp only [go_sem])
       have hno:oprOk f regs 2 c=false:=by rw [hq];exact decide_eq_false (by simpa using hc)
       exact LeA.of_eq (by rw [hRR,hno];simp)
      ·have hok:oprOk f regs 2 ([a,b,c,d].getD 2 0)=true:=by
         show oprOk f regs 2 c=true
         rw [hq];exact decide_eq_true (by simpa using hc)
       exact ⟨⟨2+1,by omega,stepP hP hok⟩,wf,lf⟩
    ·have h0:((((3:Nat):Int)):Int)=3:=rfl
     rcases Nat.lt_or_ge 3 f.length with hlt|hlt
     ·have g1:decide ((3:Int)≥(f.length:Int))=false:=decide_eq_false (by omega)
      cases hr:f.getD 3 false with
      |true=>
       have g2:strAt (frB f) 3=114:=by rw [frB_at f 3 hlt,hr];rfl
       have hq:oprOk f regs 3 d=decide (0≤d∧d<regs):=by unfold oprOk;rw [if_neg (by omega),hr,if_pos rfl]
       repeat' (first
        |(with_reducible first|refine nx ?_|refine t_seq fun K=>?_|refine t_br (fun hc=>?_) fun hc=>?_|refine t_bx ?_|apply And.intro|intro vr)
        |((with_reducible first|refine ny ?_|refine t_dwh (h:=fun K KL=>?_));intros;simp only [go_sem,kp50,geff,hsz,h0,g1,g2]))
       all_goals try exact nd
       ·skip
        all_goals (refine nl ?_;simp only [go_sem])
        have hno:oprOk f regs 3 d=false:=by rw [hq];exact decide_eq_false (fun h=>by simp only [Bool.or_eq_true,decide_eq_true_eq] at hc;omega)
        exact LeA.of_eq (by rw [hRR,hno];simp)
       ·have hok:oprOk f regs 3 ([a,b,c,d].getD 3 0)=true:=by
          show oprOk f regs 3 d=true
          rw [hq];exact decide_eq_true (by simp only [Bool.or_eq_false_iff,decide_eq_false_iff_not] at hc;omega)
        exact ⟨⟨3+1,by omega,stepP hP hok⟩,wf,lf⟩
      |false=>
       have g2:strAt (frB f) 3=110:=by rw [frB_at f 3 hlt,hr];rfl
       have hok:oprOk f regs 3 ([a,b,c,d].getD 3 0)=true:=by unfold oprOk;rw [if_neg (by omega),hr,if_neg (by decide)]
       repeat' (first
        |(with_reducible first|refine nx ?_|refine t_seq fun K=>?_|refine t_br (fun hc=>?_) fun hc=>?_|refine t_bx ?_|apply And.intro|intro vr)
        |((with_reducible first|refine ny ?_|refine t_dwh (h:=fun K KL=>?_));intros;simp only [go_sem,kp50,geff,hsz,h0,g1,g2]))
       all_goals try exact nd
       exact ⟨⟨3+1,by omega,stepP hP hok⟩,wf,lf⟩
     ·have g1:decide ((3:Int)≥(f.length:Int))=true:=decide_eq_true (by omega)
      have hq:oprOk f regs 3 d=decide (d=0):=by unfold oprOk;rw [if_pos (by omega)]
      repeat' (first
       |(with_reducible first|refine nx ?_|refine t_seq fun K=>?_|refine t_br (fun hc=>?_) fun hc=>?_|refine t_bx ?_|apply And.intro|intro vr)
       |((with_reducible first|refine ny ?_|refine t_dwh (h:=fun K KL=>?_));intros;simp only [go_sem,kp50,geff,hsz,h0,g1]))
      all_goals try exact nd
      ·skip
       all_goals (refine nl ?_;simp only [go_sem])
       have hno:oprOk f regs 3 d=false:=by rw [hq];exact decide_eq_false (by simpa using hc)
       exact LeA.of_eq (by rw [hRR,hno];simp)
      ·have hok:oprOk f regs 3 ([a,b,c,d].getD 3 0)=true:=by
         show oprOk f regs 3 d=true
         rw [hq];exact decide_eq_true (by simpa using hc)
       exact ⟨⟨3+1,by omega,stepP hP hok⟩,wf,lf⟩
    ·have hR4:R=restOk ⟨k,p,a,b,c,d⟩:=by
       rw [hRR,show oprOk f regs 0 a=true from hP 0 (by omega),show oprOk f regs 1 b=true from hP 1 (by omega),show oprOk f regs 2 c=true from hP 2 (by omega),show oprOk f regs 3 d=true from hP 3 (by omega),hpk]
       rfl
     clear hRR hR hF hV
     have h0:((((4:Nat):Int)):Int)=4:=rfl
     repeat' (first
      |(with_reducible first|refine nx ?_|refine t_seq fun K=>?_|refine t_br (fun hc=>?_) fun hc=>?_|refine t_bx ?_|apply And.intro|intro vr)
      |((with_reducible first|refine ny ?_|refine t_dwh (h:=fun K KL=>?_));intros;simp only [go_sem,kp50,geff,h0]))
     all_goals try exact nd
     all_goals (refine nl ?_;simp only [go_sem])
     all_goals (refine LeA.of_eq ?_;subst hR4;first|(simp_all [restOk,maxC,maxA];done)|(simp_all [restOk,maxC,maxA];first|rfl|exact decAnd))
noncomputable def con50:PCon Tryz.prog where
  f:=50
  c:=fun
   |[xx,.lit (.int .i64 r)]=>match opOf xx with|some x=>some (True,.lit (.bool (rightS x r)))|_=>none
   |_=>none
  ok:=by
   intro args p r hc hp
   split at hc
   ·split at hc
    ·rename_i hx
     cases hc
     exact PC.weak rright_pc ⟨opOf_le hx,LeA.refl _,trivial⟩
    ·cases hc
   ·cases hc
  fk:=fk50
theorem con50_f:con50.f=50:=rfl
theorem con50_c {xx:AV} {r:Int}:con50.c [xx,.lit (.int .i64 r)]=match opOf xx with|some x=>some (True,.lit (.bool (rightS x r)))|_=>none:=rfl
attribute [go_sem] con50_f con50_c
end Go.Proofs.YtohiagaclfaolaaGreatDoor

namespace Go.Proofs.YtohiagaclfaolaaGreatDoor
open Go Go.Fw Bm
set_option maxRecDepth 20000
def formsV:AV:= .agg [
  .lit (.string ByteArray.empty),.sl true 1 [],.lit (.bool false),.sl true 1 [],
  .lit (.string ⟨#[99,111,110,115,116]⟩),.sl true 1 [.lit (.int .i64 0),.lit (.int .i64 1)],.lit (.bool true),.lit (.slice none 0 0),
  .lit (.string ⟨#[97,100,100]⟩),.sl true 1 [.lit (.int .i64 0),.lit (.int .i64 0),.lit (.int .i64 0),.lit (.int .i64 2)],.lit (.bool true),.sl true 1 [.lit (.int .i64 1),.lit (.int .i64 2)],
  .lit (.string ⟨#[109,105,110]⟩),.sl true 1 [.lit (.int .i64 0),.lit (.int .i64 0),.lit (.int .i64 0)],.lit (.bool true),.sl true 1 [.lit (.int .i64 1),.lit (.int .i64 2)],
  .lit (.string ⟨#[109,97,120]⟩),.sl true 1 [.lit (.int .i64 0),.lit (.int .i64 0),.lit (.int .i64 0)],.lit (.bool true),.sl true 1 [.lit (.int .i64 1),.lit (.int .i64 2)],
  .lit (.string ⟨#[112,114,105,109]⟩),.sl true 1 [.lit (.int .i64 0)],.lit (.bool true),.lit (.slice none 0 0),
  .lit (.string ⟨#[108,111,97,100]⟩),.sl true 1 [.lit (.int .i64 0),.lit (.int .i64 0)],.lit (.bool true),.sl true 1 [.lit (.int .i64 1)],
  .lit (.string ⟨#[115,116,111,114,101]⟩),.sl true 1 [.lit (.int .i64 0),.lit (.int .i64 0)],.lit (.bool false),.sl true 1 [.lit (.int .i64 0),.lit (.int .i64 1)],
  .lit (.string ⟨#[109,105,115,115]⟩),.sl true 1 [.lit (.int .i64 0)],.lit (.bool true),.lit (.slice none 0 0),
  .lit (.string ⟨#[99,104,101,99,107]⟩),.sl true 1 [.lit (.int .i64 3),.lit (.int .i64 0)],.lit (.bool false),.sl true 1 [.lit (.int .i64 1)],
  .lit (.string ⟨#[102,111,114]⟩),.sl true 1 [.lit (.int .i64 0),.lit (.int .i64 0),.lit (.int .i64 0),.lit (.int .i64 4)],.lit (.bool true),.sl true 1 [.lit (.int .i64 1),.lit (.int .i64 2)],
  .lit (.string ⟨#[105,102]⟩),.sl true 1 [.lit (.int .i64 0)],.lit (.bool false),.sl true 1 [.lit (.int .i64 0)],
  .lit (.string ⟨#[101,108,115,101]⟩),.lit (.slice none 0 0),.lit (.bool false),.lit (.slice none 0 0),
  .lit (.string ⟨#[101,110,100]⟩),.lit (.slice none 0 0),.lit (.bool false),.lit (.slice none 0 0),
  .lit (.string ⟨#[119,114,97,112]⟩),.sl true 1 [.lit (.int .i64 0),.lit (.int .i64 0)],.lit (.bool true),.sl true 1 [.lit (.int .i64 1)],
  .lit (.string ⟨#[115,107,105,112]⟩),.lit (.slice none 0 0),.lit (.bool false),.lit (.slice none 0 0)]
noncomputable def V4:Env:=envJ (P:=Tryz.prog) jkV zer (fun _=>false) (fun _=>false) [] []
theorem V4_ok:EnvOk Tryz.prog V4:=envJOk zer_ok
set_option maxHeartbeats 8000000 in
theorem forms_pc:PC Tryz.prog 100 [] formsV:=by
  refine pcR V4_ok (kp100) Tryz.func100 [.cell 0 136] (h:=fun KF=>?_)
  unfold V4
  repeat' (first
   |(with_reducible first|refine nx ?_|refine t_seq fun K=>?_|refine t_br (fun hc=>?_) fun hc=>?_|refine t_bx ?_|apply And.intro|intro vr)
   |((with_reducible first|refine ny ?_|refine t_dwh (h:=fun K KL=>?_));intros;simp only [go_sem,kp100,geff]))
  all_goals try exact nd
  all_goals (refine nl ?_;simp only [go_sem])
  exact LeA.refl _
noncomputable def con100:PCon Tryz.prog where
  f:=100
  c:=fun
   |[]=>some (True,formsV)
   |_=>none
  ok:=by
   intro args p r hc hp
   split at hc
   ·cases hc;exact forms_pc
   ·cases hc
  fk:=fk100
theorem con100_f:con100.f=100:=rfl
theorem con100_c:con100.c []=some (True,formsV):=rfl
attribute [go_sem] con100_f con100_c
def kndL (c:Int):List Int:=
  if c=1 then [0,1]
  else if c=2 then [0,0,0,2]
  else if c=3 then [0,0,0]
  else if c=4 then [0,0,0]
  else if c=5 then [0]
  else if c=6 then [0,0]
  else if c=7 then [0,0]
  else if c=8 then [0]
  else if c=9 then [3,0]
  else if c=10 then [0,0,0,4]
  else if c=11 then [0]
  else if c=12 then []
  else if c=13 then []
  else if c=14 then [0,0]
  else if c=15 then []
  else []
def redL (c:Int):List Int:=
  if c=1 then []
  else if c=2 then [1,2]
  else if c=3 then [1,2]
  else if c=4 then [1,2]
  else if c=5 then []
  else if c=6 then [1]
  else if c=7 then [0,1]
  else if c=8 then []
  else if c=9 then [1]
  else if c=10 then [1,2]
  else if c=11 then [0]
  else if c=12 then []
  else if c=13 then []
  else if c=14 then [1]
  else if c=15 then []
  else []
def namL (c:Int):ByteArray:=
  if c=1 then ⟨#[99,111,110,115,116]⟩
  else if c=2 then ⟨#[97,100,100]⟩
  else if c=3 then ⟨#[109,105,110]⟩
  else if c=4 then ⟨#[109,97,120]⟩
  else if c=5 then ⟨#[112,114,105,109]⟩
  else if c=6 then ⟨#[108,111,97,100]⟩
  else if c=7 then ⟨#[115,116,111,114,101]⟩
  else if c=8 then ⟨#[109,105,115,115]⟩
  else if c=9 then ⟨#[99,104,101,99,107]⟩
  else if c=10 then ⟨#[102,111,114]⟩
  else if c=11 then ⟨#[105,102]⟩
  else if c=12 then ⟨#[101,108,115,101]⟩
  else if c=13 then ⟨#[101,110,100]⟩
  else if c=14 then ⟨#[119,114,97,112]⟩
  else if c=15 then ⟨#[115,107,105,112]⟩
  else ⟨#[]⟩
def kndS (x:Ins):List Int:=if x.code=5 then (match El.typesS x.prim with
  |some r=>0::List.replicate r.ps.length 0
  |none=>[0]) else kndL x.code
def redS (x:Ins):List Int:=if x.code=5 then (match El.typesS x.prim with
  |some r=>(List.range r.ps.length).map fun i:Nat=>(i:Int)+1
  |none=>[]) else redL x.code
def shpOk (x:Ins):Bool:=if x.code<1∨x.code>15 then false else if x.code=5 then (El.typesS x.prim).isSome else true
def shpV (x:Ins):AV:= .tup [.agg [.lit (.string (namL x.code)),.sl false 1 (ints .i64 (kndS x)),.lit (.bool (wrtB x.code)),.sl false 1 (ints .i64 (redS x))],.lit (.bool (shpOk x))]
end Go.Proofs.YtohiagaclfaolaaGreatDoor

namespace Go.Proofs.YtohiagaclfaolaaGreatDoor
open Go Go.Fw Bm
set_option maxRecDepth 20000
attribute [go_sem] formsV
theorem shpV_of {k a b c d:Int} {p:ByteArray} (h:k≠5):shpV ⟨k,p,a,b,c,d⟩= .tup [.agg [.lit (.string (namL k)),.sl false 1 (ints .i64 (kndL k)),.lit (.bool (wrtB k)),.sl false 1 (ints .i64 (redL k))],.lit (.bool (if k<1∨k>15 then false else true))]:=by
  simp only [shpV,kndS,redS,shpOk,if_neg h]
end Go.Proofs.YtohiagaclfaolaaGreatDoor

namespace Go.Proofs.YtohiagaclfaolaaGreatDoor
open Go Go.Fw Bm
set_option maxRecDepth 20000
def kA (j:Nat):List Int:=0::List.replicate j 0
def rB (j:Nat):List Int:=(List.range j).map fun i:Nat=>(i:Int)+1
theorem kA_length (j:Nat):(ints .i64 (kA j)).length=j+1:=by simp [kA,ints]
theorem rB_length (j:Nat):(ints .i64 (rB j)).length=j:=by simp [rB,ints]
theorem kA_app (j:Nat):ints .i64 (kA j)++[.lit (.int .i64 0)]=ints .i64 (kA (j+1)):=by
  rw [ints_append1,kA,kA,List.replicate_succ',List.cons_append]
theorem rB_app (j:Nat):ints .i64 (rB j)++[.lit (.int .i64 ((j:Int)+1))]=ints .i64 (rB (j+1)):=by
  rw [ints_append1,rB,rB,List.range_succ,List.map_append];rfl
theorem kndS_5 {a b c d:Int} {p:ByteArray}:kndS ⟨5,p,a,b,c,d⟩=match El.typesS p with
  |some r=>kA r.ps.length
  |none=>[0]:=rfl
theorem redS_5 {a b c d:Int} {p:ByteArray}:redS ⟨5,p,a,b,c,d⟩=match El.typesS p with
  |some r=>rB r.ps.length
  |none=>[]:=rfl
theorem shpV_5 {a b c d:Int} {p:ByteArray} {r:El.Rw} (h:El.typesS p=some r):shpV ⟨5,p,a,b,c,d⟩= .tup [.agg [.lit (.string ⟨#[112,114,105,109]⟩),.sl false 1 (ints .i64 (kA r.ps.length)),.lit (.bool true),.sl false 1 (ints .i64 (rB r.ps.length))],.lit (.bool true)]:=by
  simp only [shpV,kndS_5,redS_5,shpOk,h];rfl
theorem shpV_5n {a b c d:Int} {p:ByteArray} (h:El.typesS p=none):shpV ⟨5,p,a,b,c,d⟩= .tup [.agg [.lit (.string ⟨#[112,114,105,109]⟩),.sl false 1 [.lit (.int .i64 0)],.lit (.bool true),.sl false 1 []],.lit (.bool false)]:=by
  simp only [shpV,kndS_5,redS_5,shpOk,h];rfl
noncomputable def V6:Env:=envJ (P:=Tryz.prog) jkV zer (fun _=>false) (fun _=>false) [con100,El.con101] []
theorem V6_ok:EnvOk Tryz.prog V6:=envJOk zer_ok
set_option maxHeartbeats 8000000 in
theorem shape_pc {x:Ins}:PC Tryz.prog 76 [opV x] (shpV x):=by
  obtain ⟨k,p,a,b,c,d⟩:=x
  simp only [opV]
  rcases (show k<1∨k>15∨k=5∨k=1∨k=2∨k=3∨k=4∨k=6∨k=7∨k=8∨k=9∨k=10∨k=11∨k=12∨k=13∨k=14∨k=15 by omega) with h|h|rfl|rfl|rfl|rfl|rfl|rfl|rfl|rfl|rfl|rfl|rfl|rfl|rfl|rfl|rfl
  ·rw [shpV_of (by omega),if_pos (.inl h)]
   have g1:decide (k<1)=true:=decide_eq_true h
   have e1:kndL k=[]:=by unfold kndL;repeat (rw [if_neg (by omega)])
   have e2:redL k=[]:=by unfold redL;repeat (rw [if_neg (by omega)])
   have e3:namL k=ByteArray.empty:=by unfold namL;(repeat rw [if_neg (by omega)]);rfl
   have e4:wrtB k=false:=by simp only [wrtB];simp;omega
   rw [e1,e2,e3,e4]
   refine pcR V6_ok (kp76) Tryz.func76 [.cell 2 111,.tmp 3] (h:=fun KF=>?_)
   unfold V6
   repeat' (first
    |(with_reducible first|refine nx ?_|refine t_seq fun K=>?_|refine t_br (fun hc=>?_) fun hc=>?_|refine t_bx ?_|apply And.intro|intro vr)|exact kpd
    |((with_reducible refine t_drawG (id:=3) (fun i=>i==0) 4 [(1,1),(2,1),(0,1),(3,1),(4,3),(5,0)] (by kernel_rfl) (by kernel_rfl) (by kernel_rfl) fun K=>?_);simp only [noA,List.filter_cons,List.filter_nil,Nat.reduceBEq,Bool.not_false,Bool.not_true,reduceIte,if_true,Bool.false_eq_true];simp only [pickO,List.getElem?_toArray,List.getElem?_cons_zero,List.getElem?_cons_succ,Nat.reduceAdd,Nat.reduceSub,fo_some];refine nh ?_;intro KL;simp only [go_sem,kp76,geff,g1])
    |((with_reducible first|refine ny ?_|refine t_kLF ?_ ?_|refine t_drawX (id:=10) (fun i=>i==0) [(0,1),(2,1),(4,1),(6,1),(7,1),(8,1),(1,3),(5,3),(3,0),(10,1),(9,0),(11,0),(12,1),(13,0)] (by kernel_rfl) fun K=>?_|refine t_dwh (h:=fun K KL=>?_));intros;simp only [go_sem,kp76,geff,g1]))
   all_goals try exact nd
   all_goals (refine nl ?_;simp only [go_sem])
   exact LeA.tup ⟨LeA.agg ⟨LeA.refl _,LeA.slx rfl,LeA.refl _,LeA.slx rfl,trivial⟩,LeA.refl _,trivial⟩
  ·rw [shpV_of (by omega),if_pos (.inr h)]
   have g1:decide (k<1)=false:=decide_eq_false (by omega)
   have g2:decide (k>15)=true:=decide_eq_true h
   have e1:kndL k=[]:=by unfold kndL;repeat (rw [if_neg (by omega)])
   have e2:redL k=[]:=by unfold redL;repeat (rw [if_neg (by omega)])
   have e3:namL k=ByteArray.empty:=by unfold namL;(repeat rw [if_neg (by omega)]);rfl
   have e4:wrtB k=false:=by simp only [wrtB];simp;omega
   rw [e1,e2,e3,e4]
   refine pcR V6_ok (kp76) Tryz.func76 [.cell 2 111,.tmp 3] (h:=fun KF=>?_)
   unfold V6
   repeat' (first
    |(with_reducible first|refine nx ?_|refine t_seq fun K=>?_|refine t_br (fun hc=>?_) fun hc=>?_|refine t_bx ?_|apply And.intro|intro vr)|exact kpd
    |((with_reducible refine t_drawG (id:=3) (fun i=>i==0) 4 [(1,1),(2,1),(0,1),(3,1),(4,3),(5,0)] (by kernel_rfl) (by kernel_rfl) (by kernel_rfl) fun K=>?_);simp only [noA,List.filter_cons,List.filter_nil,Nat.reduceBEq,Bool.not_false,Bool.not_true,reduceIte,if_true,Bool.false_eq_true];simp only [pickO,List.getElem?_toArray,List.getElem?_cons_zero,List.getElem?_cons_succ,Nat.reduceAdd,Nat.reduceSub,fo_some];refine nh ?_;intro KL;simp only [go_sem,kp76,geff,g1,g2])
    |((with_reducible first|refine ny ?_|refine t_kLF ?_ ?_|refine t_drawX (id:=10) (fun i=>i==0) [(0,1),(2,1),(4,1),(6,1),(7,1),(8,1),(1,3),(5,3),(3,0),(10,1),(9,0),(11,0),(12,1),(13,0)] (by kernel_rfl) fun K=>?_|refine t_dwh (h:=fun K KL=>?_));intros;simp only [go_sem,kp76,geff,g1,g2]))
   all_goals try exact nd
   all_goals (refine nl ?_;simp only [go_sem])
   exact LeA.tup ⟨LeA.agg ⟨LeA.refl _,LeA.slx rfl,LeA.refl _,LeA.slx rfl,trivial⟩,LeA.refl _,trivial⟩
  ·cases hT:El.typesS p with
   |none=>
    rw [shpV_5n hT]
    refine pcR V6_ok (kp76) Tryz.func76 [.cell 2 111,.tmp 3] (h:=fun KF=>?_)
    unfold V6
    repeat' (first
     |(with_reducible first|refine nx ?_|refine t_seq fun K=>?_|refine t_br (fun hc=>?_) fun hc=>?_|refine t_bx ?_|apply And.intro|intro vr)|exact kpd
     |((with_reducible refine t_drawG (id:=3) (fun i=>i==0) 4 [(1,1),(2,1),(0,1),(3,1),(4,3),(5,0)] (by kernel_rfl) (by kernel_rfl) (by kernel_rfl) fun K=>?_);simp only [noA,List.filter_cons,List.filter_nil,Nat.reduceBEq,Bool.not_false,Bool.not_true,reduceIte,if_true,Bool.false_eq_true];simp only [pickO,List.getElem?_toArray,List.getElem?_cons_zero,List.getElem?_cons_succ,Nat.reduceAdd,Nat.reduceSub,fo_some];refine nh ?_;intro KL;simp only [go_sem,kp76,geff,hT,yes])
     |((with_reducible first|refine ny ?_|refine t_kLF ?_ ?_|refine t_drawX (id:=10) (fun i=>i==0) [(0,1),(2,1),(4,1),(6,1),(7,1),(8,1),(1,3),(5,3),(3,0),(10,1),(9,0),(11,0),(12,1),(13,0)] (by kernel_rfl) fun K=>?_|refine t_dwh (h:=fun K KL=>?_));intros;simp only [go_sem,kp76,geff,hT,yes]))
    all_goals try exact nd
    refine t_loopF (ι:=Unit) (fun i=>[(35,.lit (.int .i64 0))]) (fun i=>[.box 50 [.lit (.int .i64 5),.lit (.string p),.lit (.int .i64 a),.lit (.int .i64 b),.lit (.int .i64 c),.lit (.int .i64 d)],.box 111 [.lit (.string ByteArray.empty),.sl true 1 [],.lit (.bool false),.sl true 1 []],.box 111 [.lit (.string ⟨#[112,114,105,109]⟩),.sl true 1 [.lit (.int .i64 0)],.lit (.bool true),.lit (.slice none 0 0)]]) (fun i=>0) () ?_ ?_
    ·exact lf
    rintro ⟨⟩ K0
    repeat' (first
     |(with_reducible first|refine nx ?_|refine t_seq fun K=>?_|refine t_br (fun hc=>?_) fun hc=>?_|refine t_bx ?_|apply And.intro|intro vr)|exact kpd
     |((with_reducible refine t_drawG (id:=3) (fun i=>i==0) 4 [(1,1),(2,1),(0,1),(3,1),(4,3),(5,0)] (by kernel_rfl) (by kernel_rfl) (by kernel_rfl) fun K=>?_);simp only [noA,List.filter_cons,List.filter_nil,Nat.reduceBEq,Bool.not_false,Bool.not_true,reduceIte,if_true,Bool.false_eq_true];simp only [pickO,List.getElem?_toArray,List.getElem?_cons_zero,List.getElem?_cons_succ,Nat.reduceAdd,Nat.reduceSub,fo_some];refine nh ?_;intro KL;simp only [go_sem,kp76,geff,hT,yes])
     |((with_reducible first|refine ny ?_|refine t_kLF ?_ ?_|refine t_drawX (id:=10) (fun i=>i==0) [(0,1),(2,1),(4,1),(6,1),(7,1),(8,1),(1,3),(5,3),(3,0),(10,1),(9,0),(11,0),(12,1),(13,0)] (by kernel_rfl) fun K=>?_|refine t_dwh (h:=fun K KL=>?_));intros;simp only [go_sem,kp76,geff,hT,yes]))
    all_goals try exact nd
    all_goals (refine nl ?_;simp only [go_sem])
    exact LeA.tup ⟨LeA.agg ⟨LeA.refl _,LeA.slx rfl,LeA.refl _,LeA.nil _ _,trivial⟩,LeA.refl _,trivial⟩
   |some r=>
    rw [shpV_5 hT]
    have hl3:r.ps.length≤3:=by rcases typesS_len hT with h|h|h<;>omega
    generalize hn:r.ps.length=n at hl3
    have hs:(strs r.ps).length=n:=by rw [strs_length,hn]
    refine pcR V6_ok (kp76) Tryz.func76 [.cell 2 111,.tmp 3] (h:=fun KF=>?_)
    unfold V6
    repeat' (first
     |(with_reducible first|refine nx ?_|refine t_seq fun K=>?_|refine t_br (fun hc=>?_) fun hc=>?_|refine t_bx ?_|apply And.intro|intro vr)|exact kpd
     |((with_reducible refine t_drawG (id:=3) (fun i=>i==0) 4 [(1,1),(2,1),(0,1),(3,1),(4,3),(5,0)] (by kernel_rfl) (by kernel_rfl) (by kernel_rfl) fun K=>?_);simp only [noA,List.filter_cons,List.filter_nil,Nat.reduceBEq,Bool.not_false,Bool.not_true,reduceIte,if_true,Bool.false_eq_true];simp only [pickO,List.getElem?_toArray,List.getElem?_cons_zero,List.getElem?_cons_succ,Nat.reduceAdd,Nat.reduceSub,fo_some];refine nh ?_;intro KL;simp only [go_sem,kp76,geff,hT,hs,yes])
     |((with_reducible first|refine ny ?_|refine t_kLF ?_ ?_|refine t_drawX (id:=10) (fun i=>i==0) [(0,1),(2,1),(4,1),(6,1),(7,1),(8,1),(1,3),(5,3),(3,0),(10,1),(9,0),(11,0),(12,1),(13,0)] (by kernel_rfl) fun K=>?_|refine t_dwh (h:=fun K KL=>?_));intros;simp only [go_sem,kp76,geff,hT,hs,yes]))
    all_goals try exact nd
    refine t_loopF (ι:={i:Nat // i≤n}) (fun x=>[(35,.lit (.int .i64 x.1))]) (fun x=>match x.1 with
      |0=>[.box 50 [.lit (.int .i64 5),.lit (.string p),.lit (.int .i64 a),.lit (.int .i64 b),.lit (.int .i64 c),.lit (.int .i64 d)],.box 111 [.lit (.string ByteArray.empty),.sl true 1 [],.lit (.bool false),.sl true 1 []],.box 111 [.lit (.string ⟨#[112,114,105,109]⟩),.sl true 1 [.lit (.int .i64 0)],.lit (.bool true),.lit (.slice none 0 0)]]
      |j+1=>[.box 50 [.lit (.int .i64 5),.lit (.string p),.lit (.int .i64 a),.lit (.int .i64 b),.lit (.int .i64 c),.lit (.int .i64 d)],.box 111 [.lit (.string ByteArray.empty),.sl true 1 [],.lit (.bool false),.sl true 1 []],.box 111 [.lit (.string ⟨#[112,114,105,109]⟩),.arr 3 j,.lit (.bool true),.arr 4 j],
       .arr 3 1 (ints .i64 (kA (j+1))) j false,.arr 3 1 (ints .i64 (rB (j+1))) j false]) (fun x=>n - x.1) ⟨0,by omega⟩ ?_ ?_
    ·skip
     refine Le.frameS (by first|rfl|(simp only [go_sem];try rfl)) ?_
     repeat' (first|exact leF_top _|exact (fun _=>LeR.refl _)|(with_reducible refine leF_sl ?_ ?_)|(refine leF_upd ?_ ?_))
     all_goals (first|exact LeR.top _|exact LeR.refl _|(refine LeR.of_eq ?_;(try simp only [go_sem]);try rfl)|((try simp only [go_sem]);try rfl))
    rintro ⟨i,hi⟩ K0
    cases i with
    |zero=>
     rcases Nat.lt_or_ge 0 n with hc|hc
     ·have g3:decide (((0:Nat):Int)<(n:Int))=true:=decide_eq_true (by omega)
      repeat' (first
       |(with_reducible first|refine nx ?_|refine t_seq fun K=>?_|refine t_br (fun hc=>?_) fun hc=>?_|refine t_bx ?_|apply And.intro|intro vr)|exact kpd
       |((with_reducible refine t_drawG (id:=3) (fun i=>i==0) 4 [(1,1),(2,1),(0,1),(3,1),(4,3),(5,0)] (by kernel_rfl) (by kernel_rfl) (by kernel_rfl) fun K=>?_);simp only [noA,List.filter_cons,List.filter_nil,Nat.reduceBEq,Bool.not_false,Bool.not_true,reduceIte,if_true,Bool.false_eq_true];simp only [pickO,List.getElem?_toArray,List.getElem?_cons_zero,List.getElem?_cons_succ,Nat.reduceAdd,Nat.reduceSub,fo_some];refine nh ?_;intro KL;simp only [go_sem,kp76,geff,g3,yes])
       |((with_reducible first|refine ny ?_|refine t_kLF ?_ ?_|refine t_drawX (id:=10) (fun i=>i==0) [(0,1),(2,1),(4,1),(6,1),(7,1),(8,1),(1,3),(5,3),(3,0),(10,1),(9,0),(11,0),(12,1),(13,0)] (by kernel_rfl) fun K=>?_|refine t_dwh (h:=fun K KL=>?_));intros;simp only [go_sem,kp76,geff,g3,yes]))
      all_goals try exact nd
      exact ⟨⟨1,by omega⟩,wf,lf⟩
     ·have g3:decide (((0:Nat):Int)<(n:Int))=false:=decide_eq_false (by omega)
      have h0:n=0:=by omega
      subst h0
      repeat' (first
       |(with_reducible first|refine nx ?_|refine t_seq fun K=>?_|refine t_br (fun hc=>?_) fun hc=>?_|refine t_bx ?_|apply And.intro|intro vr)|exact kpd
       |((with_reducible refine t_drawG (id:=3) (fun i=>i==0) 4 [(1,1),(2,1),(0,1),(3,1),(4,3),(5,0)] (by kernel_rfl) (by kernel_rfl) (by kernel_rfl) fun K=>?_);simp only [noA,List.filter_cons,List.filter_nil,Nat.reduceBEq,Bool.not_false,Bool.not_true,reduceIte,if_true,Bool.false_eq_true];simp only [pickO,List.getElem?_toArray,List.getElem?_cons_zero,List.getElem?_cons_succ,Nat.reduceAdd,Nat.reduceSub,fo_some];refine nh ?_;intro KL;simp only [go_sem,kp76,geff,g3,yes])
       |((with_reducible first|refine ny ?_|refine t_kLF ?_ ?_|refine t_drawX (id:=10) (fun i=>i==0) [(0,1),(2,1),(4,1),(6,1),(7,1),(8,1),(1,3),(5,3),(3,0),(10,1),(9,0),(11,0),(12,1),(13,0)] (by kernel_rfl) fun K=>?_|refine t_dwh (h:=fun K KL=>?_));intros;simp only [go_sem,kp76,geff,g3,yes]))
      all_goals try exact nd
      all_goals (refine nl ?_;simp only [go_sem])
      exact LeA.tup ⟨LeA.agg ⟨LeA.refl _,LeA.slx rfl,LeA.refl _,LeA.nil _ _,trivial⟩,LeA.refl _,trivial⟩
    |succ j=>
     rcases Nat.lt_or_ge (j+1) n with hc|hc
     ·have g3:decide (((j+1:Nat):Int)<(n:Int))=true:=decide_eq_true (by omega)
      repeat' (first
       |(with_reducible first|refine nx ?_|refine t_seq fun K=>?_|refine t_br (fun hc=>?_) fun hc=>?_|refine t_bx ?_|apply And.intro|intro vr)|exact kpd
       |((with_reducible refine t_drawG (id:=3) (fun i=>i==0) 4 [(1,1),(2,1),(0,1),(3,1),(4,3),(5,0)] (by kernel_rfl) (by kernel_rfl) (by kernel_rfl) fun K=>?_);simp only [noA,List.filter_cons,List.filter_nil,Nat.reduceBEq,Bool.not_false,Bool.not_true,reduceIte,if_true,Bool.false_eq_true];simp only [pickO,List.getElem?_toArray,List.getElem?_cons_zero,List.getElem?_cons_succ,Nat.reduceAdd,Nat.reduceSub,fo_some];refine nh ?_;intro KL;simp only [go_sem,kp76,geff,g3,yes,kA_app,rB_app,kA_length,rB_length])
       |((with_reducible first|refine ny ?_|refine t_kLF ?_ ?_|refine t_drawX (id:=10) (fun i=>i==0) [(0,1),(2,1),(4,1),(6,1),(7,1),(8,1),(1,3),(5,3),(3,0),(10,1),(9,0),(11,0),(12,1),(13,0)] (by kernel_rfl) fun K=>?_|refine t_dwh (h:=fun K KL=>?_));intros;simp only [go_sem,kp76,geff,g3,yes,kA_app,rB_app,kA_length,rB_length]))
      all_goals try exact nd
      exact ⟨⟨j+2,by omega⟩,wf,lf⟩
     ·have g3:decide (((j+1:Nat):Int)<(n:Int))=false:=decide_eq_false (by omega)
      have h0:n=j+1:=by omega
      subst h0
      repeat' (first
       |(with_reducible first|refine nx ?_|refine t_seq fun K=>?_|refine t_br (fun hc=>?_) fun hc=>?_|refine t_bx ?_|apply And.intro|intro vr)|exact kpd
       |((with_reducible refine t_drawG (id:=3) (fun i=>i==0) 4 [(1,1),(2,1),(0,1),(3,1),(4,3),(5,0)] (by kernel_rfl) (by kernel_rfl) (by kernel_rfl) fun K=>?_);simp only [noA,List.filter_cons,List.filter_nil,Nat.reduceBEq,Bool.not_false,Bool.not_true,reduceIte,if_true,Bool.false_eq_true];simp only [pickO,List.getElem?_toArray,List.getElem?_cons_zero,List.getElem?_cons_succ,Nat.reduceAdd,Nat.reduceSub,fo_some];refine nh ?_;intro KL;simp only [go_sem,kp76,geff,g3,yes])
       |((with_reducible first|refine ny ?_|refine t_kLF ?_ ?_|refine t_drawX (id:=10) (fun i=>i==0) [(0,1),(2,1),(4,1),(6,1),(7,1),(8,1),(1,3),(5,3),(3,0),(10,1),(9,0),(11,0),(12,1),(13,0)] (by kernel_rfl) fun K=>?_|refine t_dwh (h:=fun K KL=>?_));intros;simp only [go_sem,kp76,geff,g3,yes]))
      all_goals try exact nd
      all_goals (refine nl ?_;simp only [go_sem])
      exact LeA.refl _
  all_goals
    rw [shpV_of (by decide),if_neg (by decide)]
    refine pcR V6_ok (kp76) Tryz.func76 [.cell 2 111,.tmp 3] (h:=fun KF=>?_)
    unfold V6
    repeat' (first
     |(with_reducible first|refine nx ?_|refine t_seq fun K=>?_|refine t_br (fun hc=>?_) fun hc=>?_|refine t_bx ?_|apply And.intro|intro vr)|exact kpd
     |((with_reducible refine t_drawG (id:=3) (fun i=>i==0) 4 [(1,1),(2,1),(0,1),(3,1),(4,3),(5,0)] (by kernel_rfl) (by kernel_rfl) (by kernel_rfl) fun K=>?_);simp only [noA,List.filter_cons,List.filter_nil,Nat.reduceBEq,Bool.not_false,Bool.not_true,reduceIte,if_true,Bool.false_eq_true];simp only [pickO,List.getElem?_toArray,List.getElem?_cons_zero,List.getElem?_cons_succ,Nat.reduceAdd,Nat.reduceSub,fo_some];refine nh ?_;intro KL;simp only [go_sem,kp76,geff,yes])
     |((with_reducible first|refine ny ?_|refine t_kLF ?_ ?_|refine t_drawX (id:=10) (fun i=>i==0) [(0,1),(2,1),(4,1),(6,1),(7,1),(8,1),(1,3),(5,3),(3,0),(10,1),(9,0),(11,0),(12,1),(13,0)] (by kernel_rfl) fun K=>?_|refine t_dwh (h:=fun K KL=>?_));intros;simp only [go_sem,kp76,geff,yes]))
    all_goals try exact nd
    all_goals (refine nl ?_;simp only [go_sem])
    exact LeA.tup ⟨LeA.agg ⟨LeA.refl _,(by first|exact LeA.slx rfl|exact LeA.nil _ _),LeA.refl _,(by first|exact LeA.slx rfl|exact LeA.nil _ _),trivial⟩,LeA.refl _,trivial⟩
noncomputable def con76:PCon Tryz.prog where
  f:=76
  c:=fun
   |[xx]=>match opOf xx with|some x=>some (True,shpV x)|_=>none
   |_=>none
  ok:=by
   intro args p r hc hp
   split at hc
   ·split at hc
    ·rename_i hx
     cases hc
     exact PC.weak shape_pc ⟨opOf_le hx,trivial⟩
    ·cases hc
   ·cases hc
  fk:=fk76
theorem con76_f:con76.f=76:=rfl
theorem con76_c {xx:AV}:con76.c [xx]=match opOf xx with|some x=>some (True,shpV x)|_=>none:=rfl
attribute [go_sem] con76_f con76_c
end Go.Proofs.YtohiagaclfaolaaGreatDoor

namespace Go.Proofs.YtohiagaclfaolaaGreatDoor
open Go Go.Fw Bm
set_option maxRecDepth 20000
def opk (l:List Int) (regs:Int) (i:Nat) (n:Int):Bool:=if i<l.length then kindOk (l.getD i 0) n regs else decide (n=0)
def rightK (x:Ins) (regs:Int):Bool:=(shpOk x&&(decide (x.code=5)||decide (x.prim.data.toList=[])))&&(opk (kndS x) regs 0 x.a&&opk (kndS x) regs 1 x.b&&opk (kndS x) regs 2 x.c&&opk (kndS x) regs 3 x.d)
theorem right_knd (x:Ins) (regs:Int):rightS x regs=rightK x regs:=by
  obtain ⟨k,p,a,b,c,d⟩:=x
  rcases (show k<1∨k>15∨k=5∨k=1∨k=2∨k=3∨k=4∨k=6∨k=7∨k=8∨k=9∨k=10∨k=11∨k=12∨k=13∨k=14∨k=15 by omega) with h|h|rfl|rfl|rfl|rfl|rfl|rfl|rfl|rfl|rfl|rfl|rfl|rfl|rfl|rfl|rfl
  ·have e1:formS ⟨k,p,a,b,c,d⟩=none:=by unfold formS;simp only;repeat rw [if_neg (by omega)]
   simp [rightS,rightK,e1,shpOk,h]
  ·have e1:formS ⟨k,p,a,b,c,d⟩=none:=by unfold formS;simp only;repeat rw [if_neg (by omega)]
   simp [rightS,rightK,e1,shpOk,h]
  ·cases hT:El.typesS p with
   |none=>
    have e1:formS ⟨5,p,a,b,c,d⟩=none:=by simp [formS,hT]
    simp [rightS,rightK,e1,shpOk,hT]
   |some r=>
    have e1:formS ⟨5,p,a,b,c,d⟩=some (List.replicate (1+r.ps.length) true):=by simp [formS,hT]
    have e2:kndS ⟨5,p,a,b,c,d⟩=kA r.ps.length:=by rw [kndS_5,hT]
    rcases typesS_len hT with h|h|h<;>rw [h] at e1 e2<;>rw [Bool.eq_iff_iff]<;>simp [rightS,rightK,e1,e2,shpOk,hT,oprOk,opk,kA,kindOk,restOk]
  all_goals (rw [Bool.eq_iff_iff];simp [rightS,formS,rightK,shpOk,oprOk,opk,kndS,kndL,kindOk,restOk])
  all_goals
    constructor
    ·rintro ⟨⟨h,h1⟩,h2⟩;exact ⟨h,by omega⟩
    ·rintro ⟨h,h1⟩;exact ⟨⟨h,by omega⟩,by omega⟩
noncomputable def V7:Env:=envJ (P:=Tryz.prog) jkV zer (fun _=>false) (fun _=>false) [con76,con77,con78] []
theorem V7_ok:EnvOk Tryz.prog V7:=envJOk zer_ok
set_option maxHeartbeats 8000000 in
theorem right_pc {x:Ins} {regs:Int}:PC Tryz.prog 45 [opV x,.lit (.int .i64 regs)] (.lit (.bool (rightS x regs))):=by
  obtain ⟨k,p,a,b,c,d⟩:=x
  rw [right_knd]
  simp only [opV]
  generalize hR:rightK ⟨k,p,a,b,c,d⟩ regs=R
  have hS:shpV ⟨k,p,a,b,c,d⟩= .tup [.agg [.lit (.string (namL k)),.sl false 1 (ints .i64 (kndS ⟨k,p,a,b,c,d⟩)),.lit (.bool (wrtB k)),.sl false 1 (ints .i64 (redS ⟨k,p,a,b,c,d⟩))],.lit (.bool (shpOk ⟨k,p,a,b,c,d⟩))]:=rfl
  simp only [rightK] at hR
  generalize kndS ⟨k,p,a,b,c,d⟩=L at hR hS
  generalize redS ⟨k,p,a,b,c,d⟩=M at hS
  generalize shpOk ⟨k,p,a,b,c,d⟩=ok at hR hS
  have hRR:=hR.symm
  have hLl:(ints .i64 L).length=L.length:=ints_length _ _
  cases ok with
  |false=>
   refine pcR V7_ok (kp45) Tryz.func45 [.tmp 4] (h:=fun KF=>?_)
   unfold V7
   repeat' (first
    |(with_reducible first|refine nx ?_|refine t_seq fun K=>?_|refine t_br (fun hc=>?_) fun hc=>?_|refine t_bx ?_|apply And.intro|intro vr)
    |((with_reducible first|refine ny ?_|refine t_dwh (h:=fun K KL=>?_));intros;simp only [go_sem,kp45,geff,hS,Bool.not_false]))
   all_goals try exact nd
   all_goals (refine nl ?_;simp only [go_sem])
   exact LeA.of_eq (by rw [hRR];simp)
  |true=>
   refine pcR V7_ok (kp45) Tryz.func45 [.tmp 4] (h:=fun KF=>?_)
   unfold V7
   repeat' (first
    |(with_reducible first|refine nx ?_|refine t_seq fun K=>?_|refine t_br (fun hc=>?_) fun hc=>?_|refine t_bx ?_|apply And.intro|intro vr)
    |((with_reducible first|refine ny ?_|refine t_dwh (h:=fun K KL=>?_));intros;simp only [go_sem,kp45,geff,hS,Bool.not_true]))
   all_goals try exact nd
   ·skip
    all_goals (refine nl ?_;simp only [go_sem])
    refine LeA.of_eq ?_
    rw [hRR]
    simp_all [eqS]
   have hpk:(decide (k=5)||decide (p.data.toList=[]))=true:=by
     have h1:=hc
     simp only [eqS,Bool.and_eq_false_iff,bne_eq_false_iff_eq,Bool.not_eq_false',beq_iff_eq] at h1
     rcases h1 with h1|h1
     ·simp [h1]
     ·rw [h1];simp
   refine t_loopF (ι:={i:Nat // i≤4∧∀ j,j<i→opk L regs j ([a,b,c,d].getD j 0)=true}) (fun i=>[(28,.lit (.int .i64 i.1))]) (fun i=>[.box 50 [.lit (.int .i64 k),.lit (.string p),.lit (.int .i64 a),.lit (.int .i64 b),.lit (.int .i64 c),.lit (.int .i64 d)],.box 111 [.lit (.string (namL k)),.sl false 1 (ints .i64 L),.lit (.bool (wrtB k)),.sl false 1 (ints .i64 M)]]) (fun i=>4 - i.1) ⟨0,by omega,by omega⟩ ?_ ?_
   ·exact lf
   rintro ⟨i,hi,hP⟩ K0
   rcases (show i=0∨i=1∨i=2∨i=3∨i=4 by omega) with rfl|rfl|rfl|rfl|rfl
   ·have h0:((((0:Nat):Int)):Int)=0:=rfl
    rcases Nat.lt_or_ge 0 L.length with hlt|hlt
    ·have g1:decide ((0:Int)<(L.length:Int))=true:=decide_eq_true (by omega)
     have g2:decide ((0:Int)≥(L.length:Int))=false:=decide_eq_false (by omega)
     cases hq:kindOk (L.getD 0 0) a regs with
     |true=>
      have hok:opk L regs 0 ([a,b,c,d].getD 0 0)=true:=by unfold opk;rw [if_pos hlt];exact hq
      repeat' (first
       |(with_reducible first|refine nx ?_|refine t_seq fun K=>?_|refine t_br (fun hc=>?_) fun hc=>?_|refine t_bx ?_|apply And.intro|intro vr)
       |((with_reducible first|refine ny ?_|refine t_dwh (h:=fun K KL=>?_));intros;simp only [go_sem,kp45,geff,h0,g1,g2,hq,yes]))
      all_goals try exact nd
      exact ⟨⟨0+1,by omega,stepP hP hok⟩,wf,lf⟩
     |false=>
      have hno:opk L regs 0 a=false:=by unfold opk;rw [if_pos hlt];exact hq
      repeat' (first
       |(with_reducible first|refine nx ?_|refine t_seq fun K=>?_|refine t_br (fun hc=>?_) fun hc=>?_|refine t_bx ?_|apply And.intro|intro vr)
       |((with_reducible first|refine ny ?_|refine t_dwh (h:=fun K KL=>?_));intros;simp only [go_sem,kp45,geff,h0,g1,g2,hq,yes]))
      all_goals try exact nd
      all_goals (refine nl ?_;simp only [go_sem])
      exact LeA.of_eq (by rw [hRR,hno];simp)
    ·have g1:decide ((0:Int)<(L.length:Int))=false:=decide_eq_false (by omega)
     have g2:decide ((0:Int)≥(L.length:Int))=true:=decide_eq_true (by omega)
     have hq:opk L regs 0 a=decide (a=0):=by unfold opk;rw [if_neg (by omega)]
     repeat' (first
      |(with_reducible first|refine nx ?_|refine t_seq fun K=>?_|refine t_br (fun hc=>?_) fun hc=>?_|refine t_bx ?_|apply And.intro|intro vr)
      |((with_reducible first|refine ny ?_|refine t_dwh (h:=fun K KL=>?_));intros;simp only [go_sem,kp45,geff,h0,g1,g2,yes]))
     all_goals try exact nd
     ·skip
      all_goals (refine nl ?_;simp only [go_sem])
      have hno:opk L regs 0 a=false:=by rw [hq];exact decide_eq_false (by simpa using hc)
      exact LeA.of_eq (by rw [hRR,hno];simp)
     ·have hok:opk L regs 0 ([a,b,c,d].getD 0 0)=true:=by
        show opk L regs 0 a=true
        rw [hq];exact decide_eq_true (by simpa using hc)
      exact ⟨⟨0+1,by omega,stepP hP hok⟩,wf,lf⟩
   ·have h0:((((1:Nat):Int)):Int)=1:=rfl
    rcases Nat.lt_or_ge 1 L.length with hlt|hlt
    ·have g1:decide ((1:Int)<(L.length:Int))=true:=decide_eq_true (by omega)
     have g2:decide ((1:Int)≥(L.length:Int))=false:=decide_eq_false (by omega)
     cases hq:kindOk (L.getD 1 0) b regs with
     |true=>
      have hok:opk L regs 1 ([a,b,c,d].getD 1 0)=true:=by unfold opk;rw [if_pos hlt];exact hq
      repeat' (first
       |(with_reducible first|refine nx ?_|refine t_seq fun K=>?_|refine t_br (fun hc=>?_) fun hc=>?_|refine t_bx ?_|apply And.intro|intro vr)
       |((with_reducible first|refine ny ?_|refine t_dwh (h:=fun K KL=>?_));intros;simp only [go_sem,kp45,geff,h0,g1,g2,hq,yes]))
      all_goals try exact nd
      exact ⟨⟨1+1,by omega,stepP hP hok⟩,wf,lf⟩
     |false=>
      have hno:opk L regs 1 b=false:=by unfold opk;rw [if_pos hlt];exact hq
      repeat' (first
       |(with_reducible first|refine nx ?_|refine t_seq fun K=>?_|refine t_br (fun hc=>?_) fun hc=>?_|refine t_bx ?_|apply And.intro|intro vr)
       |((with_reducible first|refine ny ?_|refine t_dwh (h:=fun K KL=>?_));intros;simp only [go_sem,kp45,geff,h0,g1,g2,hq,yes]))
      all_goals try exact nd
      all_goals (refine nl ?_;simp only [go_sem])
      exact LeA.of_eq (by rw [hRR,hno];simp)
    ·have g1:decide ((1:Int)<(L.length:Int))=false:=decide_eq_false (by omega)
     have g2:decide ((1:Int)≥(L.length:Int))=true:=decide_eq_true (by omega)
     have hq:opk L regs 1 b=decide (b=0):=by unfold opk;rw [if_neg (by omega)]
     repeat' (first
      |(with_reducible first|refine nx ?_|refine t_seq fun K=>?_|refine t_br (fun hc=>?_) fun hc=>?_|refine t_bx ?_|apply And.intro|intro vr)
      |((with_reducible first|refine ny ?_|refine t_dwh (h:=fun K KL=>?_));intros;simp only [go_sem,kp45,geff,h0,g1,g2,yes]))
     all_goals try exact nd
     ·skip
      all_goals (refine nl ?_;simp only [go_sem])
      have hno:opk L regs 1 b=false:=by rw [hq];exact decide_eq_false (by simpa using hc)
      exact LeA.of_eq (by rw [hRR,hno];simp)
     ·have hok:opk L regs 1 ([a,b,c,d].getD 1 0)=true:=by
        show opk L regs 1 b=true
        rw [hq];exact decide_eq_true (by simpa using hc)
      exact ⟨⟨1+1,by omega,stepP hP hok⟩,wf,lf⟩
   ·have h0:((((2:Nat):Int)):Int)=2:=rfl
    rcases Nat.lt_or_ge 2 L.length with hlt|hlt
    ·have g1:decide ((2:Int)<(L.length:Int))=true:=decide_eq_true (by omega)
     have g2:decide ((2:Int)≥(L.length:Int))=false:=decide_eq_false (by omega)
     cases hq:kindOk (L.getD 2 0) c regs with
     |true=>
      have hok:opk L regs 2 ([a,b,c,d].getD 2 0)=true:=by unfold opk;rw [if_pos hlt];exact hq
      repeat' (first
       |(with_reducible first|refine nx ?_|refine t_seq fun K=>?_|refine t_br (fun hc=>?_) fun hc=>?_|refine t_bx ?_|apply And.intro|intro vr)
       |((with_reducible first|refine ny ?_|refine t_dwh (h:=fun K KL=>?_));intros;simp only [go_sem,kp45,geff,h0,g1,g2,hq,yes]))
      all_goals try exact nd
      exact ⟨⟨2+1,by omega,stepP hP hok⟩,wf,lf⟩
     |false=>
      have hno:opk L regs 2 c=false:=by unfold opk;rw [if_pos hlt];exact hq
      repeat' (first
       |(with_reducible first|refine nx ?_|refine t_seq fun K=>?_|refine t_br (fun hc=>?_) fun hc=>?_|refine t_bx ?_|apply And.intro|intro vr)
       |((with_reducible first|refine ny ?_|refine t_dwh (h:=fun K KL=>?_));intros;simp only [go_sem,kp45,geff,h0,g1,g2,hq,yes]))
      all_goals try exact nd
      all_goals (refine nl ?_;simp only [go_sem])
      exact LeA.of_eq (by rw [hRR,hno];simp)
    ·have g1:decide ((2:Int)<(L.length:Int))=false:=decide_eq_false (by omega)
     have g2:decide ((2:Int)≥(L.length:Int))=true:=decide_eq_true (by omega)
     have hq:opk L regs 2 c=decide (c=0):=by unfold opk;rw [if_neg (by omega)]
     repeat' (first
      |(with_reducible first|refine nx ?_|refine t_seq fun K=>?_|refine t_br (fun hc=>?_) fun hc=>?_|refine t_bx ?_|apply And.intro|intro vr)
      |((with_reducible first|refine ny ?_|refine t_dwh (h:=fun K KL=>?_));intros;simp only [go_sem,kp45,geff,h0,g1,g2,yes]))
     all_goals try exact nd
     ·skip
      all_goals (refine nl ?_;simp only [go_sem])
      have hno:opk L regs 2 c=false:=by rw [hq];exact decide_eq_false (by simpa using hc)
      exact LeA.of_eq (by rw [hRR,hno];simp)
     ·have hok:opk L regs 2 ([a,b,c,d].getD 2 0)=true:=by
        show opk L regs 2 c=true
        rw [hq];exact decide_eq_true (by simpa using hc)
      exact ⟨⟨2+1,by omega,stepP hP hok⟩,wf,lf⟩
   ·have h0:((((3:Nat):Int)):Int)=3:=rfl
    rcases Nat.lt_or_ge 3 L.length with hlt|hlt
    ·have g1:decide ((3:Int)<(L.length:Int))=true:=decide_eq_true (by omega)
     have g2:decide ((3:Int)≥(L.length:Int))=false:=decide_eq_false (by omega)
     cases hq:kindOk (L.getD 3 0) d regs with
     |true=>
      have hok:opk L regs 3 ([a,b,c,d].getD 3 0)=true:=by unfold opk;rw [if_pos hlt];exact hq
      repeat' (first
       |(with_reducible first|refine nx ?_|refine t_seq fun K=>?_|refine t_br (fun hc=>?_) fun hc=>?_|refine t_bx ?_|apply And.intro|intro vr)
       |((with_reducible first|refine ny ?_|refine t_dwh (h:=fun K KL=>?_));intros;simp only [go_sem,kp45,geff,h0,g1,g2,hq,yes]))
      all_goals try exact nd
      exact ⟨⟨3+1,by omega,stepP hP hok⟩,wf,lf⟩
     |false=>
      have hno:opk L regs 3 d=false:=by unfold opk;rw [if_pos hlt];exact hq
      repeat' (first
       |(with_reducible first|refine nx ?_|refine t_seq fun K=>?_|refine t_br (fun hc=>?_) fun hc=>?_|refine t_bx ?_|apply And.intro|intro vr)
       |((with_reducible first|refine ny ?_|refine t_dwh (h:=fun K KL=>?_));intros;simp only [go_sem,kp45,geff,h0,g1,g2,hq,yes]))
      all_goals try exact nd
      all_goals (refine nl ?_;simp only [go_sem])
      exact LeA.of_eq (by rw [hRR,hno];simp)
    ·have g1:decide ((3:Int)<(L.length:Int))=false:=decide_eq_false (by omega)
     have g2:decide ((3:Int)≥(L.length:Int))=true:=decide_eq_true (by omega)
     have hq:opk L regs 3 d=decide (d=0):=by unfold opk;rw [if_neg (by omega)]
     repeat' (first
      |(with_reducible first|refine nx ?_|refine t_seq fun K=>?_|refine t_br (fun hc=>?_) fun hc=>?_|refine t_bx ?_|apply And.intro|intro vr)
      |((with_reducible first|refine ny ?_|refine t_dwh (h:=fun K KL=>?_));intros;simp only [go_sem,kp45,geff,h0,g1,g2,yes]))
     all_goals try exact nd
     ·skip
      all_goals (refine nl ?_;simp only [go_sem])
      have hno:opk L regs 3 d=false:=by rw [hq];exact decide_eq_false (by simpa using hc)
      exact LeA.of_eq (by rw [hRR,hno];simp)
     ·have hok:opk L regs 3 ([a,b,c,d].getD 3 0)=true:=by
        show opk L regs 3 d=true
        rw [hq];exact decide_eq_true (by simpa using hc)
      exact ⟨⟨3+1,by omega,stepP hP hok⟩,wf,lf⟩
   ·have hR4:R=true:=by
      rw [hRR,show opk L regs 0 a=true from hP 0 (by omega),show opk L regs 1 b=true from hP 1 (by omega),show opk L regs 2 c=true from hP 2 (by omega),show opk L regs 3 d=true from hP 3 (by omega),hpk]
      rfl
    have h0:((((4:Nat):Int)):Int)=4:=rfl
    repeat' (first
     |(with_reducible first|refine nx ?_|refine t_seq fun K=>?_|refine t_br (fun hc=>?_) fun hc=>?_|refine t_bx ?_|apply And.intro|intro vr)
     |((with_reducible first|refine ny ?_|refine t_dwh (h:=fun K KL=>?_));intros;simp only [go_sem,kp45,geff,h0]))
    all_goals try exact nd
    all_goals (refine nl ?_;simp only [go_sem])
    exact LeA.of_eq (by rw [hR4])
noncomputable def con45:PCon Tryz.prog where
  f:=45
  c:=fun
   |[xx,.lit (.int .i64 r)]=>match opOf xx with|some x=>some (True,.lit (.bool (rightS x r)))|_=>none
   |_=>none
  ok:=by
   intro args p r hc hp
   split at hc
   ·split at hc
    ·rename_i hx
     cases hc
     exact PC.weak right_pc ⟨opOf_le hx,LeA.refl _,trivial⟩
    ·cases hc
   ·cases hc
  fk:=fk45
theorem con45_f:con45.f=45:=rfl
theorem con45_c {xx:AV} {r:Int}:con45.c [xx,.lit (.int .i64 r)]=match opOf xx with|some x=>some (True,.lit (.bool (rightS x r)))|_=>none:=rfl
attribute [go_sem] con45_f con45_c
end Go.Proofs.YtohiagaclfaolaaGreatDoor

namespace Go.Proofs.YtohiagaclfaolaaGreatDoor
open Go Go.Fw Bm
set_option maxRecDepth 20000
end Go.Proofs.YtohiagaclfaolaaGreatDoor

namespace Go.Proofs.YtohiagaclfaolaaGreatDoor
open Go Go.Fw Bm
set_option maxRecDepth 20000
theorem opV_mk {k a b c d:Int} {p:ByteArray}:opV ⟨k,p,a,b,c,d⟩= .agg [.lit (.int .i64 k),.lit (.string p),.lit (.int .i64 a),.lit (.int .i64 b),.lit (.int .i64 c),.lit (.int .i64 d)]:=rfl
attribute [go_sem] opV_mk
def stI (st:List Nat):List Int:=st.reverse.map fun n:Nat=>(n:Int)
theorem stI_cons (j:Nat) (st:List Nat):stI (j::st)=stI st++[(j:Int)]:=by simp [stI]
theorem stI_length (st:List Nat):(stI st).length=st.length:=by simp [stI]
def matchV (ops:List Ins):AV:=match matchS ops with
  |some mt=> .tup [.sl false 1 (ints .i64 mt),.lit (.bool true)]
  |none=> .tup [.sl false 1 [],.lit (.bool false)]
def mtV (r:Option (List Int)):AV:=match r with
  |some mt=> .tup [.sl false 1 (ints .i64 mt),.lit (.bool true)]
  |none=> .tup [.sl false 1 [],.lit (.bool false)]
theorem drop_getI {l:List Ins} {i:Nat} (h:i<l.length):l.drop i=l.getD i nilI::l.drop (i+1):=by
  rw [List.drop_eq_getElem_cons h,List.getD_eq_getElem?_getD,List.getElem?_eq_getElem h];rfl
theorem mt_none {r:Option (List Int)} (h:r=none):LeA (.tup [.lit (.slice none 0 0),.lit (.bool false)]) (mtV r):=by
  subst h;exact LeA.tup ⟨LeA.nil _ _,LeA.refl _,trivial⟩
theorem mt_some {r:Option (List Int)} {l:List Int} (h:r=some l):LeA (.tup [.sl false 1 (ints .i64 l),.lit (.bool true)]) (mtV r):=by
  subst h;exact LeA.refl _
theorem stP {i:Nat} {st:List Nat} (hs:∀ j∈st,j<i):∀ j∈i::st,j<i+1:=fun j hj=>(List.mem_cons.1 hj).elim (fun h=>by omega) (fun h=>by have:=hs j h;omega)
theorem stQ {i j:Nat} {st:List Nat} (hs:∀ k∈j::st,k<i):∀ k∈st,k<i:=fun k hk=>hs k (List.mem_cons_of_mem _ hk)
theorem stW {i:Nat} {st:List Nat} (hs:∀ j∈st,j<i):∀ j∈st,j<i+1:=fun j hj=>by have:=hs j hj;omega
theorem stI_last (j:Nat) (st:List Nat):(stI (j::st)).getD st.length 0=(j:Int):=by
  rw [stI_cons,getD_app_right _ _ _ (by rw [stI_length];exact Nat.le_refl _),stI_length,Nat.sub_self];rfl
theorem stI_take (j:Nat) (st:List Nat):(ints .i64 (stI (j::st))).take st.length=ints .i64 (stI st):=by
  rw [stI_cons]
  simp only [ints,List.map_append]
  rw [List.take_append_of_le_length (by simp [stI_length]),List.take_of_length_le (by simp [stI_length])]
theorem stI_tk (j:Nat) (st:List Nat):(stI (j::st)).take (0+st.length)=stI st:=by
  rw [Nat.zero_add,stI_cons,List.take_append_of_le_length (by simp [stI_length]),List.take_of_length_le (by simp [stI_length])]
theorem stI_n0:((stI []).length:Int) - 1= -1:=rfl
theorem stI_n1 (j:Nat) (st:List Nat):((stI (j::st)).length:Int) - 1=(st.length:Int):=by rw [stI_length,List.length_cons];omega
noncomputable def V9:Env:=envJ (P:=Tryz.prog) jkV zer (fun _=>false) (fun _=>false) [] []
theorem V9_ok:EnvOk Tryz.prog V9:=envJOk zer_ok
structure Mt (ops:List Ins) (R:Option (List Int)) where
  i:Nat
  u:Nat
  v:Nat
  out:List Int
  st:List Nat
  hi:i≤ops.length
  ho:out.length=i
  hs:∀ j∈st,j<i
  h4:st.length≤40
  hF:matchG ops (ops.drop i) i out st=R
set_option maxHeartbeats 8000000 in
theorem match_pc {ops:List Ins} (hl:ops.length≤1000000):PC Tryz.prog 22 [.sl false 6 (opsV ops)] (matchV ops):=by
  show PC _ _ _ (mtV (matchS ops))
  generalize hR:matchS ops=R
  unfold matchS at hR
  by_cases hn:ops.length>5000
  ·rw [if_pos hn] at hR
   have g1:decide ((ops.length:Int)>5000)=true:=decide_eq_true (by omega)
   refine pcR V9_ok (kp22) Tryz.func22 [.tmp 2,.tmp 3] (h:=fun KF=>?_)
   unfold V9
   repeat' (first
    |(with_reducible first|refine nx ?_|refine t_seq fun K=>?_|refine t_br (fun hc=>?_) fun hc=>?_|refine t_bx ?_|apply And.intro|intro vr)
    |((with_reducible first|refine ny ?_|refine t_dwh (h:=fun K KL=>?_));intros;simp only [go_sem,kp22,geff,g1]))
   all_goals try exact nd
   all_goals (refine nl ?_;simp only [go_sem])
   exact mt_none hR.symm
  ·rw [if_neg hn] at hR
   have g1:decide ((ops.length:Int)>5000)=false:=decide_eq_false (by omega)
   refine pcR V9_ok (kp22) Tryz.func22 [.tmp 2,.tmp 3] (h:=fun KF=>?_)
   unfold V9
   repeat' (first
    |(with_reducible first|refine nx ?_|refine t_seq fun K=>?_|refine t_br (fun hc=>?_) fun hc=>?_|refine t_bx ?_|apply And.intro|intro vr)
    |((with_reducible first|refine ny ?_|refine t_dwh (h:=fun K KL=>?_));intros;simp only [go_sem,kp22,geff,g1]))
   all_goals try exact nd
   refine t_loopF (ι:=Mt ops R) (fun i=>[(14,.lit (.int .i64 i.i)),(4,.arr 0 i.u),(5,.arr 1 i.v)]) (fun i=>[.arr 3 1 (ints .i64 i.out) i.u false,.arr 3 1 (ints .i64 (stI i.st)) i.v false]) (fun i=>ops.length - i.i) ⟨0,0,0,[],[],by omega,rfl,by simp,by simp,by simpa using hR⟩ ?_ ?_
   ·refine (le_nil 4 3 1 rfl).trans ?_
    refine (le_nil 5 3 1 rfl).trans ?_
    exact lf
   rintro ⟨i,u,v,out,st,hi,ho,hs,h4,hF⟩ K0
   have hol:(ints .i64 out).length=i:=by rw [ints_length,ho]
   have hsl:(ints .i64 (stI st)).length=st.length:=by rw [ints_length,stI_length]
   rcases Nat.lt_or_ge i ops.length with hc|hc
   ·have g3:decide ((i:Int)<(ops.length:Int))=true:=decide_eq_true (by omega)
    have hap:∀ n:Int,ints .i64 out++[.lit (.int .i64 n)]=ints .i64 (out++[n]):=fun n=>ints_append1 _ _ _
    have has:∀ n:Int,ints .i64 (stI st)++[.lit (.int .i64 n)]=ints .i64 (stI st++[n]):=fun n=>ints_append1 _ _ _
    rw [drop_getI hc] at hF
    generalize hx:ops.getD i nilI=x at hF
    obtain ⟨k,p,a,b,c,d⟩:=x
    simp only [matchG] at hF
    rcases (show k=10∨k=11∨k=12∨k=13∨(k≠10∧k≠11∧k≠12∧k≠13) by omega) with rfl|rfl|rfl|rfl|hk
    ·rw [if_pos (by omega)] at hF
     have hnx:stI st++[(i:Int)]=stI (i::st):=(stI_cons i st).symm
     by_cases h40:st.length≥40
     ·rw [if_pos h40] at hF
      have k5:decide ((st.length:Int)+1>40)=true:=decide_eq_true (by omega)
      repeat' (first
       |(with_reducible first|refine nx ?_|refine t_seq fun K=>?_|refine t_br (fun hc=>?_) fun hc=>?_|refine t_bx ?_|apply And.intro|intro vr)
       |((with_reducible first|refine ny ?_|refine t_dwh (h:=fun K KL=>?_));intros;simp only [go_sem,kp22,geff,g3,hx,k5,hap,has,hol,hnx,stI_length,List.length_cons,Int.natCast_add,Int.natCast_one,Int.toNat_natCast,yes]))
      all_goals try exact nd
      all_goals (refine nl ?_;simp only [go_sem])
      exact mt_none hF.symm
     ·rw [if_neg h40] at hF
      have k5:decide ((st.length:Int)+1>40)=false:=decide_eq_false (by omega)
      repeat' (first
       |(with_reducible first|refine nx ?_|refine t_seq fun K=>?_|refine t_br (fun hc=>?_) fun hc=>?_|refine t_bx ?_|apply And.intro|intro vr)
       |((with_reducible first|refine ny ?_|refine t_dwh (h:=fun K KL=>?_));intros;simp only [go_sem,kp22,geff,g3,hx,k5,hap,has,hol,hnx,stI_length,List.length_cons,Int.natCast_add,Int.natCast_one,Int.toNat_natCast,yes]))
      all_goals try exact nd
      refine ⟨⟨i+1,u+1,v+1,out++[(i:Int)],i::st,by omega,by simp [ho],stP hs,by simp only [List.length_cons];omega,hF⟩,by first|(simp only;omega)|omega,?_⟩
      try simp only [updL_nil,updL_cons,delF_top,delF_upd,Nat.reduceEqDiff,reduceIte]
      refine le_backD (by first|rfl|(simp only [go_sem];try rfl)) (by first|exact Nat.zero_le _|simp) (by first|rfl|simp [lowO,low_lit,low_sl,low_ref,low_arr,low_sub,low_mp]) ?_ ?_
      ·repeat' (first|exact low_top|(refine low_upd rfl ?_))
      repeat' (first|exact leF_top _|exact (fun _=>LeR.refl _)|(with_reducible refine leF_sl ?_ ?_)|(refine leF_upd ?_ ?_))
      all_goals (first|exact LeR.top _|exact LeR.refl _|(refine LeR.of_eq ?_;(try simp only [go_sem]);try rfl)|((try simp only [go_sem]);try rfl))
    ·rw [if_pos (by omega)] at hF
     have hnx:stI st++[(i:Int)]=stI (i::st):=(stI_cons i st).symm
     by_cases h40:st.length≥40
     ·rw [if_pos h40] at hF
      have k5:decide ((st.length:Int)+1>40)=true:=decide_eq_true (by omega)
      repeat' (first
       |(with_reducible first|refine nx ?_|refine t_seq fun K=>?_|refine t_br (fun hc=>?_) fun hc=>?_|refine t_bx ?_|apply And.intro|intro vr)
       |((with_reducible first|refine ny ?_|refine t_dwh (h:=fun K KL=>?_));intros;simp only [go_sem,kp22,geff,g3,hx,k5,hap,has,hol,hnx,stI_length,List.length_cons,Int.natCast_add,Int.natCast_one,Int.toNat_natCast,yes]))
      all_goals try exact nd
      all_goals (refine nl ?_;simp only [go_sem])
      exact mt_none hF.symm
     ·rw [if_neg h40] at hF
      have k5:decide ((st.length:Int)+1>40)=false:=decide_eq_false (by omega)
      repeat' (first
       |(with_reducible first|refine nx ?_|refine t_seq fun K=>?_|refine t_br (fun hc=>?_) fun hc=>?_|refine t_bx ?_|apply And.intro|intro vr)
       |((with_reducible first|refine ny ?_|refine t_dwh (h:=fun K KL=>?_));intros;simp only [go_sem,kp22,geff,g3,hx,k5,hap,has,hol,hnx,stI_length,List.length_cons,Int.natCast_add,Int.natCast_one,Int.toNat_natCast,yes]))
      all_goals try exact nd
      refine ⟨⟨i+1,u+1,v+1,out++[(i:Int)],i::st,by omega,by simp [ho],stP hs,by simp only [List.length_cons];omega,hF⟩,by first|(simp only;omega)|omega,?_⟩
      try simp only [updL_nil,updL_cons,delF_top,delF_upd,Nat.reduceEqDiff,reduceIte]
      refine le_backD (by first|rfl|(simp only [go_sem];try rfl)) (by first|exact Nat.zero_le _|simp) (by first|rfl|simp [lowO,low_lit,low_sl,low_ref,low_arr,low_sub,low_mp]) ?_ ?_
      ·repeat' (first|exact low_top|(refine low_upd rfl ?_))
      repeat' (first|exact leF_top _|exact (fun _=>LeR.refl _)|(with_reducible refine leF_sl ?_ ?_)|(refine leF_upd ?_ ?_))
      all_goals (first|exact LeR.top _|exact LeR.refl _|(refine LeR.of_eq ?_;(try simp only [go_sem]);try rfl)|((try simp only [go_sem]);try rfl))
    ·rw [if_neg (by omega),if_pos rfl] at hF
     cases st with
     |nil=>
      have k6:decide ((-1:Int)<0)=true:=by decide
      repeat' (first
       |(with_reducible first|refine nx ?_|refine t_seq fun K=>?_|refine t_br (fun hc=>?_) fun hc=>?_|refine t_bx ?_|apply And.intro|intro vr)
       |((with_reducible first|refine ny ?_|refine t_dwh (h:=fun K KL=>?_));intros;simp only [go_sem,kp22,geff,g3,hx,hap,hol,stI_n0,k6,Int.toNat_natCast,yes]))
      all_goals try exact nd
      all_goals (refine nl ?_;simp only [go_sem])
      exact mt_none hF.symm
     |cons j st=>
      have hj:=hs j (List.mem_cons_self ..)
      have h4s:st.length≤39:=by simp only [List.length_cons] at h4;omega
      have hL:=stI_length st
      have hLj:(stI (j::st)).length=st.length+1:=stI_length (j::st)
      have k6:decide ((st.length:Int)<0)=false:=decide_eq_false (by omega)
      have hso:∀ n:Int,(ints .i64 (out++[(i:Int)])).set j (.lit (.int .i64 n))=ints .i64 ((out++[(i:Int)]).set j n):=fun n=>ints_set _ _ _ _
      simp only at hF
      generalize hy:ops.getD j nilI=y at hF
      obtain ⟨k',p',a',b',c',d'⟩:=y
      simp only at hF
      by_cases h11:k'=11
      ·rw [if_pos h11] at hF
       have k7:(k' !=11)=false:=by simp [h11]
       have hnx:ints .i64 (stI st)++[.lit (.int .i64 (i:Int))]=ints .i64 (stI (i::st)):=by rw [stI_cons];exact ints_append1 _ _ _
       repeat' (first
        |(with_reducible first|refine nx ?_|refine t_seq fun K=>?_|refine t_br (fun hc=>?_) fun hc=>?_|refine t_bx ?_|apply And.intro|intro vr)
        |((with_reducible first|refine ny ?_|refine t_dwh (h:=fun K KL=>?_));intros;simp only [go_sem,kp22,geff,g3,hx,hy,hap,hol,hso,stI_n1,stI_last,stI_take,stI_tk,hnx,k6,k7,Int.toNat_natCast,yes]))
       all_goals try exact nd
       refine ⟨⟨i+1,u+1,v+2,(out++[(i:Int)]).set j (i:Int),i::st,by omega,by simp [ho],stP (stQ hs),h4,hF⟩,by first|(simp only;omega)|omega,?_⟩
       try simp only [updL_nil,updL_cons,delF_top,delF_upd,Nat.reduceEqDiff,reduceIte]
       refine le_backD (by first|rfl|(simp only [go_sem];try rfl)) (by first|exact Nat.zero_le _|simp) (by first|rfl|simp [lowO,low_lit,low_sl,low_ref,low_arr,low_sub,low_mp]) ?_ ?_
       ·repeat' (first|exact low_top|(refine low_upd rfl ?_))
       repeat' (first|exact leF_top _|exact (fun _=>LeR.refl _)|(with_reducible refine leF_sl ?_ ?_)|(refine leF_upd ?_ ?_))
       all_goals (first|exact LeR.top _|exact LeR.refl _|(refine LeR.of_eq ?_;(try simp only [go_sem]);try rfl)|((try simp only [go_sem]);try rfl))
      ·rw [if_neg h11] at hF
       have k7:(k' !=11)=true:=by simp [h11]
       repeat' (first
        |(with_reducible first|refine nx ?_|refine t_seq fun K=>?_|refine t_br (fun hc=>?_) fun hc=>?_|refine t_bx ?_|apply And.intro|intro vr)
        |((with_reducible first|refine ny ?_|refine t_dwh (h:=fun K KL=>?_));intros;simp only [go_sem,kp22,geff,g3,hx,hy,hap,hol,hso,stI_n1,stI_last,stI_take,stI_tk,k6,k7,Int.toNat_natCast,yes]))
       all_goals try exact nd
       all_goals (refine nl ?_;simp only [go_sem])
       exact mt_none hF.symm
    ·rw [if_neg (by omega),if_neg (by omega),if_pos rfl] at hF
     cases st with
     |nil=>
      have k6:decide ((-1:Int)<0)=true:=by decide
      repeat' (first
       |(with_reducible first|refine nx ?_|refine t_seq fun K=>?_|refine t_br (fun hc=>?_) fun hc=>?_|refine t_bx ?_|apply And.intro|intro vr)
       |((with_reducible first|refine ny ?_|refine t_dwh (h:=fun K KL=>?_));intros;simp only [go_sem,kp22,geff,g3,hx,hap,hol,stI_n0,k6,Int.toNat_natCast,yes]))
      all_goals try exact nd
      all_goals (refine nl ?_;simp only [go_sem])
      exact mt_none hF.symm
     |cons j st=>
      have hj:=hs j (List.mem_cons_self ..)
      have h4s:st.length≤39:=by simp only [List.length_cons] at h4;omega
      have hL:=stI_length st
      have hLj:(stI (j::st)).length=st.length+1:=stI_length (j::st)
      have k6:decide ((st.length:Int)<0)=false:=decide_eq_false (by omega)
      have hso:∀ n:Int,(ints .i64 (out++[(i:Int)])).set j (.lit (.int .i64 n))=ints .i64 ((out++[(i:Int)]).set j n):=fun n=>ints_set _ _ _ _
      simp only at hF
      repeat' (first
       |(with_reducible first|refine nx ?_|refine t_seq fun K=>?_|refine t_br (fun hc=>?_) fun hc=>?_|refine t_bx ?_|apply And.intro|intro vr)
       |((with_reducible first|refine ny ?_|refine t_dwh (h:=fun K KL=>?_));intros;simp only [go_sem,kp22,geff,g3,hx,hap,hol,hso,stI_n1,stI_last,stI_take,stI_tk,k6,Int.toNat_natCast,yes]))
      all_goals try exact nd
      refine ⟨⟨i+1,u+1,v+1,(out++[(i:Int)]).set j (i:Int),st,by omega,by simp [ho],stW (stQ hs),by simp only [List.length_cons] at h4;omega,hF⟩,by simp only;omega,?_⟩
      refine (le_cut 5 (by simp only [go_sem];rfl) rfl).trans ?_
      try simp only [go_sem,stI_take,stI_tk]
      try simp only [updL_nil,updL_cons,delF_top,delF_upd,Nat.reduceEqDiff,reduceIte]
      refine le_backD (by first|rfl|(simp only [go_sem];try rfl)) (by first|exact Nat.zero_le _|simp) (by first|rfl|simp [lowO,low_lit,low_sl,low_ref,low_arr,low_sub,low_mp]) ?_ ?_
      ·repeat' (first|exact low_top|(refine low_upd rfl ?_))
      repeat' (first|exact leF_top _|exact (fun _=>LeR.refl _)|(with_reducible refine leF_sl ?_ ?_)|(refine leF_upd ?_ ?_))
      all_goals (first|exact LeR.top _|exact LeR.refl _|(refine LeR.of_eq ?_;(try simp only [go_sem]);try rfl)|((try simp only [go_sem]);try rfl))
    ·rw [if_neg (by omega),if_neg (by omega),if_neg (by omega)] at hF
     have k1:(k==10)=false:=by simpa using hk.1
     have k2:(k==11)=false:=by simpa using hk.2.1
     have k3:(k==12)=false:=by simpa using hk.2.2.1
     have k4:(k==13)=false:=by simpa using hk.2.2.2
     repeat' (first
      |(with_reducible first|refine nx ?_|refine t_seq fun K=>?_|refine t_br (fun hc=>?_) fun hc=>?_|refine t_bx ?_|apply And.intro|intro vr)
      |((with_reducible first|refine ny ?_|refine t_dwh (h:=fun K KL=>?_));intros;simp only [go_sem,kp22,geff,g3,hx,k1,k2,k3,k4,hap,hol,stI_length,Int.toNat_natCast,yes]))
     all_goals try exact nd
     refine ⟨⟨i+1,u+1,v,out++[(i:Int)],st,by omega,by simp [ho],fun j hj=>by have:=hs j hj;omega,h4,hF⟩,by first|(simp only;omega)|omega,?_⟩
     try simp only [updL_nil,updL_cons,delF_top,delF_upd,Nat.reduceEqDiff,reduceIte]
     refine le_backD (by first|rfl|(simp only [go_sem];try rfl)) (by first|exact Nat.zero_le _|simp) (by first|rfl|simp [lowO,low_lit,low_sl,low_ref,low_arr,low_sub,low_mp]) ?_ ?_
     ·repeat' (first|exact low_top|(refine low_upd rfl ?_))
     repeat' (first|exact leF_top _|exact (fun _=>LeR.refl _)|(with_reducible refine leF_sl ?_ ?_)|(refine leF_upd ?_ ?_))
     all_goals (first|exact LeR.top _|exact LeR.refl _|(refine LeR.of_eq ?_;(try simp only [go_sem]);try rfl)|((try simp only [go_sem]);try rfl))
   ·have g3:decide ((i:Int)<(ops.length:Int))=false:=decide_eq_false (by omega)
    rw [List.drop_eq_nil_of_le hc] at hF
    cases st with
    |nil=>
     repeat' (first
      |(with_reducible first|refine nx ?_|refine t_seq fun K=>?_|refine t_br (fun hc=>?_) fun hc=>?_|refine t_bx ?_|apply And.intro|intro vr)
      |((with_reducible first|refine ny ?_|refine t_dwh (h:=fun K KL=>?_));intros;simp only [go_sem,kp22,geff,g3,stI_length,List.length_nil,yes]))
     all_goals try exact nd
     all_goals (refine nl ?_;simp only [go_sem])
     exact mt_some (by rw [←hF];rfl)
    |cons j st=>
     have k5:decide (((j::st).length:Int)>0)=true:=decide_eq_true (by simp only [List.length_cons];omega)
     repeat' (first
      |(with_reducible first|refine nx ?_|refine t_seq fun K=>?_|refine t_br (fun hc=>?_) fun hc=>?_|refine t_bx ?_|apply And.intro|intro vr)
      |((with_reducible first|refine ny ?_|refine t_dwh (h:=fun K KL=>?_));intros;simp only [go_sem,kp22,geff,g3,stI_length,k5,yes]))
     all_goals try exact nd
     all_goals (refine nl ?_;simp only [go_sem])
     exact mt_none (by rw [←hF];rfl)
end Go.Proofs.YtohiagaclfaolaaGreatDoor

namespace Go.Proofs.YtohiagaclfaolaaGreatDoor
open Go Go.Fw Bm
set_option maxRecDepth 20000
def zs (n:Nat):List Int:=List.replicate n 0
theorem zs_ints (n:Nat):List.replicate n (AV.lit (.int .i64 0))=ints .i64 (zs n):=by simp [ints,zs]
theorem zs_length (n:Nat):(zs n).length=n:=by simp [zs]
theorem zs_set {out:List Int} {i n:Nat} (x:Int) (ho:out.length=i) (hi:i<n):(out++zs (n - i)).set i x=(out++[x])++zs (n - (i+1)):=by
  rw [List.set_append_right _ _ (by omega),ho,Nat.sub_self,show n - i=(n - (i+1))+1 by omega,zs,List.replicate_succ]
  simp [zs]
theorem zs_put {l z:List Int} {j:Nat} (x:Int) (h:j<l.length):(l++z).set j x=l.set j x++z:=List.set_append_left _ _ h
theorem stI_put (i j:Nat) (st:List Nat):(stI (j::st)).set st.length (i:Int)=stI (i::st):=by
  rw [stI_cons,List.set_append_right _ _ (by rw [stI_length];exact Nat.le_refl _),stI_length,Nat.sub_self,stI_cons];rfl
theorem stI_e0:(((stI []).length:Int)==0)=true:=rfl
theorem stI_e1 (j:Nat) (st:List Nat):(((stI (j::st)).length:Int)==0)=false:=by rw [stI_length,List.length_cons];simp;omega
structure Mr (ops:List Ins) (R:Option (List Int)) where
  i:Nat
  u:Nat
  v:Nat
  out:List Int
  st:List Nat
  hi:i≤ops.length
  ho:out.length=i
  hs:∀ j∈st,j<i
  h4:st.length≤40
  hF:matchG ops (ops.drop i) i out st=R
noncomputable def V10:Env:=envJ (P:=Tryz.prog) jkV zer (fun _=>false) (fun _=>false) [] []
theorem V10_ok:EnvOk Tryz.prog V10:=envJOk zer_ok
set_option maxHeartbeats 8000000 in
theorem rmatch_pc {ops:List Ins} (hl:ops.length≤1000000):PC Tryz.prog 79 [.sl false 6 (opsV ops)] (matchV ops):=by
  show PC _ _ _ (mtV (matchS ops))
  generalize hR:matchS ops=R
  unfold matchS at hR
  by_cases hn:ops.length>5000
  ·rw [if_pos hn] at hR
   have g1:decide ((ops.length:Int)>5000)=true:=decide_eq_true (by omega)
   refine pcR V10_ok (kp79) Tryz.func79 [.tmp 2,.tmp 3] (h:=fun KF=>?_)
   unfold V10
   repeat' (first
    |(with_reducible first|refine nx ?_|refine t_seq fun K=>?_|refine t_br (fun hc=>?_) fun hc=>?_|refine t_bx ?_|apply And.intro|intro vr)
    |((with_reducible first|refine ny ?_|refine t_dwh (h:=fun K KL=>?_));intros;simp only [go_sem,kp79,geff,g1]))
   all_goals try exact nd
   all_goals (refine nl ?_;simp only [go_sem])
   exact mt_none hR.symm
  ·rw [if_neg hn] at hR
   have g1:decide ((ops.length:Int)>5000)=false:=decide_eq_false (by omega)
   refine pcR V10_ok (kp79) Tryz.func79 [.tmp 2,.tmp 3] (h:=fun KF=>?_)
   unfold V10
   repeat' (first
    |(with_reducible first|refine nx ?_|refine t_seq fun K=>?_|refine t_br (fun hc=>?_) fun hc=>?_|refine t_bx ?_|apply And.intro|intro vr)
    |((with_reducible first|refine ny ?_|refine t_dwh (h:=fun K KL=>?_));intros;simp only [go_sem,kp79,geff,g1,zs_ints,Int.toNat_natCast]))
   all_goals try exact nd
   refine t_loopF (ι:=Mr ops R) (fun i=>[(6,.lit (.int .i64 i.i)),(4,.arr 0 i.u),(5,.arr 1 i.v)]) (fun i=>[.arr 3 1 (ints .i64 (i.out++zs (ops.length - i.i))) i.u false,.arr 3 1 (ints .i64 (stI i.st)) i.v false]) (fun i=>ops.length - i.i) ⟨0,0,0,[],[],by omega,rfl,by simp,by simp,by simpa using hR⟩ ?_ ?_
   ·refine (le_nil 5 3 1 rfl).trans ?_
    exact lf
   rintro ⟨i,u,v,out,st,hi,ho,hs,h4,hF⟩ K0
   have hsl:(ints .i64 (stI st)).length=st.length:=by rw [ints_length,stI_length]
   have hol:(ints .i64 (out++zs (ops.length - i))).length=ops.length:=by rw [ints_length,List.length_append,zs_length,ho];omega
   rcases Nat.lt_or_ge i ops.length with hc|hc
   ·have g3:decide ((i:Int)<(ops.length:Int))=true:=decide_eq_true (by omega)
    have hst:=zs_set (i:Int) ho hc
    have hol2:(ints .i64 ((out++[(i:Int)])++zs (ops.length - (i+1)))).length=ops.length:=by rw [ints_length,List.length_append,List.length_append,zs_length,ho,List.length_singleton];omega
    have hput:∀ j:Nat,j<i→∀ x:Int,((out++[(i:Int)])++zs (ops.length - (i+1))).set j x=(out++[(i:Int)]).set j x++zs (ops.length - (i+1)):=fun j hj x=>zs_put x (by rw [List.length_append,List.length_singleton];omega)
    rw [drop_getI hc] at hF
    generalize hx:ops.getD i nilI=x at hF
    obtain ⟨k,p,a,b,c,d⟩:=x
    simp only [matchG] at hF
    have has:ints .i64 (stI st)++[.lit (.int .i64 (i:Int))]=ints .i64 (stI (i::st)):=by rw [stI_cons];exact ints_append1 _ _ _
    rcases (show k=10∨k=11∨k=12∨k=13∨(k≠10∧k≠11∧k≠12∧k≠13) by omega) with rfl|rfl|rfl|rfl|hk
    ·rw [if_pos (by omega)] at hF
     by_cases h40:st.length≥40
     ·rw [if_pos h40] at hF
      have k5:((st.length:Int)==40)=true:=by simp;omega
      repeat' (first
       |(with_reducible first|refine nx ?_|refine t_seq fun K=>?_|refine t_br (fun hc=>?_) fun hc=>?_|refine t_bx ?_|apply And.intro|intro vr)
       |((with_reducible first|refine ny ?_|refine t_dwh (h:=fun K KL=>?_));intros;simp only [go_sem,kp79,geff,g3,hx,k5,hst,has,hol,stI_length,Int.toNat_natCast,yes]))
      all_goals try exact nd
      all_goals (refine nl ?_;simp only [go_sem])
      exact mt_none hF.symm
     ·rw [if_neg h40] at hF
      have k5:((st.length:Int)==40)=false:=by simp;omega
      repeat' (first
       |(with_reducible first|refine nx ?_|refine t_seq fun K=>?_|refine t_br (fun hc=>?_) fun hc=>?_|refine t_bx ?_|apply And.intro|intro vr)
       |((with_reducible first|refine ny ?_|refine t_dwh (h:=fun K KL=>?_));intros;simp only [go_sem,kp79,geff,g3,hx,k5,hst,has,hol,hsl,stI_length,Int.toNat_natCast,yes]))
      all_goals try exact nd
      exact ⟨⟨i+1,u,v+1,out++[(i:Int)],i::st,by omega,by simp [ho],stP hs,by simp only [List.length_cons];omega,hF⟩,wf,lf⟩
    ·rw [if_pos (by omega)] at hF
     by_cases h40:st.length≥40
     ·rw [if_pos h40] at hF
      have k5:((st.length:Int)==40)=true:=by simp;omega
      repeat' (first
       |(with_reducible first|refine nx ?_|refine t_seq fun K=>?_|refine t_br (fun hc=>?_) fun hc=>?_|refine t_bx ?_|apply And.intro|intro vr)
       |((with_reducible first|refine ny ?_|refine t_dwh (h:=fun K KL=>?_));intros;simp only [go_sem,kp79,geff,g3,hx,k5,hst,has,hol,stI_length,Int.toNat_natCast,yes]))
      all_goals try exact nd
      all_goals (refine nl ?_;simp only [go_sem])
      exact mt_none hF.symm
     ·rw [if_neg h40] at hF
      have k5:((st.length:Int)==40)=false:=by simp;omega
      repeat' (first
       |(with_reducible first|refine nx ?_|refine t_seq fun K=>?_|refine t_br (fun hc=>?_) fun hc=>?_|refine t_bx ?_|apply And.intro|intro vr)
       |((with_reducible first|refine ny ?_|refine t_dwh (h:=fun K KL=>?_));intros;simp only [go_sem,kp79,geff,g3,hx,k5,hst,has,hol,hsl,stI_length,Int.toNat_natCast,yes]))
      all_goals try exact nd
      exact ⟨⟨i+1,u,v+1,out++[(i:Int)],i::st,by omega,by simp [ho],stP hs,by simp only [List.length_cons];omega,hF⟩,wf,lf⟩
    ·rw [if_neg (by omega),if_pos rfl] at hF
     cases st with
     |nil=>
      repeat' (first
       |(with_reducible first|refine nx ?_|refine t_seq fun K=>?_|refine t_br (fun hc=>?_) fun hc=>?_|refine t_bx ?_|apply And.intro|intro vr)
       |((with_reducible first|refine ny ?_|refine t_dwh (h:=fun K KL=>?_));intros;simp only [go_sem,kp79,geff,g3,hx,hst,hol,stI_e0,Int.toNat_natCast,yes]))
      all_goals try exact nd
      all_goals (refine nl ?_;simp only [go_sem])
      exact mt_none hF.symm
     |cons j st=>
      have hj:=hs j (List.mem_cons_self ..)
      have h4s:st.length≤39:=by simp only [List.length_cons] at h4;omega
      have hL:=stI_length st
      have hLj:(stI (j::st)).length=st.length+1:=stI_length (j::st)
      have hp:=hput j hj (i:Int)
      simp only at hF
      generalize hy:ops.getD j nilI=y at hF
      obtain ⟨k',p',a',b',c',d'⟩:=y
      simp only at hF
      by_cases h11:k'=11
      ·rw [if_pos h11] at hF
       have k7:(k' !=11)=false:=by simp [h11]
       repeat' (first
        |(with_reducible first|refine nx ?_|refine t_seq fun K=>?_|refine t_br (fun hc=>?_) fun hc=>?_|refine t_bx ?_|apply And.intro|intro vr)
        |((with_reducible first|refine ny ?_|refine t_dwh (h:=fun K KL=>?_));intros;simp only [go_sem,kp79,geff,g3,hx,hy,hst,hp,hol,hol2,stI_e1,stI_n1,stI_last,stI_put,k7,Int.toNat_natCast,yes]))
       all_goals try exact nd
       exact ⟨⟨i+1,u,v,(out++[(i:Int)]).set j (i:Int),i::st,by omega,by simp [ho],stP (stQ hs),h4,hF⟩,wf,lf⟩
      ·rw [if_neg h11] at hF
       have k7:(k' !=11)=true:=by simp [h11]
       repeat' (first
        |(with_reducible first|refine nx ?_|refine t_seq fun K=>?_|refine t_br (fun hc=>?_) fun hc=>?_|refine t_bx ?_|apply And.intro|intro vr)
        |((with_reducible first|refine ny ?_|refine t_dwh (h:=fun K KL=>?_));intros;simp only [go_sem,kp79,geff,g3,hx,hy,hst,hp,hol,hol2,stI_e1,stI_n1,stI_last,stI_put,k7,Int.toNat_natCast,yes]))
       all_goals try exact nd
       all_goals (refine nl ?_;simp only [go_sem])
       exact mt_none hF.symm
    ·rw [if_neg (by omega),if_neg (by omega),if_pos rfl] at hF
     cases st with
     |nil=>
      repeat' (first
       |(with_reducible first|refine nx ?_|refine t_seq fun K=>?_|refine t_br (fun hc=>?_) fun hc=>?_|refine t_bx ?_|apply And.intro|intro vr)
       |((with_reducible first|refine ny ?_|refine t_dwh (h:=fun K KL=>?_));intros;simp only [go_sem,kp79,geff,g3,hx,hst,hol,stI_e0,Int.toNat_natCast,yes]))
      all_goals try exact nd
      all_goals (refine nl ?_;simp only [go_sem])
      exact mt_none hF.symm
     |cons j st=>
      have hj:=hs j (List.mem_cons_self ..)
      have h4s:st.length≤39:=by simp only [List.length_cons] at h4;omega
      have hL:=stI_length st
      have hLj:(stI (j::st)).length=st.length+1:=stI_length (j::st)
      have hp:=hput j hj (i:Int)
      simp only at hF
      repeat' (first
       |(with_reducible first|refine nx ?_|refine t_seq fun K=>?_|refine t_br (fun hc=>?_) fun hc=>?_|refine t_bx ?_|apply And.intro|intro vr)
       |((with_reducible first|refine ny ?_|refine t_dwh (h:=fun K KL=>?_));intros;simp only [go_sem,kp79,geff,g3,hx,hst,hp,hol,hol2,stI_e1,stI_n1,stI_last,Int.toNat_natCast,yes]))
      all_goals try exact nd
      refine ⟨⟨i+1,u,v+1,(out++[(i:Int)]).set j (i:Int),st,by omega,by simp [ho],stW (stQ hs),by simp only [List.length_cons] at h4;omega,hF⟩,by simp only;omega,?_⟩
      refine (le_cut 5 (by simp only [go_sem];rfl) rfl).trans ?_
      try simp only [go_sem,stI_take,stI_tk]
      first|exact lf|(refine Le.frameS (by first|rfl|(simp only [go_sem];try rfl)) ?_;repeat' (first|exact leF_top _|exact (fun _=>LeR.refl _)|(with_reducible refine leF_sl ?_ ?_)|(refine leF_upd ?_ ?_)))<;>(first|exact LeR.top _|exact LeR.refl _|(refine LeR.of_eq ?_;(try simp only [go_sem]);try rfl)|((try simp only [go_sem]);try rfl))
    ·rw [if_neg (by omega),if_neg (by omega),if_neg (by omega)] at hF
     have k1:(k==10)=false:=by simpa using hk.1
     have k2:(k==11)=false:=by simpa using hk.2.1
     have k3:(k==12)=false:=by simpa using hk.2.2.1
     have k4:(k==13)=false:=by simpa using hk.2.2.2
     repeat' (first
      |(with_reducible first|refine nx ?_|refine t_seq fun K=>?_|refine t_br (fun hc=>?_) fun hc=>?_|refine t_bx ?_|apply And.intro|intro vr)
      |((with_reducible first|refine ny ?_|refine t_dwh (h:=fun K KL=>?_));intros;simp only [go_sem,kp79,geff,g3,hx,k1,k2,k3,k4,hst,hol,Int.toNat_natCast,yes]))
     all_goals try exact nd
     exact ⟨⟨i+1,u,v,out++[(i:Int)],st,by omega,by simp [ho],fun j hj=>by have:=hs j hj;omega,h4,hF⟩,wf,lf⟩
   ·have g3:decide ((i:Int)<(ops.length:Int))=false:=decide_eq_false (by omega)
    rw [List.drop_eq_nil_of_le hc] at hF
    have hz:out++zs (ops.length - i)=out:=by rw [show ops.length - i=0 by omega];simp [zs]
    cases st with
    |nil=>
     repeat' (first
      |(with_reducible first|refine nx ?_|refine t_seq fun K=>?_|refine t_br (fun hc=>?_) fun hc=>?_|refine t_bx ?_|apply And.intro|intro vr)
      |((with_reducible first|refine ny ?_|refine t_dwh (h:=fun K KL=>?_));intros;simp only [go_sem,kp79,geff,g3,hz,stI_length,List.length_nil,yes]))
     all_goals try exact nd
     all_goals (refine nl ?_;simp only [go_sem])
     exact mt_some (by rw [←hF];rfl)
    |cons j st=>
     have k5:decide (((j::st).length:Int)>0)=true:=decide_eq_true (by simp only [List.length_cons];omega)
     repeat' (first
      |(with_reducible first|refine nx ?_|refine t_seq fun K=>?_|refine t_br (fun hc=>?_) fun hc=>?_|refine t_bx ?_|apply And.intro|intro vr)
      |((with_reducible first|refine ny ?_|refine t_dwh (h:=fun K KL=>?_));intros;simp only [go_sem,kp79,geff,g3,hz,stI_length,k5,yes]))
     all_goals try exact nd
     all_goals (refine nl ?_;simp only [go_sem])
     exact mt_none (by rw [←hF];rfl)
noncomputable def con79:PCon Tryz.prog where
  f:=79
  c:=fun
   |[xx]=>match opsOf xx with|some x=>some ((x.length≤1000000),matchV x)|_=>none
   |_=>none
  ok:=by
   intro args p r hc hp
   split at hc
   ·split at hc
    ·rename_i hx
     cases hc
     exact PC.weak (rmatch_pc hp) ⟨opsOf_le hx,trivial⟩
    ·cases hc
   ·cases hc
  fk:=fk79
theorem con79_f:con79.f=79:=rfl
theorem con79_c {xx:AV}:con79.c [xx]=match opsOf xx with|some x=>some ((x.length≤1000000),matchV x)|_=>none:=rfl
attribute [go_sem] con79_f con79_c
end Go.Proofs.YtohiagaclfaolaaGreatDoor

namespace Go.Proofs.YtohiagaclfaolaaGreatDoor
open Go Go.Fw
set_option maxRecDepth 20000
theorem le_nil {n0:Nat} {f:Nat→AV} {σ:List AObj} (i e sz:Nat) (h:f i= .lit (.slice none 0 0)):Le n0 ⟨f,σ⟩ ⟨upd f i (.arr σ.length 0),σ++[.arr e sz [] 0 false]⟩:=by
  intro cx G w N a _ hr hf
  obtain ⟨G',h1,h2,h3⟩:=Rel.newEmpty hr e sz none
  refine ⟨G',h2,hf.size,hf.defers,fun j=>?_⟩
  have hj:R G' (f j) (a.tmps.getD j undef):=(hf.rel j).mono h1
  simp only [upd]
  split
  ·rename_i e;subst e;rw [h] at hj;rw [hj.lit_inv];exact h3
  ·exact hj
theorem getD_mem {α:Type} {l:List α} {i:Nat} (z:α) (h:i<l.length):l.getD i z∈l:=by
  rw [List.getD_eq_getElem?_getD,List.getElem?_eq_getElem h];exact List.getElem_mem _
end Go.Proofs.YtohiagaclfaolaaGreatDoor

namespace Go.Proofs.YtohiagaclfaolaaGreatDoor
open Go Go.Fw
set_option maxRecDepth 20000
end Go.Proofs.YtohiagaclfaolaaGreatDoor

namespace Go.Proofs.YtohiagaclfaolaaGreatDoor
open Go Go.Fw
set_option maxRecDepth 20000
end Go.Proofs.YtohiagaclfaolaaGreatDoor

namespace Go.Proofs.YtohiagaclfaolaaGreatDoor
open Go Go.Fw
set_option maxRecDepth 20000
end Go.Proofs.YtohiagaclfaolaaGreatDoor

namespace Go.Proofs.YtohiagaclfaolaaGreatDoor
open Go Go.Fw Bm
set_option maxRecDepth 20000
def bcV (B:Prg):AV:= .agg [.lit (.int .i64 B.regs),.lit (.int .i64 B.arena),.sl false 6 (opsV B.ops),.sl false 2 (plsV B.ins),.sl false 2 (plsV B.outs),.sl false 3 (arrs B.types)]
theorem bcV_mk {r a:Int} {o:List Ins} {i u:List (Int×Int)} {t:List Arr}:bcV ⟨r,a,o,i,u,t⟩= .agg [.lit (.int .i64 r),.lit (.int .i64 a),.sl false 6 (opsV o),.sl false 2 (plsV i),.sl false 2 (plsV u),.sl false 3 (arrs t)]:=rfl
def bcOf:AV→Option Prg
  |.agg [.lit (.int .i64 r),.lit (.int .i64 a),o,i,u,t]=>match opsOf o,plsOf i,plsOf u,arrsOf t with
   |some o,some i,some u,some t=>some ⟨r,a,o,i,u,t⟩
   |_,_,_,_=>none
  |_=>none
theorem bcOf_agg {r a:Int} {o i u t:AV}:bcOf (.agg [.lit (.int .i64 r),.lit (.int .i64 a),o,i,u,t])=match opsOf o,plsOf i,plsOf u,arrsOf t with
    |some o,some i,some u,some t=>some ⟨r,a,o,i,u,t⟩
    |_,_,_,_=>none:=rfl
structure OkB (B:Prg):Prop where
  ops:B.ops.length≤1000000
  ins:B.ins.length≤1000000
  outs:B.outs.length≤1000000
  types:B.types.length≤1000000
  dims:∀ t∈B.types,okA t
noncomputable def V11:Env:=envJ (P:=Tryz.prog) jkV zer (fun _=>false) (fun _=>false) [con79,con50,con71,con41] []
theorem V11_ok:EnvOk Tryz.prog V11:=envJOk zer_ok
attribute [go_sem] con79_f con79_c con71_f con71_c con41_f con41_c opsOf_sl plsOf_sl arrsOf_sl slK_sl szV_def arrOf_agg
def typdB (t:Arr):Bool:=((sizeS t.d).2==0)&&(eqS t.e sInt||eqS t.e sBool)&&((t.x.length:Int)==0)
theorem typeOk_eq (arena:Int) (t:Arr) (p:Int×Int):typeOk arena t p=(typdB t&&(p.2==(sizeS t.d).1)&& !decide (p.1<0)&& !decide (p.1>arena - (sizeS t.d).1)):=by
  rw [Bool.eq_iff_iff];simp [typeOk,typdB]
  intros;exact and_comm
set_option maxHeartbeats 4000000 in
theorem typed_pc {t:Arr} (h:okA t):PC Tryz.prog 35 [arrV t] (.tup [.lit (.int .i64 (sizeS t.d).1),.lit (.bool (typdB t))]):=by
  obtain ⟨h1,h2⟩:=h
  simp only [arrV]
  refine pcR V11_ok (kp35) Tryz.func35 [.tmp 2,.tmp 3] (h:=fun KF=>?_)
  unfold V11
  repeat' (first
   |(with_reducible first|refine nx ?_|refine t_seq fun K=>?_|refine t_br (fun hc=>?_) fun hc=>?_|refine t_bx ?_|apply And.intro|intro vr)
   |((with_reducible first|refine ny ?_|refine t_dwh (h:=fun K KL=>?_));intros;simp only [go_sem,kp35,geff]))
  all_goals try exact nd
  all_goals (refine nl ?_;simp only [go_sem])
  refine LeA.of_eq ?_
  simp only [typdB,sInt,sBool]
  try rfl
noncomputable def con35:PCon Tryz.prog where
  f:=35
  c:=fun
   |[xt]=>match arrOf xt with|some t=>some (okA t,.tup [.lit (.int .i64 (sizeS t.d).1),.lit (.bool (typdB t))])|_=>none
   |_=>none
  ok:=by
   intro args p r hc hp
   split at hc
   ·split at hc
    ·rename_i ht
     cases hc
     exact PC.weak (typed_pc hp) ⟨arrOf_le ht,trivial⟩
    ·cases hc
   ·cases hc
  fk:=fk35
theorem con35_f:con35.f=35:=rfl
theorem con35_c {xt:AV}:con35.c [xt]=match arrOf xt with|some t=>some (okA t,.tup [.lit (.int .i64 (sizeS t.d).1),.lit (.bool (typdB t))])|_=>none:=rfl
def formedB (ops:List Ins) (regs:Int):Bool:=ops.all (fun x=>rightS x regs)&&(matchS ops).isSome
theorem matchV_eq (ops:List Ins):∃ l,matchV ops= .tup [.sl false 1 (ints .i64 l),.lit (.bool (matchS ops).isSome)]:=by
  unfold matchV
  cases matchS ops with
  |none=>exact ⟨[],rfl⟩
  |some l=>exact ⟨l,rfl⟩
attribute [go_sem] con35_f con35_c
theorem plsV_app (a b:List (Int×Int)):plsV a++plsV b=plsV (a++b):=by simp [plsV]
end Go.Proofs.YtohiagaclfaolaaGreatDoor

namespace Go.Proofs.YtohiagaclfaolaaGreatDoor
open Go Go.Fw Bm
set_option maxRecDepth 20000
theorem bcOf_mk {r a:Int} {o:List Ins} {i u:List (Int×Int)} {t:List Arr}:bcOf (.agg [.lit (.int .i64 r),.lit (.int .i64 a),.sl false 6 (opsV o),.sl false 2 (plsV i),.sl false 2 (plsV u),.sl false 3 (arrs t)])=some ⟨r,a,o,i,u,t⟩:=by
  rw [bcOf_agg,opsOf_sl,plsOf_sl,plsOf_sl,arrsOf_sl]
attribute [go_sem] arrs_length bcOf_mk
def headB (B:Prg):Bool:=decide (B.regs<0)||decide (B.regs>200)||decide (B.arena<0)||decide (B.arena>1048576)|| !formedB B.ops B.regs||((B.types.length:Int) !=(B.ins.length:Int)+(B.outs.length:Int))
theorem valid_eq (B:Prg):validS B=(!headB B&&typesOk B.arena B.types (B.ins++B.outs)):=by
  rw [Bool.eq_iff_iff];simp only [validS,headB,formedB,maxA,Bool.and_eq_true,Bool.not_eq_true',Bool.or_eq_false_iff,decide_eq_true_eq,decide_eq_false_iff_not,bne_eq_false_iff_eq,Bool.not_eq_false']
  constructor
  ·rintro ⟨⟨⟨⟨⟨h1,h2⟩,h3⟩,h4⟩,h5⟩,h6⟩;have h2:=of_decide_eq_true h2;exact ⟨⟨⟨⟨⟨⟨by omega,by omega⟩,by omega⟩,by omega⟩,h4,h5⟩,by omega⟩,h6⟩
  ·rintro ⟨⟨⟨⟨⟨⟨h1,h2⟩,h3⟩,h3'⟩,h4,h5⟩,h⟩,h6⟩;exact ⟨⟨⟨⟨⟨by omega,decide_eq_true (by omega)⟩,by omega⟩,h4⟩,h5⟩,h6⟩
theorem drop_getP {l:List (Int×Int)} {i:Nat} (h:i<l.length):l.drop i=l.getD i (0,0)::l.drop (i+1):=drop_getD _ h
end Go.Proofs.YtohiagaclfaolaaGreatDoor

namespace Go.Proofs.YtohiagaclfaolaaGreatDoor
open Go Go.Fw Bm
set_option maxRecDepth 20000
noncomputable def V13:Env:=envJ (P:=Tryz.prog) jkV zer (fun _=>false) (fun _=>false) [con45] []
theorem V13_ok:EnvOk Tryz.prog V13:=envJOk zer_ok
theorem notr_ec {r:Int} {c1 c2 c3 c4 c5:AV} {x:Ins} {k:AV→List AObj→Prop} (hk:k (.lit (.bool (!rightS x r))) [.box 26 [.lit (.int .i64 r),c1,c2,c3,c4,c5]]):
    EC Tryz.prog 44 [opV x,.ref 0 0] [.box 26 [.lit (.int .i64 r),c1,c2,c3,c4,c5]] k:=by
  refine ec_fin fun hbd=>?_
  obtain ⟨q,p,a,b,c,d⟩:=x
  simp only [opV]
  refine ecR V13_ok (kp44) Tryz.func44 [.tmp 3] (h:=fun KF=>?_)
  unfold V13
  repeat' (first
   |(with_reducible first|refine nx ?_|refine t_seq fun K=>?_|refine t_br (fun hc=>?_) fun hc=>?_|refine t_bx ?_|apply And.intro|intro vr)
   |((with_reducible first|refine ny ?_|refine t_dwh (h:=fun K KL=>?_));intros;simp only [go_sem,kp44,geff,yes]))
  all_goals try exact nd
  all_goals (refine nl ?_;simp only [go_sem,finE])
  exact ⟨_,_,rfl,LeA.refl _,hbd,hk⟩
noncomputable def ecn44:ECon Tryz.prog where
  f:=44
  c:=fun args σ k=>match args,σ with
   |[x,.ref 0 0],[.box 26 [.lit (.int .i64 r),c1,c2,c3,c4,c5]]=>match opOf x with
    |some x=>k (.lit (.bool (!rightS x r))) [.box 26 [.lit (.int .i64 r),c1,c2,c3,c4,c5]]
    |none=>False
   |_,_=>False
  ok:=by
   intro args σ k h
   split at h
   ·split at h
    ·rename_i hx
     rw [opOf_inv hx]
     exact notr_ec h
    ·exact h.elim
   ·exact h.elim
  fk:=fk44
theorem ecn44_f:ecn44.f=44:=rfl
theorem ecn44_c {x c1 c2 c3 c4 c5:AV} {r:Int} {k:AV→List AObj→Prop}:ecn44.c [x,.ref 0 0] [.box 26 [.lit (.int .i64 r),c1,c2,c3,c4,c5]] k=match opOf x with
      |some x=>k (.lit (.bool (!rightS x r))) [.box 26 [.lit (.int .i64 r),c1,c2,c3,c4,c5]]
      |none=>False:=rfl
attribute [go_sem] ecn44_f ecn44_c
noncomputable def W13:Env:=envJ (P:=Tryz.prog) jkV zer (fun _=>false) (fun _=>false) [] [ecn44]
theorem W13_ok:EnvOk Tryz.prog W13:=envJOk zer_ok
def idxI (p:Ins→Bool):List Ins→Int→Int
  |[],_=> -1
  |d::t,i=>if p d=true then i else idxI p t (i+1)
theorem idxI_any (p:Ins→Bool):∀ (l:List Ins) (i:Int),0≤i→decide (idxI p l i≥0)=l.any p
  |[],_,_=>rfl
  |d::t,i,hi=>by
   unfold idxI
   by_cases h:p d=true
   ·rw [if_pos h,List.any_cons,h,decide_eq_true hi];rfl
   ·rw [if_neg h,idxI_any p t (i+1) (by omega),List.any_cons]
    simp only [Bool.not_eq_true] at h
    rw [h];rfl
def notR (r:Int) (x:Ins):Bool:= !rightS x r
theorem idxi_ec {l:List Ins} {r:Int} {c1 c2 c3 c4 c5:AV} {k:AV→List AObj→Prop} (hl:l.length≤1000000)
    (hk:k (.lit (.int .i64 (idxI (notR r) l 0))) [.box 26 [.lit (.int .i64 r),c1,c2,c3,c4,c5]]):
    EC Tryz.prog 75 [.sl false 6 (opsV l),.fn (.func 44) [] [.ref 0 0]] [.box 26 [.lit (.int .i64 r),c1,c2,c3,c4,c5]] k:=by
  generalize hR:idxI (notR r) l 0=R at hk
  refine ecR W13_ok (kp75) Tryz.func75 [.tmp 4] (h:=fun KF=>?_)
  unfold W13
  repeat' (first
   |(with_reducible first|refine nx ?_|refine t_seq fun K=>?_|refine t_br (fun hc=>?_) fun hc=>?_|refine t_bx ?_|apply And.intro|intro vr)
   |((with_reducible first|refine ny ?_|refine t_dwh (h:=fun K KL=>?_));intros;simp only [go_sem,kp75,geff]))
  all_goals try exact nd
  refine t_loopF (ι:={i:Nat // i≤l.length∧idxI (notR r) (l.drop i) i=R}) (fun i=>[(8,.lit (.int .i64 i.1))]) (fun i=>[.box 26 [.lit (.int .i64 r),c1,c2,c3,c4,c5]]) (fun i=>l.length - i.1) ⟨0,by omega,hR⟩ ?_ ?_
  ·exact lf
  rintro ⟨i,hi,hF⟩ K0
  rcases Nat.lt_or_ge i l.length with hc|hc
  ·rw [drop_getI hc,idxI] at hF
   have g3:decide ((i:Int)<(l.length:Int))=true:=decide_eq_true (by omega)
   generalize hx:l.getD i nilI=x at hF
   cases h4:rightS x r with
   |true=>
    rw [if_neg (by unfold notR;rw [h4];decide)] at hF
    obtain ⟨q,p,a,b,c,d⟩:=x
    repeat' (first
     |(with_reducible first|refine nx ?_|refine t_seq fun K=>?_|refine t_br (fun hc=>?_) fun hc=>?_|refine t_bx ?_|apply And.intro|intro vr)
     |((with_reducible first|refine ny ?_|refine t_dwh (h:=fun K KL=>?_));intros;simp only [go_sem,kp75,geff,g3,hx,h4,Int.toNat_natCast,Bool.not_true,yes]))
    all_goals try exact nd
    exact ⟨⟨i+1,by omega,by rw [←hF];congr 1⟩,wf,lf⟩
   |false=>
    rw [if_pos (by unfold notR;rw [h4];decide)] at hF
    obtain ⟨q,p,a,b,c,d⟩:=x
    repeat' (first
     |(with_reducible first|refine nx ?_|refine t_seq fun K=>?_|refine t_br (fun hc=>?_) fun hc=>?_|refine t_bx ?_|apply And.intro|intro vr)
     |((with_reducible first|refine ny ?_|refine t_dwh (h:=fun K KL=>?_));intros;simp only [go_sem,kp75,geff,g3,hx,h4,Int.toNat_natCast,Bool.not_false,yes]))
    all_goals try exact nd
    all_goals (refine nl ?_;simp only [go_sem])
    rw [hF];exact hk
  ·have g3:decide ((i:Int)<(l.length:Int))=false:=decide_eq_false (by omega)
   rw [List.drop_eq_nil_of_le (by omega),idxI] at hF
   repeat' (first
    |(with_reducible first|refine nx ?_|refine t_seq fun K=>?_|refine t_br (fun hc=>?_) fun hc=>?_|refine t_bx ?_|apply And.intro|intro vr)
    |((with_reducible first|refine ny ?_|refine t_dwh (h:=fun K KL=>?_));intros;simp only [go_sem,kp75,geff,g3,Int.toNat_natCast]))
   all_goals try exact nd
   all_goals (refine nl ?_;simp only [go_sem])
   rw [hF];exact hk
noncomputable def ecn75:ECon Tryz.prog where
  f:=75
  c:=fun args σ k=>match args,σ with
   |[x,.fn (.func 44) [] [.ref 0 0]],[.box 26 [.lit (.int .i64 r),c1,c2,c3,c4,c5]]=>match opsOf x with
    |some x=>x.length≤1000000∧k (.lit (.int .i64 (idxI (notR r) x 0))) [.box 26 [.lit (.int .i64 r),c1,c2,c3,c4,c5]]
    |none=>False
   |_,_=>False
  ok:=by
   intro args σ k h
   split at h
   ·split at h
    ·rename_i hx
     exact EC.weak (idxi_ec h.1 h.2) (LeRL.cons (opsOf_leR hx) (LeRL.cons (LeR.refl _) LeRL.nil))
    ·exact h.elim
   ·exact h.elim
  fk:=fk75
theorem ecn75_f:ecn75.f=75:=rfl
theorem ecn75_c {x c1 c2 c3 c4 c5:AV} {r:Int} {k:AV→List AObj→Prop}:ecn75.c [x,.fn (.func 44) [] [.ref 0 0]] [.box 26 [.lit (.int .i64 r),c1,c2,c3,c4,c5]] k=match opsOf x with
      |some x=>x.length≤1000000∧k (.lit (.int .i64 (idxI (notR r) x 0))) [.box 26 [.lit (.int .i64 r),c1,c2,c3,c4,c5]]
      |none=>False:=rfl
attribute [go_sem] ecn75_f ecn75_c
noncomputable def X13:Env:=envJ (P:=Tryz.prog) jkV zer (fun _=>false) (fun _=>false) [] [ecn75]
theorem X13_ok:EnvOk Tryz.prog X13:=envJOk zer_ok
theorem anyi_ec {l:List Ins} {r:Int} {c1 c2 c3 c4 c5:AV} {k:AV→List AObj→Prop} (hl:l.length≤1000000)
    (hk:k (.lit (.bool (l.any (notR r)))) [.box 26 [.lit (.int .i64 r),c1,c2,c3,c4,c5]]):
    EC Tryz.prog 43 [.sl false 6 (opsV l),.fn (.func 44) [] [.ref 0 0]] [.box 26 [.lit (.int .i64 r),c1,c2,c3,c4,c5]] k:=by
  rw [←idxI_any (notR r) l 0 (by omega)] at hk
  refine ecR X13_ok (kp43) Tryz.func43 [.tmp 4] (h:=fun KF=>?_)
  unfold X13
  repeat' (first
   |(with_reducible first|refine nx ?_|refine t_seq fun K=>?_|refine t_br (fun hc=>?_) fun hc=>?_|refine t_bx ?_|apply And.intro|intro vr)
   |((with_reducible first|refine ny ?_|refine t_dwh (h:=fun K KL=>?_));intros;simp only [go_sem,kp43,geff]))
  all_goals try exact nd
  all_goals (refine nl ?_;simp only [go_sem])
  exact hk
noncomputable def ecn43:ECon Tryz.prog where
  f:=43
  c:=fun args σ k=>match args,σ with
   |[x,.fn (.func 44) [] [.ref 0 0]],[.box 26 [.lit (.int .i64 r),c1,c2,c3,c4,c5]]=>match opsOf x with
    |some x=>x.length≤1000000∧k (.lit (.bool (x.any (notR r)))) [.box 26 [.lit (.int .i64 r),c1,c2,c3,c4,c5]]
    |none=>False
   |_,_=>False
  ok:=by
   intro args σ k h
   split at h
   ·split at h
    ·rename_i hx
     exact EC.weak (anyi_ec h.1 h.2) (LeRL.cons (opsOf_leR hx) (LeRL.cons (LeR.refl _) LeRL.nil))
    ·exact h.elim
   ·exact h.elim
  fk:=fk43
theorem ecn43_f:ecn43.f=43:=rfl
theorem ecn43_c {x c1 c2 c3 c4 c5:AV} {r:Int} {k:AV→List AObj→Prop}:ecn43.c [x,.fn (.func 44) [] [.ref 0 0]] [.box 26 [.lit (.int .i64 r),c1,c2,c3,c4,c5]] k=match opsOf x with
      |some x=>x.length≤1000000∧k (.lit (.bool (x.any (notR r)))) [.box 26 [.lit (.int .i64 r),c1,c2,c3,c4,c5]]
      |none=>False:=rfl
attribute [go_sem] ecn43_f ecn43_c
end Go.Proofs.YtohiagaclfaolaaGreatDoor

set_option linter.unusedVariables false
namespace Go.Proofs
open Go.RowKit
set_option maxHeartbeats 2000000 in
set_option maxRecDepth 100000 in
theorem Tryz.growP_run (n:Nat) (h0:0<n) (h63:n≤1000000) (w:World):
    Calls Tryz.prog 58 #[.slice none 0 0,.int .i64 n] w fun e w'=>e= .returned (.slice (some ⟨w.heap.size,0,none⟩) 0 (grownCap w n 0 58))∧∃ cur,cur.size=grownCap w n 0 58*2∧w'=w.drew.alloc (.cells cur 58):=by
  obtain ⟨i0,hi,hz0,hz1,hz2⟩:=info_parts (show (Tryz.prog.info? 58).map (fun i=>(i.zero,i.size,i.bytes))=some (some (.agg #[.int .i64 0,.int .i64 0]),2,16) from by kernel_rfl)
  have h:=Lib.run_append_nil_zeros (P:=Tryz.prog) w 23 3 23 58 i0 (.agg #[.int .i64 0,.int .i64 0]) .i64 .i64 Tryz.underlying23 Tryz.underlying3 hi hz0 n h0 (by omega) (by omega) (by rw [hz2];omega)
  go_enter Tryz.func58,Tryz.ntmps58
  go_wp2_with (at_builtin;refine Lib.wpList_append_run _ rfl _ _ _ _ rfl _ _ rfl rfl _ _ h ?_)
  go_ret
  exact ⟨rfl,_,by have:=grownCap_ge w n 0 58;simp [size_zeroCells];omega,rfl⟩
set_option maxHeartbeats 2000000 in
set_option maxRecDepth 100000 in
theorem Tryz.growP_zero (w:World):Calls Tryz.prog 58 #[.slice none 0 0,.int .i64 0] w fun e w'=>e= .returned (.slice none 0 0)∧w'=w:=by
  go_enter Tryz.func58,Tryz.ntmps58
  go_wp2
  go_ret
  exact ⟨rfl,rfl⟩
namespace YtohiagaclfaolaaGreatDoor
open Go.Fw
theorem growP_ec {n:Nat} (h0:0<n) (hn:n≤1000000) {σ:List AObj} {k:AV→List AObj→Prop} (hk:k (.arr σ.length 0) (σ++[.arr 58 2 [] 0 false])):EC Tryz.prog 58 [.lit (.slice none 0 0),.lit (.int .i64 n)] σ k:=by
  intro cx G w vs hr hl
  obtain ⟨h1,h2⟩:=hl
  match vs,h1 with
  |[a,b],_=>
   have ha:=(show R G (.lit (.slice none 0 0)) a from h2 0 (by simp)).lit_inv
   have hb:=(show R G (.lit (.int .i64 n)) b from h2 1 (by simp)).lit_inv
   subst ha;subst hb
   refine (Tryz.growP_run n h0 hn w).mono ?_
   rintro e w' ⟨rfl,cur,hc,rfl⟩
   have hge:=grownCap_ge w n 0 58
   obtain ⟨G',g1,g2,g3⟩:=(hr.more (More.drawn w (w.drawn+1))).newArr 58 2 (xs:=[]) (cur:=cur) (cap:=grownCap w n 0 58) (fz:=(0,0)) ⟨by simp,by simp,by simp⟩ (by omega) (by simp) (grownCap_le_maxLen w n 0 58 (by unfold maxLen;omega)) (by omega) ⟨Nat.le_refl _,fun off _ h=>by simp at h⟩
   exact ⟨_,G',_,_,rfl,g1,g2,g3,hk⟩
theorem growP_ec0 {σ:List AObj} {k:AV→List AObj→Prop} (hk:k (.lit (.slice none 0 0)) σ):EC Tryz.prog 58 [.lit (.slice none 0 0),.lit (.int .i64 0)] σ k:=by
  intro cx G w vs hr hl
  obtain ⟨h1,h2⟩:=hl
  match vs,h1 with
  |[a,b],_=>
   have ha:=(show R G (.lit (.slice none 0 0)) a from h2 0 (by simp)).lit_inv
   have hb:=(show R G (.lit (.int .i64 0)) b from h2 1 (by simp)).lit_inv
   subst ha;subst hb
   refine (Tryz.growP_zero w).mono ?_
   rintro e w' ⟨rfl,rfl⟩
   exact ⟨_,G,_,_,rfl,Gh.le.refl G,hr,.clo _ _ (.lit _),hk⟩
end YtohiagaclfaolaaGreatDoor
end Go.Proofs

namespace Go.Proofs.YtohiagaclfaolaaGreatDoor
open Go Go.Fw Bm
set_option maxRecDepth 20000
def pss (L:List (List (Int×Int))):List AV:=L.map fun l=> .sl false 2 (plsV l)
def jPs:AV:= .sl false 2 (plsV [])
def jkC:TypeId→AV:=fun t=>if t=23 then jPs else jkV t
theorem jkC_23:jkC 23=jPs:=rfl
theorem pss_length (L:List (List (Int×Int))):(pss L).length=L.length:=by simp [pss]
theorem pss_getJ (L:List (List (Int×Int))) (i:Nat):(pss L).getD i jPs= .sl false 2 (plsV (L.getD i [])):=by
  simp only [pss,jPs,List.getD_eq_getElem?_getD,List.getElem?_map];cases L[i]? <;>rfl
attribute [go_sem] jkC_23 pss_length pss_getJ
noncomputable def ecn58:ECon Tryz.prog where
  f:=58
  c:=fun args σ k=>match args with
   |[.lit (.slice none 0 0),.lit (.int .i64 n)]=>0≤n∧n≤1000000∧(n=0→k (.lit (.slice none 0 0)) σ)∧(n≠0→k (.arr σ.length 0) (σ++[.arr 58 2 [] 0 false]))
   |_=>False
  ok:=by
   intro args σ k h
   split at h
   ·rename_i n
    obtain ⟨m,rfl⟩:∃ m:Nat,n=m:=⟨n.toNat,by omega⟩
    rcases Nat.eq_zero_or_pos m with rfl|hm
    ·exact growP_ec0 (h.2.2.1 rfl)
    ·exact growP_ec hm (by omega) (h.2.2.2 (by omega))
   ·exact h.elim
  fk:=fk58
theorem ecn58_f:ecn58.f=58:=rfl
theorem ecn58_c {n:Int} {σ:List AObj} {k:AV→List AObj→Prop}:ecn58.c [.lit (.slice none 0 0),.lit (.int .i64 n)] σ k=(0≤n∧n≤1000000∧(n=0→k (.lit (.slice none 0 0)) σ)∧(n≠0→k (.arr σ.length 0) (σ++[.arr 58 2 [] 0 false]))):=rfl
attribute [go_sem] ecn58_f ecn58_c
noncomputable def V14:Env:=envJ (P:=Tryz.prog) jkC zer (fun _=>false) (fun _=>false) [] [ecn58]
theorem V14_ok:EnvOk Tryz.prog V14:=envJOk zer_ok
theorem flat_take {L:List (List (Int×Int))} {i:Nat} (h:i<L.length):(L.take (i+1)).flatten=(L.take i).flatten++L.getD i []:=by
  rw [List.take_add_one,List.getElem?_eq_getElem h,List.getD_eq_getElem?_getD,List.getElem?_eq_getElem h,List.flatten_append];simp
theorem flat_le (L:List (List (Int×Int))) (i:Nat):(L.take i).flatten.length≤L.flatten.length:=by
  have h:L.flatten=(L.take i).flatten++(L.drop i).flatten:=by rw [←List.flatten_append,List.take_append_drop]
  rw [h,List.length_append];omega
set_option maxHeartbeats 4000000 in
theorem concat_pc {L:List (List (Int×Int))} (hl:L.flatten.length≤1000000) (hL:L.length≤1000000):PC Tryz.prog 26 [.sl false 1 (pss L)] (.sl false 2 (plsV L.flatten)):=by
  refine pcR V14_ok (kp26) Tryz.func26 [.tmp 2] (h:=fun KF=>?_)
  unfold V14
  repeat' (first
   |(with_reducible first|refine nx ?_|refine t_seq fun K=>?_|refine t_br (fun hc=>?_) fun hc=>?_|refine t_bx ?_|apply And.intro|intro vr)
   |((with_reducible first|refine ny ?_|refine t_dwh (h:=fun K KL=>?_));intros;simp only [go_sem,kp26,geff]))
  all_goals try exact nd
  refine t_loopF (ι:={i:Nat // i≤L.length}) (fun i=>[(11,.lit (.int .i64 i.1)),(3,.lit (.int .i64 (L.take i.1).flatten.length))]) (fun i=>[]) (fun i=>L.length - i.1) ⟨0,by omega⟩ ?_ ?_
  ·exact lf
  rintro ⟨i,hi⟩ K0
  rcases Nat.lt_or_ge i L.length with hc|hc
  ·have g3:decide ((i:Int)<(L.length:Int))=true:=decide_eq_true (by omega)
   have hf:=flat_take hc
   have hle:=flat_le L (i+1)
   have hlen:=congrArg List.length hf
   rw [List.length_append] at hlen
   have g8:((L.take i).flatten.length:Int)+((L.getD i []).length:Int)=((L.take (i+1)).flatten.length:Nat):=by omega
   have g9:decide ((((L.take (i+1)).flatten.length:Nat):Int)<0)=false:=decide_eq_false (by omega)
   repeat' (first
    |(with_reducible first|refine nx ?_|refine t_seq fun K=>?_|refine t_br (fun hc=>?_) fun hc=>?_|refine t_bx ?_|apply And.intro|intro vr)
    |((with_reducible first|refine ny ?_|refine t_dwh (h:=fun K KL=>?_));intros;simp only [go_sem,kp26,geff,updL_cons,updL_nil,Int.toNat_natCast,g3,g8,g9]))
   all_goals try exact nd
   exact ⟨⟨i+1,by omega⟩,wf,lf⟩
  ·have g3:decide ((i:Int)<(L.length:Int))=false:=decide_eq_false (by omega)
   have e:L.take i=L:=List.take_of_length_le hc
   have z0:L.take 0=[]:=List.take_zero
   rcases Nat.eq_zero_or_pos L.flatten.length with ht|ht
   ·have g4:((L.flatten.length:Nat):Int)=0:=by omega
    repeat' (first
     |(with_reducible first|refine nx ?_|refine t_seq fun K=>?_|refine t_br (fun hc=>?_) fun hc=>?_|refine t_bx ?_|apply And.intro|intro vr)
     |((with_reducible first|refine ny ?_|refine t_dwh (h:=fun K KL=>?_));intros;simp only [go_sem,kp26,geff,updL_cons,updL_nil,Int.toNat_natCast,g3,e,g4,true_imp_iff,ne_eq,not_true_eq_false,false_imp_iff]))
    all_goals try exact nd
    refine t_loopF (ι:={p:Nat×Nat // p.1≤L.length}) (fun i=>[(27,.lit (.int .i64 i.1.1)),(6,.arr 0 i.1.2)]) (fun i=>[.arr 58 2 (plsV (L.take i.1.1).flatten) i.1.2 false]) (fun i=>L.length - i.1.1) ⟨(0,0),by simp⟩ ?_ ?_
    ·refine (le_nil 6 58 2 rfl).trans ?_
     exact lf
    rintro ⟨⟨i,ver⟩,hi⟩ K1
    simp only at hi
    rcases Nat.lt_or_ge i L.length with hc|hc
    ·have g3:decide ((i:Int)<(L.length:Int))=true:=decide_eq_true (by omega)
     have hf:=flat_take hc
     have hle:=flat_le L (i+1)
     have hlen:=congrArg List.length hf
     rw [List.length_append] at hlen
     repeat' (first
      |(with_reducible first|refine nx ?_|refine t_seq fun K=>?_|refine t_br (fun hc=>?_) fun hc=>?_|refine t_bx ?_|apply And.intro|intro vr)
      |((with_reducible first|refine ny ?_|refine t_dwh (h:=fun K KL=>?_));intros;simp only [go_sem,kp26,geff,updL_cons,updL_nil,Int.toNat_natCast,g3,plsV_app,←hf]))
     all_goals try (first|(with_reducible assumption)|(intros;(try simp only [Bool.and_eq_true,Bool.or_eq_true,Bool.or_eq_false_iff,Bool.not_eq_true',Bool.not_eq_false',decide_eq_true_eq,decide_eq_false_iff_not,beq_iff_eq,beq_eq_false_iff_ne,bne_iff_ne,bne_eq_false_iff_eq,ne_eq,inI64,plsV_length] at*)<;>omega)|(intros;(with_reducible first|refine impB_ofR ?_|refine and_ofB ?_ ?_)<;>with_reducible first|assumption|(refine impB_ofR ?_;assumption))|((try simp only [Bool.and_eq_true] at vr);simp only [impB,vr,Bool.or_true,Bool.true_or,Bool.and_self,Bool.not_true,Bool.not_false,Bool.and_true];done))
     exact ⟨⟨(i+1,ver+1),by simp only;omega⟩,wf,lf⟩
    ·have g3:decide ((i:Int)<(L.length:Int))=false:=decide_eq_false (by omega)
     have e:L.take i=L:=List.take_of_length_le hc
     repeat' (first
      |(with_reducible first|refine nx ?_|refine t_seq fun K=>?_|refine t_br (fun hc=>?_) fun hc=>?_|refine t_bx ?_|apply And.intro|intro vr)
      |((with_reducible first|refine ny ?_|refine t_dwh (h:=fun K KL=>?_));intros;simp only [go_sem,kp26,geff,updL_cons,updL_nil,Int.toNat_natCast,g3,e]))
     all_goals try exact nd
     all_goals (refine nl ?_;simp only [go_sem])
     exact LeA.refl _
   ·have g4:(((L.flatten.length:Nat):Int)=0)=False:=eq_false (by omega)
    repeat' (first
     |(with_reducible first|refine nx ?_|refine t_seq fun K=>?_|refine t_br (fun hc=>?_) fun hc=>?_|refine t_bx ?_|apply And.intro|intro vr)
     |((with_reducible first|refine ny ?_|refine t_dwh (h:=fun K KL=>?_));intros;simp only [go_sem,kp26,geff,updL_cons,updL_nil,Int.toNat_natCast,g3,e,g4,true_imp_iff,ne_eq,not_false_eq_true,false_imp_iff]))
    all_goals try exact nd
    refine t_loopF (ι:={p:Nat×Nat // p.1≤L.length}) (fun i=>[(27,.lit (.int .i64 i.1.1)),(6,.arr 0 i.1.2)]) (fun i=>[.arr 58 2 (plsV (L.take i.1.1).flatten) i.1.2 false]) (fun i=>L.length - i.1.1) ⟨(0,0),by simp⟩ ?_ ?_
    ·exact lf
    rintro ⟨⟨i,ver⟩,hi⟩ K1
    simp only at hi
    rcases Nat.lt_or_ge i L.length with hc|hc
    ·have g3:decide ((i:Int)<(L.length:Int))=true:=decide_eq_true (by omega)
     have hf:=flat_take hc
     have hle:=flat_le L (i+1)
     have hlen:=congrArg List.length hf
     rw [List.length_append] at hlen
     repeat' (first
      |(with_reducible first|refine nx ?_|refine t_seq fun K=>?_|refine t_br (fun hc=>?_) fun hc=>?_|refine t_bx ?_|apply And.intro|intro vr)
      |((with_reducible first|refine ny ?_|refine t_dwh (h:=fun K KL=>?_));intros;simp only [go_sem,kp26,geff,updL_cons,updL_nil,Int.toNat_natCast,g3,plsV_app,←hf]))
     all_goals try (first|(with_reducible assumption)|(intros;(try simp only [Bool.and_eq_true,Bool.or_eq_true,Bool.or_eq_false_iff,Bool.not_eq_true',Bool.not_eq_false',decide_eq_true_eq,decide_eq_false_iff_not,beq_iff_eq,beq_eq_false_iff_ne,bne_iff_ne,bne_eq_false_iff_eq,ne_eq,inI64,plsV_length] at*)<;>omega)|(intros;(with_reducible first|refine impB_ofR ?_|refine and_ofB ?_ ?_)<;>with_reducible first|assumption|(refine impB_ofR ?_;assumption))|((try simp only [Bool.and_eq_true] at vr);simp only [impB,vr,Bool.or_true,Bool.true_or,Bool.and_self,Bool.not_true,Bool.not_false,Bool.and_true];done))
     exact ⟨⟨(i+1,ver+1),by simp only;omega⟩,wf,lf⟩
    ·have g3:decide ((i:Int)<(L.length:Int))=false:=decide_eq_false (by omega)
     have e:L.take i=L:=List.take_of_length_le hc
     repeat' (first
      |(with_reducible first|refine nx ?_|refine t_seq fun K=>?_|refine t_br (fun hc=>?_) fun hc=>?_|refine t_bx ?_|apply And.intro|intro vr)
      |((with_reducible first|refine ny ?_|refine t_dwh (h:=fun K KL=>?_));intros;simp only [go_sem,kp26,geff,updL_cons,updL_nil,Int.toNat_natCast,g3,e]))
     all_goals try exact nd
     all_goals (refine nl ?_;simp only [go_sem])
     exact LeA.refl _
end Go.Proofs.YtohiagaclfaolaaGreatDoor

namespace Go.Proofs.YtohiagaclfaolaaGreatDoor
open Go Go.Fw Bm
set_option maxRecDepth 20000
noncomputable def con22:PCon Tryz.prog where
  f:=22
  c:=fun
   |[xx]=>match opsOf xx with|some x=>some ((x.length≤1000000),matchV x)|_=>none
   |_=>none
  ok:=by
   intro args p r hc hp
   split at hc
   ·split at hc
    ·rename_i hx
     cases hc
     exact PC.weak (match_pc hp) ⟨opsOf_le hx,trivial⟩
    ·cases hc
   ·cases hc
  fk:=fk22
theorem con22_f:con22.f=22:=rfl
theorem con22_c {xx:AV}:con22.c [xx]=match opsOf xx with|some x=>some ((x.length≤1000000),matchV x)|_=>none:=rfl
attribute [go_sem] con22_f con22_c
theorem concat2_pc {a b:List (Int×Int)} {b1 b2 b3:Bool} (h:a.length≤100000∧b.length≤100000):PC Tryz.prog 26 [.sl b1 1 [.sl b2 2 (plsV a),.sl b3 2 (plsV b)]] (.sl false 2 (plsV (a++b))):=by
  have:=concat_pc (L:=[a,b]) (by simp;omega) (by simp)
  rw [show [a,b].flatten=a++b by simp] at this
  refine PC.weak this ⟨LeA.sl rfl (by intro y hy;simp [pss] at hy;rcases hy with rfl|rfl<;>rfl) ⟨LeA.full _ _ _,LeA.full _ _ _,trivial⟩,trivial⟩
noncomputable def con26:PCon Tryz.prog where
  f:=26
  c:=fun
   |[.sl _ 1 [.sl _ 2 x,.sl _ 2 y]]=>match plL x,plL y with
    |some a,some b=>some (a.length≤100000∧b.length≤100000,.sl false 2 (plsV (a++b)))
    |_,_=>none
   |_=>none
  ok:=by
   intro args p r hc hp
   split at hc
   ·split at hc
    ·rename_i hx hy
     cases hc
     rw [plL_inv hx,plL_inv hy]
     exact concat2_pc hp
    ·cases hc
   ·cases hc
  fk:=fk26
theorem con26_f:con26.f=26:=rfl
theorem con26_c {b1 b2 b3:Bool} {x y:List AV}:con26.c [.sl b1 1 [.sl b2 2 x,.sl b3 2 y]]=match plL x,plL y with
      |some a,some b=>some (a.length≤100000∧b.length≤100000,.sl false 2 (plsV (a++b)))
      |_,_=>none:=rfl
attribute [go_sem] con26_f con26_c plL_pls
noncomputable def V15:Env:=envJ (P:=Tryz.prog) jkV zer (fun _=>false) (fun t=>t==52) [con22,con26,con35] [ecn43]
theorem V15_ok:EnvOk Tryz.prog V15:=envJOk zer_ok
theorem any_all {l:List Ins} {r:Int}:l.any (notR r)= !(l.all fun x=>rightS x r):=by
  induction l with
  |nil=>rfl
  |cons x l ih=>simp only [List.any_cons,List.all_cons,ih,notR,Bool.not_and]
set_option maxHeartbeats 8000000 in
theorem bvalid_pc {B:Prg} (h:OkB B) (hi:B.ins.length≤100000∧B.outs.length≤100000):PC Tryz.prog 14 [bcV B] (.lit (.bool (validS B))):=by
  rw [valid_eq]
  have hT:=h.types;have hD:=h.dims;have hO:=h.ops
  obtain ⟨r,a,o,ii,u,t⟩:=B
  simp only at hT hD hO hi
  obtain ⟨ml,hml⟩:=matchV_eq o
  generalize hR:(!headB ⟨r,a,o,ii,u,t⟩&&typesOk a t (ii++u))=R
  simp only [headB,formedB] at hR
  simp only [bcV_mk]
  refine pcR V15_ok (kp14) Tryz.func14 [.tmp 2] (h:=fun KF=>?_)
  unfold V15
  cases hm:(matchS o).isSome with
  |false=>
   rw [hm] at hR
   repeat' (first
    |(with_reducible first|refine nx ?_|refine t_seq fun K=>?_|refine t_bx ?_|apply And.intro|intro vr)
    |((with_reducible refine t_cond fun A B=>?_);simp only [go_sem,kp14,geff_true,geff_false,hml,any_all,hm];first|(with_reducible refine A.h ?_)|(with_reducible refine B.h ?_)|(refine And.intro (fun hc=>A.h ?_) (fun hc=>B.h ?_)))
    |((with_reducible first|refine ny ?_|refine t_dwh (h:=fun K KL=>?_));intros;simp only [go_sem,kp14,geff_true,geff_false,hml,any_all,hm])
    |((with_reducible refine t_geffS (fun hg=>?_) (fun hg=>?_))<;>((try simp only [Bool.not_eq_true',Bool.not_eq_false',Bool.and_eq_true,Bool.or_eq_false_iff] at hg);simp only [hg,go_sem,kp14,geff_true,geff_false,hml,any_all,hm])))
   all_goals try exact nd
   all_goals
     all_goals (refine nl ?_;simp only [go_sem])
     refine LeA.of_eq ?_
     rw [←hR]
     simp
  |true=>
  rw [hm] at hR
  cases hA:(o.all fun x=>rightS x r) with
  |false=>
   rw [hA] at hR
   repeat' (first
    |(with_reducible first|refine nx ?_|refine t_seq fun K=>?_|refine t_bx ?_|apply And.intro|intro vr)
    |((with_reducible refine t_cond fun A B=>?_);simp only [go_sem,kp14,geff_true,geff_false,hml,any_all,hm,hA];first|(with_reducible refine A.h ?_)|(with_reducible refine B.h ?_)|(refine And.intro (fun hc=>A.h ?_) (fun hc=>B.h ?_)))
    |((with_reducible first|refine ny ?_|refine t_dwh (h:=fun K KL=>?_));intros;simp only [go_sem,kp14,geff_true,geff_false,hml,any_all,hm,hA])
    |((with_reducible refine t_geffS (fun hg=>?_) (fun hg=>?_))<;>((try simp only [Bool.not_eq_true',Bool.not_eq_false',Bool.and_eq_true,Bool.or_eq_false_iff] at hg);simp only [hg,go_sem,kp14,geff_true,geff_false,hml,any_all,hm,hA])))
   all_goals try exact nd
   all_goals
     all_goals (refine nl ?_;simp only [go_sem])
     refine LeA.of_eq ?_
     rw [←hR]
     simp
  |true=>
  rw [hA] at hR
  repeat' (first
   |(with_reducible first|refine nx ?_|refine t_seq fun K=>?_|refine t_bx ?_|apply And.intro|intro vr)
   |((with_reducible refine t_cond fun A B=>?_);simp only [go_sem,kp14,geff_true,geff_false,hml,any_all,hm,hA];first|(with_reducible refine A.h ?_)|(with_reducible refine B.h ?_)|(refine And.intro (fun hc=>A.h ?_) (fun hc=>B.h ?_)))
   |((with_reducible first|refine ny ?_|refine t_dwh (h:=fun K KL=>?_));intros;simp only [go_sem,kp14,geff_true,geff_false,hml,any_all,hm,hA])
   |((with_reducible refine t_geffS (fun hg=>?_) (fun hg=>?_))<;>((try simp only [Bool.not_eq_true',Bool.not_eq_false',Bool.and_eq_true,Bool.or_eq_false_iff] at hg);simp only [hg,go_sem,kp14,geff_true,geff_false,hml,any_all,hm,hA])))
  all_goals try exact nd
  ·skip
   all_goals (refine nl ?_;simp only [go_sem])
   refine LeA.of_eq ?_
   rw [←hR]
   simp_all
   intro k1 k2 k3 k4 k5
   exfalso
   omega
  have hH:headB ⟨r,a,o,ii,u,t⟩=false:=by simp only [headB,formedB,hA,hm];simp_all
  have hRT:typesOk a t (ii++u)=R:=by rw [←hR];simp only [headB,formedB,hA,hm] at hH;rw [hH];rfl
  have hla:0≤a∧a≤1048576:=by simp only [headB,Bool.or_eq_false_iff,decide_eq_false_iff_not] at hH;omega
  have hlt:t.length=ii.length+u.length:=by simp only [headB,Bool.or_eq_false_iff,bne_eq_false_iff_eq] at hH;omega
  clear hR hH
  try clear hc
  refine t_loopF (ι:={j:Nat // j≤t.length∧typesOk a (t.drop j) ((ii++u).drop j)=R}) (fun i=>[(61,.lit (.int .i64 i.1))]) (fun i=>[.box 26 [.lit (.int .i64 r),.lit (.int .i64 a),.sl false 6 (opsV o),.sl false 2 (plsV ii),.sl false 2 (plsV u),.sl false 3 (arrs t)]]) (fun i=>t.length - i.1) ⟨0,by omega,hRT⟩ ?_ ?_
  ·exact lf
  rintro ⟨j,hj,hF⟩ K0
  have hcl:(ii++u).length=t.length:=by rw [List.length_append];omega
  rcases Nat.lt_or_ge j t.length with hc|hc
  ·have g3:decide ((j:Int)<(t.length:Int))=true:=decide_eq_true (by omega)
   have hpl:j<(ii++u).length:=by rw [List.length_append];omega
   rw [drop_getD nilA hc,drop_getP hpl,typesOk,typeOk_eq] at hF
   have hm:okA (t.getD j nilA):=hD _ (getD_mem nilA hc)
   generalize hp:(ii++u).getD j (0,0)=p at hF
   generalize hy:t.getD j nilA=y at hF hm
   obtain ⟨po,ps⟩:=p
   have hbd:=sizeS_bd y.d
   obtain ⟨e,d,x⟩:=y
   simp only at hF hbd
   have hpy:arrV ⟨e,d,x⟩= .agg [.lit (.string e),.sl false 1 (ints .i64 d),.sl false 1 (ints .i64 x)]:=rfl
   have hpp:plV (po,ps)= .agg [.lit (.int .i64 po),.lit (.int .i64 ps)]:=rfl
   repeat' (first
    |(with_reducible first|refine nx ?_|refine t_seq fun K=>?_|refine t_br (fun hc=>?_) fun hc=>?_|refine t_bx ?_|apply And.intro|intro vr)
    |((with_reducible first|refine ny ?_|refine t_dwh (h:=fun K KL=>?_));intros;simp only [go_sem,kp14,geff,g3,hcl,hy,hpy,hp,hpp,Int.toNat_natCast,yes]))
   all_goals try exact nd
   ·skip
    all_goals (refine nl ?_;simp only [go_sem])
    refine LeA.of_eq ?_
    rw [←hF]
    revert hc
    simp only [bne]
    cases typdB ⟨e,d,x⟩<;>cases (ps==(sizeS d).1)<;>cases decide (po<0)<;>cases decide (po>a - (sizeS d).1)<;>simp
   ·skip
    have hF':typesOk a (t.drop (j+1)) ((ii++u).drop (j+1))=R:=by rw [←hF];simp_all
    refine ⟨⟨j+1,by omega,hF'⟩,by first|(simp only;omega)|omega,?_⟩
    try simp only [updL_nil,updL_cons,delF_top,delF_upd,Nat.reduceEqDiff,reduceIte]
    refine le_backM (by first|rfl|(simp only [go_sem];try rfl)) (by first|exact Nat.zero_le _|simp) (by first|rfl|simp [lowO,low_lit,low_sl,low_ref,low_arr,low_sub,low_mp]) ?_ ?_
    ·repeat' (first|exact low_top|(refine low_upd rfl ?_))
    repeat' (first|exact leF_top _|exact (fun _=>LeR.refl _)|(with_reducible refine leF_sl ?_ ?_)|(refine leF_upd ?_ ?_))
    all_goals (first|exact LeR.top _|exact LeR.refl _|(refine LeR.of_eq ?_;(try simp only [go_sem]);try rfl)|((try simp only [go_sem]);try rfl))
  ·have g3:decide ((j:Int)<(t.length:Int))=false:=decide_eq_false (by omega)
   rw [List.drop_eq_nil_of_le hc] at hF
   repeat' (first
    |(with_reducible first|refine nx ?_|refine t_seq fun K=>?_|refine t_br (fun hc=>?_) fun hc=>?_|refine t_bx ?_|apply And.intro|intro vr)
    |((with_reducible first|refine ny ?_|refine t_dwh (h:=fun K KL=>?_));intros;simp only [go_sem,kp14,geff,g3,hcl]))
   all_goals try exact nd
   all_goals (refine nl ?_;simp only [go_sem])
   exact LeA.of_eq (by rw [←hF];rfl)
end Go.Proofs.YtohiagaclfaolaaGreatDoor

namespace Go.Proofs.YtohiagaclfaolaaGreatDoor
open Go Go.Fw Bm
set_option maxRecDepth 20000
theorem ft50:fieldTs Tryz.prog 50=[3,9,3,3,3,3]:=by kernel_rfl
theorem shv_op {x:AV} (h:ShV Tryz.prog 50 x):∃ o:Ins,x=opV o∧o.prim.size≤maxLen:=by
  obtain ⟨c,rfl,hc⟩:=shv_agg ag50 h
  obtain ⟨xss,h1,h2,h3⟩:=sh_fields (by simp) ft50 hc
  match xss,h2 with
  |[p,q,r,s,t,u],_=>
   obtain ⟨k,rfl,_⟩:=sh_int u3 (h3 0 3 p rfl rfl)
   obtain ⟨m,rfl,hm⟩:=sh_str u9 (h3 1 9 q rfl rfl)
   obtain ⟨a,rfl,_⟩:=sh_int u3 (h3 2 3 r rfl rfl)
   obtain ⟨b,rfl,_⟩:=sh_int u3 (h3 3 3 s rfl rfl)
   obtain ⟨c,rfl,_⟩:=sh_int u3 (h3 4 3 t rfl rfl)
   obtain ⟨d,rfl,_⟩:=sh_int u3 (h3 5 3 u rfl rfl)
   exact ⟨⟨k,m,a,b,c,d⟩,by rw [h1];rfl,hm⟩
theorem list_ops:∀ {ys:List AV},(∀ y∈ys,∃ o:Ins,y=opV o∧o.prim.size≤maxLen)→∃ l:List Ins,ys=opsV l∧∀ o∈l,o.prim.size≤maxLen
  |[],_=>⟨[],rfl,fun r h=>by cases h⟩
  |y::ys,h=>by
   obtain ⟨r,rfl,hr⟩:=h y (by simp)
   obtain ⟨l,rfl,hl⟩:=list_ops (ys:=ys) fun z hz=>h z (by simp [hz])
   exact ⟨r::l,rfl,fun q hq=>(List.mem_cons.1 hq).elim (fun e=>by rw [e];exact hr) (hl q)⟩
def fewO (n:Int) (l:List Ins):Bool:=(l.all fun x=> !decide ((x.prim.size:Int)>20))&&decide ((l.length:Int)≤n)
noncomputable def H0:Env:=envJ (P:=Tryz.prog) jkV zer (fun _=>false) (fun _=>false) [] []
theorem H0_ok:EnvOk Tryz.prog H0:=envJOk zer_ok
set_option maxHeartbeats 4000000 in
theorem fewo_pc {l:List Ins} {n:Int} (hl:l.length≤maxLen) (hp:∀ o∈l,o.prim.size≤maxLen):PC Tryz.prog 16 [.sl false 6 (opsV l),.lit (.int .i64 n)] (.lit (.bool (fewO n l))):=by
  unfold maxLen at hl hp
  generalize hR:fewO n l=R
  unfold fewO at hR
  refine pcR H0_ok (kp16) Tryz.func16 [.tmp 4] (h:=fun KF=>?_)
  unfold H0
  repeat' (first
   |(with_reducible first|refine nx ?_|refine t_seq fun K=>?_|refine t_br (fun hc=>?_) fun hc=>?_|refine t_bx ?_|apply And.intro|intro vr)
   |((with_reducible first|refine ny ?_|refine t_dwh (h:=fun K KL=>?_));intros;simp only [go_sem,kp16,geff]))
  all_goals try exact nd
  refine t_loopF (ι:={i:Nat // i≤l.length∧(((l.drop i).all fun x=> !decide ((x.prim.size:Int)>20))&&decide ((l.length:Int)≤n))=R}) (fun i=>[(5,.lit (.int .i64 i.1))]) (fun i=>[]) (fun i=>l.length - i.1) ⟨0,by omega,hR⟩ ?_ ?_
  ·exact lf
  rintro ⟨i,hi,hF⟩ K0
  rcases Nat.lt_or_ge i l.length with hc|hc
  ·have g3:decide ((i:Int)<(l.length:Int))=true:=decide_eq_true (by omega)
   rw [drop_getI hc,List.all_cons] at hF
   have hps:=hp _ (show l.getD i nilI∈l by rw [List.getD_eq_getElem?_getD,List.getElem?_eq_getElem hc];exact List.getElem_mem _)
   generalize hx:l.getD i nilI=x at hF hps
   obtain ⟨q,p,a,b,c,d⟩:=x
   simp only at hF hps
   cases hb:decide ((p.size:Int)>20) with
   |true=>
    rw [hb] at hF
    repeat' (first
     |(with_reducible first|refine nx ?_|refine t_seq fun K=>?_|refine t_br (fun hc=>?_) fun hc=>?_|refine t_bx ?_|apply And.intro|intro vr)
     |((with_reducible first|refine ny ?_|refine t_dwh (h:=fun K KL=>?_));intros;simp only [go_sem,kp16,geff,g3,hx,hb,Int.toNat_natCast,yes]))
    all_goals try exact nd
    all_goals (refine nl ?_;simp only [go_sem])
    exact LeA.of_eq (by rw [←hF];rfl)
   |false=>
    rw [hb,Bool.not_false,Bool.true_and] at hF
    repeat' (first
     |(with_reducible first|refine nx ?_|refine t_seq fun K=>?_|refine t_br (fun hc=>?_) fun hc=>?_|refine t_bx ?_|apply And.intro|intro vr)
     |((with_reducible first|refine ny ?_|refine t_dwh (h:=fun K KL=>?_));intros;simp only [go_sem,kp16,geff,g3,hx,hb,Int.toNat_natCast,yes]))
    all_goals try exact nd
    exact ⟨⟨i+1,by omega,hF⟩,wf,lf⟩
  ·have g3:decide ((i:Int)<(l.length:Int))=false:=decide_eq_false (by omega)
   rw [List.drop_eq_nil_of_le hc] at hF
   repeat' (first
    |(with_reducible first|refine nx ?_|refine t_seq fun K=>?_|refine t_br (fun hc=>?_) fun hc=>?_|refine t_bx ?_|apply And.intro|intro vr)
    |((with_reducible first|refine ny ?_|refine t_dwh (h:=fun K KL=>?_));intros;simp only [go_sem,kp16,geff,g3]))
   all_goals try exact nd
   all_goals (refine nl ?_;simp only [go_sem])
   exact LeA.of_eq (by rw [←hF];rfl)
end Go.Proofs.YtohiagaclfaolaaGreatDoor

namespace Go.Proofs.YtohiagaclfaolaaGreatDoor.Tx
open Go.Proofs.YtohiagaclfaolaaGreatDoor
open Go Go.Fw
set_option maxRecDepth 20000
def bs (l:List UInt8):ByteArray:=⟨l.toArray⟩
theorem bs_data (s:ByteArray):bs s.data.toList=s:=by cases s;simp [bs]
theorem bs_ex (s:ByteArray):∃ l,s=bs l:=⟨_,(bs_data s).symm⟩
theorem data_bs (l:List UInt8):(bs l).data.toList=l:=by simp [bs]
theorem bs_size (l:List UInt8):(bs l).size=l.length:=by simp [bs,ByteArray.size]
theorem eqS_bs (a b:List UInt8):eqS (bs a) (bs b)=(a==b):=by unfold eqS;rw [data_bs,data_bs]
theorem bs_app (a b:List UInt8):bs a++bs b=bs (a++b):=by
  apply ByteArray.ext
  simp [bs,ByteArray.data_append]
theorem bs_ext (l:List UInt8) (a b:Nat):(bs l).extract a b=bs ((l.take b).drop a):=by
  apply ByteArray.ext
  simp [bs,ByteArray.data_extract,List.drop_take]
theorem bs_empty:ByteArray.empty=bs []:=rfl
def ul (s:ByteArray):List UInt8:=s.data.toList
theorem ul_bs (l:List UInt8):ul (bs l)=l:=data_bs l
def bt (l:List UInt8) (i:Nat):Int:=((l.getD i 0).toNat:Int)
theorem strAt_bt (l:List UInt8) (i:Nat):strAt (bs l) i=bt l i:=by unfold strAt;rw [data_bs];rfl
theorem take_all {α:Type} (l:List α):l.take l.length=l:=List.take_length
theorem drop_take0 {α:Type} (l:List α) (n:Nat):(l.take n).drop 0=l.take n:=rfl
theorem l32:(⟨#[32]⟩:ByteArray)=bs [32]:=rfl
theorem l10:(⟨#[10]⟩:ByteArray)=bs [10]:=rfl
theorem l0:(⟨#[]⟩:ByteArray)=bs []:=rfl
theorem l114:(⟨#[114]⟩:ByteArray)=bs [114]:=rfl
attribute [go_sem] eqS_bs bs_size bs_app bs_ext strAt_bt ul_bs take_all drop_take0 l32 l10 l0 l114 bs_empty
def txs (l:List (List UInt8)):List AV:=l.map fun w=> .lit (.string (bs w))
theorem txs_length (l:List (List UInt8)):(txs l).length=l.length:=by simp [txs]
theorem txs_getJ (l:List (List UInt8)) (i:Nat):(txs l).getD i (.lit (.string (bs [])))= .lit (.string (bs (l.getD i []))):=by
  simp only [txs,List.getD_eq_getElem?_getD,List.getElem?_map];cases l[i]? <;>rfl
theorem txs_scal (l:List (List UInt8)):(txs l).all scal0=true:=by simp [txs,scal0]
theorem txs_append1 (l:List (List UInt8)) (w:List UInt8):txs l++[.lit (.string (bs w))]=txs (l++[w]):=by simp [txs]
theorem txs_set (l:List (List UInt8)) (i:Nat) (w:List UInt8):(txs l).set i (.lit (.string (bs w)))=txs (l.set i w):=by simp [txs,List.map_set]
theorem txs_rep (n:Nat):List.replicate n (.lit (.string (bs [])))=txs (List.replicate n []):=by simp [txs]
theorem bytesI_bs (l:List UInt8) (i:Nat):(bytesI (bs l)).getD i 0=bt l i:=by
  simp only [bytesI,data_bs,bt,List.getD_eq_getElem?_getD,List.getElem?_map];cases l[i]? <;>rfl
theorem bytesI_len (l:List UInt8):(bytesI (bs l)).length=l.length:=by simp [bytesI,data_bs]
def jkT:TypeId→AV:=lookZ [(3,.lit (.int .i64 0)),(5,.lit (.int .u8 0)),(9,.lit (.string (bs [])))]
theorem jkT3:jkT 3= .lit (.int .i64 0):=rfl
theorem jkT5:jkT 5= .lit (.int .u8 0):=rfl
theorem jkT9:jkT 9= .lit (.string (bs [])):=rfl
attribute [go_sem] jkT3 jkT5 jkT9 txs_length txs_getJ txs_scal txs_append1 txs_set txs_rep bytesI_bs bytesI_len
def fam (f:FuncId) (args:List AV):VR:=match args with
  |[.lit (.string s),.lit (.int .u8 c)]=>if f=128 then some (True,.lit (.int .i64 (Lib.indexByte (ul s) c.toNat.toUInt8))) else if f=143 then some (True,.lit (.int .i64 (Lib.countByte (ul s) c.toNat.toUInt8))) else none
  |_=>none
theorem args2 {C:Nat→Nat→Option Value} {a b:Value} {vs:List Value} (h:RL C [.lit a,.lit b] vs):vs=[a,b]:=by
  obtain ⟨h1,h2⟩:=h
  match vs,h1 with
  |[x,y],_=>
   have e1:x=a:=by have h:=h2 0 (by simp);simp only [List.getD_cons_zero] at h;cases h;rfl
   have e2:y=b:=by have h:=h2 1 (by simp);simp only [List.getD_cons_succ,List.getD_cons_zero] at h;cases h;rfl
   rw [e1,e2]
theorem fam_ok:∀ f args p r,fam f args=some (p,r)→p→(fok Tryz.prog f=true∧PC Tryz.prog f args r)∨XC Tryz.prog f args r:=by
  intro f args p r h hp
  unfold fam at h
  split at h
  ·rename_i s c
   split at h
   ·rename_i hf;subst hf;cases h
    refine .inr fun C w vs hl=>⟨_,?_,.lit _⟩
    rw [args2 hl,run_callFunc_extern Tryz.func128 (by kernel_rfl) (by kernel_rfl) (by kernel_rfl) (e:=Extern.BytealgIndexByte.indexByte) (by kernel_rfl),Lib.run_indexByteString]
    rfl
   ·split at h
    ·rename_i hf;subst hf;cases h
     refine .inr fun C w vs hl=>⟨_,?_,.lit _⟩
     rw [args2 hl,run_callFunc_extern Tryz.func143 (by kernel_rfl) (by kernel_rfl) (by kernel_rfl) (e:=Extern.BytealgCount.count) (by kernel_rfl),Lib.run_countString]
     rfl
    ·cases h
  ·cases h
theorem fam128 {s:ByteArray} {c:Int}:fam 128 [.lit (.string s),.lit (.int .u8 c)]=some (True,.lit (.int .i64 (Lib.indexByte (ul s) c.toNat.toUInt8))):=rfl
theorem fam143 {s:ByteArray} {c:Int}:fam 143 [.lit (.string s),.lit (.int .u8 c)]=some (True,.lit (.int .i64 (Lib.countByte (ul s) c.toNat.toUInt8))):=rfl
noncomputable def X0:Env:=envM (P:=Tryz.prog) fam jkT zer (fun _=>false) (fun _=>false) [] []
theorem X0_ok:EnvOk Tryz.prog X0:=envMOk zer_ok fam_ok
theorem sib_pc {s:ByteArray} {c:Int}:PC Tryz.prog 116 [.lit (.string s),.lit (.int .u8 c)] (.lit (.int .i64 (Lib.indexByte (ul s) c.toNat.toUInt8))):=by
  refine pcR X0_ok (kp116) Tryz.func116 [.tmp 4] (h:=fun KF=>?_)
  unfold X0
  repeat' (first
   |(with_reducible first|refine nx ?_|refine t_seq fun K=>?_|refine t_br (fun hc=>?_) fun hc=>?_|refine t_bx ?_|apply And.intro|intro vr)
   |((with_reducible first|refine ny ?_|refine t_dwh (h:=fun K KL=>?_));intros;simp only [go_sem,kp116,geff,fam128]))
  all_goals try exact nd
  all_goals (refine nl ?_;simp only [go_sem])
  exact LeA.refl _
noncomputable def con116:PCon Tryz.prog where
  f:=116
  c:=fun
   |[.lit (.string s),.lit (.int .u8 c)]=>some (True,.lit (.int .i64 (Lib.indexByte (ul s) c.toNat.toUInt8)))
   |_=>none
  ok:=by
   intro args p r hc hp
   split at hc
   ·cases hc;exact sib_pc
   ·cases hc
  fk:=fk116
theorem con116_f:con116.f=116:=rfl
theorem con116_c {s:ByteArray} {c:Int}:con116.c [.lit (.string s),.lit (.int .u8 c)]=some (True,.lit (.int .i64 (Lib.indexByte (ul s) c.toNat.toUInt8))):=rfl
attribute [go_sem] con116_f con116_c
noncomputable def X1:Env:=envJ (P:=Tryz.prog) jkT zer (fun _=>false) (fun _=>false) [con116] []
theorem X1_ok:EnvOk Tryz.prog X1:=envJOk zer_ok
theorem idx_pc {l:List UInt8} {c:UInt8}:PC Tryz.prog 106 [.lit (.string (bs l)),.lit (.string (bs [c]))] (.lit (.int .i64 (Lib.indexByte l c))):=by
  have g1:((1:Int)==0)=false:=by decide
  have g2:((1:Int)==1)=true:=by decide
  refine pcR X1_ok (kp106) Tryz.func106 [.tmp 4] (h:=fun KF=>?_)
  unfold X1
  repeat' (first
   |(with_reducible first|refine nx ?_|refine t_seq fun K=>?_|refine t_br (fun hc=>?_) fun hc=>?_|refine t_bx ?_|apply And.intro|intro vr)
   |((with_reducible first|refine ny ?_|refine t_dwh (h:=fun K KL=>?_));intros;simp only [go_sem,kp106,geff,g1,g2,Int.toNat_natCast,bt,List.length_cons,List.length_nil,List.getD_cons_zero]))
  all_goals try exact nd
  all_goals (refine nl ?_;simp only [go_sem])
  ·have e:l=[c]:=by
     simp only [beq_iff_eq] at hc
     exact hc.symm
   subst e
   exact LeA.of_eq (by simp [Lib.indexByte])
  ·exact LeA.of_eq (by simp)
noncomputable def con106:PCon Tryz.prog where
  f:=106
  c:=fun
   |[.lit (.string s),.lit (.string p)]=>match ul p with
    |[c]=>some (True,.lit (.int .i64 (Lib.indexByte (ul s) c)))
    |_=>none
   |_=>none
  ok:=by
   intro args p r hc hp
   split at hc
   ·rename_i s q
    obtain ⟨l,rfl⟩:=bs_ex s
    obtain ⟨m,rfl⟩:=bs_ex q
    rw [ul_bs,ul_bs] at hc
    split at hc
    ·cases hc;exact idx_pc
    ·cases hc
   ·cases hc
  fk:=fk106
theorem con106_f:con106.f=106:=rfl
theorem con106_c {l:List UInt8} {c:UInt8}:con106.c [.lit (.string (bs l)),.lit (.string (bs [c]))]=some (True,.lit (.int .i64 (Lib.indexByte l c))):=by
  show (match ul (bs [c]) with
    |[c]=>some (True,AV.lit (.int .i64 (Lib.indexByte (ul (bs l)) c)))
    |_=>none)=_
  rw [ul_bs,ul_bs]
attribute [go_sem] con106_f con106_c
def cutS (c:UInt8):List UInt8→Option (List UInt8×List UInt8)
  |[]=>none
  |b::l=>if b=c then some ([],l) else (cutS c l).map fun p=>(b::p.1,p.2)
theorem cutS_none {c:UInt8} {l:List UInt8} (h:cutS c l=none):Lib.indexByte l c= -1∧c ∉ l:=by
  induction l with
  |nil=>exact ⟨rfl,by simp⟩
  |cons b l ih=>
   simp only [cutS] at h
   split at h
   ·cases h
   ·rename_i hc
    simp only [Option.map_eq_none_iff] at h
    obtain ⟨h1,h2⟩:=ih h
    exact ⟨by simp [Lib.indexByte,hc,h1],by simp [h2,Ne.symm hc]⟩
theorem cutS_some {c:UInt8} {l a b:List UInt8} (h:cutS c l=some (a,b)):Lib.indexByte l c=a.length∧l=a++c::b∧c ∉ a:=by
  induction l generalizing a with
  |nil=>cases h
  |cons x l ih=>
   simp only [cutS] at h
   split at h
   ·rename_i hc;subst hc;cases h;simp [Lib.indexByte]
   ·rename_i hc
    simp only [Option.map_eq_some_iff] at h
    obtain ⟨⟨a',b'⟩,h1,h2⟩:=h
    simp only [Prod.mk.injEq] at h2
    obtain ⟨rfl,rfl⟩:=h2
    obtain ⟨i1,i2,i3⟩:=ih h1
    refine ⟨?_,by rw [i2];simp,by simp [i3,Ne.symm hc]⟩
    simp only [Lib.indexByte,i1]
    simp [hc]
def cutV (c:UInt8) (l:List UInt8):AV:=match cutS c l with
  |some (a,b)=> .tup [.lit (.string (bs a)),.lit (.string (bs b)),.lit (.bool true)]
  |none=> .tup [.lit (.string (bs l)),.lit (.string (bs [])),.lit (.bool false)]
noncomputable def X2:Env:=envJ (P:=Tryz.prog) jkT zer (fun _=>false) (fun _=>false) [con106] []
theorem X2_ok:EnvOk Tryz.prog X2:=envJOk zer_ok
theorem scut_pc {l:List UInt8} (hs:l.length≤1000000000):PC Tryz.prog 87 [.lit (.string (bs l)),.lit (.string (bs [10]))] (cutV 10 l):=by
  cases hq:cutS 10 l with
  |none=>
   obtain ⟨h1,_⟩:=cutS_none hq
   refine pcR X2_ok (kp87) Tryz.func87 [.tmp 4,.tmp 5,.tmp 6] (h:=fun KF=>?_)
   unfold X2
   repeat' (first
    |(with_reducible first|refine nx ?_|refine t_seq fun K=>?_|refine t_br (fun hc=>?_) fun hc=>?_|refine t_bx ?_|apply And.intro|intro vr)
    |((with_reducible first|refine ny ?_|refine t_dwh (h:=fun K KL=>?_));intros;simp only [go_sem,kp87,geff,h1]))
   all_goals try exact nd
   all_goals (refine nl ?_;simp only [go_sem])
   exact LeA.of_eq (by simp [cutV,hq])
  |some p=>
   obtain ⟨a,b⟩:=p
   obtain ⟨h1,h2,_⟩:=cutS_some hq
   have e1:l.take a.length=a:=by rw [h2];simp
   have e2:l.drop (a.length+1)=b:=by rw [h2];simp
   have hl:l.length=a.length+(b.length+1):=by rw [h2];simp
   have e3:((a.length:Int)+1).toNat=a.length+1:=by omega
   have g1:decide ((a.length:Int)≥0)=true:=decide_eq_true (by omega)
   refine pcR X2_ok (kp87) Tryz.func87 [.tmp 4,.tmp 5,.tmp 6] (h:=fun KF=>?_)
   unfold X2
   repeat' (first
    |(with_reducible first|refine nx ?_|refine t_seq fun K=>?_|refine t_br (fun hc=>?_) fun hc=>?_|refine t_bx ?_|apply And.intro|intro vr)
    |((with_reducible first|refine ny ?_|refine t_dwh (h:=fun K KL=>?_));intros;simp only [go_sem,kp87,geff,h1,g1,e1,e2,e3,Int.toNat_natCast,List.length_cons,List.length_nil]))
   all_goals try omega
   all_goals try exact nd
   all_goals (refine nl ?_;simp only [go_sem])
   exact LeA.of_eq (by simp [cutV,hq,e1,e2])
end Go.Proofs.YtohiagaclfaolaaGreatDoor.Tx

namespace Go.Proofs.YtohiagaclfaolaaGreatDoor.Tx
open Go.Proofs.YtohiagaclfaolaaGreatDoor
open Go Go.Fw
set_option maxRecDepth 20000
noncomputable def con87:PCon Tryz.prog where
  f:=87
  c:=fun
   |[.lit (.string s),.lit (.string p)]=>if p=bs [10] then some ((ul s).length≤1000000000,cutV 10 (ul s)) else none
   |_=>none
  ok:=by
   intro args p r hc hp
   split at hc
   ·rename_i s q
    obtain ⟨l,rfl⟩:=bs_ex s
    split at hc
    ·rename_i h;subst h;cases hc;rw [ul_bs] at*;exact scut_pc hp
    ·cases hc
   ·cases hc
  fk:=fk87
theorem con87_f:con87.f=87:=rfl
theorem con87_c {l:List UInt8}:con87.c [.lit (.string (bs l)),.lit (.string (bs [10]))]=some (l.length≤1000000000,cutV 10 l):=by
  show (if bs [10]=bs [10] then some ((ul (bs l)).length≤1000000000,cutV 10 (ul (bs l))) else none)=_
  rw [if_pos rfl,ul_bs]
theorem cutV_some {c:UInt8} {l a b:List UInt8} (h:cutS c l=some (a,b)):cutV c l= .tup [.lit (.string (bs a)),.lit (.string (bs b)),.lit (.bool true)]:=by unfold cutV;rw [h]
theorem cutV_none {c:UInt8} {l:List UInt8} (h:cutS c l=none):cutV c l= .tup [.lit (.string (bs l)),.lit (.string (bs [])),.lit (.bool false)]:=by unfold cutV;rw [h]
attribute [go_sem] con87_f con87_c
noncomputable def X3:Env:=envJ (P:=Tryz.prog) jkT zer (fun _=>false) (fun _=>false) [con87,con106] []
theorem X3_ok:EnvOk Tryz.prog X3:=envJOk zer_ok
theorem cut_pc {l:List UInt8} (hs:l.length≤1000000000):PC Tryz.prog 52 [.lit (.string (bs l)),.lit (.string (bs [10]))] (cutV 10 l):=by
  cases hq:cutS 10 l with
  |none=>
   rw [cutV_none hq]
   refine pcR X3_ok (kp52) Tryz.func52 [.tmp 4,.tmp 5,.tmp 6] (h:=fun KF=>?_)
   unfold X3
   repeat' (first
    |(with_reducible first|refine nx ?_|refine t_seq fun K=>?_|refine t_br (fun hc=>?_) fun hc=>?_|refine t_bx ?_|apply And.intro|intro vr)
    |((with_reducible first|refine ny ?_|refine t_dwh (h:=fun K KL=>?_));intros;simp only [go_sem,kp52,geff,cutV_none hq]))
   all_goals try exact nd
   all_goals (refine nl ?_;simp only [go_sem])
   exact LeA.refl _
  |some p=>
   obtain ⟨a,b⟩:=p
   rw [cutV_some hq]
   refine pcR X3_ok (kp52) Tryz.func52 [.tmp 4,.tmp 5,.tmp 6] (h:=fun KF=>?_)
   unfold X3
   repeat' (first
    |(with_reducible first|refine nx ?_|refine t_seq fun K=>?_|refine t_br (fun hc=>?_) fun hc=>?_|refine t_bx ?_|apply And.intro|intro vr)
    |((with_reducible first|refine ny ?_|refine t_dwh (h:=fun K KL=>?_));intros;simp only [go_sem,kp52,geff,cutV_some hq]))
   all_goals try exact nd
   all_goals (refine nl ?_;simp only [go_sem])
   exact LeA.refl _
noncomputable def con52:PCon Tryz.prog where
  f:=52
  c:=fun
   |[.lit (.string s),.lit (.string p)]=>if p=bs [10] then some ((ul s).length≤1000000000,cutV 10 (ul s)) else none
   |_=>none
  ok:=by
   intro args p r hc hp
   split at hc
   ·rename_i s q
    obtain ⟨l,rfl⟩:=bs_ex s
    split at hc
    ·rename_i h;subst h;cases hc;rw [ul_bs] at*;exact cut_pc hp
    ·cases hc
   ·cases hc
  fk:=fk52
theorem con52_f:con52.f=52:=rfl
theorem con52_c {l:List UInt8}:con52.c [.lit (.string (bs l)),.lit (.string (bs [10]))]=some (l.length≤1000000000,cutV 10 l):=by
  show (if bs [10]=bs [10] then some ((ul (bs l)).length≤1000000000,cutV 10 (ul (bs l))) else none)=_
  rw [if_pos rfl,ul_bs]
attribute [go_sem] con52_f con52_c
theorem index_pc {l:List UInt8} {c:UInt8}:PC Tryz.prog 132 [.lit (.string (bs l)),.lit (.string (bs [c]))] (.lit (.int .i64 (Lib.indexByte l c))):=by
  refine pcR X3_ok (kp132) Tryz.func132 [.tmp 4] (h:=fun KF=>?_)
  unfold X3
  repeat' (first
   |(with_reducible first|refine nx ?_|refine t_seq fun K=>?_|refine t_br (fun hc=>?_) fun hc=>?_|refine t_bx ?_|apply And.intro|intro vr)
   |((with_reducible first|refine ny ?_|refine t_dwh (h:=fun K KL=>?_));intros;simp only [go_sem,kp132,geff]))
  all_goals try exact nd
  all_goals (refine nl ?_;simp only [go_sem])
  exact LeA.refl _
noncomputable def con132:PCon Tryz.prog where
  f:=132
  c:=fun
   |[.lit (.string s),.lit (.string p)]=>match ul p with
    |[c]=>some (True,.lit (.int .i64 (Lib.indexByte (ul s) c)))
    |_=>none
   |_=>none
  ok:=by
   intro args p r hc hp
   split at hc
   ·rename_i s q
    obtain ⟨l,rfl⟩:=bs_ex s
    obtain ⟨m,rfl⟩:=bs_ex q
    rw [ul_bs,ul_bs] at hc
    split at hc
    ·cases hc;exact index_pc
    ·cases hc
   ·cases hc
  fk:=fk132
theorem con132_f:con132.f=132:=rfl
theorem con132_c {l:List UInt8} {c:UInt8}:con132.c [.lit (.string (bs l)),.lit (.string (bs [c]))]=some (True,.lit (.int .i64 (Lib.indexByte l c))):=by
  show (match ul (bs [c]) with
    |[c]=>some (True,AV.lit (.int .i64 (Lib.indexByte (ul (bs l)) c)))
    |_=>none)=_
  rw [ul_bs,ul_bs]
theorem count_pc {l:List UInt8} {c:UInt8}:PC Tryz.prog 131 [.lit (.string (bs l)),.lit (.string (bs [c]))] (.lit (.int .i64 (l.count c))):=by
  have g1:((1:Int)==0)=false:=by decide
  have g2:((1:Int)==1)=true:=by decide
  refine pcR X0_ok (kp131) Tryz.func131 [.tmp 4] (h:=fun KF=>?_)
  unfold X0
  repeat' (first
   |(with_reducible first|refine nx ?_|refine t_seq fun K=>?_|refine t_br (fun hc=>?_) fun hc=>?_|refine t_bx ?_|apply And.intro|intro vr)
   |((with_reducible first|refine ny ?_|refine t_dwh (h:=fun K KL=>?_));intros;simp only [go_sem,kp131,geff,fam143,g1,g2,Int.toNat_natCast,bt,List.length_cons,List.length_nil,List.getD_cons_zero]))
  all_goals try exact nd
  all_goals (refine nl ?_;simp only [go_sem])
  exact LeA.of_eq (by simp [Lib.countByte])
noncomputable def con131:PCon Tryz.prog where
  f:=131
  c:=fun
   |[.lit (.string s),.lit (.string p)]=>match ul p with
    |[c]=>some (True,.lit (.int .i64 ((ul s).count c)))
    |_=>none
   |_=>none
  ok:=by
   intro args p r hc hp
   split at hc
   ·rename_i s q
    obtain ⟨l,rfl⟩:=bs_ex s
    obtain ⟨m,rfl⟩:=bs_ex q
    rw [ul_bs,ul_bs] at hc
    split at hc
    ·cases hc;exact count_pc
    ·cases hc
   ·cases hc
  fk:=fk131
theorem con131_f:con131.f=131:=rfl
theorem con131_c {l:List UInt8} {c:UInt8}:con131.c [.lit (.string (bs l)),.lit (.string (bs [c]))]=some (True,.lit (.int .i64 (l.count c))):=by
  show (match ul (bs [c]) with
    |[c]=>some (True,AV.lit (.int .i64 ((ul (bs l)).count c)))
    |_=>none)=_
  rw [ul_bs,ul_bs]
attribute [go_sem] con132_f con132_c con131_f con131_c
def splitW (c:UInt8):List UInt8→List (List UInt8)
  |[]=>[[]]
  |b::l=>if b=c then []::splitW c l else match splitW c l with
   |[]=>[[b]]
   |w::ws=>(b::w)::ws
theorem splitW_ne (c:UInt8):∀ l,splitW c l≠[]
  |[]=>by simp [splitW]
  |b::l=>by
   simp only [splitW]
   split
   ·simp
   ·split<;>simp
theorem splitW_app {c:UInt8} {r:List UInt8}:∀ {a:List UInt8},c ∉ a→splitW c (a++c::r)=a::splitW c r
  |[],_=>by simp [splitW]
  |b::a,h=>by
   simp only [List.mem_cons,not_or] at h
   simp only [List.cons_append,splitW,if_neg (Ne.symm h.1),splitW_app h.2]
theorem splitW_one {c:UInt8}:∀ {a:List UInt8},c ∉ a→splitW c a=[a]
  |[],_=>rfl
  |b::a,h=>by
   simp only [List.mem_cons,not_or] at h
   simp only [splitW,if_neg (Ne.symm h.1),splitW_one h.2]
theorem splitW_len {c:UInt8}:∀ l:List UInt8,(splitW c l).length=l.count c+1
  |[]=>rfl
  |b::l=>by
   have ih:=splitW_len (c:=c) l
   simp only [splitW]
   split
   ·rename_i h;subst h;simp [ih]
   ·rename_i h
    split
    ·rename_i e;exact absurd e (splitW_ne c l)
    ·rename_i w ws e
     rw [e] at ih
     simp only [List.length_cons] at ih ⊢
     rw [List.count_cons_of_ne h];exact ih
structure Sp (l:List UInt8) where
  i:Nat
  done:List (List UInt8)
  rest:List UInt8
  hi:done.length=i
  hs:splitW 32 l=done++splitW 32 rest
  hr:rest.length≤l.length
theorem Sp.len {l:List UInt8} (h:Sp l):h.i+h.rest.count 32=l.count 32:=by
  have:=congrArg List.length h.hs
  rw [List.length_append,splitW_len,splitW_len,h.hi] at this
  omega
theorem set_appR {α:Type} (a:List α) (i n:Nat) (x z:α) (hi:a.length=i) (h:0<n):(a++List.replicate n z).set i x=(a++[x])++List.replicate (n - 1) z:=by
  obtain ⟨n,rfl⟩:∃ m,n=m+1:=⟨n - 1,by omega⟩
  subst hi
  rw [List.set_append_right _ _ (Nat.le_refl _),Nat.sub_self,List.replicate_succ,List.set_cons_zero]
  simp
noncomputable def X4:Env:=envJ (P:=Tryz.prog) jkT zer (fun _=>false) (fun _=>false) [con131,con132] []
theorem X4_ok:EnvOk Tryz.prog X4:=envJOk zer_ok
set_option maxHeartbeats 4000000 in
theorem gens_pc {l:List UInt8} (hl:l.length≤1000000):PC Tryz.prog 120 [.lit (.string (bs l)),.lit (.string (bs [32])),.lit (.int .i64 0),.lit (.int .i64 (-1))] (.sl false 1 (txs (splitW 32 l))):=by
  have hcl:l.count 32≤l.length:=List.count_le_length
  have hmin:minI ((l.count 32:Int)+1) ((l.length:Int)+1)=(l.count 32:Int)+1:=by unfold minI;split<;>omega
  have ht:((l.count 32:Int)+1).toNat=l.count 32+1:=by omega
  have hsub:(l.count 32:Int)+1 - 1=(l.count 32:Int):=by omega
  have g1:(([32]:List UInt8)==[])=false:=by decide
  have g2:((-1:Int)==0)=false:=by decide
  have g3:decide ((-1:Int)<0)=true:=by decide
  refine pcR X4_ok (kp120) Tryz.func120 [.tmp 8] (h:=fun KF=>?_)
  unfold X4
  repeat' (first
   |(with_reducible first|refine nx ?_|refine t_seq fun K=>?_|refine t_br (fun hc=>?_) fun hc=>?_|refine t_bx ?_|apply And.intro|intro vr)
   |((with_reducible first|refine ny ?_|refine t_dwh (h:=fun K KL=>?_));intros;simp only [go_sem,kp120,geff,hmin,ht,hsub,g1,g2,g3]))
  all_goals try exact nd
  refine t_loopF (ι:=Sp l) (fun i=>[(10,.lit (.int .i64 i.i)),(0,.lit (.string (bs i.rest)))]) (fun i=>[.arr 9 1 (txs (i.done++List.replicate (l.count 32+1 - i.i) [])) 0 false]) (fun i=>i.rest.length) ⟨0,[],l,rfl,rfl,Nat.le_refl _⟩ ?_ ?_
  ·exact lf
  rintro ⟨i,done,rest,hi,hs,hr⟩ K0
  have hlen:=Sp.len (l:=l) ⟨i,done,rest,hi,hs,hr⟩
  simp only at hlen
  have htl:(done++List.replicate (l.count 32+1 - i) ([]:List UInt8)).length=l.count 32+1:=by rw [List.length_append,List.length_replicate];omega
  cases hq:cutS 32 rest with
  |none=>
   obtain ⟨_,hn⟩:=cutS_none hq
   have h0:rest.count 32=0:=List.count_eq_zero.2 hn
   have g4:decide ((i:Int)<(l.count 32:Int))=false:=decide_eq_false (by omega)
   have hset:=set_appR done i (l.count 32+1 - i) rest [] hi (by omega)
   have hz:l.count 32+1 - i - 1=0:=by omega
   rw [hz,List.replicate_zero,List.append_nil] at hset
   rw [splitW_one hn] at hs
   have ht2:((i:Int)+1).toNat=i+1:=by omega
   repeat' (first
    |(with_reducible first|refine nx ?_|refine t_seq fun K=>?_|refine t_br (fun hc=>?_) fun hc=>?_|refine t_bx ?_|apply And.intro|intro vr)
    |((with_reducible first|refine ny ?_|refine t_dwh (h:=fun K KL=>?_));intros;simp only [go_sem,kp120,geff,g4,htl,hset,ht2,Int.toNat_natCast]))
   all_goals try omega
   all_goals try exact nd
   all_goals (refine nl ?_;simp only [go_sem])
   exact LeA.of_eq (by rw [hs,Nat.zero_add,List.take_of_length_le (by simp [txs];omega)])
  |some q=>
   obtain ⟨a,b⟩:=q
   obtain ⟨h1,h2,h3⟩:=cutS_some hq
   have e1:rest.take a.length=a:=by rw [h2];simp
   have e2:rest.drop (a.length+1)=b:=by rw [h2];simp
   have hl2:rest.length=a.length+(b.length+1):=by rw [h2];simp
   have hc2:rest.count 32=b.count 32+1:=by rw [h2,List.count_append,List.count_cons_self,List.count_eq_zero.2 h3];omega
   have g4:decide ((i:Int)<(l.count 32:Int))=true:=decide_eq_true (by omega)
   have g5:decide ((a.length:Int)<0)=false:=decide_eq_false (by omega)
   have hset:=set_appR done i (l.count 32+1 - i) a [] hi (by omega)
   have hz:l.count 32+1 - i - 1=l.count 32+1 - (i+1):=by omega
   rw [hz] at hset
   rw [h2,splitW_app h3] at hs
   have e3:((a.length:Int)+1).toNat=a.length+1:=by omega
   repeat' (first
    |(with_reducible first|refine nx ?_|refine t_seq fun K=>?_|refine t_br (fun hc=>?_) fun hc=>?_|refine t_bx ?_|apply And.intro|intro vr)
    |((with_reducible first|refine ny ?_|refine t_dwh (h:=fun K KL=>?_));intros;simp only [go_sem,kp120,geff,g4,g5,h1,htl,hset,e1,e2,e3,Int.add_zero,Int.toNat_natCast,List.length_cons,List.length_nil]))
   all_goals try omega
   all_goals try exact nd
   refine ⟨⟨i+1,done++[a],b,by simp [hi],by rw [hs];simp,by omega⟩,by simp only;omega,?_⟩
   first|exact lf|(refine Le.frameS (by first|rfl|(simp only [go_sem];try rfl)) ?_;repeat' (first|exact leF_top _|exact (fun _=>LeR.refl _)|(with_reducible refine leF_sl ?_ ?_)|(refine leF_upd ?_ ?_)))<;>(first|exact LeR.top _|exact LeR.refl _|(refine LeR.of_eq ?_;(try simp only [go_sem]);try rfl)|((try simp only [go_sem]);try rfl))
noncomputable def con120:PCon Tryz.prog where
  f:=120
  c:=fun
   |[.lit (.string s),.lit (.string p),.lit (.int .i64 0),.lit (.int .i64 (-1))]=>if p=bs [32] then some ((ul s).length≤1000000,.sl false 1 (txs (splitW 32 (ul s)))) else none
   |_=>none
  ok:=by
   intro args p r hc hp
   split at hc
   ·rename_i s q
    obtain ⟨l,rfl⟩:=bs_ex s
    split at hc
    ·rename_i h;subst h;cases hc;rw [ul_bs] at*;exact gens_pc hp
    ·cases hc
   ·cases hc
  fk:=fk120
theorem con120_f:con120.f=120:=rfl
theorem con120_c {l:List UInt8}:con120.c [.lit (.string (bs l)),.lit (.string (bs [32])),.lit (.int .i64 0),.lit (.int .i64 (-1))]=some (l.length≤1000000,.sl false 1 (txs (splitW 32 l))):=by
  show (if bs [32]=bs [32] then some ((ul (bs l)).length≤1000000,AV.sl false 1 (txs (splitW 32 (ul (bs l))))) else none)=_
  rw [if_pos rfl,ul_bs]
attribute [go_sem] con120_f con120_c
noncomputable def X5:Env:=envJ (P:=Tryz.prog) jkT zer (fun _=>false) (fun _=>false) [con120] []
theorem X5_ok:EnvOk Tryz.prog X5:=envJOk zer_ok
theorem split_pc {l:List UInt8} (hl:l.length≤1000000):PC Tryz.prog 107 [.lit (.string (bs l)),.lit (.string (bs [32]))] (.sl false 1 (txs (splitW 32 l))):=by
  refine pcR X5_ok (kp107) Tryz.func107 [.tmp 4] (h:=fun KF=>?_)
  unfold X5
  repeat' (first
   |(with_reducible first|refine nx ?_|refine t_seq fun K=>?_|refine t_br (fun hc=>?_) fun hc=>?_|refine t_bx ?_|apply And.intro|intro vr)
   |((with_reducible first|refine ny ?_|refine t_dwh (h:=fun K KL=>?_));intros;simp only [go_sem,kp107,geff]))
  all_goals try exact nd
  all_goals (refine nl ?_;simp only [go_sem])
  exact LeA.refl _
noncomputable def con107:PCon Tryz.prog where
  f:=107
  c:=fun
   |[.lit (.string s),.lit (.string p)]=>if p=bs [32] then some ((ul s).length≤1000000,.sl false 1 (txs (splitW 32 (ul s)))) else none
   |_=>none
  ok:=by
   intro args p r hc hp
   split at hc
   ·rename_i s q
    obtain ⟨l,rfl⟩:=bs_ex s
    split at hc
    ·rename_i h;subst h;cases hc;rw [ul_bs] at*;exact split_pc hp
    ·cases hc
   ·cases hc
  fk:=fk107
theorem con107_f:con107.f=107:=rfl
theorem con107_c {l:List UInt8}:con107.c [.lit (.string (bs l)),.lit (.string (bs [32]))]=some (l.length≤1000000,.sl false 1 (txs (splitW 32 l))):=by
  show (if bs [32]=bs [32] then some ((ul (bs l)).length≤1000000,AV.sl false 1 (txs (splitW 32 (ul (bs l))))) else none)=_
  rw [if_pos rfl,ul_bs]
attribute [go_sem] con107_f con107_c
noncomputable def X6:Env:=envJ (P:=Tryz.prog) jkT zer (fun _=>false) (fun _=>false) [] []
theorem X6_ok:EnvOk Tryz.prog X6:=envJOk zer_ok
theorem hasp_pc {l m:List UInt8}:PC Tryz.prog 149 [.lit (.string (bs l)),.lit (.string (bs m))] (.lit (.bool (m.isPrefixOf l))):=by
  have key:m.isPrefixOf l=(decide ((l.length:Int)≥(m.length:Int))&&(List.take m.length l==m)):=by
    rw [Bool.eq_iff_iff]
    simp only [List.isPrefixOf_iff_prefix,Bool.and_eq_true,decide_eq_true_eq,beq_iff_eq]
    constructor
    ·intro h
     exact ⟨by have:=h.length_le;omega,(List.prefix_iff_eq_take.1 h).symm⟩
    ·rintro ⟨_,h⟩
     exact List.prefix_iff_eq_take.2 h.symm
  refine pcR X6_ok (kp149) Tryz.func149 [.tmp 4] (h:=fun KF=>?_)
  unfold X6
  repeat' (first
   |(with_reducible first|refine nx ?_|refine t_seq fun K=>?_|refine t_br (fun hc=>?_) fun hc=>?_|refine t_bx ?_|apply And.intro|intro vr)
   |((with_reducible first|refine ny ?_|refine t_dwh (h:=fun K KL=>?_));intros;simp only [go_sem,kp149,geff]))
  all_goals try exact nd
  all_goals (refine nl ?_;simp only [go_sem])
  exact LeA.of_eq (by rw [key])
noncomputable def con149:PCon Tryz.prog where
  f:=149
  c:=fun
   |[.lit (.string s),.lit (.string p)]=>some (True,.lit (.bool ((ul p).isPrefixOf (ul s))))
   |_=>none
  ok:=by
   intro args p r hc hp
   split at hc
   ·rename_i s q
    obtain ⟨l,rfl⟩:=bs_ex s
    obtain ⟨m,rfl⟩:=bs_ex q
    cases hc;rw [ul_bs,ul_bs];exact hasp_pc
   ·cases hc
  fk:=fk149
theorem con149_f:con149.f=149:=rfl
theorem con149_c {l m:List UInt8}:con149.c [.lit (.string (bs l)),.lit (.string (bs m))]=some (True,.lit (.bool (m.isPrefixOf l))):=by
  show some (True,AV.lit (.bool ((ul (bs m)).isPrefixOf (ul (bs l)))))=_
  rw [ul_bs,ul_bs]
attribute [go_sem] con149_f con149_c
noncomputable def X7:Env:=envJ (P:=Tryz.prog) jkT zer (fun _=>false) (fun _=>false) [con149] []
theorem X7_ok:EnvOk Tryz.prog X7:=envJOk zer_ok
def trimP (m l:List UInt8):List UInt8:=if m.isPrefixOf l=true then l.drop m.length else l
theorem strim_pc {l m:List UInt8} (h:m.length≤1000000):PC Tryz.prog 135 [.lit (.string (bs l)),.lit (.string (bs m))] (.lit (.string (bs (trimP m l)))):=by
  cases hq:m.isPrefixOf l with
  |true=>
   have hle:=(List.isPrefixOf_iff_prefix.1 hq).length_le
   refine pcR X7_ok (kp135) Tryz.func135 [.tmp 4] (h:=fun KF=>?_)
   unfold X7
   repeat' (first
    |(with_reducible first|refine nx ?_|refine t_seq fun K=>?_|refine t_br (fun hc=>?_) fun hc=>?_|refine t_bx ?_|apply And.intro|intro vr)
    |((with_reducible first|refine ny ?_|refine t_dwh (h:=fun K KL=>?_));intros;simp only [go_sem,kp135,geff,hq,Int.toNat_natCast]))
   all_goals try omega
   all_goals try exact nd
   all_goals (refine nl ?_;simp only [go_sem])
   exact LeA.of_eq (by simp [trimP,hq])
  |false=>
   refine pcR X7_ok (kp135) Tryz.func135 [.tmp 4] (h:=fun KF=>?_)
   unfold X7
   repeat' (first
    |(with_reducible first|refine nx ?_|refine t_seq fun K=>?_|refine t_br (fun hc=>?_) fun hc=>?_|refine t_bx ?_|apply And.intro|intro vr)
    |((with_reducible first|refine ny ?_|refine t_dwh (h:=fun K KL=>?_));intros;simp only [go_sem,kp135,geff,hq]))
   all_goals try exact nd
   all_goals (refine nl ?_;simp only [go_sem])
   exact LeA.of_eq (by simp [trimP,hq])
noncomputable def con135:PCon Tryz.prog where
  f:=135
  c:=fun
   |[.lit (.string s),.lit (.string p)]=>some ((ul p).length≤1000000,.lit (.string (bs (trimP (ul p) (ul s)))))
   |_=>none
  ok:=by
   intro args p r hc hp
   split at hc
   ·rename_i s q
    obtain ⟨l,rfl⟩:=bs_ex s
    obtain ⟨m,rfl⟩:=bs_ex q
    cases hc;rw [ul_bs] at*;rw [ul_bs];exact strim_pc hp
   ·cases hc
  fk:=fk135
theorem con135_f:con135.f=135:=rfl
theorem con135_c {l m:List UInt8}:con135.c [.lit (.string (bs l)),.lit (.string (bs m))]=some (m.length≤1000000,.lit (.string (bs (trimP m l)))):=by
  show some ((ul (bs m)).length≤1000000,AV.lit (.string (bs (trimP (ul (bs m)) (ul (bs l))))))=_
  rw [ul_bs,ul_bs]
attribute [go_sem] con135_f con135_c
noncomputable def X8:Env:=envJ (P:=Tryz.prog) jkT zer (fun _=>false) (fun _=>false) [con135] []
theorem X8_ok:EnvOk Tryz.prog X8:=envJOk zer_ok
theorem trim_pc {l m:List UInt8} (h:m.length≤1000000):PC Tryz.prog 122 [.lit (.string (bs l)),.lit (.string (bs m))] (.lit (.string (bs (trimP m l)))):=by
  refine pcR X8_ok (kp122) Tryz.func122 [.tmp 4] (h:=fun KF=>?_)
  unfold X8
  repeat' (first
   |(with_reducible first|refine nx ?_|refine t_seq fun K=>?_|refine t_br (fun hc=>?_) fun hc=>?_|refine t_bx ?_|apply And.intro|intro vr)
   |((with_reducible first|refine ny ?_|refine t_dwh (h:=fun K KL=>?_));intros;simp only [go_sem,kp122,geff]))
  all_goals try exact nd
  all_goals (refine nl ?_;simp only [go_sem])
  exact LeA.refl _
end Go.Proofs.YtohiagaclfaolaaGreatDoor.Tx
